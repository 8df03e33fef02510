/- Texts of this claim,merged. -/
import Derived.Test.YtkngdgplbojdlaaGreatRs2
import Derived.Test.YtkngdgplbojdlaaGreatRows
import Derived.Test.YtkngdgplbojdlaaGreatProg
import Derived.KernelRfl
import Derived.Shelf.Sort.Plain
import Derived.Shelf.Slices.In.SortNone
import Derived.Shelf.SlIterI.Collect
import Derived.RangeFuncLeaves
set_option linter.unusedSimpArgs false
set_option linter.unusedVariables false
set_option linter.unusedSectionVars false
set_option maxRecDepth 100000
set_option maxHeartbeats 8000000
noncomputable section
namespace Go.Proofs.YtkngdgplbojdlaaGreat
open Go
variable {P:Program} {Q:Gm->St->Prop} {af:List (List Nat)} {b:Ey} {h:List (Nat × Option AQ)} {n np sz:Nat} {ops:List Cp} {s st st':St} {t:List (Nat × AV)}
def GS (l:List Nat):List (Nat × Nat):=l.map λ i=>(i,i)
def HV (live keep sn:List Nat) (n:Nat) (st:St):St :=
 ⟨st.sz,live.map (λ i=>(i,conv (GS keep) sn st.hp 4 (st.get i))),keep.map (λ i=>(i,(st.hp i).map (Ab (GS keep) sn st.hp 4))),n⟩
def E6 (keep:List Nat) (st:St):Prop:=∀ i∈keep,∀ e,st.hp i=some e->e.ro<=e.rows.length
def Fu (np n:Nat) (ρ:List (Nat × Nat)) (sn:List Nat):Bool :=
 decide (ρ.map (·.1)).Nodup && decide (ρ.map (·.2)).Nodup && ρ.all (λ p=>decide (p.2<n) && (decide (np<=p.2) || p.1 == p.2)) && sn.all (λ i=>decide (np<=i) && !(ρ.map (·.1)).contains i) && decide (np<=n)
theorem Le.go (ρ:List (Nat × Nat)) (sn:List Nat) (h7:st'.sz=st.sz) (h0:Fu np st'.n ρ sn=true) (ht:∀ p∈st'.t,Wk (conv ρ sn st.hp 4 (st.get p.1)) p.2) (hh:∀ p∈st'.h,∃ q∈ρ,q.2=p.1/\(st.hp q.1).map (Ab ρ sn st.hp 4)=p.2 /\ ∀ e,p.2=some e->e.ro<=e.rows.length):Le np st st':=by
 simp only[Fu,QM,List.all_eq_true,Qd,UO,beq_iff_eq,UF,List.contains_eq_mem,Qa] at h0;obtain⟨⟨⟨⟨h1,h2⟩,h3⟩,h4⟩,h5⟩:=h0;refine Le.lst ρ sn [] h7 h1 h2 (λ p hp=>⟨(h3 p hp).1,λ ha=>?_⟩) (by simp) (λ i hi=>h4 i hi) h5 (by simp) (λ p hp=>.inl (ht p hp)) λ p hp e' h6=>?_
 .rcases (h3 p hp).2 with h | h
  .omega
  .exact h
 .obtain ⟨q,hq,hq2,hm,hr⟩:=hh p hp
  rw[h6] at hm
  cases hs:st.hp q.1 with
  | none=>rw[hs] at hm;cases hm
  | some e =>
    rw[hs] at hm;have h9:Ab ρ sn st.hp 4 e=e':=by simpa using hm
    exact .inl ⟨q,hq,hq2,e,hs,by rw[h9];exact Am.rfl' (hr e' h6)⟩
theorem Bk (ρ:List (Nat × Nat)) (sn:List Nat) (h1:st'.sz=st.sz:=by rfl) (h0:Fu np st'.n ρ sn=true:=by rfl) (ht:∀ p∈st'.t,Wk (conv ρ sn st.hp 4 (st.get p.1)) p.2:=by simp) (hh:∀ p∈st'.h,∃ q∈ρ,q.2=p.1/\(st.hp q.1).map (Ab ρ sn st.hp 4)=p.2 /\ ∀ e,p.2=some e->e.ro<=e.rows.length:=by simp):Le np st st':=Le.go ρ sn h1 h0 ht hh
theorem Av (ρ:List (Nat × Nat)) (sn:List Nat) (h1:st'.sz=st.sz:=by rfl) (h0:Fu np st'.n ρ sn=true:=by rfl) (ht:∀ p∈st'.t,Wk (conv ρ sn st.hp 4 (st.get p.1)) p.2:=by simp) (hh:∀ p∈st'.h,∃ q∈ρ,q.2=p.1/\(st.hp q.1).map (Ab ρ sn st.hp 4)=p.2 /\ ∀ e,p.2=some e->e.ro<=e.rows.length:=by simp[AB]):Le np st st':=Le.go ρ sn h1 h0 ht hh
theorem BF (ρ:List (Nat × Nat)) (sn:List Nat) (h1:st'.sz=st.sz:=by rfl) (h0:Fu np st'.n ρ sn=true:=by rfl) (ht:∀ p∈st'.t,Wk (conv ρ sn st.hp 4 (st.get p.1)) p.2:=by simp[AB]) (hh:∀ p∈st'.h,∃ q∈ρ,q.2=p.1/\(st.hp q.1).map (Ab ρ sn st.hp 4)=p.2 /\ ∀ e,p.2=some e->e.ro<=e.rows.length:=by simp[AB]):Le np st st':=Le.go ρ sn h1 h0 ht hh
theorem AF (ρ:List (Nat × Nat)) (sn:List Nat) (ht:∀ p∈st'.t,Wk (conv ρ sn st.hp 4 (st.get p.1)) p.2) (hh:∀ p∈st'.h,∃ q∈ρ,q.2=p.1/\(st.hp q.1).map (Ab ρ sn st.hp 4)=p.2 /\ ∀ e,p.2=some e->e.ro<=e.rows.length:=by simp) (h1:st'.sz=st.sz:=by rfl) (h0:Fu np st'.n ρ sn=true:=by rfl):Le np st st':=Le.go ρ sn h1 h0 ht hh
def Mo (np:Nat) (ρ:List (Nat × Nat)) (sn:List Nat) (st st':St):Prop:=Le np st st'
theorem Mo.i {ρ:List (Nat × Nat)} {sn:List Nat} (h1:st'.sz=st.sz:=by rfl) (h0:Fu np st'.n ρ sn=true:=by rfl) (ht:∀ p∈st'.t,Wk (conv ρ sn st.hp 4 (st.get p.1)) p.2:=by first | simp;done | simp[AB]) (hh:∀ p∈st'.h,∃ q∈ρ,q.2=p.1/\(st.hp q.1).map (Ab ρ sn st.hp 4)=p.2 /\ ∀ e,p.2=some e->e.ro<=e.rows.length:=by first | simp;done | simp[AB]):Mo np ρ sn st st':=Le.go ρ sn h1 h0 ht hh
theorem Dw (s:St) (ρ:List (Nat × Nat)) (sn:List Nat) (hq:A2 P np b Q s) (ho:CE P np n 0 ops ⟨sz,t,h,n⟩ [] (λ st' _=>Mo np ρ sn ⟨st'.sz,st'.t,st'.h,n+8*ops.length⟩ s):=by simp;exact Mo.i) (hd:(ops.all λ o=>o.dst.all (· < sz))=true:=by rfl):A2 P np (.seq (.reg false ops af) b) Q ⟨sz,t,h,n⟩:=D9 s hd ho hq
theorem Le.cut (live keep sn:List Nat) (n:Nat) (h0:Fu np n (GS keep) sn=true) (hr:E6 keep st):Le np st (HV live keep sn n st):=by
 refine Le.go (GS keep) sn rfl h0 (λ p hp=>?_) λ p hp=>?_
 .obtain ⟨i,_,rfl⟩:=Qi.1 hp
  exact .refl _
 .obtain ⟨i,hi,rfl⟩:=Qi.1 hp
  refine⟨(i,i),Qi.2 ⟨i,hi,rfl⟩,rfl,rfl,λ e he=>?_⟩;simp only at he
  cases hs:st.hp i with
  | none=>rw[hs] at he;cases he
  | some e0 =>
    rw[hs] at he;have h1:Ab (GS keep) sn st.hp 4 e0=e:=by simpa using he
    subst h1;have:=hr i hi e0 hs
    simpa [Ab] using this
theorem rx (live keep sn:List Nat) (hd:((ops.all λ o=>o.dst.all (· < sz)) && Fu np (n+8*ops.length) (GS keep) sn)=true) (ho:CE P np n 0 ops ⟨sz,t,h,n⟩ [] λ st' _=>E6 keep st'/\HV live keep sn (n+8*ops.length) st'=s) (hq:A2 P np b Q s):A2 P np (.seq (.reg false ops af) b) Q ⟨sz,t,h,n⟩:=by
 rw[QM] at hd;refine D9 s hd.1 (F5 _ _ _ _ _ _ _ (λ st' _ hc=>?_) ho) hq;obtain⟨h1,rfl⟩:=hc;exact Le.cut (st:=⟨st'.sz,st'.t,st'.h,n+8*ops.length⟩) live keep sn _ hd.2 h1
theorem rs (live keep sn:List Nat) (hq:A2 P np b Q s) (hd:((ops.all λ o=>o.dst.all (· < sz)) && Fu np (n+8*ops.length) (GS keep) sn)=true:=by rfl) (ho:CE P np n 0 ops ⟨sz,t,h,n⟩ [] (λ st' _=>E6 keep st'/\HV live keep sn (n+8*ops.length) st'=s):=by simp;rfl):A2 P np (.seq (.reg false ops af) b) Q ⟨sz,t,h,n⟩:=rx live keep sn hd ho hq
theorem kF (live keep sn:List Nat) (hd:((ops.all λ o=>o.dst.all (· < sz)) && Fu np (n+8*ops.length) (GS keep) sn)=true) (ho:CE P np n 0 ops ⟨sz,t,h,n⟩ [] λ st' tr=>Jp ops af tr/\E6 keep st'/\HV live keep sn (n+8*ops.length) st'=s) (hq:A2 P np b Q s):A2 P np (.seq (.reg true ops af) b) Q ⟨sz,t,h,n⟩:=by
 rw[QM] at hd;refine KF s hd.1 (F5 _ _ _ _ _ _ _ (λ st' _ hc=>?_) ho) hq;obtain⟨h0,h1,rfl⟩:=hc;exact⟨h0,Le.cut (st:=⟨st'.sz,st'.t,st'.h,n+8*ops.length⟩) live keep sn _ hd.2 h1⟩
def HT (live keep:List Nat) (n:Nat) (st:St):St:=⟨st.sz,live.map (λ i=>(i,st.get i)),keep.map (λ i=>(i,st.hp i)),n⟩
theorem Le.cutk (live keep:List Nat) (n:Nat) (hn:st.n<=n):Le np st (HT live keep n st) :=
 Le.keep rfl hn (λ p hp=>by obtain⟨i,_,rfl⟩:=Qi.1 hp;rfl) λ p hp e he=>by
  obtain⟨i,_,rfl⟩:=Qi.1 hp;exact he
theorem rk (live keep:List Nat) (hd:(ops.all λ o=>o.dst.all (· < sz))=true) (ho:CE P np n 0 ops ⟨sz,t,h,n⟩ [] λ st' _=>HT live keep (n+8*ops.length) st'=s) (hq:A2 P np b Q s):A2 P np (.seq (.reg false ops af) b) Q ⟨sz,t,h,n⟩:=by
 refine D9 s hd (F5 _ _ _ _ _ _ _ (λ st' _ hc=>?_) ho) hq;subst hc;exact Le.cutk (st:=⟨st'.sz,st'.t,st'.h,n+8*ops.length⟩) live keep _ (Qk _)
@[simp] theorem yF:GS []=[]:=(rfl)
@[simp] theorem yH {i:Nat} {l:List Nat}:GS (i::l)=(i,i)::GS l:=(rfl)
@[simp] theorem zC0:E6 [] st=True:=by simp[E6]
@[simp] theorem yD {i:Nat} {l:List Nat}:E6 (i::l) st=((∀ e,st.hp i=some e->e.ro<=e.rows.length)/\E6 l st):=by simp[E6]
@[simp] theorem yO {live keep sn:List Nat} {m:Nat}:HV live keep sn n ⟨sz,t,h,m⟩=⟨sz,live.map (λ i=>(i,conv (GS keep) sn (St.mk sz t h m).hp 4 ((St.mk sz t h m).get i))),keep.map (λ i=>(i,((St.mk sz t h m).hp i).map (Ab (GS keep) sn (St.mk sz t h m).hp 4))),n⟩:=(rfl)
@[simp] theorem x4 {live keep:List Nat} {m:Nat}:HT live keep n ⟨sz,t,h,m⟩=⟨sz,live.map (λ i=>(i,(St.mk sz t h m).get i)),keep.map (λ i=>(i,(St.mk sz t h m).hp i)),n⟩:=(rfl)
variable {P:Program} {Q:Gm->St->Prop} {af:List (List Nat)} {b:Ey} {h:List (Nat × Option AQ)} {n np sz:Nat} {ops:List Cp} {s st:St} {t:List (Nat × AV)}
def Hb (live:List Nat) (ρ:List (Nat × Nat)) (sn:List Nat) (n:Nat) (st:St):St :=
 ⟨st.sz,live.map (λ i=>(i,conv ρ sn st.hp 4 (st.get i))),ρ.map (λ p=>(p.2,(st.hp p.1).map (Ab ρ sn st.hp 4))),n⟩
def IL (ρ:List (Nat × Nat)) (st:St):Prop:=∀ p∈ρ,∀ e,st.hp p.1=some e->e.ro<=e.rows.length
theorem Le.cutr (live:List Nat) (ρ:List (Nat × Nat)) (sn:List Nat) (n:Nat) (h0:Fu np n ρ sn=true) (hr:IL ρ st):Le np st (Hb live ρ sn n st):=by
 refine Le.go ρ sn rfl h0 (λ p hp=>?_) λ p hp=>?_
 .obtain ⟨i,_,rfl⟩:=Qi.1 hp
  exact .refl _
 .obtain ⟨q,hq,rfl⟩:=Qi.1 hp
  refine⟨q,hq,rfl,rfl,λ e he=>?_⟩;simp only at he
  cases hs:st.hp q.1 with
  | none=>rw[hs] at he;cases he
  | some e0 =>
    rw[hs] at he;have h1:Ab ρ sn st.hp 4 e0=e:=by simpa using he
    subst h1;have:=hr q hq e0 hs
    simpa [Ab] using this
theorem ax (live:List Nat) (ρ:List (Nat × Nat)) (sn:List Nat) (m:Nat) (ho:CE P np n 0 ops ⟨sz,t,h,n⟩ [] λ st' _=>IL ρ st'/\Hb live ρ sn m st'=s) (hq:A2 P np b Q s) (hd:((ops.all λ o=>o.dst.all (· < sz)) && Fu np m ρ sn)=true:=by rfl):A2 P np (.seq (.reg false ops af) b) Q ⟨sz,t,h,n⟩:=by
 rw[QM] at hd;refine D9 s hd.1 (F5 _ _ _ _ _ _ _ (λ st' _ hc=>?_) ho) hq;obtain⟨h1,rfl⟩:=hc;exact Le.cutr (st:=⟨st'.sz,st'.t,st'.h,n+8*ops.length⟩) live ρ sn m hd.2 h1
theorem ay (live:List Nat) (ρ:List (Nat × Nat)) (sn:List Nat) (m:Nat) (ho:CE P np n 0 ops ⟨sz,t,h,n⟩ [] λ st' tr=>Jp ops af tr/\IL ρ st'/\Hb live ρ sn m st'=s) (hq:A2 P np b Q s) (hd:((ops.all λ o=>o.dst.all (· < sz)) && Fu np m ρ sn)=true:=by rfl):A2 P np (.seq (.reg true ops af) b) Q ⟨sz,t,h,n⟩:=by
 rw[QM] at hd;refine KF s hd.1 (F5 _ _ _ _ _ _ _ (λ st' _ hc=>?_) ho) hq;obtain⟨h0,h1,rfl⟩:=hc;exact⟨h0,Le.cutr (st:=⟨st'.sz,st'.t,st'.h,n+8*ops.length⟩) live ρ sn m hd.2 h1⟩
@[simp] theorem zC6:IL [] st=True:=by simp[IL]
@[simp] theorem xP {i j:Nat} {l:List (Nat × Nat)}:IL ((i,j)::l) st=((∀ e,st.hp i=some e->e.ro<=e.rows.length)/\IL l st):=by simp[IL]
@[simp] theorem y7 {live:List Nat} {ρ:List (Nat × Nat)} {sn:List Nat} {m:Nat}:Hb live ρ sn n ⟨sz,t,h,m⟩=⟨sz,live.map (λ i=>(i,conv ρ sn (St.mk sz t h m).hp 4 ((St.mk sz t h m).get i))),ρ.map (λ p=>(p.2,((St.mk sz t h m).hp p.1).map (Ab ρ sn (St.mk sz t h m).hp 4))),n⟩:=(rfl)
theorem ar (live:List Nat) (ρ:List (Nat × Nat)) (sn:List Nat) (m:Nat) (hq:A2 P np b Q s) (hd:((ops.all λ o=>o.dst.all (· < sz)) && Fu np m ρ sn)=true:=by rfl) (ho:CE P np n 0 ops ⟨sz,t,h,n⟩ [] λ st' _=>IL ρ st'/\Hb live ρ sn m st'=s:=by simp[AB];rfl):A2 P np (.seq (.reg false ops af) b) Q ⟨sz,t,h,n⟩:=ax live ρ sn m ho hq hd
theorem ak (live keep:List Nat) (m:Nat) (ho:CE P np n 0 ops ⟨sz,t,h,n⟩ [] λ st' _=>HT live keep m st'=s) (hq:A2 P np b Q s) (hd:((ops.all λ o=>o.dst.all (· < sz)) && decide (n+8*ops.length<=m))=true:=by rfl):A2 P np (.seq (.reg false ops af) b) Q ⟨sz,t,h,n⟩:=by
 rw[QM,Qd] at hd;refine D9 s hd.1 (F5 _ _ _ _ _ _ _ (λ st' _ hc=>?_) ho) hq;subst hc;exact Le.cutk (st:=⟨st'.sz,st'.t,st'.h,n+8*ops.length⟩) live keep m hd.2
theorem al (live keep:List Nat) (m:Nat) (ho:CE P np n 0 ops ⟨sz,t,h,n⟩ [] λ st' tr=>Jp ops af tr/\HT live keep m st'=s) (hq:A2 P np b Q s) (hd:((ops.all λ o=>o.dst.all (· < sz)) && decide (n+8*ops.length<=m))=true:=by rfl):A2 P np (.seq (.reg true ops af) b) Q ⟨sz,t,h,n⟩:=by
 rw[QM,Qd] at hd;refine KF s hd.1 (F5 _ _ _ _ _ _ _ (λ st' _ hc=>?_) ho) hq;obtain⟨h0,rfl⟩:=hc;exact⟨h0,Le.cutk (st:=⟨st'.sz,st'.t,st'.h,n+8*ops.length⟩) live keep m hd.2⟩
theorem Src.ai {f:FuncId} {af:D4} (s:Src P f af) {args:List AV} {hs:List AQ} {res:AV} {hs':List (Option AQ)} {z k:Nat} (hk:A2 P k af.code (λ e st=>(e = .normal∨e = .ret)/\AS af.res k st res hs') ⟨z,t,h,16⟩) (hz:af.nt=z:=by conv=>lhs;reduce) (hi:args.zipIdx.map (λ (a,i)=>(i,a))=t/\hs.zipIdx.map (λ (e,k)=>(k,some e))=h/\hs.length=k:=by simp;exact⟨rfl,rfl,rfl⟩) (h5:args.length<=af.nt:=by exact CL rfl) (h4:hs.length<=16:=by exact CL rfl) (h0:hs.length<=hs'.length:=by simp):AK P f args hs res hs':=by
 obtain⟨h1,h2,h3⟩:=hi;subst h1 h2 h3 hz;exact s.acalls h5 h4 h0 hk
abbrev AA (l:List Int):AV:=.vs 1 false (l.map λ n=>[AV.I n])
theorem I2 (l:List Int) (n:Int) (hl:l.length<=140737488355328):AcP 26 [AA l,.I n] [] (.B (l.contains n)) []:=by
 refine mZ.s.ai ?_;refine AC (Ag (s:=?s1) rfl ?o1 ?q1)
 case o1=>simp;rfl
 refine AC (AC (Ag (s:=?s2) rfl ?o2 ?q2))
 case o2=>simp;rfl
 refine AL (Ae (ι:=Nat) (λ k=>{ sz:=18,t:=[(0,AA l),(1,.I n),(5,.I k)],h:=[],n:=16 }) (λ k=>k<=l.length/\n∉l.take k) (λ k=>l.length - k) 0 (by simp) ?_ ?_)
 .refine Le.slots rfl rfl ?_
  simp[AA]
 .rintro k ⟨hk,hn⟩
  refine AC (AC (Ag (s:=?s3) rfl ?o3 ?q3))
  case o3=>simp;rfl
  refine AE _ rfl ?_ ?_
  .intro h0
   simp only[Qd] at h0;show A2 _ _ _ _ _;refine AC (AL (AC (Ag (s:=?s4) rfl ?o4 ?q4)))
   case o4=>simp[h0];rfl
   refine AE _ rfl ?_ ?_
   .intro heq
    refine AC (Ag (s:=?s5) rfl ?o5 ?q5)
    case o5=>simp;rfl
    refine⟨.inr rfl,AS.one ?_⟩;have:n∈l:=by simp at heq;simp[<- heq]
    simp[this]
   .intro h1
    refine AJ (Ag (s:=?s6) rfl ?o6 ?q6)
    case o6=>simp;rfl
    refine⟨k+1,⟨by omega,?_⟩,by omega,Le.slots rfl rfl ?_⟩
    .intro hm
     simp at h1;rw[Qm h0] at hm;rcases Qq.1 hm with h | h
     .exact hn h
     .exact h1 (QC.1 h).symm
    .have hw:IntKind.i64.wrap ((k:Int)+1)=((k+1:Nat):Int):=w6
     simp[Wk.refl,hw]
  .intro hge
   refine Aa (hit ?_);refine AC (Ag (s:=?s7) rfl ?o7 ?q7)
   case o7=>simp;rfl
   refine BG ⟨.inr rfl,AS.one ?_⟩;simp at hge
   have:n∉l:=by
    have:l.take k=l:=Qb hge;rw[this] at hn;exact hn
   simp[this]
theorem zsA (x:Int):AcP 114 [.I x] [] (.B false) []:=by
 refine iU.s.ai ?_;refine AC (Ag (s:=?s1) rfl ?o1 ?q1)
 case o1=>simp;rfl
 refine AC (Ag (s:=?s2) rfl ?o2 ?q2)
 case o2=>simp;rfl
 exact Bl
theorem Ev (n lo hi:Int):AcP 37 [.I n,.I lo,.I hi] [] (.B (decide (lo<=n) && decide (n<=hi))) []:=by
 refine ZJ.s.ai ?_;refine AC (Ag (s:=?s1) rfl ?o1 ?q1)
 case o1=>simp;rfl
 by_cases h:lo<=n
 .refine AC (Ag (s:=?s2) rfl ?o2 ?q2)
  case o2=>simp[h];rfl
  exact A9 (AS.one (by simp[h]))
 .refine AC (Ag (s:=?s3) rfl ?o3 ?q3)
  case o3=>simp[h];rfl
  exact A9 (AS.one (by simp[h]))
def EB (x y:Int):Int:=if x<y then -1 else if x > y then 1 else 0
theorem Of (x y:Int):AcP 58 [.I x,.I y] [] (.I (EB x y)) []:=by
 refine bS.s.ai ?_;refine AC (Ag (s:=?s1) rfl ?o1 ?q1)
 case o1=>simp;rfl
 refine AC (Ag (s:=?s2) rfl ?o2 ?q2)
 case o2=>simp;refine Aq (zsA _) rfl ?_;simp;rfl
 refine AC (Ag (s:=?s3) rfl ?o3 ?q3)
 case o3=>simp;refine Aq (zsA _) rfl ?_;simp;rfl
 refine AC (AC (Ag (s:=?s4) rfl ?o4 ?q4))
 case o4=>simp;rfl
 refine AE _ rfl (λ h=>by cases h) λ _=>AJ ?_
 refine AC (AC (Ag (s:=?s5) rfl ?o5 ?q5))
 case o5=>simp;rfl
 refine AE _ rfl (λ h=>by cases h) λ _=>AJ ?_
 refine AC (AC (Ag (s:=?s6) rfl ?o6 ?q6))
 case o6=>simp;rfl
 refine AE _ rfl (λ h=>?_) λ h1=>AJ ?_
 .refine AC (Ag (s:=?s7) rfl ?o7 ?q7)
  case o7=>simp;rfl
  exact A9 (AS.one (by simp at h;simp[EB,h]))
 refine AC (AC (Ag (s:=?s8) rfl ?o8 ?q8))
 case o8=>simp;rfl
 refine AE _ rfl (λ h=>?_) λ h2=>AJ ?_
 .refine AC (Ag (s:=?s9) rfl ?o9 ?q9)
  case o9=>simp;rfl
  exact A9 (AS.one (by simp at h h1;simp[EB,h,Int.not_lt.2 h1]))
 refine AC (Ag (s:=?s10) rfl ?o10 ?q10)
 case o10=>simp;rfl
 exact A9 (AS.one (by simp at h1 h2;simp[EB,Int.not_lt.2 h1,Int.not_lt.2 h2]))
theorem nB (l:List Int) (hl:l.length<=140737488355328):AcP 57 [AA l] [] (.I ((l.find? (· != 0)).getD 0)) []:=by
 refine YW.s.ai ?_;refine AC (AX ?_);refine AC (AX ?_);refine AC (AC (AX ?_));refine AL (Ae (ι:=Nat) (λ k=>⟨18,[(3,.I 0),(6,AA l),(7,.I l.length),(8,.I k)],[],16⟩) (λ k=>k<=l.length/\l.find? (· != 0)=(l.drop k).find? (· != 0)) (λ k=>l.length - k) 0 ?_ (Le.slots rfl rfl ?_) ?_)
 .simp
 .simp
 rintro k ⟨hk,hf⟩
 refine AC (AX ?_);refine AC (AE _ rfl (λ h5=>?_) λ h5=>?_)
 .simp at h5
  rw[QP h5,List.find?_cons] at hf;refine AJ (AC (AL (AC (Ag (s:=?s6) rfl ?o6 ?q6))))
  case o6=>simp[h5];rfl
  refine AC (AX ?_);refine AE _ rfl (λ h8=>?_) λ h8=>?_
  .refine AC (AX ?_)
   refine BG ?_;rw[h8] at hf;exact⟨.inr rfl,AS.one (by simp[hf])⟩
  refine AJ (AX ?_);rw[h8] at hf;have hw:=w6 (x:=(k:Int)+1);refine⟨k+1,⟨h5,hf⟩,by omega,Le.slots rfl rfl ?_⟩
  simp[hw]
 simp at h5;rw[Us h5] at hf;refine Aa (hit (AC (AX ?_)));exact A9 (AS.one (by simp[hf]))
structure Ed where
 f:Int
 t:Int
 v:Int
 deriving DecidableEq,Inhabited
abbrev Ed.row (e:Ed):List AV:=[.I e.f,.I e.t,.I e.v]
abbrev eE (e:Ed):AV:=.agg [.I e.f,.I e.t,.I e.v]
abbrev CB (l:List Ed):AV:=.vs 3 false (l.map λ e=>[.I e.f,.I e.t,.I e.v])
def IW (a b:Ed):Int:=([EB a.f b.f,EB a.t b.t].find? (· != 0)).getD 0
theorem tH (a b:Ed):AcP 145 [eE a,eE b] [] (.I (IW a b)) []:=by
 refine qM.s.ai ?_;refine AC (AX ?_);refine AC (JE (s:=?s2) (tr:=?t2) rfl ?o2 ?r2 ?q2)
 case o2 =>
  simp;refine Aq (Of ..) rfl ?_;simp;refine Aq (Of ..) rfl ?_;simp;refine Hk [120] (nB [EB a.f b.f,EB a.t b.t] (by simp)) (by simp) (.sc _) ?_;simp;constructor<;>rfl
 case r2=>rfl
 exact A9 (AS.one (by simp;exact .refl _))
def E5 (l:List Int) (x:Int):Int:=if x∈l then (l.idxOf x:Int) else -1
theorem XC (l:List Int) (x:Int) (hl:l.length<=9223372036854775807):AcP 109 [AA l,.I x] [] (.I (E5 l x)) []:=by
 refine gU.s.ai ?_;refine AC (AX ?_);refine AC (AC (AX ?_));refine AL (Ae (ι:=Nat) (λ k=>⟨19,[(0,AA l),(1,.I x),(6,AA l),(7,.I l.length),(8,.I k)],[],16⟩) (λ k=>k<=l.length/\x∉l.take k) (λ k=>l.length - k) 0 ?_ (Le.slots rfl rfl ?_) ?_)
 .simp
 .simp
 rintro k ⟨hk,hn⟩
 refine AC (AX ?_);refine AC (AE _ rfl (λ h4=>?_) λ h4=>?_)
 .simp at h4
  refine AJ (AC (AL (AC (AX ?_))));refine AC (Ag (s:=?s6) rfl ?o6 ?q6)
  case o6=>simp[h4];rfl
  refine AE _ rfl (λ h7=>?_) λ h7=>?_
  .refine AC (AX ?_)
   refine BG ?_;have hm:x∈l:=by simp at h7;rw[h7];exact Qj h4
   have hi:l.idxOf x=k:=by
    simp at h7;have h1:l=l.take k++x::l.drop (k+1):=by rw[h7,<- QP h4,UG]
    rw[h1,List.idxOf_append,if_neg hn,List.idxOf_cons_self];simp;omega
   exact⟨.inr rfl,AS.one (by simp[E5,hm,hi])⟩
  refine AJ (AX ?_);have hw:=w6 (x:=(k:Int)+1);refine⟨k+1,⟨h4,?_⟩,by omega,Le.slots rfl rfl ?_⟩
  .intro hm
   simp at h7;rw[Qm h4] at hm;rcases Qq.1 hm with h | h
   .exact hn h
   .exact h7 (QC.1 h)
  .simp [hw]
 simp at h4;refine Aa (hit (AC (AX ?_)));refine BG ?_;rw[Qb h4] at hn;exact⟨.inr rfl,AS.one (by simp[E5,hn])⟩
theorem TX (l:List Int) (x:Int) (hl:l.length<=140737488355328):AcP 109 [AA l,.I x] [] (.I (E5 l x)) [] :=
 XC l x (by omega)
theorem Z0 (l:List Int) (x:Int) (hl:l.length<=9223372036854775807):AcP 51 [AA l,.I x] [] (.B (decide (x∈l))) []:=by
 refine kO.s.ai ?_;refine AC (AX ?_);refine AC (Ag (s:=?s2) rfl ?o2 ?q2)
 case o2=>simp;refine Aq (XC l x hl) rfl ?_;simp;rfl
 refine BG ?_
 have:decide (0<=E5 l x)=decide (x∈l):=by
  unfold E5
  by_cases h:x∈l
  .simp [h]
  .simp [h]
 exact⟨.inr rfl,AS.one (by simp[this])⟩
theorem Ht (l:List Int) (x:Int) (hl:l.length<=140737488355328):AcP 51 [AA l,.I x] [] (.B (decide (x∈l))) [] :=
 Z0 l x (by omega)
def KD (l:List Int) (lo hi:Int) (i:Nat):Prop:=∀ h:i<l.length,lo<=l[i]/\l[i]<=hi/\(0<i->l[i - 1]<l[i])
def Bu (l:List Int) (lo hi:Int):Prop:=∀ i,KD l lo hi i
open Classical in
theorem lI (l:List Int) (lo hi:Int) (hl:l.length<=9223372036854775807):AcP 108 [AA l,.I lo,.I hi] [] (.B (decide (Bu l lo hi))) []:=by
 refine iS.s.ai ?_;refine AC (AX ?_);refine AC (AC (AX ?_));refine AL (Ae (ι:=Nat) (λ k=>⟨38,[(0,AA l),(1,.I lo),(2,.I hi),(9,AA l),(10,.I l.length),(11,.I k)],[],16⟩) (λ k=>k<=l.length /\ ∀ i,i<k->KD l lo hi i) (λ k=>l.length - k) 0 ?_ (Le.slots rfl rfl ?_) ?_)
 .simp
 .simp
 rintro k ⟨hk,hp⟩
 refine AC (AX ?_);refine AC (AE _ rfl (λ h4=>?_) λ h4=>?_)
 .simp at h4
  have hw:=w6 (x:=(k:Int)+1);refine AJ (AC (AL (AC (Ag (s:=?s5) rfl ?o5 ?q5))))
  case o5=>simp[h4];rfl
  refine AC ?_
  by_cases a1:l[k]<lo
  .refine Ag (s:=?s21) rfl ?o21 ?q21
   case o21=>simp[a1];rfl
   refine AE _ rfl (λ _=>?_) λ h=>by cases h
   refine AC (AX ?_);refine BG ?_;have hn:¬ Bu l lo hi:=λ h=>by have:=h k h4;omega
   exact⟨.inr rfl,AS.one (by simp[hn])⟩
  by_cases a2:hi<l[k]
  .refine Ag (s:=?s22) rfl ?o22 ?q22
   case o22=>simp[a1,a2];rfl
   refine AE _ rfl (λ _=>?_) λ h=>by cases h
   refine AC (AX ?_);refine BG ?_;have hn:¬ Bu l lo hi:=λ h=>by have:=h k h4;omega
   exact⟨.inr rfl,AS.one (by simp[hn])⟩
  by_cases a3:0<k
  .have h0:IntKind.i64.wrap ((k:Int) - 1)=((k - 1:Nat):Int):=by rw[w6];omega
   have h5:k - 1<l.length:=by omega
   by_cases a4:l[k]<=l[k - 1]
   .refine Ag (s:=?s23) rfl ?o23 ?q23
    case o23=>simp[a1,a2,a3,a4,h0,h5];rfl
    refine AE _ rfl (λ _=>?_) λ h=>by cases h
    refine AC (AX ?_);refine BG ?_;have hn:¬ Bu l lo hi:=λ h=>by have:=h k h4;have:=this.2.2 a3;omega
    exact⟨.inr rfl,AS.one (by simp[hn])⟩
   .refine Ag (s:=?s24) rfl ?o24 ?q24
    case o24=>simp[a1,a2,a3,a4,h0,h5];rfl
    refine AE _ rfl (λ h=>by cases h) λ _=>AJ ?_
    refine AX ?_;refine⟨k+1,⟨h4,λ i hi=>?_⟩,by omega,Le.slots rfl rfl ?_⟩
    .rcases QY.1 hi with h | rfl
     .exact hp i h
     .intro _;exact⟨by omega,by omega,λ _=>by omega⟩
    .simp [hw]
  .refine Ag (s:=?s25) rfl ?o25 ?q25
   case o25=>simp[a1,a2,a3];rfl
   refine AE _ rfl (λ h=>by cases h) λ _=>AJ ?_
   refine AX ?_;refine⟨k+1,⟨h4,λ i hi=>?_⟩,by omega,Le.slots rfl rfl ?_⟩
   .rcases QY.1 hi with h | rfl
    .exact hp i h
    .intro _;exact⟨by omega,by omega,λ h=>absurd h a3⟩
   .simp [hw]
 simp at h4;refine Aa (hit (AC (AX ?_)));refine BG ?_;have hy:Bu l lo hi:=λ i hi=>hp i (by omega) hi
 exact⟨.inr rfl,AS.one (by simp[hy])⟩
open Classical in
theorem Nf (l:List Int) (lo hi:Int) (hl:l.length<=140737488355328):AcP 108 [AA l,.I lo,.I hi] [] (.B (decide (Bu l lo hi))) [] :=
 lI l lo hi (by omega)
structure Gr where
 size:Int
 edges:List Ed
 gone:List Int
abbrev gC (g:Gr):List AV:=[.I g.size,CB g.edges,AA g.gone]
abbrev eG (g:Gr):AV:=.agg (gC g)
abbrev eC (e:Ed):List AV:=[.I e.f,.I e.t,.I e.v]
def BO (g:Gr) (e:Ed):Prop:=0<=e.f/\e.f<=g.size - 1/\0<=e.t/\e.t<=g.size - 1/\e.f≠e.t/\e.f∉g.gone/\e.t∉g.gone
instance (g:Gr) (e:Ed):Decidable (BO g e):=by unfold BO;infer_instance
theorem sU (g:Gr) (e:Ed) (hs:0<=g.size) (hs':g.size<=64) (hl:g.gone.length<=140737488355328):AcP 144 [eG g,eE e] [] (.B (decide (BO g e))) []:=by
 refine fC.s.ai ?_;apply ax [2,3,4] [] [16,24] 16
 .simp -implicitDefEqProofs
  rfl
 have hw:=w6 (x:=g.size - 1);refine arc ⟨42,[(4,.B (decide (BO g e)))],[],16⟩ ?_ ?_
 .simp [hw]
  repeat' first
   | (refine EU 37 rfl ?_;refine Aq (Ev ..) rfl ?_;simp)
   | (refine EU 51 rfl ?_;refine Aq (Ht _ _ hl) rfl ?_;simp)
   | (refine Dd (λ hb=>?_) (λ hb=>?_)<;>(try rw[hb])<;>simp[hw])
  all_goals exact A5 [] (by simp;exact Aw (by simp at *;grind [BO]))
 exact Bl
def JU (g:Gr):Prop:=0<=g.size/\g.size<=64/\g.edges.length<=500/\Bu g.gone 0 (g.size - 1)
def FI (g:Gr) (i:Nat):Prop:=∀ h:i<g.edges.length,BO g g.edges[i]/\1<=g.edges[i].v/\g.edges[i].v<=3/\(0<i->IW g.edges[i - 1] g.edges[i]<0)
def AI (g:Gr):Prop:=JU g /\ ∀ i,FI g i
open Classical in
theorem bR (g:Gr) (hl:g.edges.length<=140737488355328) (h0:g.gone.length<=140737488355328):AcP 107 [eG g] [] (.I (if AI g then 0 else 14)) []:=by
 refine wW.s.ai ?_;refine ar [1] [] [16] 16 ?_;refine AC (arc ⟨58,[(1,.pv (gC g)),(23,.B (decide (¬ JU g)))],[],16⟩ ?_ ?_)
 .simp
  repeat' first
   | (refine EU 37 rfl ?_;refine Aq (Ev ..) rfl ?_;simp)
   | (refine EU 108 rfl ?_;have hw:IntKind.i64.wrap (g.size - 1)=g.size - 1:=w6;rw[hw];refine Aq (Nf _ _ _ h0) rfl ?_;simp)
   | (refine Dd (λ hb=>?_) (λ hb=>?_)<;>(try rw[hb])<;>(try simp at hb)<;>simp[hb])
  all_goals exact A5 [] (by simp;exact Aw (by (try simp at *);grind [JU]))
 refine AE _ rfl (λ h1=>?_) λ h1=>?_
 .refine AC (AX ?_)
  refine BG ?_;simp at h1;exact⟨.inr rfl,AS.one (by simp[AI,h1])⟩
 simp at h1;have hs:=h1.1;have h2:=h1.2.1;refine AJ (AC (AC (AX ?_)));refine AL (Ae (ι:=Nat) (λ k=>⟨58,[(1,.pv (gC g)),(25,CB g.edges),(26,.I g.edges.length),(27,.I k)],[],16⟩) (λ k=>k<=g.edges.length /\ ∀ i,i<k->FI g i) (λ k=>g.edges.length - k) (0) ?_ (A5 [] (by simp)) ?_)
 .simp
 rintro k ⟨hk,hp⟩
 refine AC (AX ?_);refine AC (AE _ rfl (λ h5=>?_) λ h5=>?_)
 .simp at h5
  have h3:=w6 (x:=(k:Int)+1);have h4:0<k->IntKind.i64.wrap ((k:Int) - 1)=((k - 1:Nat):Int):=λ h=>by rw[w6];omega
  have h7:k - 1<g.edges.length:=by omega
  refine AJ (AC (AL ?_));apply ax [1,3,4,25,26,27] [] [48] 16
  .simp [h5]
   rfl
  refine CW ⟨58,[(1,.pv (gC g)),(25,CB g.edges),(26,.I g.edges.length),(27,.I k),(56,.B (decide (¬ FI g k)))],[],16⟩ ?_ ?_
  .simp
   repeat' first
    | (refine EU 144 rfl ?_;refine Aq (sU g _ hs h2 h0) rfl ?_;simp)
    | (refine EU 37 rfl ?_;refine Aq (Ev ..) rfl ?_;simp)
    | (refine EU 145 rfl ?_;refine Aq (tH ..) rfl ?_;simp)
    | (refine Dd (λ hb=>?_) (λ hb=>?_)<;>(try rw[hb])<;>(try simp at hb)<;>simp[hb,h5,h7,h4])
   all_goals exact⟨rfl,A5 [] (by simp;exact Aw (by (try simp at *);grind [FI]))⟩
  refine AE _ rfl (λ h6=>?_) λ h6=>?_
  .refine AC (AX ?_)
   refine BG ?_;have hn:¬ AI g:=λ h=>by simp at h6;exact h6 (h.2 k)
   exact⟨.inr rfl,AS.one (by simp[hn])⟩
  simp at h6;refine AJ (AX ?_);refine⟨k+1,⟨h5,λ i hi=>?_⟩,?_,A5 [] (by simp[h3])⟩
  .rcases QY.1 hi with h | rfl
   .exact hp i h
   .exact h6
  .omega
 simp at h5;have hy:AI g:=⟨h1,λ i hi=>hp i (by omega) hi⟩
 refine Aa (hit (AC (AX ?_)));exact A9 (AS.one (by simp[hy]))
def Bd (a b:Ed):Prop:=a.f<b.f∨a.f=b.f/\a.t<b.t
instance (a b:Ed):Decidable (Bd a b):=by unfold Bd;infer_instance
theorem KH {a b:Ed}:IW a b<0↔Bd a b:=by
 simp only[IW,EB,Bd]
 grind
theorem Sl (a b:Ed):AcP 120 [eE a,eE b] [] (.B (decide (Bd a b))) []:=by
 refine iJ.s.ai ?_;refine ar [2,3] [] [16,24] 16 ?_;refine arc ⟨24,[(4,.B (decide (Bd a b)))],[],16⟩ ?_ ?_
 .simp
  repeat' first
   | (refine Dd (λ hb=>?_) (λ hb=>?_)<;>(try rw[hb])<;>(try simp at hb)<;>simp[hb])
  all_goals exact A5 [] (by simp;exact Aw (by (try simp at *);grind [Bd]))
 exact Bl
open Classical in
theorem OJ (l:List Int) (n:Int) (hl:l.length<=140737488355328):AcP 119 [AA l,.I n] [] (.B (decide (Bu l 0 (n - 1)))) []:=by
 refine sK.s.ai ?_;refine AC (AX ?_);refine AC (AC (AX ?_));refine AL (Ae (ι:=Nat) (λ k=>⟨41,[(0,AA l),(1,.I n),(5,.I k)],[],16⟩) (λ k=>k<=l.length /\ ∀ i,i<k->KD l 0 (n - 1) i) (λ k=>l.length - k) (0) ?_ (A5 [] (by simp)) ?_)
 .simp
 rintro k ⟨hk,hp⟩
 refine AC (AC (AX ?_));refine AE _ rfl (λ h4=>?_) λ h4=>?_
 .try simp at h4
  have h0:=w6 (x:=(k:Int)+1);have h1:0<k->IntKind.i64.wrap ((k:Int) - 1)=((k - 1:Nat):Int):=λ h=>by rw[w6];omega
  have h2:k - 1<l.length:=by omega
  refine AJ (AC (AL (CW ⟨41,[(0,AA l),(1,.I n),(5,.I k),(40,.B (decide (¬ KD l 0 (n - 1) k)))],[],16⟩ ?_ ?_)))
  .simp [h4,h0,h1,h2]
   repeat' first
    | (refine Dd (λ hb=>?_) (λ hb=>?_)<;>(try rw[hb])<;>(try simp at hb)<;>simp[hb,h4,h0,h1,h2])
   all_goals exact⟨rfl,A5 [] (by simp;exact Aw (by (try simp at *);grind [KD]))⟩
  refine AE _ rfl (λ h5=>?_) λ h5=>?_
  .try simp at h5
   refine AC (Ag (s:=?s6) rfl ?o6 ?q6)
   case o6=>simp[h4,h0,h1,h2];rfl
   refine BG ?_;have hn:¬ Bu l 0 (n - 1):=λ h=>h5 (h k);exact⟨.inr rfl,AS.one (by simp[hn])⟩
  try simp at h5
  refine AJ (Ag (s:=?s7) rfl ?o7 ?q7)
  case o7=>simp[h4,h0,h1,h2];rfl
  refine⟨k+1,⟨h4,λ i hi=>?_⟩,by omega,A5 [] (by simp[h4,h0,h1,h2])⟩
  rcases QY.1 hi with h | rfl
  .exact hp i h
  .exact h5
 try simp at h4
 have h3:∀ i,i<l.length->KD l 0 (n - 1) i:=λ i hi=>hp i (by omega)
 refine Aa (hit (AC (AX ?_)));refine BG ?_;have hy:Bu l 0 (n - 1):=λ i hi=>h3 i hi hi;exact⟨.inr rfl,AS.one (by simp[hy])⟩
def Ii (g:Gr) (e:Ed):Prop:=0<=e.f/\e.f<g.size/\0<=e.t/\e.t<g.size/\e.f≠e.t/\1<=e.v/\e.v<=3
instance (g:Gr) (e:Ed):Decidable (Ii g e):=by unfold Ii;infer_instance
def Jj (g:Gr) (k:Nat):Prop:=∀ h:k<g.edges.length,(0<k->Bd g.edges[k - 1] g.edges[k])/\g.edges[k].f∉g.gone/\g.edges[k].t∉g.gone
theorem P1 (g:Gr) (k:Nat) (h:k<g.edges.length):FI g k↔Ii g g.edges[k]/\Jj g k:=by
 simp only[FI,Ii,Jj,BO,KH]
 grind
open Classical in
theorem So (g:Gr) (hl:g.edges.length<=140737488355328) (h7:g.gone.length<=140737488355328):AcP 68 [eG g] [] (.I (if AI g then 0 else 14)) []:=by
 refine iY.s.ai ?_;refine ar [1] [] [16] 16 ?_;refine AC (arc ⟨105,[(1,.pv (gC g)),(26,.B (decide (¬ JU g)))],[],16⟩ ?_ ?_)
 .simp
  repeat' first
   | (refine EU 119 rfl ?_;refine Aq (OJ _ _ h7) rfl ?_;simp)
   | (refine Dd (λ hb=>?_) (λ hb=>?_)<;>(try rw[hb])<;>(try simp at hb)<;>simp[hb])
  all_goals exact A5 [] (by simp;exact Aw (by (try simp at *);grind [JU,Ii,Jj]))
 refine AE _ rfl (λ h1=>?_) λ h1=>?_
 .try simp at h1
  refine AC (AX ?_);exact A9 (AS.one (by simp[AI,h1]))
 try simp at h1
 refine AJ (AC (AC (AX ?_)));refine AL (Ae (ι:=Nat) (λ k=>⟨105,[(1,.pv (gC g)),(3,.I k)],[],16⟩) (λ k=>k<=g.edges.length /\ ∀ i,i<k->FI g i) (λ k=>g.edges.length - k) (0) ?_ (A5 [] (by simp)) ?_)
 .simp
 rintro k ⟨hk,hp⟩
 refine AC (AC (AX ?_));refine AE _ rfl (λ h5=>?_) λ h5=>?_
 .try simp at h5
  have h0:=w6 (x:=(k:Int)+1);have h3:0<k->IntKind.i64.wrap ((k:Int) - 1)=((k - 1:Nat):Int):=λ h=>by rw[w6];omega
  have h4:k - 1<g.edges.length:=by omega
  refine AJ (AC (AL (arc ⟨105,[(1,.pv (gC g)),(3,.I k),(4,.pv (eC g.edges[k]))],[],16⟩ ?_ ?_)))
  .simp [h5,h0,h3,h4]
   exact A5 [96] (by simp[h5,h0,h3,h4])
  refine AC (arc ⟨105,[(1,.pv (gC g)),(3,.I k),(4,.pv (eC g.edges[k])),(77,.B (decide (¬ Ii g g.edges[k])))],[],16⟩ ?_ ?_)
  .simp [h5,h0,h3,h4]
   repeat' first
    | (refine Dd (λ hb=>?_) (λ hb=>?_)<;>(try rw[hb])<;>(try simp at hb)<;>simp[hb,h5,h0,h3,h4])
   all_goals exact A5 [] (by simp;exact Aw (by (try simp at *);grind [JU,Ii,Jj]))
  refine AE _ rfl (λ h6=>?_) λ h6=>?_
  .try simp at h6
   refine AC (Ag (s:=?s7) rfl ?o7 ?q7)
   case o7=>simp[h5,h0,h3,h4];rfl
   refine BG ?_;have hn:¬ AI g:=λ h=>by have h2:=(P1 g k h5).1 (h.2 k);simp_all
   exact⟨.inr rfl,AS.one (by simp[hn])⟩
  try simp at h6
  refine AJ (CW ⟨105,[(1,.pv (gC g)),(3,.I k),(104,.B (decide (¬ Jj g k)))],[],16⟩ ?_ ?_)
  .simp [h5,h0,h3,h4]
   repeat' first
    | (refine EU 120 rfl ?_;refine Aq (Sl ..) rfl ?_;simp[h5,h0,h3,h4])
    | (refine EU 26 rfl ?_;refine Aq (I2 _ _ h7) rfl ?_;simp[h5,h0,h3,h4])
    | (refine Dd (λ hb=>?_) (λ hb=>?_)<;>(try rw[hb])<;>(try simp at hb)<;>simp[hb,h5,h0,h3,h4])
   all_goals exact⟨rfl,A5 [] (by simp;exact Aw (by (try simp at *);grind [JU,Ii,Jj]))⟩
  refine AE _ rfl (λ h8=>?_) λ h8=>?_
  .try simp at h8
   refine AC (Ag (s:=?s9) rfl ?o9 ?q9)
   case o9=>simp[h5,h0,h3,h4];rfl
   refine BG ?_;have hn:¬ AI g:=λ h=>by have h2:=(P1 g k h5).1 (h.2 k);simp_all
   exact⟨.inr rfl,AS.one (by simp[hn])⟩
  try simp at h8
  refine AJ (Ag (s:=?s10) rfl ?o10 ?q10)
  case o10=>simp[h5,h0,h3,h4];rfl
  refine⟨k+1,⟨h5,λ i hi=>?_⟩,by omega,A5 [] (by simp[h5,h0,h3,h4])⟩
  rcases QY.1 hi with h | rfl
  .exact hp i h
  .exact (P1 g i h5).2 ⟨h6,h8⟩
 try simp at h5
 have h9:∀ i,i<g.edges.length->FI g i:=λ i hi=>hp i (by omega)
 refine Aa (hit (AC (AX ?_)));refine BG ?_;have hy:AI g:=⟨h1,λ i hi=>h9 i hi hi⟩;exact⟨.inr rfl,AS.one (by simp[hy])⟩
theorem Rz (l:List Int) (hl:l.length*8<=140737488355328):AcP 127 [AA l] [] (.rs 0 0 l.length) [some ⟨1,l.map λ n=>[AV.I n],0⟩]:=by
 cases l with
 | nil =>
   refine zpQ λ ad c=>?_;refine VA.s.ai ?_;refine AC (AX ?_);refine Ao ⟨8,[(0,.vs 1 false [])],[],40⟩ ?_ ?_
   .refine AC (AX ?_)
    refine AE _ rfl (λ h3=>?_) λ h3=>?_
    .refine arc ⟨8,[(2,.rs 40 0 0)],[(40,some ⟨1,[],0⟩)],48⟩ ?_ ?_
     .simp
      exact Le.lst [] [] [(40,1)] rfl (by simp) (by simp) (by simp) (by simp) (by simp) (by simp) (by simp) (by simp[Up]) (by simp)
     exact B7 [40] []
    exact AJ (Le.slots rfl rfl (by simp;exact .mt _ _ _))
   refine AC (Ag (s:=?s5) rfl ?o5 ?q5)
   case o5=>simp[List.replicate];rfl
   exact B7 [56] []
 | cons x l =>
   refine VA.s.ai ?_;refine AC (AX ?_);refine AC (AC (AX ?_));refine AE _ rfl (λ h3=>by cases h3) λ h3=>?_
   refine AJ (AC (Ag (s:=?t4) rfl ?p4 ?r4))
   case p4=>simp[List.replicate];refine⟨by simpa using hl,by simp at hl;omega,?_⟩;rfl
   exact B7 [56] []
theorem Zo (l:List Ed) (hl:l.length*24<=140737488355328):AcP 126 [CB l] [] (.rs 0 0 l.length) [some ⟨3,l.map λ e=>[AV.I e.f,AV.I e.t,AV.I e.v],0⟩]:=by
 cases l with
 | nil =>
   refine zpQ λ ad c=>?_;refine zbw.s.ai ?_;refine AC (AX ?_);refine Ao ⟨8,[(0,.vs 3 false [])],[],40⟩ ?_ ?_
   .refine AC (AX ?_)
    refine AE _ rfl (λ h3=>?_) λ h3=>?_
    .refine arc ⟨8,[(2,.rs 40 0 0)],[(40,some ⟨3,[],0⟩)],48⟩ ?_ ?_
     .simp
      exact Le.lst [] [] [(40,3)] rfl (by simp) (by simp) (by simp) (by simp) (by simp) (by simp) (by simp) (by simp[Up]) (by simp)
     exact B7 [40] []
    exact AJ (Le.slots rfl rfl (by simp;exact .mt _ _ _))
   refine AC (Ag (s:=?s5) rfl ?o5 ?q5)
   case o5=>simp[List.replicate];rfl
   exact B7 [56] []
 | cons x l =>
   refine zbw.s.ai ?_;refine AC (AX ?_);refine AC (AC (AX ?_));refine AE _ rfl (λ h3=>by cases h3) λ h3=>?_
   refine AJ (AC (Ag (s:=?t4) rfl ?p4 ?r4))
   case p4=>simp[List.replicate];refine⟨by simpa using hl,by simp at hl;omega,?_⟩;rfl
   exact B7 [56] []
def Bp (l:List Ed) (e:Ed):Nat:=l.findIdx λ x=>!decide (Bd x e)
def Hh (l:List Ed) (k:Nat) (f t:Int):Prop:=∃ h:k<l.length,l[k].f=f/\l[k].t=t
instance (l:List Ed) (k:Nat) (f t:Int):Decidable (Hh l k f t):=by unfold Hh;infer_instance
def TV (l:List Ed) (e:Ed) (k:Nat):Prop:=∀ h:k<l.length,Bd l[k] e
theorem zwW (l:List Ed) (e:Ed):Bp l e<=l.length:=Vc
theorem aQ {l:List Ed} {e:Ed} {k:Nat} (hk:k<=l.length) (h1:∀ i,i<k->TV l e i) (h2:∀ h:k<l.length,¬ Bd l[k] e):Bp l e=k:=by
 unfold Bp;rcases Um k l.length with h | h
 .rw [List.findIdx_eq h]
  refine⟨by simpa using h2 h,λ j hj=>?_⟩
  simpa using h1 j hj (by omega)
 .obtain rfl:k=l.length:=by omega
  rw[UZ];intro x hx;obtain⟨i,hi,rfl⟩:=QG.1 hx
  simpa using h1 i hi hi
theorem sQ (g:Gr) (f t:Int) (hl:g.edges.length<=140737488355328):AcP 69 [eG g,.I f,.I t] [] (.tup [.I (Bp g.edges ⟨f,t,0⟩),.B (decide (Hh g.edges (Bp g.edges ⟨f,t,0⟩) f t))]) []:=by
 refine YR.s.ai ?_;refine ar [1,2,3] [] [16] 16 ?_;refine AC (AX ?_);refine AC (AL (Ae (ι:=Nat) (λ k=>⟨53,[(1,.I f),(2,.I t),(3,.pv (gC g)),(8,.I k)],[],16⟩) (λ k=>k<=g.edges.length /\ ∀ i,i<k->TV g.edges ⟨f,t,0⟩ i) (λ k=>g.edges.length - k) (0) ?_ (A5 [] (by simp)) ?_))
 .simp
 rintro k ⟨hk,hp⟩
 refine AC (arc ⟨53,[(1,.I f),(2,.I t),(3,.pv (gC g)),(8,.I k),(24,.B (decide (∃ h:k<g.edges.length,Bd g.edges[k] ⟨f,t,0⟩)))],[],16⟩ ?_ ?_)
 .simp
  repeat' first
   | (refine EU 120 rfl ?_;refine Aq (Sl _ ⟨f,t,0⟩) rfl ?_;simp)
   | (refine Dd (λ hb=>?_) (λ hb=>?_)<;>(try rw[hb])<;>(try simp at hb)<;>simp[*])
  all_goals exact A5 [] (by simp<;>exact Aw (by (try simp at *);grind))
 refine AE _ rfl (λ h2=>?_) λ h2=>?_
 .try simp at h2
  obtain⟨h2,h4⟩:=h2;have h0:=w6 (x:=(k:Int)+1);have h1:0<k->IntKind.i64.wrap ((k:Int) - 1)=((k - 1:Nat):Int):=λ h=>by rw[w6];omega
  have h3:k - 1<g.edges.length:=by omega
  refine AJ (AL (Ag (s:=?s3) rfl ?o3 ?q3))
  case o3=>simp[h2,h0,h1,h3];rfl
  refine⟨k+1,⟨h2,λ i hi=>?_⟩,by omega,A5 [] (by simp[h2,h0,h1,h3])⟩
  rcases QY.1 hi with h | rfl
  .exact hp i h
  .exact λ _=>h4
 try simp at h2
 rw[aQ hk hp h2];refine Aa (hit (CW ⟨53,[(6,.I k),(7,.B (decide (Hh g.edges k f t)))],[],16⟩ ?_ ?_))
 .simp
  repeat' first
   | (refine Dd (λ hb=>?_) (λ hb=>?_)<;>(try rw[hb])<;>(try simp at hb)<;>simp[*])
  all_goals exact⟨rfl,A5 [] (by simp<;>exact Aw (by (try simp at *);grind [Hh]))⟩
 exact B7 [] []
theorem zh2 (g:Gr) (hl:g.edges.length*24<=140737488355328) (h0:g.gone.length*8<=140737488355328):AcP 59 [eG g] [] (.agg [.I g.size,.rs 0 0 g.edges.length,.rs 1 0 g.gone.length]) [some ⟨3,g.edges.map λ e=>[AV.I e.f,AV.I e.t,AV.I e.v],0⟩,some ⟨1,g.gone.map λ n=>[AV.I n],0⟩]:=by
 refine ZX.s.ai ?_;have h1:g.edges.length<=140737488355328:=by omega
 have h2:g.gone.length<=140737488355328:=by omega
 refine AC (AX ?_);refine AC (JE (s:=?s1) (tr:=?t1) rfl ?o1 ?r1 ?q1)
 case o1=>simp[hl,h0,h1,h2];constructor<;>rfl
 case r1=>rfl
 refine BG ⟨.inr rfl,?_⟩;show AS [(2,some (true,3))] 0 _ _ _;exact AS.out (vs:=[.agg [.I g.size,.rs 64 0 g.edges.length,.rs 88 0 g.gone.length]]) [64,88] [] (by simp) (by simp) (by simp) (by simp) (by simp[AB])
theorem zgs (g:Gr) (hl:g.edges.length*24<=140737488355328) (h0:g.gone.length*8<=140737488355328):AcP 75 [eG g] [] (.agg [.I g.size,.rs 0 0 g.edges.length,.rs 1 0 g.gone.length]) [some ⟨3,g.edges.map λ e=>[AV.I e.f,AV.I e.t,AV.I e.v],0⟩,some ⟨1,g.gone.map λ n=>[AV.I n],0⟩]:=by
 refine YT.s.ai ?_;have h1:g.edges.length<=140737488355328:=by omega
 have h2:g.gone.length<=140737488355328:=by omega
 refine AC (AX ?_);refine AC (JE (s:=?s1) (tr:=?t1) rfl ?o1 ?r1 ?q1)
 case o1=>simp;refine E2 (Zo _ hl) rfl ?_;simp;refine E2 (Rz _ h0) rfl ?_;simp[AB];constructor<;>rfl
 case r1=>rfl
 refine BG ⟨.inr rfl,?_⟩;show AS [(2,some (true,3))] 0 _ _ _;exact AS.out (vs:=[.agg [.I g.size,.rs 64 0 g.edges.length,.rs 88 0 g.gone.length]]) [64,88] [] (by simp) (by simp) (by simp) (by simp) (by simp[AB])
def L9 (a b:Gr):Prop:=a.size=b.size/\a.edges=b.edges/\a.gone=b.gone
instance (a b:Gr):Decidable (L9 a b):=by unfold L9;infer_instance
theorem j8 {P:Program} {f:FuncId} {xs ys:List AV} {hs:List AQ} {res:AV} {hs':List (Option AQ)} (hl:xs.length=ys.length) (hw:∀ i,i<ys.length->Wk (xs.getD i .dead) (ys.getD i .dead)) (h:AK P f ys hs res hs'):AK P f xs hs res hs' :=
 ⟨h.1,h.2.1,λ T M w vs h1 h2 h3 hr=>h.2.2 T M w vs h1 h2 h3 ⟨hr.1.trans hl,λ i hi=>(hw i hi).rep (hr.2 i (hl ▸ hi))⟩⟩
section
variable {H:Type}
def M5 (x:Int):Prop:=-9223372036854775808<=x/\x<=9223372036854775807
variable {P:Program} {tI tE aD aC tG:TypeId}
theorem zwi {n:Nat} (hI:P.underlying tI=some (.int .i64)) {d:DataW H} {cs:List AV} (h:Dx P (n+1) tI d=some cs):∃ x,cs=[.I x]/\M5 x:=by
 cases d<;>simp[Dx,hI] at h
 rename_i l
 cases l<;>simp at h
 obtain⟨⟨rfl,hw⟩,rfl⟩:=h;refine⟨_,rfl,?_⟩;unfold M5
 simpa [Lit.wf,IntKind.min,IntKind.max,IntKind.signed,IntKind.bits] using hw
theorem RM {α:Type} {f:DataW H->Option (List AV)} (Q:α->List AV):∀ {ds:List (DataW H)} {rows:List (List AV)},(∀ d row,f d=some row -> ∃ a,row=Q a)->ds.mapM f=some rows -> ∃ l:List α,rows=l.map Q
 | [],rows,_,h=>by simp at h;subst h;exact⟨[],rfl⟩
 | d::ds,rows,hf,h=>by
   simp only[Vl] at h
   cases h1:f d with
   | none=>simp[h1] at h
   | some row =>
     cases h2:ds.mapM f with
     | none=>simp[h1,h2] at h
     | some rows' =>
       simp[h1,h2] at h;subst h;obtain⟨a,rfl⟩:=hf d row h1;obtain⟨l,rfl⟩:=RM Q hf h2;exact⟨a::l,rfl⟩
theorem aL {α:Type} {n:Nat} {t e:TypeId} (ht:P.underlying t=some (.slice e)) (Q:α->List AV) (hf:∀ (d:DataW H) row,Dx P n e d=some row -> ∃ a,row=Q a) {d:DataW H} {cs:List AV} (h:Dx P (n+1) t d=some cs) :
  ∃ (l:List α) (x:AV),cs=[x]/\Wk x (.vs (P.cellsOf e) false (l.map Q)):=by
 cases d<;>simp[Dx,ht] at h
 .subst h;exact⟨[],_,rfl,.nil _ _⟩
 .obtain ⟨_,rows,h,rfl⟩:=h
  obtain⟨l,rfl⟩:=RM Q hf h;exact⟨l,_,rfl,.refl _⟩
end
theorem OH:ownKnob Tryz.prog.godebug=none:=by kernel_rfl
theorem ZC:laidOutB Tryz.prog=true:=by kernel_rfl
section
variable {H:Type} {P:Program} {tI aC:TypeId}
theorem n8 {n:Nat} (hI:P.underlying tI=some (.int .i64)) (h0:P.underlying aC=some (.slice tI)) (cI:P.cellsOf tI=1) {d:DataW H} {x:AV} (h:FD P (n+2) aC d=some x):∃ l:List Int,Wk x (AA l):=by
 simp only[FD,h0,Ul] at h;obtain⟨cs,h1,h2⟩:=h;obtain⟨l,y,rfl,hw⟩:=aL h0 (λ x:Int=>[AV.I x]) (λ d row h=>by obtain⟨x,h,_⟩:=zwi hI h;exact⟨x,h⟩) h1
 rw[cI] at hw;simp at h2;subst h2;exact⟨l,hw⟩
end
theorem Zw {H:Type} {P:Program} {n:Nat} {a b c:TypeId} {ds:List (DataW H)} {xs:List AV} (h:IX P n [a,b,c] ds=some xs):∃ (d1 d2 d3:DataW H) (x1 x2 x3:AV),ds=[d1,d2,d3]/\xs=[x1,x2,x3]/\FD P n a d1=some x1/\FD P n b d2=some x2/\FD P n c d3=some x3:=by
 match ds,h with
 | [],h=>cases h
 | [_],h=>simp only[IX] at h;split at h<;>simp_all
 | [_,_],h=>simp only[IX] at h;split at h<;>simp_all
 | _::_::_::_::_,h=>simp only[IX] at h;split at h<;>simp_all
 | [d1,d2,d3],h =>
   simp only[IX] at h
   cases h1:FD P n a d1 with
   | none=>simp[h1] at h
   | some x1 =>
     cases h2:FD P n b d2 with
     | none=>simp[h1,h2] at h
     | some x2 =>
       cases h3:FD P n c d3 with
       | none=>simp[h1,h2,h3] at h
       | some x3 =>
         simp[h1,h2,h3] at h;exact⟨d1,d2,d3,x1,x2,x3,rfl,h.symm,h1,h2,h3⟩
theorem Y6 {H:Type} {P:Program} {tI tA:TypeId} {n:Nat} (hI:P.underlying tI=some (.int .i64)) (hA:P.underlying tA=some (.array 2 tI)) {d:DataW H} {x:AV} (h:FD P (n+2) tA d=some x):∃ a b:Int,x = .agg [.I a,.I b]/\M5 a/\M5 b:=by
 obtain⟨k,hk⟩:=AG (n+1);rw[show n+2=k+1 by omega] at h
 simp only[FD,hA,Qw] at h;obtain⟨cs,h1,rfl⟩:=h
 cases d<;>simp[Dx,hA] at h1
 rename_i ds;obtain⟨hl,l,h1,rfl⟩:=h1
 match ds,hl with
 | [d1,d2],_ =>
   simp only[Vl,List.mapM_nil] at h1
   cases h2:Dx P k tI d1 with
   | none=>simp[h2] at h1
   | some c1 =>
     cases h3:Dx P k tI d2 with
     | none=>simp[h2,h3] at h1
     | some c2 =>
       simp[h2,h3] at h1;subst h1 hk;obtain⟨a,rfl,fa⟩:=zwi hI h2;obtain⟨b,rfl,fb⟩:=zwi hI h3;exact⟨a,b,by simp,fa,fb⟩
def Zy:D4:=⟨26,[(4,none)],
 (sr [oo 4 .mv [.c (.bool false)]]
 (.seq (.seq
 (rg [ma 6 0,oo 7 .len [.t 6],ma 8 1,oo 9 .len [.t 8],oo 10 (.bin .neq) [.t 7,.t 9]])
 (.cond (.t 10)
 (sr [oo 4 .mv [.c (.bool false)]]
 .ret)
 .skip))
 (.seq (.seq
 (rg [oo 5 .mv [ki 0]])
 (.block 0 (.loop
 (.seq (.seq
 (rg [ma 11 5,ma 12 0,oo 13 .len [.t 12],oo 14 (.bin .lss) [.t 11,.t 13]])
 (.cond (.t 14)
 .skip
 (.exit 0)))
 (.seq (.block 1 (.seq (.reg true [ma 17 0,ma 18 5,oo 19 (.iad 6) [.t 17,.t 18],oo 20 (.ld true 6) [.t 19],ma 21 1,ma 22 5,oo 23 (.iad 6) [.t 21,.t 22],oo 24 (.ld true 6) [.t 23],oo 25 (.aeq true [0,0,0,0,0,1]) [.t 20,.t 24]] [[],[],[0,1],[2],[],[],[4,5],[6],[3,7]])
 (.cond (.t 25)
 (sr [oo 4 .mv [.c (.bool false)]]
 .ret)
 .skip)))
 (rg [ma 15 5,oo 16 (.bin .add) [.t 15,ki 1],ma 5 16]))))))
 (sr [oo 4 .mv [.c (.bool true)]]
 .ret))))⟩
def qU:SC 3:=AT Tryz.f3
def kJ:SC 9:=AT Tryz.f9
def wJ:SC 12:=AT Tryz.f12
def PI:SC 14:=AT Tryz.f14
def zge:SC 15:=AT Tryz.f15
theorem c5:Src Tryz.prog 18 Zy:=bF Tryz.f18
def iT:SC 19:=AT Tryz.f19
def pX:SC 21:=AT Tryz.f21
def mQ:SC 25:=AT Tryz.f25
def rA:SC 27:=AT Tryz.f27
def vL:SC 28:=AT Tryz.f28
def vC:SC 32:=AT Tryz.f32
def Wj:SC 36:=AT Tryz.f36
def mM:SC 40:=AT Tryz.f40
def nY:SC 42:=AT Tryz.f42
def rS:SC 43:=AT Tryz.f43
def ZQ:SC 45:=AT Tryz.f45
def oV:SC 46:=AT Tryz.f46
def dJ:SC 47:=AT Tryz.f47
def vR:SC 48:=AT Tryz.f48
def bX:SC 49:=AT Tryz.f49
def sA:SC 50:=AT Tryz.f50
def rB:SC 52:=AT Tryz.f52
def sD:SC 53:=AT Tryz.f53
def fV:SC 54:=AT Tryz.f54
def gH:SC 55:=AT Tryz.f55
def k7:SC 60:=AT Tryz.f60
def kL:SC 61:=AT Tryz.f61
def lG:SC 62:=AT Tryz.f62
def sP:SC 63:=AT Tryz.f63
def t8:SC 64:=AT Tryz.f64
def cM:SC 65:=AT Tryz.f65
def gB:SC 66:=AT Tryz.f66
def vW:SC 67:=AT Tryz.f67
def jR:SC 70:=AT Tryz.f70
def Y5:SC 71:=AT Tryz.f71
def YU:SC 72:=AT Tryz.f72
def qA:SC 73:=AT Tryz.f73
def uE:SC 74:=AT Tryz.f74
def j9:SC 84:=AT Tryz.f84
def kZ:SC 85:=AT Tryz.f85
def Y3:SC 86:=AT Tryz.f86
def lE:SC 87:=AT Tryz.f87
def pY:SC 91:=AT Tryz.f91
def Zt:SC 92:=AT Tryz.f92
def dQ:SC 93:=AT Tryz.f93
def ZN:SC 95:=AT Tryz.f95
def uR:SC 96:=AT Tryz.f96
def uF:SC 97:=AT Tryz.f97
def gY:SC 98:=AT Tryz.f98
def Yl:SC 99:=AT Tryz.f99
def YQ:SC 100:=AT Tryz.f100
def qL:SC 101:=AT Tryz.f101
def jD:SC 102:=AT Tryz.f102
def kB:SC 103:=AT Tryz.f103
def nE:SC 104:=AT Tryz.f104
def d9:SC 105:=AT Tryz.f105
def gJ:SC 106:=AT Tryz.f106
def wM:SC 110:=AT Tryz.f110
def lF:SC 111:=AT Tryz.f111
def mY:SC 115:=AT Tryz.f115
def Zp:SC 116:=AT Tryz.f116
def Yx:SC 117:=AT Tryz.f117
def nI:SC 118:=AT Tryz.f118
def uZ:SC 121:=AT Tryz.f121
def fU:SC 122:=AT Tryz.f122
def vY:SC 123:=AT Tryz.f123
def lU:SC 124:=AT Tryz.f124
def aJ:SC 125:=AT Tryz.f125
def rT:SC 132:=AT Tryz.f132
def pZ:SC 133:=AT Tryz.f133
def mI:SC 135:=AT Tryz.f135
def sM:SC 136:=AT Tryz.f136
def c6:SC 137:=AT Tryz.f137
def YP:SC 138:=AT Tryz.f138
def cP:SC 139:=AT Tryz.f139
def Zk:SC 140:=AT Tryz.f140
def sG:SC 141:=AT Tryz.f141
def zeJ:SC 142:=AT Tryz.f142
def gP:SC 143:=AT Tryz.f143
def sL:SC 156:=AT Tryz.f156
def Yu:SC 157:=AT Tryz.f157
def qO:SC 158:=AT Tryz.f158
def ZF:SC 159:=AT Tryz.f159
def g9:SC 160:=AT Tryz.f160
def jA:SC 161:=AT Tryz.f161
def iC:SC 162:=AT Tryz.f162
def xB:SC 163:=AT Tryz.f163
def kU:SC 164:=AT Tryz.f164
def vI:SC 168:=AT Tryz.f168
def mX:SC 171:=AT Tryz.f171
def fX:SC 173:=AT Tryz.f173
def oG:SC 175:=AT Tryz.f175
def lH:SC 176:=AT Tryz.f176
def Z8:SC 177:=AT Tryz.f177
def wN:SC 178:=AT Tryz.f178
def uA:SC 179:=AT Tryz.f179
def j7:SC 185:=AT Tryz.f185
def nN:SC 186:=AT Tryz.f186
def gW:SC 197:=AT Tryz.f197
def wQ:SC 199:=AT Tryz.f199
def T7:SC 200:=AT Tryz.f200
def kM:SC 201:=AT Tryz.f201
def fY:SC 202:=AT Tryz.f202
def tN:SC 209:=AT Tryz.f209
def SZ:SC 210:=AT Tryz.f210
def rP:SC 211:=AT Tryz.f211
def eA:SC 212:=AT Tryz.f212
def mR:SC 213:=AT Tryz.f213
def mH:SC 214:=AT Tryz.f214
def b8:SC 219:=AT Tryz.f219
def ZH:SC 220:=AT Tryz.f220
def VH:SC 221:=AT Tryz.f221
def zcz:SC 222:=AT Tryz.f222
def qK:SC 223:=AT Tryz.f223
def jC:SC 224:=AT Tryz.f224
def fS:SC 227:=AT Tryz.f227
def jL:SC 228:=AT Tryz.f228
def jJ:SC 229:=AT Tryz.f229
end Go.Proofs.YtkngdgplbojdlaaGreat
namespace Go.Proofs.YtkngdgplbojdlaaGreat
open Go
theorem Cz {α β:Type} (f:α->β) (l:List α):List.take l.length (List.map f l)=List.map f l:=Qb (by simp)
def Eb:Gr:=⟨0,[],[]⟩
def I8 (g:Gr) (e:Ed):Gr:=⟨g.size,g.edges.take (Bp g.edges ⟨e.f,e.t,0⟩)++e::g.edges.drop (Bp g.edges ⟨e.f,e.t,0⟩),g.gone⟩
open Classical in
def ET (g:Gr) (e:Ed):Gr × Int :=
 if ¬ AI g then (Eb,14) else if ¬ BO g e then (Eb,4) else if ¬ (1<=e.v/\e.v<=3) then (Eb,2)
 else if Hh g.edges (Bp g.edges ⟨e.f,e.t,0⟩) e.f e.t then (Eb,19) else if g.edges.length=500 then (Eb,3) else (I8 g e,0)
open Classical in
theorem kY (g:Gr) (e:Ed) (hl:g.edges.length*24<=140737488355328) (h9:g.gone.length*8<=140737488355328):AcP 34 [eG g,eE e] [] (.tup [eG (ET g e).1,.I (ET g e).2]) []:=by
 refine qR.s.ai ?_;refine arc ⟨103,[(2,.pv (gC g)),(3,.pv (eC e)),(4,.pt 32 0 0)],[(32,some ⟨3,[[.I 0,.nilS,.nilS]],0⟩)],40⟩ ?_ ?_
 .simp
  exact Le.var1 32 [16,24] rfl rfl (CL rfl) (by decide) rfl (by simp) (by simp) (by simp)
 refine AC (AC (Ag (s:=?s1) rfl ?o1 ?q1))
 case o1=>simp;refine Aq (So g (by omega) (by omega)) rfl ?_;simp;rfl
 refine AE _ rfl (λ h2=>?_) λ h2=>?_
 .have hg:¬ AI g:=by
   intro hg;simp[hg] at h2
  refine AC (AX ?_);refine BG ⟨.inr rfl,?_⟩;show AS [(4,some (true,3)),(5,none)] 0 _ _ _;refine AS.out (vs:=[.agg [.I 0,.nilS,.nilS],.I 14]) [] [] (by simp) (by simp) (by simp) ?_ (by simp)
  have hr:ET g e=(Eb,14):=by grind [ET]
  simp[hr,Eb];exact Db (FM (.refl _) (.nil _ _) (.nil _ _)) (.refl _)
 have hg:AI g:=by
  rcases Classical.em (AI g) with h | h
  .exact h
  .simp [h] at h2
 refine AJ (AC (Ag (s:=?s4) rfl ?o4 ?q4))
 case o4=>simp;refine Aq (sQ g _ _ (by omega)) rfl ?_;simp;rfl
 refine AC (AL (arc ⟨103,[(2,.pv (gC g)),(3,.pv (eC e)),(4,.pt 32 0 0),(6,.I (Bp g.edges ⟨e.f,e.t,0⟩)),(7,.B (decide (Hh g.edges (Bp g.edges ⟨e.f,e.t,0⟩) e.f e.t))),(22,.B (decide (¬ BO g e)))],[(32,some ⟨3,[[.I 0,.nilS,.nilS]],0⟩)],40⟩ ?_ ?_))
 .simp
  repeat' first
   | (refine EU 26 rfl ?_;refine Aq (I2 _ _ (by omega)) rfl ?_;simp)
   | (refine Dd (λ hb=>?_) (λ hb=>?_)<;>(try rw[hb])<;>(try simp at hb)<;>simp[*])
  all_goals exact Le.var1 32 [] rfl rfl (CL rfl) (by decide) rfl (by simp) (by simp) (by simp<;>exact Aw (by (try simp at *);grind [BO]))
 refine AE _ rfl (λ h5=>?_) λ h5=>?_
 .try simp at h5
  refine AC (AX ?_);refine BG ⟨.inr rfl,?_⟩;show AS [(4,some (true,3)),(5,none)] 0 _ _ _;refine AS.out (vs:=[.agg [.I 0,.nilS,.nilS],.I 4]) [] [] (by simp) (by simp) (by simp) ?_ (by simp)
  have hr:ET g e=(Eb,4):=by grind [ET]
  simp[hr,Eb];exact Db (FM (.refl _) (.nil _ _) (.nil _ _)) (.refl _)
 try simp at h5
 refine arc ⟨103,[(2,.pv (gC g)),(3,.pv (eC e)),(4,.pt 32 0 0),(6,.I (Bp g.edges ⟨e.f,e.t,0⟩)),(7,.B (decide (Hh g.edges (Bp g.edges ⟨e.f,e.t,0⟩) e.f e.t))),(67,.B (decide (¬ (1<=e.v/\e.v<=3))))],[(32,some ⟨3,[[.I 0,.nilS,.nilS]],0⟩)],40⟩ ?_ ?_
 .simp
  repeat' first
   | (refine Dd (λ hb=>?_) (λ hb=>?_)<;>(try rw[hb])<;>(try simp at hb)<;>simp[*])
  all_goals exact Le.var1 32 [] rfl rfl (CL rfl) (by decide) rfl (by simp) (by simp) (by simp<;>exact Aw (by (try simp at *);grind [BO]))
 refine AE _ rfl (λ h7=>?_) λ h7=>?_
 .try simp at h7
  refine AC (AX ?_);refine BG ⟨.inr rfl,?_⟩;show AS [(4,some (true,3)),(5,none)] 0 _ _ _;refine AS.out (vs:=[.agg [.I 0,.nilS,.nilS],.I 2]) [] [] (by simp) (by simp) (by simp) ?_ (by simp)
  have hr:ET g e=(Eb,2):=by grind [ET]
  simp[hr,Eb];exact Db (FM (.refl _) (.nil _ _) (.nil _ _)) (.refl _)
 try simp at h7
 refine AC (AX ?_);refine AE _ rfl (λ h0=>?_) λ h0=>?_
 .try simp at h0
  refine AC (AX ?_);refine BG ⟨.inr rfl,?_⟩;show AS [(4,some (true,3)),(5,none)] 0 _ _ _;refine AS.out (vs:=[.agg [.I 0,.nilS,.nilS],.I 19]) [] [] (by simp) (by simp) (by simp) ?_ (by simp)
  have hr:ET g e=(Eb,19):=by grind [ET]
  simp[hr,Eb];exact Db (FM (.refl _) (.nil _ _) (.nil _ _)) (.refl _)
 try simp at h0
 refine AC (AX ?_);refine AE _ rfl (λ h1=>?_) λ h1=>?_
 .try simp at h1
  refine AC (AX ?_);refine BG ⟨.inr rfl,?_⟩;show AS [(4,some (true,3)),(5,none)] 0 _ _ _;refine AS.out (vs:=[.agg [.I 0,.nilS,.nilS],.I 3]) [] [] (by simp) (by simp) (by simp) ?_ (by simp)
  have hr:ET g e=(Eb,3):=by grind [ET]
  simp[hr,Eb];exact Db (FM (.refl _) (.nil _ _) (.nil _ _)) (.refl _)
 try simp at h1
 refine AJ ?_;have h4:=zwW g.edges ⟨e.f,e.t,0⟩;refine AC (Ag (s:=?s20) rfl ?o20 ?q20)
 case o20=>simp;refine NJ (zh2 g hl h9) rfl ?_;simp[AB];rfl
 have hd:g.edges.length<=500:=hg.1.2.2.1;have h6:min (Bp g.edges ⟨e.f,e.t,0⟩) g.edges.length=Bp g.edges ⟨e.f,e.t,0⟩:=Nat.min_eq_left h4;have hr:ET g e=(I8 g e,0):=by grind [ET]
 rw[hr];unfold I8;generalize Bp g.edges ⟨e.f,e.t,0⟩=k at *;have ha:List.take (k+1) (List.take k (List.map (λ e:Ed=>[AV.I e.f,AV.I e.t,AV.I e.v]) g.edges)++[[AV.I e.f,AV.I e.t,AV.I e.v]])=List.take k (List.map (λ e:Ed=>[AV.I e.f,AV.I e.t,AV.I e.v]) g.edges)++[[AV.I e.f,AV.I e.t,AV.I e.v]]:=Qb (by simp;exact Nat.min_le_left _ _)
 obtain⟨E,hE⟩:=AG (g.edges.take k++e::g.edges.drop k);have hc:k+1+(g.edges.length - k)=E.length:=by subst hE;simp;omega
 have h3:List.take k (List.map (λ e:Ed=>[AV.I e.f,AV.I e.t,AV.I e.v]) g.edges)++[AV.I e.f,AV.I e.t,AV.I e.v]::List.drop k (List.map (λ e:Ed=>[AV.I e.f,AV.I e.t,AV.I e.v]) g.edges)=E.map λ e:Ed=>[AV.I e.f,AV.I e.t,AV.I e.v]:=by subst hE;simp[List.map_take,Vb]
 rw[<- hE];refine AC (JE (s:=?s15) (tr:=?t15) rfl ?o15 ?r15 ?q15)
 case o15 =>
  simp[h6,h4,ha,hc,h3]
  repeat' apply And.intro
  all_goals first | omega | rfl
 case r15=>rfl
 refine AC (AX ?_);refine BG ⟨.inr rfl,?_⟩;show AS [(4,some (true,3)),(5,none)] 0 _ _ _;refine AS.out (vs:=[.agg [.I g.size,.rs 224 0 E.length,.rs 105 0 g.gone.length],.I 0]) [] [224,105] (by simp) (by simp) (by simp) ?_ (by simp)
 simp[AB,Cz]
end Go.Proofs.YtkngdgplbojdlaaGreat
namespace Go.Proofs
open Go.Shelf
def Tryz.lays189_ren:Go.Shelf.Ren:=⟨fun | 189=>130 | 125=>113 | 257=>167 | 128=>154 | 129=>155 | 294=>188 | 295=>189 | 296=>190 | 297=>191 | 298=>192 | 299=>193 | 216=>194 | 300=>195 | 301=>196 | 328=>205 | 329=>181 | 330=>182 | 331=>206 | 332=>207 | 215=>114 | 343=>218 | n=>n,fun | 28=>22 | 3=>3 | 46=>134 | 0=>0 | 51=>175 | 53=>158 | 4=>4 | 183=>169 | 182=>168 | 131=>100 | 5=>5 | 9=>9 | 218=>198 | 222=>202 | 228=>214 | 229=>183 | n=>n,fun | n=>n⟩
theorem Tryz.lays189:Go.Proofs.Lays.n189 Tryz.prog Tryz.lays189_ren:={
 mixed:=by kernel_rfl
 f125:=Tryz.func113.trans (congrArg some (by kernel_rfl))
 f128:=Tryz.func154.trans (congrArg some (by kernel_rfl))
 f129:=Tryz.func155.trans (congrArg some (by kernel_rfl))
 f189:=Tryz.func130.trans (congrArg some (by kernel_rfl))
 f215:=Tryz.func114.trans (congrArg some (by kernel_rfl))
 f216:=Tryz.func194.trans (congrArg some (by kernel_rfl))
 f257:=Tryz.func167.trans (congrArg some (by kernel_rfl))
 f294:=Tryz.func188.trans (congrArg some (by kernel_rfl))
 f295:=Tryz.func189.trans (congrArg some (by kernel_rfl))
 f296:=Tryz.func190.trans (congrArg some (by kernel_rfl))
 f297:=Tryz.func191.trans (congrArg some (by kernel_rfl))
 f298:=Tryz.func192.trans (congrArg some (by kernel_rfl))
 f299:=Tryz.func193.trans (congrArg some (by kernel_rfl))
 f300:=Tryz.func195.trans (congrArg some (by kernel_rfl))
 f301:=Tryz.func196.trans (congrArg some (by kernel_rfl))
 f328:=Tryz.func205.trans (congrArg some (by kernel_rfl))
 f329:=Tryz.func181.trans (congrArg some (by kernel_rfl))
 f330:=Tryz.func182.trans (congrArg some (by kernel_rfl))
 f331:=Tryz.func206.trans (congrArg some (by kernel_rfl))
 f332:=Tryz.func207.trans (congrArg some (by kernel_rfl))
 f343:=Tryz.func218.trans (congrArg some (by kernel_rfl))
 t0:=Tryz.underlying0
 a0:=Tryz.isAgg0
 z0:=Tryz.sizeOf0
 v0:=Tryz.zeroValue0
 t3:=Tryz.underlying3
 a3:=Tryz.isAgg3
 z3:=Tryz.sizeOf3
 v3:=Tryz.zeroValue3
 t4:=Tryz.underlying4
 a4:=Tryz.isAgg4
 z4:=Tryz.sizeOf4
 v4:=Tryz.zeroValue4
 t5:=Tryz.underlying5
 a5:=Tryz.isAgg5
 z5:=Tryz.sizeOf5
 v5:=Tryz.zeroValue5
 t9:=Tryz.underlying9
 a9:=Tryz.isAgg9
 z9:=Tryz.sizeOf9
 v9:=Tryz.zeroValue9
 t28:=Tryz.underlying22
 a28:=Tryz.isAgg22
 z28:=Tryz.sizeOf22
 v28:=Tryz.zeroValue22
 t46:=Tryz.underlying134
 a46:=Tryz.isAgg134
 z46:=Tryz.sizeOf134
 v46:=Tryz.zeroValue134
 t51:=Tryz.underlying175
 a51:=Tryz.isAgg175
 z51:=Tryz.sizeOf175
 v51:=Tryz.zeroValue175
 t53:=Tryz.underlying158
 a53:=Tryz.isAgg158
 z53:=Tryz.sizeOf158
 v53:=Tryz.zeroValue158
 t131:=Tryz.underlying100
 a131:=Tryz.isAgg100
 z131:=Tryz.sizeOf100
 v131:=Tryz.zeroValue100
 t182:=Tryz.underlying168
 a182:=Tryz.isAgg168
 z182:=Tryz.sizeOf168
 v182:=Tryz.zeroValue168
 t183:=Tryz.underlying169
 a183:=Tryz.isAgg169
 z183:=Tryz.sizeOf169
 v183:=Tryz.zeroValue169
 t218:=Tryz.underlying198
 a218:=Tryz.isAgg198
 z218:=Tryz.sizeOf198
 v218:=Tryz.zeroValue198
 t222:=Tryz.underlying202
 a222:=Tryz.isAgg202
 z222:=Tryz.sizeOf202
 v222:=Tryz.zeroValue202
 t228:=Tryz.underlying214
 a228:=Tryz.isAgg214
 z228:=Tryz.sizeOf214
 v228:=Tryz.zeroValue214
 t229:=Tryz.underlying183
 a229:=Tryz.isAgg183
 z229:=Tryz.sizeOf183
 v229:=Tryz.zeroValue183 }
end Go.Proofs
namespace Go.Proofs.YtkngdgplbojdlaaGreat
open Go
def D5 (l:List Int):List (List AV):=l.map λ n=>[AV.I n]
theorem Src.body {P:Program} {f:FuncId} {af:D4} (s:Src P f af):∃ fn c,P.funcs[f]? = some fn/\fn.body=some c/\fn.name ≠ "runtime.NumGoroutine":=by
 obtain⟨_,fn,hf,hc,hn⟩:=s;unfold Jg at hc
 cases hb:fn.body with
 | none=>rw[hb] at hc;cases hc
 | some c=>exact⟨fn,c,hf,hb,hn⟩
theorem Zg (zs:List Int) (h0:zs≠[]) (hl:zs.length<4611686018427387904) :
  AcP 130 [.rs 0 0 zs.length] [{ s:=1,rows:=D5 zs }] (.tup []) ([{ s:=1,rows:=D5 (zs.mergeSort λ x y=>decide (x<=y)) }].map some):=by
 refine⟨zdB.s.body,by simp,λ T M w vs a2 b1 a3 a4=>?_⟩
 have bo:0<zs.length:=Uy.2 h0;obtain⟨b2,hr⟩:=a4;have hx:=hr 0 (by simp)
 simp only[US] at hx
 have b3:vs = #[vs.getD 0 undef]:=by
  apply Array.ext
  .simpa using b2
  .intro i h1 h2
   have:i=0:=by simp at h2;omega
   subst this;simp[Array.getD,h1]
 rw[b3];generalize vs.getD 0 undef=v at hx
 cases hx with
 | rs _ _ _ _ cap a g hg bt c3 hn hb =>
 obtain⟨g',a5,ent⟩:=b1.ent 0 _ rfl;rw[hg] at a5;obtain rfl:=Qf a5;have b4:(D5 zs).length=zs.length:=by simp[D5]
 cases h7:g.blk with
 | none =>
   have:=ent.none h7;simp[D5] at this;exact absurd this h0
 | some b =>
 obtain⟨a6,c0,t0,f0,c4,bs⟩:=hb b h7;obtain⟨cells,ty,hw,b5,a7,hy⟩:=ent.blk (UR 0) b h7
 have ha:a=some ⟨b,g.base+0*g.s,none⟩:=by
  rcases a6 with h | h
  .omega
  .exact h
 subst ha;simp only[Nat.zero_mul,Ua] at *
 have hf:∀ i,(hi:i<zs.length)->cells[g.base+i]? = some (.int .i64 zs[i]):=by
  intro i hi;obtain⟨u,hu,_,a8⟩:=hy i 0 (by rw[b4];exact hi) (by decide)
  simp only[Nat.mul_one,Ua] at hu;rw[hu];have:((D5 zs).getD i []).getD 0 .dead = .I zs[i]:=by simp[D5,List.getD,hi]
  rw[this] at a8
  cases a8;rfl
 have a9:b<w.heap.size:=(QQ.1 hw).1;refine(Any.slices_Sort_int Tryz.lays189 b g.base cap zs w ?_ a9 hl).mono ?_
 .intro j hj
  have hq:j<zs.length:=by simpa using hj
  constructor
  .show w.cell? _=_
   unfold World.cell?;simp only[hw];rw[hf j hq];simp[hq]
  .unfold World.frozen?
   simp only[hw];simp
 .rintro e w' ⟨rfl,n,os,rfl⟩
  have ad:(zs.mergeSort λ x y=>decide (x<=y)).length=zs.length:=List.length_mergeSort zs;generalize (zs.mergeSort λ x y=>decide (x<=y))=ys at ad
  have hh:∀ b',b'<w.heap.size->(Go.Sort.grow (Go.Sort.putRow (Value.int .i64) (Go.Sort.ahead w n) b g.base ys.toArray) os).heap[b']? = if b'=b then some (.cells (Go.Sort.putCells (Value.int .i64) g.base ys.toArray cells) ty (0,0)) else w.heap[b']?:=by
   intro b' h9;have ag:(w.heap.modify b (Go.Sort.onCells (Go.Sort.putCells (Value.int .i64) g.base ys.toArray))).size=w.heap.size:=Array.size_modify;show ((w.heap.modify b (Go.Sort.onCells (Go.Sort.putCells (Value.int .i64) g.base ys.toArray)))++os)[b']? = _;rw[Uc (by rw[ag];exact h9),Array.getElem?_modify]
   by_cases hd:b=b'
   .subst hd
    rw[if_pos rfl,if_pos rfl,hw];rfl
   .rw [if_neg hd,if_neg (Ne.symm hd)]
  have ai:∀ o,(o<g.base∨g.base+ys.length<=o)->(Go.Sort.putCells (Value.int .i64) g.base ys.toArray cells)[o]? = cells[o]?:=by
   intro o ho;unfold Go.Sort.putCells;rw[Array.getElem?_mapIdx]
   cases hc:cells[o]? with
   | none=>rfl
   | some u =>
     simp only[Q8];rw[if_neg];simp;omega
  have a0:∀ i,(hi:i<ys.length)->(Go.Sort.putCells (Value.int .i64) g.base ys.toArray cells)[g.base+i]? = some (.int .i64 ys[i]):=by
   intro i hi;unfold Go.Sort.putCells;rw[Array.getElem?_mapIdx,hf i (by omega)]
   simp only[Q8];rw[if_pos (by simp;omega)]
   simp[hi]
  have am:(Go.Sort.putCells (Value.int .i64) g.base ys.toArray cells).size=cells.size:=by
   unfold Go.Sort.putCells;exact Array.size_mapIdx
  have hv:w.heap.size<=(Go.Sort.grow (Go.Sort.putRow (Value.int .i64) (Go.Sort.ahead w n) b g.base ys.toArray) os).heap.size:=by
   show w.heap.size<=((w.heap.modify b _)++os).size;rw[UM,Array.size_modify];omega
  have an:T b<=g.base:=by simpa using b5
  generalize a1:(Go.Sort.grow (Go.Sort.putRow (Value.int .i64) (Go.Sort.ahead w n) b g.base ys.toArray) os)=w' at hh hv;have b6:∀ b' o,w.heap[b']? = some o->b'<w.heap.size:=λ b' o h=>(QQ.1 h).1
  have au:Au T w T w':=by
   refine⟨λ _=>Qk _,λ b' cs' ty' fz' h=>?_⟩;rw[hh b' (b6 _ _ h)]
   by_cases hd:b'=b
   .subst hd
    rw[hw] at h
    cases h;exact⟨_,_,if_pos rfl,am,λ o ho=>ai o (.inl (by omega))⟩
   .exact ⟨cs',fz',by rw[if_neg hd];exact h,rfl,λ _ _=>rfl⟩
  rw[MK];refine⟨_,T,M,rfl,.tup M [] #[] rfl (λ i hi=>by simp at hi),⟨λ id e he=>?_,λ id id' e e' g1 g2 b' h1 h2 h3 h4 h5 h6=>?_⟩,⟨λ b' h9=>?_,λ _ _ _=>rfl,λ _ _=>rfl,?_,?_,?_,hv,λ b' h9 bf=>?_,au,λ k g1 b' hk av _=>?_⟩⟩
  .have hid:id=0:=by
    cases id with
    | zero=>rfl
    | succ k=>simp[Cs] at he
   subst hid;simp only[Cs,List.getElem?_cons_zero,Qt] at he;subst he;refine⟨g,hg,⟨ent.s,Qh _,λ _ row hr=>?_,λ hn=>(by rw[h7] at hn;cases hn),λ hz=>absurd hz (UR 0),λ _ b' h9=>?_⟩⟩
   .simp [D5] at hr
    obtain⟨x,_,rfl⟩:=hr;rfl
   .rw [h7] at h9
    obtain rfl:=Qf h9;refine⟨_,ty,by rw[hh _ a9,if_pos rfl],by simpa using an,by simp[D5,am,ad];simpa [D5] using a7,λ i j hi hj=>?_⟩
    have hi':i<ys.length:=by simpa [D5] using hi
    have hq:j=0:=by simp at hj;omega
    subst hq;refine⟨.int .i64 ys[i],by simpa using a0 i hi',rfl,?_⟩
    have:((D5 ys).getD i []).getD 0 .dead = .I ys[i]:=by simp[D5,List.getD,hi']
    rw[this];exact .sc _ _ rfl
  .have h0:∀ id e,Cs [({ s:=1,rows:=D5 ys }:AQ)] id=some e->id=0:=by
    intro id e he
    cases id with
    | zero=>rfl
    | succ k=>simp[Cs] at he
   rw[h0 _ _ h1,h0 _ _ h2]
  .obtain ⟨c1,ty1,fz1,h1,h2⟩:=a2 b' h9
   obtain⟨c2,fz2,h3,h4,_⟩:=au.cell b' c1 ty1 fz1 h1;exact⟨c2,ty1,fz2,h3,by omega⟩
  .rw [<- a1];rfl
  .rw [<- a1];rfl
  .rw [<- a1];rfl
  .rw [hh b' h9,if_neg]
   intro hd;exact bf ⟨0,g,by simp,hg,by rw[h7,hd]⟩
  .rw [a3 k hk] at av
   cases av
theorem GW.refl {n:Nat} {T:Nat->Nat} {M:GM} {w:World} (h0:Hw T w) (h1:∀ k,n<=k->M k=none):GW n T M w T M w :=
 ⟨h0,λ _ _ _=>rfl,λ _ _=>rfl,rfl,rfl,rfl,Qk _,λ _ _ _=>rfl,⟨λ _=>Qk _,λ _ cells _ fz h=>⟨cells,fz,h,rfl,λ _ _=>rfl⟩⟩,λ k g b hk h=>by rw[h1 k hk] at h;cases h⟩
theorem LA {vs:Array Value} (h:vs.size=1):vs = #[vs.getD 0 undef]:=by
 apply Array.ext
 .simpa using h
 .intro i h1 h2
  have:i=0:=by simp at h2;omega
  subst this;simp[Array.getD,h1]
theorem zr7 (zs:List Int) (hl:zs.length<4611686018427387904) :
  AcP 130 [.rs 0 0 zs.length] [{ s:=1,rows:=D5 zs }] (.tup []) ([{ s:=1,rows:=D5 (zs.mergeSort λ x y=>decide (x<=y)) }].map some):=by
 by_cases h0:zs=[]
 .subst h0
  refine⟨zdB.s.body,by simp,λ T M w vs h2 h5 h3 h4=>?_⟩
  obtain⟨h6,hr⟩:=h4;have h1:=hr 0 (by simp)
  simp only[US] at h1;rw[LA h6];generalize vs.getD 0 undef=v at h1
  cases h1 with
  | rs _ _ _ _ cap a g hg h7 h9 hn hb =>
  refine(Any.slices_Sort_int_none Tryz.lays189 a cap w).mono ?_
  rintro e w' ⟨rfl,rfl⟩
  exact⟨_,T,M,rfl,.tup M [] #[] rfl (λ i hi=>by simp at hi),by rw[MK];simpa using h5,GW.refl h2 h3⟩
 .exact Zg zs h0 hl
def A7 (l:List Ed) (key:Int):List Int:=l.filterMap λ e=>if e.f=key then some e.t else none
theorem Sn (l:List Ed) (key:Int) (k:Nat) (h:k<l.length):A7 (l.take (k+1)) key=A7 (l.take k) key++if l[k].f=key then [l[k].t] else []:=by
 unfold A7;rw[<- UN h,UD,List.filterMap_append]
 congr 1
 by_cases hc:l[k].f=key<;>simp[hc]
theorem PM (l:List Ed) (key:Int):(A7 l key).length<=l.length:=List.length_filterMap_le _ _
theorem Vw (g:Gr) (key:Int) (hl:g.edges.length<=1099511627776):AcP 81 [eG g,.I key] [] (.rs 0 0 (A7 g.edges key).length) [some ⟨1,((A7 g.edges key).mergeSort λ x y=>decide (x<=y)).map λ n=>[AV.I n],0⟩]:=by
 refine kT.s.ai ?_;refine AC (AX ?_);refine AC (AX ?_);refine AC (AC (AX ?_));refine AL (Ae (ι:=Nat) (λ k=>⟨28,[(1,.I key),(5,.rs 16 0 (A7 (g.edges.take k) key).length),(9,CB g.edges),(10,.I g.edges.length),(11,.I k)],[(16,some ⟨1,(A7 (g.edges.take k) key).map λ n=>[AV.I n],0⟩)],24⟩) (λ k=>k<=g.edges.length) (λ k=>g.edges.length - k) (0) ?_ (Le.lst [] [] [(16,1)] rfl (by simp) (by simp) (by simp) (by simp) (by simp) (by simp) (by simp) (by simp[Up,A7]) (by simp[A7])) ?_)
 .simp
 rintro k hk
 have h3:(A7 (g.edges.take k) key).length<=k:=QH (PM _ _) (by simp;exact Nat.min_le_left _ _)
 refine AC (AX ?_);refine AC (AE _ rfl (λ h4=>?_) λ h4=>?_)
 .try simp at h4
  have h0:=w6 (x:=(k:Int)+1);have h5:0<k->IntKind.i64.wrap ((k:Int) - 1)=((k - 1:Nat):Int):=λ h=>by rw[w6];omega
  have h7:k - 1<g.edges.length:=by omega
  refine AJ (AC (AL (arc ⟨28,[(1,.I key),(5,.rs 16 0 (A7 (g.edges.take k) key).length),(7,.pv (eC g.edges[k])),(9,CB g.edges),(10,.I g.edges.length),(11,.I k)],[(16,some ⟨1,(A7 (g.edges.take k) key).map λ n=>[AV.I n],0⟩)],24⟩ ?_ ?_)))
  .simp [h4]
   exact Le.var1 16 [48] rfl rfl (CL rfl) (by decide) rfl (by simp[AB]) (by simp) (by simp)
  refine AC (AX ?_);refine AE _ rfl (λ h6=>?_) λ h6=>?_
  .try simp at h6
   refine Ag (s:=?s7) rfl ?o7 ?q7
   case o7 =>
    simp[List.replicate];refine⟨by omega,by omega,?_⟩
    rfl
   refine Ag (s:=?s8) rfl ?o8 ?q8
   case o8=>simp[h0];rfl
   have hs:=Sn g.edges key k h4;rw[if_pos h6] at hs;refine⟨k+1,h4,by omega,Le.ren1 88 16 [] rfl rfl (CL rfl) (by decide) rfl (by simp[hs,AB,Cz]) (by simp) (by simp[hs])⟩
  try simp at h6
  refine AJ (Ag (s:=?s9) rfl ?o9 ?q9)
  case o9=>simp[h0];rfl
  have hs:=Sn g.edges key k h4;rw[if_neg h6,QW] at hs;refine⟨k+1,h4,by omega,Le.var1 16 [] rfl rfl (CL rfl) (by decide) rfl (by simp[hs,AB]) (by simp) (by simp[hs])⟩
 try simp at h4
 have h1:k=g.edges.length:=by omega
 subst h1;have h2:=PM g.edges key;refine Aa (hit (AC (Ag (s:=?s10) rfl ?o10 ?q10)))
 case o10 =>
  simp;refine Cq (i:=16) rfl (e':=⟨1,D5 (A7 g.edges key),0⟩) (by simp[D5,AB]) (zr7 (A7 g.edges key) (by omega)) (by simp) (by simp) ?_
  simp[D5,AB];rfl
 refine AC (AX ?_);exact B7 [16] []
def CK (l:List Ed) (key:Int):List Int:=l.filterMap λ e=>if e.t=key then some e.f else none
theorem zpx (l:List Ed) (key:Int) (k:Nat) (h:k<l.length):CK (l.take (k+1)) key=CK (l.take k) key++if l[k].t=key then [l[k].f] else []:=by
 unfold CK;rw[<- UN h,UD,List.filterMap_append]
 congr 1
 by_cases hc:l[k].t=key<;>simp[hc]
theorem VK (l:List Ed) (key:Int):(CK l key).length<=l.length:=List.length_filterMap_le _ _
theorem eY (g:Gr) (key:Int) (hl:g.edges.length<=1099511627776):AcP 174 [eG g,.I key] [] (.rs 0 0 (CK g.edges key).length) [some ⟨1,((CK g.edges key).mergeSort λ x y=>decide (x<=y)).map λ n=>[AV.I n],0⟩]:=by
 refine oR.s.ai ?_;refine AC (AX ?_);refine AC (AX ?_);refine AC (AC (AX ?_));refine AL (Ae (ι:=Nat) (λ k=>⟨28,[(1,.I key),(5,.rs 16 0 (CK (g.edges.take k) key).length),(9,CB g.edges),(10,.I g.edges.length),(11,.I k)],[(16,some ⟨1,(CK (g.edges.take k) key).map λ n=>[AV.I n],0⟩)],24⟩) (λ k=>k<=g.edges.length) (λ k=>g.edges.length - k) (0) ?_ (Le.lst [] [] [(16,1)] rfl (by simp) (by simp) (by simp) (by simp) (by simp) (by simp) (by simp) (by simp[Up,CK]) (by simp[CK])) ?_)
 .simp
 rintro k hk
 have h7:(CK (g.edges.take k) key).length<=k:=QH (VK _ _) (by simp;exact Nat.min_le_left _ _)
 refine AC (AX ?_);refine AC (AE _ rfl (λ h4=>?_) λ h4=>?_)
 .try simp at h4
  have h0:=w6 (x:=(k:Int)+1);have h1:0<k->IntKind.i64.wrap ((k:Int) - 1)=((k - 1:Nat):Int):=λ h=>by rw[w6];omega
  have h2:k - 1<g.edges.length:=by omega
  refine AJ (AC (AL (arc ⟨28,[(1,.I key),(5,.rs 16 0 (CK (g.edges.take k) key).length),(7,.pv (eC g.edges[k])),(9,CB g.edges),(10,.I g.edges.length),(11,.I k)],[(16,some ⟨1,(CK (g.edges.take k) key).map λ n=>[AV.I n],0⟩)],24⟩ ?_ ?_)))
  .simp [h4,h0,h1,h2]
   exact Le.var1 16 [48] rfl rfl (CL rfl) (by decide) rfl (by simp[AB]) (by simp) (by simp[h4,h0,h1,h2])
  refine AC (Ag (s:=?s5) rfl ?o5 ?q5)
  case o5=>simp[h4,h0,h1,h2];rfl
  refine AE _ rfl (λ h6=>?_) λ h6=>?_
  .try simp at h6
   refine Ag (s:=?s7) rfl ?o7 ?q7
   case o7 =>
    simp[h4,h0,h1,h2,List.replicate];refine⟨by omega,by omega,?_⟩
    rfl
   refine Ag (s:=?s8) rfl ?o8 ?q8
   case o8=>simp[h4,h0,h1,h2];rfl
   have hs:=zpx g.edges key k h4;rw[if_pos h6] at hs;refine⟨k+1,h4,by omega,Le.ren1 88 16 [] rfl rfl (CL rfl) (by decide) rfl (by simp[hs,AB,Cz]) (by simp) (by simp[hs,h0])⟩
  try simp at h6
  refine AJ (Ag (s:=?s9) rfl ?o9 ?q9)
  case o9=>simp[h4,h0,h1,h2];rfl
  have hs:=zpx g.edges key k h4;rw[if_neg h6,QW] at hs;refine⟨k+1,h4,by omega,Le.var1 16 [] rfl rfl (CL rfl) (by decide) rfl (by simp[hs,AB,Cz]) (by simp) (by simp[hs,h0])⟩
 try simp at h4
 have h3:k=g.edges.length:=by omega
 subst h3;have h5:=VK g.edges key;refine Aa (hit (AC (Ag (s:=?s10) rfl ?o10 ?q10)))
 case o10 =>
  simp;refine Cq (i:=16) rfl (e':=⟨1,D5 (CK g.edges key),0⟩) (by simp[D5,AB]) (zr7 (CK g.edges key) (by omega)) (by simp) (by simp) ?_
  simp[D5,AB];rfl
 refine AC (AX ?_);exact B7 [16] []
@[simp] theorem x9 {ρ:List (Nat × Nat)} {sn:List Nat} {h:Nat->Option AQ} {n:Nat} {f:Fn} {a b:List AV}:conv ρ sn h (n+1) (.fn f a b) = .fn f (a.map (conv ρ sn h n)) (b.map (conv ρ sn h n)):=(rfl)
def Er (n m:Int):Int:=if m<1 then 0 else n % m
theorem uT {n m:Int} (hm:0<m):n.tmod m % m=n % m:=by
 have h:=Int.mul_tdiv_add_tmod n m
 conv=>rhs;rw[<- h]
 rw[Int.add_comm,Int.add_mul_emod_self_left]
theorem nJ {n m:Int} (hm:0<m) : -m<n.tmod m/\n.tmod m<m:=⟨Int.lt_tmod_of_pos n hm,Int.tmod_lt_of_pos n hm⟩
def An (L:List Int) (a:Nat) (n:Int):Int × Nat:=if h:a<L.length then (Er L[a] n,a+1) else (0,a)
abbrev As (L:List Int) (a:Nat):AQ:=⟨2,[[AA L,.I a]],0⟩
theorem AS.k1 {rs:List (Nat × Option (Bool × Nat))} {st:St} {vs:List AV} {res:AV} {e:AQ} (h1:Gn st rs=some vs) (hw:Wk (conv [(0,0)] [] st.hp 4 (EH vs)) res) (he:(st.hp 0).map (Ab [(0,0)] [] st.hp 4)=some e):AS rs 1 st res [some e] :=
 ⟨vs,h1,[],[],by decide,by simp,by simp,hw,by simpa using he⟩
theorem iX (L:List Int):AcP 8 [AA L] [] (.B (decide (L.length<=400))) []:=by
 refine sW.s.ai ?_;refine AC (AX ?_);refine arc ⟨6,[(2,.B (decide (L.length<=400)))],[],16⟩ ?_ ?_
 .simp
  exact A5 [] (by simp<;>exact Aw (by simp;omega))
 exact Bl
theorem Ry (n m:Int) (hm:m<=9223372036854775807):AcP 17 [.I n,.I m] [] (.I (Er n m)) []:=by
 refine cF.s.ai ?_;refine AC (AX ?_);refine AC (AC (AX ?_));refine AE _ rfl (λ h3=>?_) λ h3=>?_
 .try simp at h3
  refine AC (AX ?_);exact A9 (AS.one (by simp[Er,h3]))
 try simp at h3
 have h1:m≠0:=by omega
 have h0:¬ m<1:=by omega
 obtain⟨t1,t2⟩:=nJ (n:=n) (m:=m) (by omega)
 have te:=uT (n:=n) (m:=m) (by omega)
 refine AJ (AC (Ag (s:=?s5) rfl ?o5 ?q5))
 case o5=>simp[h1];rfl
 refine AC (AC (AX ?_));refine AE _ rfl (λ h7=>?_) λ h7=>?_
 .try simp at h7
  have hw:=w6 (x:=n.tmod m+m);have hr:n % m=n.tmod m+m:=by rw[<- te,<- Int.add_emod_right,Int.emod_eq_of_lt (by omega) (by omega)]
  refine Ag (s:=?s8) rfl ?o8 ?q8
  case o8=>simp[hw];rfl
  refine AC (AX ?_);exact A9 (AS.one (by simp[Er,h0,hr]))
 try simp at h7
 have hr:n % m=n.tmod m:=by rw[<- te,Int.emod_eq_of_lt (by omega) (by omega)]
 refine AJ (AC (AX ?_));exact A9 (AS.one (by simp[Er,h0,hr]))
theorem qV (L:List Int):AcP 10 [AA L] [] (.pt 0 0 0) [some (As L 0)]:=by
 refine iV.s.ai ?_;refine AC (AX ?_);refine AC (AX ?_);exact B7 [40] []
theorem L4 (L:List Int) (a:Nat) (n:Int) (hl:L.length<=1099511627776) (ha:a<=L.length) (hn:n<=9223372036854775807):AcP 13 [.pt 0 0 0,.I n] [As L a] (.I (An L a n).1) [some (As L (An L a n).2)]:=by
 refine aN.s.ai ?_;refine AC (AX ?_);refine AC (AC (JE (s:=?s2) (tr:=?t2) rfl ?o2 ?r2 ?q2))
 case o2=>simp;constructor<;>rfl
 case r2=>rfl
 refine AE _ rfl (λ h3=>?_) λ h3=>?_
 .try simp at h3
  refine AC (AX ?_);refine BG ?_;have hr:An L a n=(0,a):=by unfold An;rw[dif_neg (by omega)]
  rw[hr];exact⟨.inr rfl,AS.k1 rfl (by simp) (by simp[AB])⟩
 try simp at h3
 have hw:=w6 (x:=(a:Int)+1);have h0:=w6 (x:=(a:Int));refine AJ (AC (Ag (s:=?s5) rfl ?o5 ?q5))
 case o5=>simp[hw];rfl
 refine AC (JE (s:=?s6) (tr:=?t6) rfl ?o6 ?r6 ?q6)
 case o6=>simp[h0,h3];refine Aq (Ry _ _ hn) rfl ?_;simp;constructor<;>rfl
 case r6=>rfl
 refine BG ?_;have hr:An L a n=(Er L[a] n,a+1):=by unfold An;rw[dif_pos h3]
 rw[hr];exact⟨.inr rfl,AS.k1 rfl (by simp) (by simp[AB])⟩
variable {n:Int}
theorem rX {m:Int} (hm:0<m):0<=Er n m/\Er n m<m:=by
 unfold Er;rw[if_neg (by omega)]
 exact⟨Int.emod_nonneg _ (by omega),Int.emod_lt_of_pos _ hm⟩
theorem I6 {L:List Int} {a:Nat} (hn:0<n):0<=(An L a n).1/\(An L a n).1<n:=by
 unfold An;split
 .exact rX hn
 .exact ⟨UX _,hn⟩
theorem Fj {L:List Int} {a:Nat} (ha:a<=L.length):(An L a n).2<=L.length:=by
 unfold An;split
 .simp only;omega
 .exact ha
def KZ (L:List Int) (a:Nat) (l:List Int):Int:=l.getD (An L a l.length).1.toNat 0
theorem YF (L:List Int) (a:Nat) (n:Int) (hl:L.length<=1099511627776) (ha:a<=L.length) (h0:0<=n) (hn:n<=9223372036854775807):AcP 33 [.pt 0 0 0,.I n] [As L a] (.B (decide ((An L a n).1=n - 1))) [some (As L (An L a n).2)]:=by
 refine sY.s.ai ?_;have hw:=w6 (x:=n - 1);refine AC (AX ?_);refine AC (Ag (s:=?s2) rfl ?o2 ?q2)
 case o2 =>
  simp;refine Cq (i:=0) rfl (e':=As L a) (by simp) (L4 L a n hl ha hn) (by simp) (by simp) ?_
  simp[hw];rfl
 refine BG ?_;exact⟨.inr rfl,AS.k1 rfl (by simp<;>exact Aw rfl) (by simp)⟩
theorem eO (L:List Int) (a:Nat) (l:List Int) (hl:L.length<=1099511627776) (ha:a<=L.length) (h0:0<l.length) (h2:l.length<=1099511627776):AcP 16 [.pt 0 0 0,AA l] [As L a] (.I (KZ L a l)) [some (As L (An L a l.length).2)]:=by
 refine tV.s.ai ?_
 obtain⟨q,hq,h1⟩:∃ q:Nat,(An L a l.length).1=q/\q<l.length:=by
  have:=I6 (L:=L) (a:=a) (n:=l.length) (by omega)
  exact⟨(An L a l.length).1.toNat,by omega,by omega⟩
 have ho:KZ L a l=l[q]:=by unfold KZ;rw[hq];simp[h1]
 refine AC (AX ?_);refine AC (Ag (s:=?s2) rfl ?o2 ?q2)
 case o2 =>
  simp;refine Cq (i:=0) rfl (e':=As L a) (by simp[AB]) (L4 L a l.length hl ha (by omega)) (by simp) (by simp) ?_
  simp[hq,h1,AB];rfl
 refine BG ?_;rw[ho];exact⟨.inr rfl,AS.k1 rfl (by simp) (by simp[AB])⟩
theorem AI.lt {g:Gr} (h:AI g):∀ (j i:Nat) (hi:i<g.edges.length) (hj:j<g.edges.length),i<j->Bd g.edges[i] g.edges[j]
 | 0,_,_,_,h0=>by omega
 | j+1,i,hi,hj,h4=>by
   have h1:Bd g.edges[j] g.edges[j+1]:=KH.1 ((h.2 (j+1) hj).2.2.2 (by omega))
   rcases Um i j with h2 | h2
   .have h3:=AI.lt h j i hi (by omega) h2
    unfold Bd at *;omega
   .obtain rfl:i=j:=by omega
    exact h1
theorem AI.mono {g:Gr} (h:AI g) (e:Ed):∀ (i j:Nat) (hi:i<g.edges.length) (hj:j<g.edges.length),i<=j->Bd g.edges[j] e->Bd g.edges[i] e:=by
 intro i j hi hj h0 hb;rcases Um i j with h2 | h2
 .have h3:=h.lt j i hi hj h2
  unfold Bd at *;omega
 .obtain rfl:i=j:=by omega
  exact hb
section
variable {P:Program} {np id:Nat} {h:Nat->Option AQ} {K:AV->List Nat->List (Nat × Option AQ)->Prop} {f:FuncId} {first aA args aB:List AV} {res:AV}
theorem KQ {i j:Nat} {e e' ej:AQ} {hs':List (Option AQ)} (h0:j≠i) (h1:np<=j) (hi:h i=some e) (hj:h j=some ej) (h2:Ab [(i,0)] [j] h 4 e=e') (hc:AK P f aB [e'] res hs') (h8:hs'.length<=9) (he:(first++args++aA).map (conv [(i,0)] [j] h 4)=aB) (hk:K (conv (C9 [i] id) [] (λ _=>none) 4 res) [i,j] ((hs'.zipIdx.map λ (e,k)=>((i::(List.range 8).map (id + ·)).getD k 0,e.map (Ab (C9 [i] id) [] (λ _=>none) 4)))++[(j,some { ej with ro:=ej.rows.length })])):aK P np id .call (.fn (.func f) first aA::args) h K :=
 ⟨[i],[j],true,aB,[e'],res,hs',by simp,by simpa using h0,by simpa using h1,by rw[show [i].zipIdx=[(i,0)] from rfl,he];exact F8 _,by rw[show [i].zipIdx=[(i,0)] from rfl];simpa [hi] using h2,hc,by simpa using h8,.inl rfl,by simpa [C9,hj] using hk⟩
end
variable {e:Ed}
theorem iK {l:List Ed} {i:Nat} (h:i<Bp l e) (hi:i<l.length):Bd l[i] e:=by
 have:=List.not_of_lt_findIdx h
 simpa using this
theorem qX {l:List Ed} (h:Bp l e<l.length):¬ Bd l[Bp l e] e:=by
 have h1:l.findIdx (λ x=>!decide (Bd x e))<l.length:=h;have:=Vm (w:=h1);intro hb;have h2:decide (Bd l[l.findIdx (λ x=>!decide (Bd x e))] e)=true:=UK hb;simp only[h2] at this
 cases this
theorem oL {g:Gr} (hg:AI g) (hf:BO g e) (h1:1<=e.v) (h3:e.v<=3) (ha:¬ Hh g.edges (Bp g.edges ⟨e.f,e.t,0⟩) e.f e.t) (hl:g.edges.length<500):AI (I8 g e):=by
 have hc:=zwW g.edges ⟨e.f,e.t,0⟩
 have hb:∀ i (hi:i<g.edges.length),i<Bp g.edges ⟨e.f,e.t,0⟩->Bd g.edges[i] e:=λ i hi h=>by
  have:=iK h hi;exact this
 have hn:∀ (h:Bp g.edges ⟨e.f,e.t,0⟩<g.edges.length),Bd e g.edges[Bp g.edges ⟨e.f,e.t,0⟩]:=λ h=>by
  have h2:=qX h;have h4:¬ (g.edges[Bp g.edges ⟨e.f,e.t,0⟩].f=e.f/\g.edges[Bp g.edges ⟨e.f,e.t,0⟩].t=e.t):=λ q=>ha ⟨h,q⟩;simp only[Bd] at h2 ⊢;omega
 unfold I8;generalize Bp g.edges ⟨e.f,e.t,0⟩=k at *;have h5:(g.edges.take k++e::g.edges.drop k).length=g.edges.length+1:=by simp;omega
 have h6:∀ i (hi:i<(g.edges.take k++e::g.edges.drop k).length),(g.edges.take k++e::g.edges.drop k)[i]=if h:i<k then g.edges[i]'(by omega) else if h2:i=k then e else g.edges[i - 1]'(by omega):=by
  intro i hi;have h9:(g.edges.take k).length=k:=by simp;omega
  by_cases h:i<k
  .rw [dif_pos h,Uz (by omega),UU]
  .rw [dif_neg h,List.getElem_append_right (by omega)]
   by_cases h2:i=k
   .subst h2
    simp[h9]
   .rw [dif_neg h2]
    rw[List.getElem_cons];rw[dif_neg (by omega),List.getElem_drop]
    congr 1
    omega
 refine⟨⟨hg.1.1,hg.1.2.1,by simp only[h5];omega,hg.1.2.2.2⟩,λ i hi=>?_⟩
 simp only at hi;have h7:∀ x:Ed,BO ⟨g.size,g.edges.take k++e::g.edges.drop k,g.gone⟩ x↔BO g x:=λ x=>Iff.rfl;simp only[h7,KH,h6];have hE:=λ j (hj:j<g.edges.length)=>hg.2 j hj
 by_cases h:i<k
 .simp only[dif_pos h]
  refine⟨(hE i (by omega)).1,(hE i (by omega)).2.1,(hE i (by omega)).2.2.1,λ h0=>?_⟩
  rw[dif_pos (by omega)]
  exact KH.1 ((hE i (by omega)).2.2.2 h0)
 .simp only[dif_neg h]
  by_cases h2:i=k
  .subst h2
   simp only[dif_pos];refine⟨hf,h1,h3,λ h0=>?_⟩;rw[dif_pos (by omega)]
   exact hb _ _ (by omega)
  .simp only[dif_neg h2]
   refine⟨(hE (i - 1) (by omega)).1,(hE (i - 1) (by omega)).2.1,(hE (i - 1) (by omega)).2.2.1,λ h0=>?_⟩
   rw[dif_neg (by omega)]
   by_cases h4:i - 1=k
   .rw [dif_pos h4]
    subst h4;exact hn _
   .rw [dif_neg h4]
    exact hg.lt _ _ _ _ (by omega)
theorem qE {g:Gr} (h:(ET g e).2=0):AI g/\BO g e/\(1<=e.v/\e.v<=3)/\¬ Hh g.edges (Bp g.edges ⟨e.f,e.t,0⟩) e.f e.t/\g.edges.length<500/\(ET g e).1=I8 g e/\AI (I8 g e):=by
 have key:AI g/\BO g e/\(1<=e.v/\e.v<=3)/\¬ Hh g.edges (Bp g.edges ⟨e.f,e.t,0⟩) e.f e.t/\g.edges.length≠500/\(ET g e).1=I8 g e:=by
  unfold ET at *;split at h
  .simp at h
  split at h
  .simp at h
  split at h
  .simp at h
  split at h
  .simp at h
  split at h
  .simp at h
  simp_all
 obtain⟨h1,h2,h3,h4,h5,h6⟩:=key;have h7:g.edges.length<500:=by have:=h1.1.2.2.1;omega
 exact⟨h1,h2,h3,h4,h7,h6,oL h1 h2 h3.1 h3.2 h4 h7⟩
def I3 (L:List Int) (p:Gr × Nat):Gr × Nat :=
 (if (ET p.1 ⟨(An L p.2 p.1.size).1,(An L (An L p.2 p.1.size).2 p.1.size).1,1+(An L (An L (An L p.2 p.1.size).2 p.1.size).2 3).1⟩).2=0
  then (ET p.1 ⟨(An L p.2 p.1.size).1,(An L (An L p.2 p.1.size).2 p.1.size).1,1+(An L (An L (An L p.2 p.1.size).2 p.1.size).2 3).1⟩).1 else p.1,
  (An L (An L (An L p.2 p.1.size).2 p.1.size).2 3).2)
def NI (L:List Int):Nat->Gr × Nat->Gr × Nat
 | 0,p=>p
 | n+1,p=>NI L n (I3 L p)
def FF (L:List Int) (a:Nat):Int:=if L.length=0 then 4 else 2+(An L a 8).1
def FA (L:List Int) (a:Nat):Gr × Nat :=
 if (An L (An L a 8).2 8).1=7 then (⟨FF L a,[],[(An L (An L (An L a 8).2 8).2 (FF L a)).1]⟩,(An L (An L (An L a 8).2 8).2 (FF L a)).2)
 else (⟨FF L a,[],[]⟩,(An L (An L a 8).2 8).2)
def KV (L:List Int) (a:Nat):Gr × Nat:=NI L (An L (FA L a).2 23).1.toNat ((FA L a).1,(An L (FA L a).2 23).2)
structure Jc (L:List Int) (p:Gr × Nat):Prop where
 ok:AI p.1
 lo:2<=p.1.size
 hi:p.1.size<=9
 at_:p.2<=L.length
 few:p.1.gone.length<=1
theorem zl3 (L:List Int) (a:Nat):2<=FF L a/\FF L a<=9:=by
 have:=I6 (L:=L) (a:=a) (n:=8) (by omega)
 unfold FF;split<;>omega
theorem Xp (L:List Int) (a:Nat) (ha:a<=L.length):Jc L (FA L a):=by
 have hs:=zl3 L a;have h1:=Fj (L:=L) (a:=a) (n:=8) ha;have h2:=Fj (L:=L) (a:=(An L a 8).2) (n:=8) h1;have hq:=I6 (L:=L) (a:=(An L (An L a 8).2 8).2) (n:=FF L a) (by omega)
 unfold FA;split
 .refine ⟨⟨⟨by simp only;omega,by simp only;omega,by simp,λ i hi=>?_⟩,λ i hi=>absurd hi (by simp)⟩,hs.1,hs.2,Fj h2,by simp⟩
  obtain rfl:i=0:=by simpa using hi
  refine⟨hq.1,?_,λ h=>by omega⟩
  have:=hq.2;simp only[List.getElem_cons_zero];omega
 .exact ⟨⟨⟨by simp only;omega,by simp only;omega,by simp,λ i hi=>absurd hi (by simp)⟩,λ i hi=>absurd hi (by simp)⟩,hs.1,hs.2,h2,by simp⟩
theorem Xm {L:List Int} {p:Gr × Nat} (h:Jc L p):Jc L (I3 L p):=by
 have h3:=Fj (n:=3) (Fj (n:=p.1.size) (Fj (n:=p.1.size) h.at_));unfold I3
 by_cases hw:(ET p.1 ⟨(An L p.2 p.1.size).1,(An L (An L p.2 p.1.size).2 p.1.size).1,1+(An L (An L (An L p.2 p.1.size).2 p.1.size).2 3).1⟩).2=0
 .rw [if_pos hw]
  obtain⟨_,_,_,_,_,q6,q7⟩:=qE hw;rw[q6];exact⟨q7,h.lo,h.hi,h3,h.few⟩
 .rw [if_neg hw]
  exact⟨h.ok,h.lo,h.hi,h3,h.few⟩
theorem S0 {L:List Int}:∀ (n:Nat) {p:Gr × Nat},Jc L p->Jc L (NI L n p)
 | 0,_,h=>h
 | n+1,_,h=>S0 n (Xm h)
theorem lL (L:List Int) (a:Nat) (ha:a<=L.length):Jc L (KV L a):=by
 have h:=Xp L a ha;exact S0 _ ⟨h.ok,h.lo,h.hi,Fj h.at_,h.few⟩
variable {nl:List (Nat × Nat)}
theorem Am.eq {e e':AQ} (h:e=e') (hr:e'.ro<=e'.rows.length):Am nl e e':=by
 subst h;exact Am.rfl' hr
theorem Am.row {s ro:Nat} {e:AQ} {r r':List AV} (h:e=⟨s,[r],ro⟩) (hr:ro<=1) (hu:Eg nl r r') (hs:s≠0:=by decide):Am nl e ⟨s,[r'],ro⟩:=by
 subst h;refine⟨rfl,Qk _,hr,.inr ⟨hs,rfl,λ i=>?_⟩⟩
 match i with
 | 0=>exact hu
 | _+1=>exact trivial
theorem N8 {nl:List (Nat × Nat)}:∀ {xs ys:List AV},Ez xs ys->Eg nl xs ys
 | [],[],_=>trivial
 | _::_,_::_,h=>⟨.inl h.1,N8 h.2⟩
 | [],_::_,h=>False.elim h
 | _::_,[],h=>False.elim h
theorem Le.ents {np:Nat} {st st':St} (ρ:List (Nat × Nat)) (sn:List Nat) (h6:st'.sz=st.sz) (h0:(ρ.map (·.1)).Nodup) (h1:(ρ.map (·.2)).Nodup) (h2:∀ p∈ρ,p.2<st'.n/\(p.2<np->p.1=p.2)) (h4:∀ i∈sn,np<=i/\i∉ρ.map (·.1)) (h5:np<=st'.n) (ht:∀ p∈st'.t,Wk (conv ρ sn st.hp 4 (st.get p.1)) p.2) (hh:∀ p∈st'.h,∃ q e e',p.2=some e'/\(q,p.1)∈ρ/\st.hp q=some e/\Am [] (Ab ρ sn st.hp 4 e) e'):Le np st st' :=
 Le.lst ρ sn [] h6 h0 h1 h2 (by simp) h4 h5 (by simp) (λ p hp=>.inl (ht p hp)) λ p hp e' h7=>by
  obtain⟨q,e,e2,h1,h2,h3,h4⟩:=hh p hp;rw[h7] at h1
  cases h1;exact .inl ⟨(q,p.1),h2,rfl,e,h3,h4⟩
theorem J9 (L:List Int) (a:Nat) (n:Int) (hl:L.length<=400) (ha:a<=L.length) (hn:n<=9223372036854775807):AcP 13 [.pt 0 0 0,.I n] [As L a] (.I (An L a n).1) [some (As L (An L a n).2)]:=L4 L a n (by omega) ha hn
abbrev zG:AQ:=⟨3,[[.I 0,.nilS,.nilS]],0⟩
abbrev HC (g:Gr):AQ:=⟨3,[gC g],0⟩
theorem vS (L:List Int) (a:Nat) (hl:L.length<=400) (ha:a<=L.length):AcP 11 [.pt 0 0 0] [As L a] (eG (KV L a).1) [some (As L (KV L a).2)]:=by
 refine oX.s.ai ?_;have a1:=Fj (L:=L) (a:=a) (n:=8) ha;have r1:=I6 (L:=L) (a:=a) (n:=8) (by omega)
 have hs:=zl3 L a;have a2:=Fj (L:=L) (a:=(An L a 8).2) (n:=8) a1;have h2:=w6 (x:=2+(An L a 8).1);have hm:=Xp L a ha;apply ak [0,2] [0,16] 24
 .simp
  rfl
 apply ak [0,2,3] [0,16,56] 72
 .simp
  refine Cq (i:=0) rfl (e':=As L a) (by simp) (J9 L a 8 hl ha (by omega)) (by simp) (by simp) ?_
  simp[h2];rfl
 refine Ao ⟨53,[(0,.pt 0 0 0),(2,.pt 16 0 0),(3,.pt 56 0 0)],[(0,some (As L (An L a 8).2)),(16,some zG),(56,some ⟨3,[[.I (FF L a),.nilS,.nilS]],0⟩)],136⟩ ?_ ?_
 .refine arc ⟨53,[(0,.pt 0 0 0),(2,.pt 16 0 0),(3,.pt 56 0 0),(16,.B (decide (L.length=0)))],[(0,some (As L (An L a 8).2)),(16,some zG),(56,some ⟨3,[[.I (2+(An L a 8).1),.nilS,.nilS]],0⟩)],120⟩ ?_ ?_
  .simp
   exact Le.keep rfl (Qk _) (by simp<;>rw[Qp]<;>simp) (by simp)
  refine AE _ rfl (λ h=>?_) λ h=>AJ ?_
  .simp only[Qd] at h
   have hz:FF L a=4:=by unfold FF;rw[if_pos h]
   refine Ac rfl ?_;simp;exact Le.keep rfl (Qk _) (by simp) (by simp[hz])
  .simp only[Qa] at h
   have hz:FF L a=2+(An L a 8).1:=by unfold FF;rw[if_neg h]
   exact Le.keep rfl (CL rfl) (by simp) (by simp[hz])
 refine Ao ⟨53,[(0,.pt 0 0 0),(2,.pt 16 0 0),(3,.pt 56 0 0)],[(0,some (As L (FA L a).2)),(16,some zG),(56,some (HC (FA L a).1))],208⟩ ?_ ?_
 .apply ak [0,2,3,19] [0,16,56] 152
  .simp
   refine Cq (i:=0) rfl (e':=As L (An L a 8).2) (by simp) (YF L _ 8 (by omega) a1 (by omega) (by omega)) (by simp) (by simp) ?_
   simp;rfl
  refine AE _ rfl (λ h=>?_) λ h=>AJ ?_
  .simp only[Qd] at h
   have hz:FA L a=(⟨FF L a,[],[(An L (An L (An L a 8).2 8).2 (FF L a)).1]⟩,(An L (An L (An L a 8).2 8).2 (FF L a)).2):=by unfold FA;rw[if_pos h]
   rw[hz];refine Ac rfl ?_;simp;refine Cq (i:=0) rfl (e':=As L (An L (An L a 8).2 8).2) (by simp) (J9 L (An L (An L a 8).2 8).2 (FF L a) hl a2 (by omega)) (by simp) (by simp) ?_
   simp;refine Le.ents [(0,0),(16,16),(56,56)] [184] rfl (by simp) (by simp) (by simp) (by simp) (by simp) (by simp) λ p hp=>?_
   simp at hp;rcases hp with rfl | rfl | rfl
   .exact ⟨0,_,_,rfl,by simp,rfl,Am.eq (by simp) (by simp)⟩
   .exact ⟨16,_,_,rfl,by simp,rfl,Am.eq (by simp) (by simp)⟩
   .exact ⟨56,_,_,rfl,by simp,rfl,Am.row (by simp;rfl) (by simp) (N8 (by simp;exact⟨.nil _ _,.refl _⟩))⟩
  .simp only[Qa] at h
   have hz:FA L a=(⟨FF L a,[],[]⟩,(An L (An L a 8).2 8).2):=by unfold FA;rw[if_neg h]
   rw[hz];refine Le.ents [(0,0),(16,16),(56,56)] [] rfl (by simp) (by simp) (by simp) (by simp) (by simp) (by simp) λ p hp=>?_
   simp at hp;rcases hp with rfl | rfl | rfl
   .exact ⟨0,_,_,rfl,by simp,rfl,Am.eq (by simp) (by simp)⟩
   .exact ⟨16,_,_,rfl,by simp,rfl,Am.eq (by simp) (by simp)⟩
   .exact ⟨56,_,_,rfl,by simp,rfl,Am.row (by simp;rfl) (by simp) (N8 (by simp;exact⟨.nil _ _,.nil _ _⟩))⟩
 have r4:=I6 (L:=L) (a:=(FA L a).2) (n:=23) (by omega)
 obtain⟨n0,h1⟩:∃ n0:Nat,(An L (FA L a).2 23).1=n0:=⟨(An L (FA L a).2 23).1.toNat,by omega⟩
 refine AC ?_;apply ak [0,2,3,4] [0,16,56] 232
 .simp
  refine Cq (i:=0) rfl (e':=As L (FA L a).2) (by simp) (J9 L (FA L a).2 23 hl hm.at_ (by omega)) (by simp) (by simp) ?_
  simp[h1];rfl
 refine AL ?_
 refine Ae (ι:=Nat × Gr × Nat) (λ q=>⟨53,[(0,.pt 0 0 0),(2,.pt 16 0 0),(3,.pt 56 0 0),(4,.I q.1)],[(0,some (As L q.2.2)),(16,some zG),(56,some (HC q.2.1))],232⟩)
  (λ q=>q.1<=23/\Jc L q.2/\NI L q.1 q.2=KV L a) (λ q=>q.1) (n0,(FA L a).1,(An L (FA L a).2 23).2) ?_ (Le.refl _ _) ?_
 .refine ⟨by simp only;omega,⟨hm.ok,hm.lo,hm.hi,Fj hm.at_,hm.few⟩,?_⟩
  unfold KV;rw[h1];rfl
 rintro⟨k,p⟩ ⟨hk,hp,hit⟩
 simp only at hk hp hit ⊢;refine AC ?_;apply ak [0,2,3,4,29] [0,16,56] 248
 .simp
  rfl
 refine AE _ rfl (λ h=>AJ ?_) λ h=>Aa (Go.Proofs.YtkngdgplbojdlaaGreat.hit ?_)
 .simp only[Qd] at h
  refine Ao ⟨53,[(0,.pt 0 0 0),(2,.pt 16 0 0),(3,.pt 56 0 0),(4,.I k)],[(0,some (As L (I3 L p).2)),(16,some zG),(56,some (HC (I3 L p).1))],440⟩ ?_ ?_
  .refine AL ?_
   have q1:=Fj (n:=p.1.size) hp.at_;have q2:=Fj (n:=p.1.size) q1;have hb:=hp.lo;have hc:=hp.hi;have l3:=I6 (L:=L) (a:=(An L (An L p.2 p.1.size).2 p.1.size).2) (n:=3) (by omega)
   have h3:=w6 (x:=1+(An L (An L (An L p.2 p.1.size).2 p.1.size).2 3).1);obtain⟨w,hw⟩:=AG (ET p.1 ⟨(An L p.2 p.1.size).1,(An L (An L p.2 p.1.size).2 p.1.size).1,1+(An L (An L (An L p.2 p.1.size).2 p.1.size).2 3).1⟩);have h4:I3 L p=(if w.2=0 then w.1 else p.1,(An L (An L (An L p.2 p.1.size).2 p.1.size).2 3).2):=by rw[hw];rfl
   have h7:=hp.ok.1.2.2.1;have h9:=hp.few;have h0:=kY p.1 ⟨(An L p.2 p.1.size).1,(An L (An L p.2 p.1.size).2 p.1.size).1,1+(An L (An L (An L p.2 p.1.size).2 p.1.size).2 3).1⟩ (by omega) (by omega)
   rw[<- hw] at h0;rw[h4];refine CW ⟨53,[(0,.pt 0 0 0),(2,.pt 16 0 0),(3,.pt 56 0 0),(4,.I k),(5,.pv (gC w.1)),(6,.I w.2)],[(0,some (As L (An L (An L (An L p.2 p.1.size).2 p.1.size).2 3).2)),(16,some zG),(56,some (HC p.1))],408⟩ ?_ ?_
   .simp
    refine Cq (i:=0) rfl (e':=As L p.2) (by simp) (J9 L p.2 p.1.size hl hp.at_ (by omega)) (by simp) (by simp) ?_
    simp;refine Cq (i:=0) rfl (e':=As L (An L p.2 p.1.size).2) (by simp) (J9 L (An L p.2 p.1.size).2 p.1.size hl q1 (by omega)) (by simp) (by simp) ?_
    simp;refine Cq (i:=0) rfl (e':=As L (An L (An L p.2 p.1.size).2 p.1.size).2) (by simp) (J9 L (An L (An L p.2 p.1.size).2 p.1.size).2 3 hl q2 (by omega)) (by simp) (by simp) ?_
    simp[h3];refine Aq h0 rfl ?_;simp;refine⟨rfl,Le.ents [(0,0),(16,16),(56,56)] [384] rfl (by simp) (by simp) (by simp) (by simp) (by simp) (by simp) λ p hp=>?_⟩
    simp at hp;rcases hp with rfl | rfl | rfl
    .exact ⟨0,_,_,rfl,by simp,rfl,Am.eq (by simp) (by simp)⟩
    .exact ⟨16,_,_,rfl,by simp,rfl,Am.eq (by simp) (by simp)⟩
    .exact ⟨56,_,_,rfl,by simp,rfl,Am.eq (by simp) (by simp)⟩
   refine arc ⟨53,[(0,.pt 0 0 0),(2,.pt 16 0 0),(3,.pt 56 0 0),(4,.I k),(5,.pv (gC w.1)),(50,.B (decide (w.2=0)))],[(0,some (As L (An L (An L (An L p.2 p.1.size).2 p.1.size).2 3).2)),(16,some zG),(56,some (HC p.1))],424⟩ ?_ ?_
   .simp
    exact Le.keep rfl (Qk _) (by simp<;>rw[Qp]<;>simp) (by simp)
   refine AE _ rfl (λ h=>?_) λ h=>AJ ?_
   .simp only[Qd] at h
    refine Ac rfl ?_;simp[h];exact Le.keep rfl (CL rfl) (by simp) (by simp)
   .simp only[Qa] at h
    rw[if_neg h];exact Le.keep rfl (CL rfl) (by simp) (by simp)
  have h5:IntKind.i64.wrap ((k:Int) - 1)=((k - 1:Nat):Int):=by rw[w6];omega
  refine Ac rfl ?_;simp[h5];refine⟨k - 1,(I3 L p).1,(I3 L p).2,⟨by omega,Xm hp,?_⟩,by omega,Le.ents [(0,0),(16,16),(56,56)] [] rfl (by simp) (by simp) (by simp) (by simp) (by simp) (by simp) λ p hp=>?_⟩
  .rw [<- hit]
   obtain⟨k,rfl⟩:∃ j,k=j+1:=⟨k - 1,by omega⟩
   rfl
  .simp at hp
   rcases hp with rfl | rfl | rfl
   .exact ⟨0,_,_,rfl,by simp,rfl,Am.eq (by simp) (by simp)⟩
   .exact ⟨16,_,_,rfl,by simp,rfl,Am.eq (by simp) (by simp)⟩
   .exact ⟨56,_,_,rfl,by simp,rfl,Am.eq (by simp) (by simp)⟩
 simp only[Qa] at h;obtain rfl:k=0:=by omega
 have h6:p=KV L a:=hit;rw[<- h6];apply ak [2] [0,16] 264
 .simp
  rfl
 exact A9 (AS.k1 (vs:=[eG p.1]) rfl (by simp) (by simp))
abbrev Ak (k:IntKind) (l:List Int):List (List AV):=l.map λ x=>[AV.sc (.int k x)]
abbrev DE (l:List Int):AV:=.vs 1 false (Ak .u8 l)
section
variable {P:Program} {np id:Nat} {h:Nat->Option AQ} {K:AV->List Nat->List (Nat × Option AQ)->Prop} {f:FuncId} {first aA args aB:List AV} {res:AV}
end
theorem Mq {k:IntKind} {l:List Int}:IG ⟨1,Ak k l,0⟩:=by
 intro row h0 x hx;simp only[Qi] at h0;obtain⟨y,_,rfl⟩:=h0;simp at hx;subst hx;exact .sc _
theorem PB (k:IntKind) (l:List Int) (ρ sn h m):(Ak k l).map (List.map (conv ρ sn h (m+1)))=Ak k l:=by simp[AB]
theorem IJ (k:IntKind) (l:List Int):(Ak k l).length=l.length:=by simp
theorem Le.K1 {st st':St} {k:IntKind} {l:List Int} (i j:Nat) (sn:List Nat) (h1:st'.sz=st.sz) (hh:st'.h=[(j,some ⟨1,Ak k l,0⟩)]) (hi:j<st'.n) (hs:∀ j∈sn,j≠i) (h0:st.hp i=some ⟨1,Ak k l,0⟩) (ht:∀ p∈st'.t,Wk (conv [(i,j)] sn st.hp 4 (st.get p.1)) p.2):Le 0 st st' :=
 Le.ren1 i j sn h1 hh hi hs h0 (by simp only[Ab,PB]) (Qh _) ht
def En (v:Int) (k:Nat):Int:=IntKind.u8.wrap (v.fdiv (2 ^ (min (8*k) 64)))
def FZ (v:Int) (n:Nat):List Int:=(List.range n).map λ j=>En v (7 - j)
def A4 (v:Int):List Int:=FZ v 8
theorem Jm (v:Int) (n:Nat):(FZ v n).length=n:=by simp[FZ]
theorem Ic (v:Int):(A4 v).length=8:=Jm v 8
theorem Kx (v:Int) (n:Nat):FZ v (n+1)=FZ v n++[En v (7 - n)]:=by simp[FZ,Uk]
theorem O1 (b:List Int) (v:Int) (n:Nat) (hn:n=b.length+8) (hl:b.length<=1099511627776):AcP 216 [DE b,.I v] [] (.rs 0 0 n) [some ⟨1,Ak .u8 (b++A4 v),0⟩]:=by
 refine mD.s.ai ?_;refine ar [0,1] [] [] 24 ?_
 let Y:Nat->List Int:=λ j=>b++FZ v j
 have h2:∀ j,(Y j).length=b.length+j:=λ j=>by simp only[Y];rw[Qg,Jm]
 have h3:∀ j,Y (j+1)=Y j++[En v (7 - j)]:=λ j=>by simp only[Y];rw[Kx,Qu]
 have h4:Y 0=b:=by simp[Y,FZ]
 have h5:b++A4 v=Y 8:=rfl;rw[h5,hn];refine arc ⟨23,[(1,.I v),(5,.rs 32 0 (b.length+0))],[(32,some ⟨1,Ak .u8 (Y 0),0⟩)],48⟩ ?_ ?_
 .simp [h4]
  repeat' apply And.intro
  all_goals first | omega | exact Ek
 clear_value Y
 refine AC ?_;apply ak [1,5,6] [32] 56
 .simp
  rfl
 refine AL (Ae (ι:=Nat) (λ j=>⟨23,[(1,.I v),(5,.rs 32 0 (b.length+j)),(6,.I (7 - (j:Int)))],[(32,some ⟨1,Ak .u8 (Y j),0⟩)],56⟩) (λ j=>j<=8) (λ j=>8 - j) 0 (by omega) (Le.refl _ _) ?_)
 intro j hj;refine AC (arc ⟨23,[(1,.I v),(5,.rs 32 0 (b.length+j)),(6,.I (7 - (j:Int))),(10,.B (decide (j<8)))],[(32,some ⟨1,Ak .u8 (Y j),0⟩)],72⟩ ?_ ?_)
 .simp
  exact Le.keep rfl (Qk _) (by simp;omega) (by simp)
 refine AE _ rfl (λ h=>AJ ?_) λ h=>Aa (hit ?_)
 .simp only[Qd] at h
  have h6:=h2 j;have hs:=h3 j;refine Ao ⟨23,[(1,.I v),(5,.rs 32 0 (b.length+(j+1))),(6,.I (7 - (j:Int)))],[(32,some ⟨1,Ak .u8 (Y (j+1)),0⟩)],152⟩ ?_ ?_
  .rw [hs]
   generalize Y j=A at *;obtain⟨k,hk⟩:∃ k:Nat,7 - (j:Int)=k:=⟨7 - j,by omega⟩
   have h7:7 - j=k:=by omega
   have h0:IntKind.i64.wrap (8*(k:Int))=((8*k:Nat):Int):=by rw[w6];omega
   have h1:IntKind.u64.wrap ((8*k:Nat):Int)=((8*k:Nat):Int):=by rw[IntKind.wrap_u64];omega
   have hb:En v k=IntKind.u8.wrap (v.fdiv (2 ^ (min (8*k) 64))):=rfl;rw[hk,h7];generalize En v k=y at hb ⊢;obtain⟨s,h9⟩:=AG (8*k);rw[<- h9] at h0 h1 hb;have ha:List.take (b.length+j) (Ak .u8 A)=Ak .u8 A:=Qb (by rw[IJ];omega)
   refine AL (Ac rfl ?_);simp[h0,h1,IntKind.bits,<- hb,h6]
   repeat' apply And.intro
   all_goals first | omega | exact Le.ren1 136 32 [] rfl rfl (by simp) (by simp) rfl (by simp only[Ab];simp[ha,AB]) (by simp) (by simp;exact GI (by simp;omega))
  have hc:IntKind.i64.wrap (7 - (j:Int) - 1)=7 - ((j+1:Nat):Int):=by rw[w6];omega
  refine Ac rfl ?_;simp[hc];exact⟨j+1,by omega,by omega,Le.K1 32 32 [] rfl rfl (by simp) (by simp) rfl (by simp)⟩
 simp only[Qa] at h;obtain rfl:j=8:=by omega
 refine AC (AX ?_);exact B7 [32] []
def FK (s:ByteArray):List Int:=s.data.toList.map λ b=>(b.toNat:Int)
theorem fK (s:ByteArray):(FK s).length=s.size:=by
 show (s.data.toList.map _).length=s.data.size;simp
theorem SB (s:ByteArray):HQ s=Ak .u8 (FK s):=by
 unfold HQ FK;rw[Ak,List.map_map];rfl
def DV (s:ByteArray):List Int:=A4 s.size++FK s
theorem Tx (s:ByteArray):(DV s).length=s.size+8:=by rw[DV,Qg,Ic,fK];omega
theorem eK (b:List Int) (s:ByteArray) (n:Nat) (hn:n=b.length+(s.size+8)) (hl:b.length<=1099511627776) (hs:s.size<=1099511627776):AcP 217 [DE b,.sc (.string s)] [] (.rs 0 0 n) [some ⟨1,Ak .u8 (b++DV s),0⟩]:=by
 refine sX.s.ai ?_;refine ar [0,1] [] [] 24 ?_;have hI:=O1 b s.size _ rfl hl;have e:b++DV s=(b++A4 s.size)++FK s:=by rw[DV,Qu]
 have h0:(b++A4 s.size).length=b.length+8:=by rw[Qg,Ic]
 rw[e];generalize b++A4 s.size=Y at *;have h1:List.take (b.length+8) (Ak .u8 Y)=Ak .u8 Y:=Qb (by rw[IJ];omega)
 refine arc ⟨11,[(4,.rs 64 0 n)],[(64,some ⟨1,Ak .u8 (Y++FK s),0⟩)],80⟩ ?_ ?_
 .simp
  refine E2 hI rfl ?_;simp[AB,SB,h0];refine⟨_,_,_,⟨h1,rfl,rfl⟩,?_⟩;simp[h0]
  repeat' apply And.intro
  all_goals first | omega | exact Le.keep rfl (Qk _) (by simp;omega) (by simp)
 exact B7 [64] []
variable {a b n:Int}
abbrev Be (l:List Int):AV:=.vs 1 false (Ak .u32 l)
abbrev wd (x:Int):AV:=.sc (.int .u32 x)
def u2 (op:BinOp) (a b:Int):Int:=match AH op (.int .u32 a) (.int .u32 b) with | some (.int _ n)=>n | _=>0
def sh (op:BinOp) (a n:Int):Int:=match AH op (.int .u32 a) (.int .u64 n) with | some (.int _ n)=>n | _=>0
def nt (a:Int):Int:=match J3 .xor (.int .u32 a) with | some (.int _ n)=>n | _=>0
def C6 (x n:Int):Int:=u2 .or (sh .shr x n) (sh .shl x (32 - n))
section
variable {P:Program} {np id:Nat} {h:Nat->Option AQ} {K:AV->List Nat->List (Nat × Option AQ)->Prop}
theorem IM (op:BinOp) (ho:op = .add∨op = .xor∨op = .and∨op = .or):aK P np id (.bin op) [.sc (.int .u32 a),.sc (.int .u32 b)] h K=K (.sc (.int .u32 (u2 op a b))) [] []:=by
 refine propext ?_;rcases ho with rfl | rfl | rfl | rfl
 all_goals
  constructor
  .rintro ⟨v,hv,hk⟩
   cases hv;exact hk
  .exact λ hk=>⟨_,rfl,hk⟩
@[simp high] theorem zD8 {a b:Int}:aK P np id (.bin .add) [.sc (.int .u32 a),.sc (.int .u32 b)] h K=K (.sc (.int .u32 (u2 .add a b))) [] []:=IM _ (.inl rfl)
@[simp high] theorem xT {a b:Int}:aK P np id (.bin .xor) [.sc (.int .u32 a),.sc (.int .u32 b)] h K=K (.sc (.int .u32 (u2 .xor a b))) [] []:=IM _ (.inr (.inl rfl))
@[simp high] theorem zEa {a b:Int}:aK P np id (.bin .and) [.sc (.int .u32 a),.sc (.int .u32 b)] h K=K (.sc (.int .u32 (u2 .and a b))) [] []:=IM _ (.inr (.inr (.inl rfl)))
@[simp high] theorem yE {a b:Int}:aK P np id (.bin .or) [.sc (.int .u32 a),.sc (.int .u32 b)] h K=K (.sc (.int .u32 (u2 .or a b))) [] []:=IM _ (.inr (.inr (.inr rfl)))
theorem LF (op:BinOp) (ho:op = .shl∨op = .shr) (hn:0<=n):aK P np id (.bin op) [.sc (.int .u32 a),.sc (.int .u64 n)] h K=K (.sc (.int .u32 (sh op a n))) [] []:=by
 refine propext ?_
 have e:AH op (.int .u32 a) (.int .u64 n)=some (.int .u32 (sh op a n)):=by
  rcases ho with rfl | rfl<;>simp[AH,sh,hn]
 constructor
 .rintro ⟨v,hv,hk⟩
  rw[e] at hv
  cases hv;exact hk
 .exact λ hk=>⟨_,e,hk⟩
@[simp high] theorem zEe {a n:Int} (hn:0<=n):aK P np id (.bin .shl) [.sc (.int .u32 a),.sc (.int .u64 n)] h K=K (.sc (.int .u32 (sh .shl a n))) [] []:=LF _ (.inl rfl) hn
@[simp high] theorem zX {a n:Int} (hn:0<=n):aK P np id (.bin .shr) [.sc (.int .u32 a),.sc (.int .u64 n)] h K=K (.sc (.int .u32 (sh .shr a n))) [] []:=LF _ (.inr rfl) hn
@[simp high] theorem xW {a:Int}:aK P np id (.un .xor) [.sc (.int .u32 a)] h K=K (.sc (.int .u32 (nt a))) [] []:=by
 refine propext ⟨?_,λ hk=>⟨_,rfl,hk⟩⟩
 rintro⟨v,hv,hk⟩
 cases hv;exact hk
end
theorem Hn (x n:Int) (h0:0<=n) (h1:n<=32):AcP 237 [wd x,.sc (.int .u64 n)] [] (wd (C6 x n)) []:=by
 refine uO.s.ai ?_;have hw:IntKind.u64.wrap (32 - n)=32 - n:=by rw[IntKind.wrap_u64];omega
 have h2:0<=32 - n:=by omega
 refine AC (AX ?_);refine arc ⟨13,[(4,wd (C6 x n))],[],96⟩ ?_ ?_
 .simp [h0,h1,hw]
  exact A5 [] (by simp[C6])
 exact Bl
def Cx:List Int:=[1116352408,1899447441,3049323471,3921009573,961987163,1508970993,2453635748,2870763221,3624381080,310598401,607225278,1426881987,1925078388,2162078206,2614888103,3248222580,3835390401,4022224774,264347078,604807628,770255983,1249150122,1555081692,1996064986,2554220882,2821834349,2952996808,3210313671,3336571891,3584528711,113926993,338241895,666307205,773529912,1294757372,1396182291,1695183700,1986661051,2177026350,2456956037,2730485921,2820302411,3259730800,3345764771,3516065817,3600352804,4094571909,275423344,430227734,506948616,659060556,883997877,958139571,1322822218,1537002063,1747873779,1955562222,2024104815,2227730452,2361852424,2428436474,2756734187,3204031479,3329325298]
theorem Pl:Cx.length=64:=rfl
theorem tP:AcP 225 [] [] (.rs 0 0 64) [some ⟨1,Ak .u32 Cx,0⟩]:=by
 refine Ze.s.ai ?_;refine AC (AX ?_);refine AC (AX ?_);exact A9 (AS.out [24] [] rfl (by simp) (by simp) (by simp) (by simp[Cx]))
abbrev gt (l:List Int) (i:Nat):Int:=l.getD i 0
theorem F7 {l:List Int} {i n:Nat} (hl:l.length=n) (h:i<n):∃ (h:i<l.length),l[i]=gt l i:=by
 have h2:i<l.length:=by omega
 exact⟨h2,by simp[gt,h2]⟩
theorem Fh {k:IntKind} {l:List Int} {i n:Nat} (hl:l.length=n) (h:i<n):(Ak k l)[i]? = some [AV.sc (.int k (gt l i))]:=by
 have h2:i<l.length:=by omega
 simp[gt,h2]
def MD (a b c d:Int):Int:=u2 .or (u2 .or (u2 .or (sh .shl (IntKind.u32.wrap a) 24) (sh .shl (IntKind.u32.wrap b) 16)) (sh .shl (IntKind.u32.wrap c) 8)) (IntKind.u32.wrap d)
def LP (x:Int):Int:=u2 .xor (u2 .xor (C6 x 7) (C6 x 18)) (sh .shr x 3)
def LN (x:Int):Int:=u2 .xor (u2 .xor (C6 x 17) (C6 x 19)) (sh .shr x 10)
def Dq (B:List Int):Nat->List Int
 | 0=>List.replicate 64 0
 | i+1=>(Dq B i).set i (MD (gt B (4*i)) (gt B (4*i+1)) (gt B (4*i+2)) (gt B (4*i+3)))
def Bz (B:List Int):Nat->List Int
 | 0=>Dq B 16
 | i+1=>(Bz B i).set (i+16) (u2 .add (u2 .add (u2 .add (gt (Bz B i) i) (LP (gt (Bz B i) (i+1)))) (gt (Bz B i) (i+9))) (LN (gt (Bz B i) (i+14))))
def r3 (x a b c:Int):Int:=u2 .xor (u2 .xor (C6 x a) (C6 x b)) (C6 x c)
def xF (v:List Int) (k w:Int):Int:=u2 .add (u2 .add (u2 .add (u2 .add (gt v 7) (r3 (gt v 4) 6 11 25)) (u2 .xor (u2 .and (gt v 4) (gt v 5)) (u2 .and (nt (gt v 4)) (gt v 6)))) k) w
def mF (v:List Int):Int:=u2 .xor (u2 .xor (u2 .and (gt v 0) (gt v 1)) (u2 .and (gt v 0) (gt v 2))) (u2 .and (gt v 1) (gt v 2))
def vF (H B C:List Int):Nat->List Int
 | 0=>H
 | i+1 =>
   let v:=vF H B C i
   let x:=xF v (gt C i) (gt (Bz B 48) i)
   [u2 .add (u2 .add x (r3 (gt v 0) 2 13 22)) (mF v),gt v 0,gt v 1,gt v 2,u2 .add (gt v 3) x,gt v 4,gt v 5,gt v 6]
def oF (H B C:List Int):Nat->List Int
 | 0=>vF H B C 64
 | i+1=>(oF H B C i).set i (u2 .add (gt (oF H B C i) i) (gt H i))
def I5 (H B C:List Int):List Int:=oF H B C 8
theorem MY (B:List Int):∀ i,(Dq B i).length=64
 | 0=>by simp[Dq]
 | i+1=>by rw[Dq,Ur,MY B i]
theorem Ku (B:List Int):∀ i,(Bz B i).length=64
 | 0=>MY B 16
 | i+1=>by rw[Bz,Ur,Ku B i]
theorem VC {H B C:List Int} (hH:H.length=8):∀ i,(vF H B C i).length=8
 | 0=>hH
 | i+1=>rfl
theorem O4 {H B C:List Int} (hH:H.length=8):∀ i,(oF H B C i).length=8
 | 0=>VC hH 64
 | i+1=>by rw[oF,Ur,O4 hH i]
theorem Le.X1 {st st':St} {X:List (List AV)} (h1:∀ ρ sn h m,X.map (List.map (conv ρ sn h (m+1)))=X) (i j:Nat) (sn:List Nat) (h2:st'.sz=st.sz) (hh:st'.h=[(j,some ⟨1,X,0⟩)]) (hi:j<st'.n) (hs:∀ j∈sn,j≠i) (h0:st.hp i=some ⟨1,X,0⟩) (ht:∀ p∈st'.t,Wk (conv [(i,j)] sn st.hp 4 (st.get p.1)) p.2):Le 0 st st' :=
 Le.ren1 i j sn h2 hh hi hs h0 (by simp only[Ab,h1]) (Qh _) ht
theorem w8 (H B C:List Int) (hH:H.length=8) (hB:B.length=64) (hC:C.length=64):AcP 226 [Be H,DE B,Be C] [] (.rs 0 0 8) [some ⟨1,Ak .u32 (I5 H B C),0⟩]:=by
 refine Zu.s.ai ?_;have h4:∀ (l:List Int) ρ sn h m,(Ak .u32 l).map (List.map (conv ρ sn h (m+1)))=Ak .u32 l:=λ l=>PB .u32 l
 refine ar [0,1,2] [] [] 24 ?_;apply ak [0,1,2,7] [24] 40
 .simp
  rfl
 refine AC ?_;apply ak [0,1,2,7,8] [24] 48
 .simp
  rfl
 refine AL (Ae (ι:=Nat) (λ i=>⟨256,[(0,Be H),(1,DE B),(2,Be C),(7,.rs 24 0 64),(8,.I i)],[(24,some ⟨1,Ak .u32 (Dq B i),0⟩)],48⟩) (λ i=>i<=16) (λ i=>16 - i) 0 (by omega) (Le.refl _ _) ?_)
 intro i hi;refine AC (arc ⟨256,[(0,Be H),(1,DE B),(2,Be C),(7,.rs 24 0 64),(8,.I i),(21,.B (decide (i<16)))],[(24,some ⟨1,Ak .u32 (Dq B i),0⟩)],64⟩ ?_ ?_)
 .simp
  exact Le.keep rfl (Qk _) (by simp<;>omega) (by simp)
 refine AE _ rfl (λ h=>AJ ?_) λ h=>Aa (hit ?_)
 .simp only[Qd] at h
  refine Ao ⟨256,[(0,Be H),(1,DE B),(2,Be C),(7,.rs 24 0 64),(8,.I i)],[(24,some ⟨1,Ak .u32 (Dq B (i+1)),0⟩)],360⟩ ?_ ?_
  .obtain ⟨p,hp⟩:=AG (4*i)
   obtain⟨p1,hu⟩:∃ q,q=p+1:=⟨_,rfl⟩;obtain⟨p2,hv⟩:∃ q,q=p+2:=⟨_,rfl⟩;obtain⟨p3,hw⟩:∃ q,q=p+3:=⟨_,rfl⟩;have hx:IntKind.i64.wrap (4*(i:Int))=(p:Int):=by rw[w6];omega
   have hy:IntKind.i64.wrap ((p:Int)+1)=(p1:Int):=by rw[w6];omega
   have h5:IntKind.i64.wrap ((p:Int)+2)=(p2:Int):=by rw[w6];omega
   have a0:IntKind.i64.wrap ((p:Int)+3)=(p3:Int):=by rw[w6];omega
   obtain⟨l0,g0⟩:=F7 hB (show p<64 by omega)
   obtain⟨l1,g1⟩:=F7 hB (show p1<64 by omega)
   obtain⟨l2,g2⟩:=F7 hB (show p2<64 by omega)
   obtain⟨l3,g3⟩:=F7 hB (show p3<64 by omega)
   have hs:Ak .u32 (Dq B (i+1))=(Ak .u32 (Dq B i)).set i [wd (MD (gt B p) (gt B p1) (gt B p2) (gt B p3))]:=by rw[Dq,Ak,U8,hu,hv,hw,hp]
   obtain⟨z,hz⟩:=AG (MD (gt B p) (gt B p1) (gt B p2) (gt B p3));rw[<- hz] at hs;rw[hs];have hg:=Fh (k:=.u32) (MY B i) (show i<64 by omega)
   have hX:=h4 (Dq B i);generalize Ak .u32 (Dq B i)=X at *;generalize gt (Dq B i) i=o at *;have h3:∀ ρ sn h m,(X.set i [wd z]).map (List.map (conv ρ sn h (m+1)))=X.set i [wd z]:=λ ρ sn h m=>by rw[U8,hX];simp
   generalize a6:gt B p=c0 at *;generalize a8:gt B p1=c1 at *;generalize a9:gt B p2=c2 at *;generalize ad:gt B p3=c3 at *;refine AL (Cr rfl ?_);simp[hx,hy,h5,a0,l0,l1,l2,l3,g0,g1,g2,g3,h,hg,show (i:Int)<64 by omega,Ay]
   have a1:u2 .or (u2 .or (u2 .or (sh .shl (IntKind.u32.wrap c0) 24) (sh .shl (IntKind.u32.wrap c1) 16)) (sh .shl (IntKind.u32.wrap c2) 8)) (IntKind.u32.wrap c3)=z:=hz.symm;simp only[a1];exact⟨rfl,Le.X1 h3 24 24 [] rfl rfl (by simp) (by simp) rfl (by simp)⟩
  have h2:=wq (k:=i);refine Ac rfl ?_;simp[h2];exact⟨i+1,by omega,by omega,Le.K1 24 24 [] rfl rfl (by simp) (by simp) rfl (by simp)⟩
 simp only[Qa] at h;obtain rfl:i=16:=by omega
 refine AC ?_;apply ak [0,2,7,9] [24] 72
 .simp [Bz]
  rfl
 refine AL (Ae (ι:=Nat) (λ i=>⟨256,[(0,Be H),(2,Be C),(7,.rs 24 0 64),(9,.I (i+16:Nat))],[(24,some ⟨1,Ak .u32 (Bz B i),0⟩)],72⟩) (λ i=>i<=48) (λ i=>48 - i) 0 (by omega) (Le.refl _ _) ?_)
 intro i hi;obtain⟨m,hm⟩:=AG (i+16);rw[<- hm];refine AC (arc ⟨256,[(0,Be H),(2,Be C),(7,.rs 24 0 64),(9,.I m),(61,.B (decide (i<48)))],[(24,some ⟨1,Ak .u32 (Bz B i),0⟩)],88⟩ ?_ ?_)
 .simp
  exact Le.keep rfl (Qk _) (by simp;omega) (by simp)
 refine AE _ rfl (λ h=>AJ ?_) λ h=>Aa (hit ?_)
 .simp only[Qd] at h
  refine Ao ⟨256,[(0,Be H),(2,Be C),(7,.rs 24 0 64),(9,.I m)],[(24,some ⟨1,Ak .u32 (Bz B (i+1)),0⟩)],576⟩ ?_ ?_
  .have h6:IntKind.i64.wrap ((m:Int) - 15)=((i+1:Nat):Int):=by rw[w6];omega
   have h5:IntKind.i64.wrap ((m:Int) - 2)=((i+14:Nat):Int):=by rw[w6];omega
   have hc:IntKind.i64.wrap ((m:Int) - 16)=((i:Nat):Int):=by rw[w6];omega
   have hd:IntKind.i64.wrap ((m:Int) - 7)=((i+9:Nat):Int):=by rw[w6];omega
   have h0:=Ku B i;have g15:=Fh (k:=.u32) h0 (show i+1<64 by omega)
   have g2:=Fh (k:=.u32) h0 (show i+14<64 by omega)
   have g16:=Fh (k:=.u32) h0 (show i<64 by omega)
   have g7:=Fh (k:=.u32) h0 (show i+9<64 by omega)
   have gm:=Fh (k:=.u32) h0 (show m<64 by omega)
   have hs:Ak .u32 (Bz B (i+1))=(Ak .u32 (Bz B i)).set m [wd (u2 .add (u2 .add (u2 .add (gt (Bz B i) i) (LP (gt (Bz B i) (i+1)))) (gt (Bz B i) (i+9))) (LN (gt (Bz B i) (i+14))))]:=by rw[Bz,Ak,U8,hm]
   have hX:=h4 (Bz B i);generalize gt (Bz B i) (i+1)=a15 at *;generalize gt (Bz B i) (i+14)=a2 at *;generalize gt (Bz B i) i=a16 at *;generalize gt (Bz B i) (i+9)=a7 at *;generalize gt (Bz B i) m=am at *;generalize Ak .u32 (Bz B i)=X at *;obtain⟨a3,he⟩:∃ q,q=i+1:=⟨_,rfl⟩;obtain⟨q2,hq2⟩:∃ q,q=i+14:=⟨_,rfl⟩;obtain⟨q7,a4⟩:∃ q,q=i+9:=⟨_,rfl⟩;rw[<- he] at h6 g15;rw[<- hq2] at h5 g2;rw[<- a4] at hd g7;obtain⟨b15,h7⟩:∃ b,b=LP a15:=⟨_,rfl⟩;obtain⟨b2,hf⟩:∃ b,b=LN a2:=⟨_,rfl⟩;rw[<- h7,<- hf] at hs;obtain⟨z,hz⟩:=AG (u2 .add (u2 .add (u2 .add a16 b15) a7) b2);rw[<- hz] at hs;rw[hs];have h3:∀ ρ sn h m',(X.set m [wd z]).map (List.map (conv ρ sn h (m'+1)))=X.set m [wd z]:=λ ρ sn h m'=>by rw[U8,hX];simp
   refine AL (CW ⟨256,[(0,Be H),(2,Be C),(7,.rs 24 0 64),(9,.I m),(10,wd b15)],[(24,some ⟨1,X,0⟩)],256⟩ ?_ ?_)
   .simp [h6,g15,show (a3:Int)<64 by omega]
    refine Aq (Hn a15 7 (by decide) (by decide)) rfl ?_
    simp[g15];refine Aq (Hn a15 18 (by decide) (by decide)) rfl ?_
    simp[g15];exact⟨rfl,Le.keep rfl (Qk _) (by simp[h7,LP]) (by simp)⟩
   refine CW ⟨256,[(0,Be H),(2,Be C),(7,.rs 24 0 64),(9,.I m),(10,wd b15),(11,wd b2)],[(24,some ⟨1,X,0⟩)],424⟩ ?_ ?_
   .simp [h5,g2,show (q2:Int)<64 by omega]
    refine Aq (Hn a2 17 (by decide) (by decide)) rfl ?_
    simp[g2];refine Aq (Hn a2 19 (by decide) (by decide)) rfl ?_
    simp[g2];exact⟨rfl,Le.keep rfl (Qk _) (by simp[hf,LN]) (by simp)⟩
   refine Cr rfl ?_;simp[hc,hd,g16,g7,gm,show (q7:Int)<64 by omega,show (i:Int)<64 by omega,show (m:Int)<64 by omega,Ay,<- hz]
   exact⟨rfl,Le.X1 h3 24 24 [] rfl rfl (by simp) (by simp) rfl (by simp)⟩
  have h2:IntKind.i64.wrap ((m:Int)+1)=((i+1+16:Nat):Int):=by rw[w6];omega
  refine Ac rfl ?_;simp[h2];exact⟨i+1,by omega,by omega,Le.K1 24 24 [] rfl rfl (by simp) (by simp) rfl (by simp)⟩
 simp only[Qa] at h;obtain rfl:i=48:=by omega
 obtain⟨W,hW⟩:=AG (Bz B 48);have hh:W.length=64:=by rw[hW];exact Ku B 48
 rw[<- hW];refine arc ⟨256,[(0,Be H),(2,Be C),(7,Be W),(12,.rs 96 0 8)],[(96,some ⟨1,Ak .u32 (vF H B C 0),0⟩)],112⟩ ?_ ?_
 .simp [hH]
  have ag:List.take 64 (Ak .u32 W)=Ak .u32 W:=Qb (by rw[IJ];omega)
  exact Le.ren1 96 96 [24] rfl rfl (by simp) (by simp) rfl (by simp[vF,AB]) (by simp) (by simp[AB,hh];rw[Qb (by simp;omega)];exact .refl _)
 refine AC ?_;apply ak [0,2,7,12,13] [96] 120
 .simp
  rfl
 refine AL (Ae (ι:=Nat) (λ i=>⟨256,[(0,Be H),(2,Be C),(7,Be W),(12,.rs 96 0 8),(13,.I i)],[(96,some ⟨1,Ak .u32 (vF H B C i),0⟩)],120⟩) (λ i=>i<=64) (λ i=>64 - i) 0 (by omega) (Le.refl _ _) ?_)
 intro i hi;refine AC (arc ⟨256,[(0,Be H),(2,Be C),(7,Be W),(12,.rs 96 0 8),(13,.I i),(125,.B (decide (i<64)))],[(96,some ⟨1,Ak .u32 (vF H B C i),0⟩)],136⟩ ?_ ?_)
 .simp
  exact Le.keep rfl (Qk _) (by simp<;>omega) (by simp)
 refine AE _ rfl (λ h=>AJ ?_) λ h=>Aa (hit ?_)
 .simp only[Qd] at h
  refine Ao ⟨256,[(0,Be H),(2,Be C),(7,Be W),(12,.rs 96 0 8),(13,.I i)],[(96,some ⟨1,Ak .u32 (vF H B C (i+1)),0⟩)],1088⟩ ?_ ?_
  .have h1:=VC (B:=B) (C:=C) hH i
   have hs:vF H B C (i+1)=[u2 .add (u2 .add (xF (vF H B C i) (gt C i) (gt W i)) (r3 (gt (vF H B C i) 0) 2 13 22)) (mF (vF H B C i)),gt (vF H B C i) 0,gt (vF H B C i) 1,gt (vF H B C i) 2,u2 .add (gt (vF H B C i) 3) (xF (vF H B C i) (gt C i) (gt W i)),gt (vF H B C i) 4,gt (vF H B C i) 5,gt (vF H B C i) 6]:=by rw[hW];rfl
   rw[hs];generalize vF H B C i=v at *;have g0:=Fh (k:=.u32) h1 (show 0<8 by omega)
   have g1:=Fh (k:=.u32) h1 (show 1<8 by omega)
   have g2:=Fh (k:=.u32) h1 (show 2<8 by omega)
   have g3:=Fh (k:=.u32) h1 (show 3<8 by omega)
   have g4:=Fh (k:=.u32) h1 (show 4<8 by omega)
   have g5:=Fh (k:=.u32) h1 (show 5<8 by omega)
   have g6:=Fh (k:=.u32) h1 (show 6<8 by omega)
   have g7:=Fh (k:=.u32) h1 (show 7<8 by omega)
   obtain⟨lc,gc⟩:=F7 hC h;obtain⟨lw,gw⟩:=F7 hh h;have hj:xF v (gt C i) (gt W i)=u2 .add (u2 .add (u2 .add (u2 .add (gt v 7) (r3 (gt v 4) 6 11 25)) (u2 .xor (u2 .and (gt v 4) (gt v 5)) (u2 .and (nt (gt v 4)) (gt v 6)))) (gt C i)) (gt W i):=rfl;have hk:mF v=u2 .xor (u2 .xor (u2 .and (gt v 0) (gt v 1)) (u2 .and (gt v 0) (gt v 2))) (u2 .and (gt v 1) (gt v 2)):=rfl;have hX:=h4 v;generalize gt C i=ck at *;generalize gt W i=wk at *;generalize Ak .u32 v=X at *;generalize gt v 0=v0 at *;generalize gt v 1=v1 at *;generalize gt v 2=v2 at *;generalize gt v 3=v3 at *;generalize gt v 4=v4 at *;generalize gt v 5=v5 at *;generalize gt v 6=v6 at *;generalize gt v 7=v7 at *;obtain⟨s,ho⟩:=AG (r3 v4 6 11 25);obtain⟨c,hq⟩:=AG (u2 .xor (u2 .and v4 v5) (u2 .and (nt v4) v6));obtain⟨x,ha⟩:=AG (xF v ck wk);obtain⟨s',h9⟩:∃ s,s=r3 v0 2 13 22:=⟨_,rfl⟩;obtain⟨y,hb⟩:=AG (mF v);rw[<- ho,<- hq,<- ha] at hj;rw[<- hb] at hk;rw[<- ha,<- h9,<- hb]
   clear ha hb
   refine AL (CW ⟨256,[(0,Be H),(2,Be C),(7,Be W),(12,.rs 96 0 8),(13,.I i),(14,wd s)],[(96,some ⟨1,X,0⟩)],256⟩ ?_ ?_)
   .simp [g4]
    refine Aq (Hn v4 6 (by decide) (by decide)) rfl ?_
    simp[g4];refine Aq (Hn v4 11 (by decide) (by decide)) rfl ?_
    simp[g4];refine Aq (Hn v4 25 (by decide) (by decide)) rfl ?_
    simp;exact⟨rfl,Le.keep rfl (Qk _) (by simp[ho,r3]) (by simp)⟩
   refine CW ⟨256,[(0,Be H),(2,Be C),(7,Be W),(12,.rs 96 0 8),(13,.I i),(14,wd s),(15,wd c)],[(96,some ⟨1,X,0⟩)],392⟩ ?_ ?_
   .simp [g4,g5,g6]
    exact⟨rfl,Le.keep rfl (Qk _) (by simp[hq]) (by simp)⟩
   refine CW ⟨256,[(0,Be H),(2,Be C),(7,Be W),(12,.rs 96 0 8),(13,.I i),(16,wd x)],[(96,some ⟨1,X,0⟩)],536⟩ ?_ ?_
   .simp [g7,lc,gc,lw,gw]
    exact⟨rfl,Le.keep rfl (Qk _) (by simp[hj]) (by simp)⟩
   refine CW ⟨256,[(0,Be H),(2,Be C),(7,Be W),(12,.rs 96 0 8),(13,.I i),(16,wd x),(14,wd s')],[(96,some ⟨1,X,0⟩)],656⟩ ?_ ?_
   .simp [g0]
    refine Aq (Hn v0 2 (by decide) (by decide)) rfl ?_
    simp[g0];refine Aq (Hn v0 13 (by decide) (by decide)) rfl ?_
    simp[g0];refine Aq (Hn v0 22 (by decide) (by decide)) rfl ?_
    simp;exact⟨rfl,Le.keep rfl (Qk _) (by simp[h9,r3]) (by simp)⟩
   refine CW ⟨256,[(0,Be H),(2,Be C),(7,Be W),(12,.rs 96 0 8),(13,.I i),(16,wd x),(14,wd s'),(17,wd y)],[(96,some ⟨1,X,0⟩)],848⟩ ?_ ?_
   .simp [g0,g1,g2]
    exact⟨rfl,Le.keep rfl (Qk _) (by simp[hk]) (by simp)⟩
   refine Cr rfl ?_;simp[g0,g1,g2,g3,g4,g5,g6];exact⟨rfl,Le.ren1 1072 96 [] rfl rfl (by simp) (by simp) rfl (by simp) (by simp) (by simp)⟩
  have h2:=wq (k:=i);refine Ac rfl ?_;simp[h2];exact⟨i+1,by omega,by omega,Le.K1 96 96 [] rfl rfl (by simp) (by simp) rfl (by simp)⟩
 simp only[Qa] at h;obtain rfl:i=64:=by omega
 refine AC ?_;apply ak [0,12,18] [96] 144
 .simp
  rfl
 refine AL (Ae (ι:=Nat) (λ i=>⟨256,[(0,Be H),(12,.rs 96 0 8),(18,.I i)],[(96,some ⟨1,Ak .u32 (oF H B C i),0⟩)],144⟩) (λ i=>i<=8) (λ i=>8 - i) 0 (by omega) (Le.refl _ _) ?_)
 intro i hi;refine AC (arc ⟨256,[(0,Be H),(12,.rs 96 0 8),(18,.I i),(242,.B (decide (i<8)))],[(96,some ⟨1,Ak .u32 (oF H B C i),0⟩)],160⟩ ?_ ?_)
 .simp
  exact Le.keep rfl (Qk _) (by simp<;>omega) (by simp)
 refine AE _ rfl (λ h=>AJ ?_) λ h=>Aa (hit ?_)
 .simp only[Qd] at h
  refine Ao ⟨256,[(0,Be H),(12,.rs 96 0 8),(18,.I i)],[(96,some ⟨1,Ak .u32 (oF H B C (i+1)),0⟩)],248⟩ ?_ ?_
  .have a5:=O4 (B:=B) (C:=C) hH i
   have hg:=Fh (k:=.u32) a5 h;obtain⟨lh,gh⟩:=F7 hH h;obtain⟨z,hz⟩:=AG (u2 .add (gt (oF H B C i) i) (gt H i));have hs:Ak .u32 (oF H B C (i+1))=(Ak .u32 (oF H B C i)).set i [wd z]:=by rw[oF,Ak,U8,hz]
   rw[hs];have hX:=h4 (oF H B C i);generalize gt (oF H B C i) i=a at *;generalize gt H i=b at *;generalize Ak .u32 (oF H B C i)=X at *;have h3:∀ ρ sn h m,(X.set i [wd z]).map (List.map (conv ρ sn h (m+1)))=X.set i [wd z]:=λ ρ sn h m=>by rw[U8,hX];simp
   refine AL (Cr rfl ?_);simp[hg,lh,gh,h,show (i:Int)<8 by omega,Ay,<- hz]
   exact⟨rfl,Le.X1 h3 96 96 [] rfl rfl (by simp) (by simp) rfl (by simp)⟩
  have h2:=wq (k:=i);refine Ac rfl ?_;simp[h2];exact⟨i+1,by omega,by omega,Le.K1 96 96 [] rfl rfl (by simp) (by simp) rfl (by simp)⟩
 simp only[Qa] at h;obtain rfl:i=8:=by omega
 refine AC (AX ?_);exact A9 (AS.out [96] [] rfl (by simp) (by simp) (by simp) (by simp[I5,AB]))
theorem Z9 (a b:Int):u2 .or a b=u2 .or b a:=by
 unfold u2 AH;simp[Nat.or_comm]
theorem Jy (a b:Int):u2 .add a b=IntKind.u32.wrap (a+b):=rfl
theorem cH (a b:Int):u2 .add a b=u2 .add b a:=by rw[Jy,Jy,Int.add_comm]
theorem c8 (a b c:Int):u2 .add (u2 .add a b) c=u2 .add a (u2 .add b c):=by
 rw[Jy,Jy,Jy,Jy,IntKind.wrap_u32,IntKind.wrap_u32,IntKind.wrap_u32,IntKind.wrap_u32];omega
theorem Hq (x n s:Int) (h1:IntKind.i64.wrap (-n) = -n) (h3:AH .and (.int .u64 (IntKind.u64.wrap (-n))) (.int .u64 31)=some (.int .u64 s)) (h4:0<=s) (h5:IntKind.u64.wrap (32 - s)=n) (hn:0<=n) (hs:32 - n=s):AcP 227 [wd x,.I n] [] (wd (C6 x n)) []:=by
 have h0:AcP 228 [wd x,.I (-n)] [] (wd (C6 x n)) []:=by
  refine jL.s.ai ?_;refine AC (AX ?_);apply ax [0,5] [] [] 100
  .simp [-AH]
   refine⟨_,h3,?_⟩;rfl
  refine arc ⟨17,[(4,wd (C6 x n))],[],300⟩ ?_ ?_
  .simp [h4,h5,hn]
   exact A5 [] (by simp[C6,hs];rw[Z9];exact .refl _)
  exact Bl
 refine fS.s.ai ?_;refine rs [0,1] [] [] ?_;apply ax [4] [] [] 300
 .simp [h1]
  refine Aj h0 ?_;simp;rfl
 exact Bl
theorem eH (x:Int):AcP 227 [wd x,.I 7] [] (wd (C6 x 7)) []:=Hq x 7 25 rfl rfl (by decide) rfl (by decide) rfl
theorem rU (x:Int):AcP 227 [wd x,.I 18] [] (wd (C6 x 18)) []:=Hq x 18 14 rfl rfl (by decide) rfl (by decide) rfl
theorem sZ (x:Int):AcP 227 [wd x,.I 17] [] (wd (C6 x 17)) []:=Hq x 17 15 rfl rfl (by decide) rfl (by decide) rfl
theorem n3 (x:Int):AcP 227 [wd x,.I 19] [] (wd (C6 x 19)) []:=Hq x 19 13 rfl rfl (by decide) rfl (by decide) rfl
theorem lV (x:Int):AcP 227 [wd x,.I 6] [] (wd (C6 x 6)) []:=Hq x 6 26 rfl rfl (by decide) rfl (by decide) rfl
theorem eI (x:Int):AcP 227 [wd x,.I 11] [] (wd (C6 x 11)) []:=Hq x 11 21 rfl rfl (by decide) rfl (by decide) rfl
theorem vM (x:Int):AcP 227 [wd x,.I 25] [] (wd (C6 x 25)) []:=Hq x 25 7 rfl rfl (by decide) rfl (by decide) rfl
theorem pG (x:Int):AcP 227 [wd x,.I 2] [] (wd (C6 x 2)) []:=Hq x 2 30 rfl rfl (by decide) rfl (by decide) rfl
theorem fF (x:Int):AcP 227 [wd x,.I 13] [] (wd (C6 x 13)) []:=Hq x 13 19 rfl rfl (by decide) rfl (by decide) rfl
theorem bU (x:Int):AcP 227 [wd x,.I 22] [] (wd (C6 x 22)) []:=Hq x 22 10 rfl rfl (by decide) rfl (by decide) rfl
variable {l:List Int}
abbrev Ap (l:List Int):List AV:=l.map wd
theorem Iw {i n:Nat} (hl:l.length=n) (h:i<n):(Ap l).drop i=wd (gt l i)::(Ap l).drop (i+1):=by
 have h2:i<(Ap l).length:=by simp[hl,h]
 rw[QP h2];obtain⟨h3,h4⟩:=F7 hl h;simp[h4]
theorem Ow {i:Nat} {z:Int} (h:i<l.length):Ay (Ap l) i [wd z]=Ap (l.set i z):=by
 unfold Ay;rw[Ap,Ap,U8,List.set_eq_take_append_cons_drop,if_pos (by simpa using h)]
 simp
theorem zAw (h:l.length=8):∃ a b c d e f g k,l=[a,b,c,d,e,f,g,k]:=by
 match l,h with
 | [a,b,c,d,e,f,g,k],_=>exact⟨a,b,c,d,e,f,g,k,rfl⟩
def oS (H V:List Int):Nat->List Int
 | 0=>H
 | i+1=>(oS H V i).set i (u2 .add (gt H i) (gt V i))
theorem VG (H V:List Int):∀ i,(oS H V i).length=H.length
 | 0=>rfl
 | i+1=>by rw[oS,Ur];exact VG H V i
theorem V1 (H V:List Int):∀ i j,i<=j->gt (oS H V i) j=gt H j
 | 0,_,_=>rfl
 | i+1,j,h=>by
   rw[<- V1 H V i j (by omega),oS,gt,gt,List.getD,List.getElem?_set_ne (by omega)]
   rfl
theorem mG {H B C:List Int} (hH:H.length=8) (hV:(vF H B C 64).length=8):oS H (vF H B C 64) 8=oF H B C 8:=by
 have h0:oF H B C 0=vF H B C 64:=rfl;obtain⟨a,b,c,d,e,f,g,k,rfl⟩:=zAw hH;obtain⟨a',b',c',d',e',f',g',k',hv⟩:=zAw hV;generalize hO:oF [a,b,c,d,e,f,g,k] B C=O;have hs:∀ i,O (i+1)=(O i).set i (u2 .add (gt (O i) i) (gt [a,b,c,d,e,f,g,k] i)):=λ i=>by rw[<- hO];rfl
 rw[hO] at h0;rw[hv] at h0 ⊢;simp[hs,h0,oS,gt];simp[cH]
theorem mU (H B C:List Int) (hH:H.length=8) (hB:B.length=64) (hC:C.length=64):AcP 220 [.pt 0 0 0,DE B,.pv (Ap C)] [⟨8,[Ap H],0⟩] (.tup []) [some ⟨8,[Ap (I5 H B C)],0⟩]:=by
 refine ZH.s.ai ?_;refine arc ⟨211,[(0,.pt 0 0 0),(1,DE B),(2,.pv (Ap C)),(6,.pt 24 0 0)],[(0,some ⟨8,[Ap H],0⟩),(24,some ⟨64,[Ap (Dq B 0)],0⟩)],100⟩ ?_ ?_
 .simp
  exact AF [(0,0),(16,24)] [] (by simp) (by simp[Dq])
 refine AC (Dw ⟨211,[(0,.pt 0 0 0),(1,DE B),(2,.pv (Ap C)),(6,.pt 24 0 0),(19,.I 0)],[(0,some ⟨8,[Ap H],0⟩),(24,some ⟨64,[Ap (Dq B 0)],0⟩)],200⟩ [(0,0),(24,24)] [] ?_);refine AL (Ae (ι:=Nat) (λ i=>⟨211,[(0,.pt 0 0 0),(1,DE B),(2,.pv (Ap C)),(6,.pt 24 0 0),(19,.I i)],[(0,some ⟨8,[Ap H],0⟩),(24,some ⟨64,[Ap (Dq B i)],0⟩)],300⟩) (λ i=>i<=16) (λ i=>16 - i) 0 (by omega) (Bk [(0,0),(24,24)] []) ?_)
 intro i hi;refine arc ⟨211,[(0,.pt 0 0 0),(1,DE B),(2,.pv (Ap C)),(6,.pt 24 0 0),(19,.I i),(20,.B (decide (i<16)))],[(0,some ⟨8,[Ap H],0⟩),(24,some ⟨64,[Ap (Dq B i)],0⟩)],400⟩ ?_ ?_
 .simp
  exact AF [(0,0),(24,24)] [] (by simp<;>exact Aw (by rw[Qp];simp;omega))
 refine AC (AE _ rfl (λ h=>AJ ?_) λ h=>Aa (hit ?_))
 .rw [Qd] at h
  refine Ao ⟨211,[(0,.pt 0 0 0),(1,DE B),(2,.pv (Ap C)),(6,.pt 24 0 0),(19,.I i)],[(0,some ⟨8,[Ap H],0⟩),(24,some ⟨64,[Ap (Dq B (i+1))],0⟩)],1000⟩ ?_ ?_
  .obtain ⟨p,hp⟩:=AG (4*i)
   obtain⟨p1,a5⟩:∃ q,q=p+1:=⟨_,rfl⟩;obtain⟨p2,a6⟩:∃ q,q=p+2:=⟨_,rfl⟩;obtain⟨p3,a8⟩:∃ q,q=p+3:=⟨_,rfl⟩;have a9:IntKind.i64.wrap (4*(i:Int))=(p:Int):=by rw[w6];omega
   have ad:IntKind.i64.wrap ((p:Int)+1)=(p1:Int):=by rw[w6];omega
   have ha:IntKind.i64.wrap ((p:Int)+2)=(p2:Int):=by rw[w6];omega
   have ag:IntKind.i64.wrap ((p:Int)+3)=(p3:Int):=by rw[w6];omega
   obtain⟨l0,g0⟩:=F7 hB (show p<64 by omega)
   obtain⟨l1,g1⟩:=F7 hB (show p1<64 by omega)
   obtain⟨l2,g2⟩:=F7 hB (show p2<64 by omega)
   obtain⟨l3,g3⟩:=F7 hB (show p3<64 by omega)
   have am:(Dq B i).length=64:=MY B i;obtain⟨z,hz⟩:=AG (MD (gt B p) (gt B p1) (gt B p2) (gt B p3))
   have hs:Ay (Ap (Dq B i)) i [wd z]=Ap (Dq B (i+1)):=by
    rw[Ow (by omega),Dq,hz,a5,a6,a8,hp]
   rw[<- hs];have h5:(Ap (Dq B i)).length=64:=by simp[am]
   have h0:∀ ρ sn h,(Ap (Dq B i)).map (conv ρ sn h 4)=Ap (Dq B i):=λ ρ sn h=>by simp[AB]
   generalize Ap (Dq B i)=X at *;generalize b6:gt B p=c0 at *;generalize bf:gt B p1=c1 at *;generalize bo:gt B p2=c2 at *;generalize bs:gt B p3=c3 at *;refine AL (arc ⟨211,[(0,.pt 0 0 0),(1,DE B),(2,.pv (Ap C)),(6,.pt 24 0 0),(7,.I i),(19,.I i)],[(0,some ⟨8,[Ap H],0⟩),(24,some ⟨64,[X],0⟩)],500⟩ ?_ ?_)
   .simp
    exact AF [(0,0),(24,24)] [] (by simp) (by simp[h0])
   refine Cr rfl ?_;simp[-Ay,a9,ad,ha,ag,l0,l1,l2,l3,g0,g1,g2,g3,show (i:Int)<64 by omega,h5]
   have hf:u2 .or (u2 .or (u2 .or (sh .shl (IntKind.u32.wrap c0) 24) (sh .shl (IntKind.u32.wrap c1) 16)) (sh .shl (IntKind.u32.wrap c2) 8)) (IntKind.u32.wrap c3)=z:=hz.symm;simp only[hf];refine⟨by omega,rfl,?_⟩
   have h6:∀ ρ sn h,(Ay X i [wd z]).map (conv ρ sn h 4)=Ay X i [wd z]:=λ ρ sn h=>by unfold Ay;simp only[QT,List.map_take,Vb,h0];simp
   exact AF [(0,0),(24,24)] [] (by simp) (by simp[-Ay,h6])
  have h2:=wq (k:=i);refine Ac rfl ?_;simp[h2];exact⟨i+1,by omega,by omega,Bk [(0,0),(24,24)] []⟩
 rw[Qa] at h;obtain rfl:i=16:=by omega
 refine arc ⟨211,[(0,.pt 0 0 0),(2,.pv (Ap C)),(6,.pt 24 0 0),(8,.fn (.func 227) [] [])],[(0,some ⟨8,[Ap H],0⟩),(24,some ⟨64,[Ap (Bz B 0)],0⟩)],2000⟩ ?_ ?_
 .simp
  exact AF [(0,0),(24,24)] [] (by simp) (by simp[Bz])
 refine AC (Dw ⟨211,[(0,.pt 0 0 0),(2,.pv (Ap C)),(6,.pt 24 0 0),(8,.fn (.func 227) [] []),(9,.I ((0+16:Nat):Int))],[(0,some ⟨8,[Ap H],0⟩),(24,some ⟨64,[Ap (Bz B 0)],0⟩)],2100⟩ [(0,0),(24,24)] [] ?_);refine AL (Ae (ι:=Nat) (λ i=>⟨211,[(0,.pt 0 0 0),(2,.pv (Ap C)),(6,.pt 24 0 0),(8,.fn (.func 227) [] []),(9,.I ((i+16:Nat):Int))],[(0,some ⟨8,[Ap H],0⟩),(24,some ⟨64,[Ap (Bz B i)],0⟩)],2200⟩) (λ i=>i<=48) (λ i=>48 - i) 0 (by omega) (Bk [(0,0),(24,24)] []) ?_)
 intro i hi;obtain⟨m,hm⟩:=AG (i+16);rw[<- hm];refine AC (arc ⟨211,[(0,.pt 0 0 0),(2,.pv (Ap C)),(6,.pt 24 0 0),(8,.fn (.func 227) [] []),(9,.I m),(59,.B (decide (i<48)))],[(0,some ⟨8,[Ap H],0⟩),(24,some ⟨64,[Ap (Bz B i)],0⟩)],2300⟩ ?_ ?_)
 .simp
  exact AF [(0,0),(24,24)] [] (by simp<;>exact Aw (by rw[Qp];simp;omega))
 refine AE _ rfl (λ h=>AJ ?_) λ h=>Aa (hit ?_)
 .rw [Qd] at h
  refine Ao ⟨211,[(0,.pt 0 0 0),(2,.pv (Ap C)),(6,.pt 24 0 0),(8,.fn (.func 227) [] []),(9,.I m)],[(0,some ⟨8,[Ap H],0⟩),(24,some ⟨64,[Ap (Bz B (i+1))],0⟩)],4000⟩ ?_ ?_
  .have hd:IntKind.i64.wrap ((m:Int) - 15)=((i+1:Nat):Int):=by rw[w6];omega
   have ha:IntKind.i64.wrap ((m:Int) - 2)=((i+14:Nat):Int):=by rw[w6];omega
   have hk:IntKind.i64.wrap ((m:Int) - 16)=((i:Nat):Int):=by rw[w6];omega
   have ho:IntKind.i64.wrap ((m:Int) - 7)=((i+9:Nat):Int):=by rw[w6];omega
   have h1:=Ku B i;have d15:=Iw h1 (show i+1<64 by omega)
   have d2:=Iw h1 (show i+14<64 by omega)
   have d16:=Iw h1 (show i<64 by omega)
   have d7:=Iw h1 (show i+9<64 by omega)
   obtain⟨z,hz⟩:=AG (u2 .add (u2 .add (u2 .add (gt (Bz B i) i) (LP (gt (Bz B i) (i+1)))) (gt (Bz B i) (i+9))) (LN (gt (Bz B i) (i+14))))
   have hs:Ay (Ap (Bz B i)) m [wd z]=Ap (Bz B (i+1)):=by
    rw[Ow (by omega),hz,hm]
    rfl
   rw[<- hs];have h5:(Ap (Bz B i)).length=64:=by simp[h1]
   have h0:∀ ρ sn h,(Ap (Bz B i)).map (conv ρ sn h 4)=Ap (Bz B i):=λ ρ sn h=>by simp[AB]
   generalize gt (Bz B i) (i+1)=a15 at *;generalize gt (Bz B i) (i+14)=a2 at *;generalize gt (Bz B i) i=a16 at *;generalize gt (Bz B i) (i+9)=a7 at *;generalize Ap (Bz B i)=X at *;obtain⟨hq,hu⟩:∃ q,q=i+1:=⟨_,rfl⟩;obtain⟨q2,hq2⟩:∃ q,q=i+14:=⟨_,rfl⟩;obtain⟨q7,an⟩:∃ q,q=i+9:=⟨_,rfl⟩;rw[<- hu] at hd d15;rw[<- hq2] at ha d2;rw[<- an] at ho d7;generalize List.drop (hq+1) X=R15 at d15;generalize List.drop (q2+1) X=R2 at d2;generalize List.drop (i+1) X=R16 at d16;generalize List.drop (q7+1) X=R7 at d7;refine AL (CW ⟨211,[(0,.pt 0 0 0),(2,.pv (Ap C)),(6,.pt 24 0 0),(8,.fn (.func 227) [] []),(9,.I m),(10,wd a15),(11,wd a2)],[(0,some ⟨8,[Ap H],0⟩),(24,some ⟨64,[X],0⟩)],2600⟩ ?_ ?_)
   .simp [hd,ha,d15,d2,show (hq:Int)<64 by omega,show (q2:Int)<64 by omega]
    exact⟨rfl,AF [(0,0),(24,24)] [] (by simp) (by simp[h0])⟩
   refine Cr rfl ?_;simp[-Ay,hk,ho,d16,show (i:Int)<64 by omega,show (q7:Int)<64 by omega]
   refine Aj (eH a15) ?_;simp[-Ay];refine Aj (rU a15) ?_;simp[-Ay,d7];refine Aj (sZ a2) ?_;simp[-Ay];refine Aj (n3 a2) ?_;simp[-Ay,h5,show (m:Int)<64 by omega]
   have hf:u2 .add (u2 .add (u2 .add a16 (u2 .xor (u2 .xor (C6 a15 7) (C6 a15 18)) (sh .shr a15 3))) a7) (u2 .xor (u2 .xor (C6 a2 17) (C6 a2 19)) (sh .shr a2 10))=z:=hz.symm;simp only[hf];refine⟨by omega,rfl,?_⟩
   have h6:∀ ρ sn h,(Ay X m [wd z]).map (conv ρ sn h 4)=Ay X m [wd z]:=λ ρ sn h=>by unfold Ay;simp only[QT,List.map_take,Vb,h0];simp
   exact AF [(0,0),(24,24)] [] (by simp) (by simp[-Ay,h6])
  have h2:IntKind.i64.wrap ((m:Int)+1)=((i+1+16:Nat):Int):=by rw[w6];omega
  refine Ac rfl ?_;simp[h2];exact⟨i+1,by omega,by omega,Bk [(0,0),(24,24)] []⟩
 rw[Qa] at h;obtain rfl:i=48:=by omega
 have hh:(Bz B 48).length=64:=Ku B 48;have hj:∀ i,vF H B C (i+1)=[u2 .add (u2 .add (xF (vF H B C i) (gt C i) (gt (Bz B 48) i)) (r3 (gt (vF H B C i) 0) 2 13 22)) (mF (vF H B C i)),gt (vF H B C i) 0,gt (vF H B C i) 1,gt (vF H B C i) 2,u2 .add (gt (vF H B C i) 3) (xF (vF H B C i) (gt C i) (gt (Bz B 48) i)),gt (vF H B C i) 4,gt (vF H B C i) 5,gt (vF H B C i) 6]:=λ i=>rfl;obtain⟨W,hW⟩:=AG (Bz B 48);rw[<- hW] at hh ⊢;simp only[<- hW] at hj;have hw:vF H B C 0=H:=rfl;have hb:∀ i,(vF H B C i).length=8:=λ i=>by cases i with | zero=>exact hH | succ i=>rfl
 have hx:I5 H B C=oS H (vF H B C 64) 8:=(mG hH (hb 64)).symm;rw[hx];obtain⟨V,hV⟩:=AG (vF H B C);rw[<- hV] at hj hw hb hx ⊢;refine arc ⟨211,[(0,.pt 0 0 0),(2,.pv (Ap C)),(6,.pv (Ap W)),(8,.fn (.func 227) [] []),(12,.pt 40 0 0)],[(0,some ⟨8,[Ap H],0⟩),(40,some ⟨8,[Ap (V 0)],0⟩)],5000⟩ ?_ ?_
 .have hy:∀ f:Int->AV,(H.map f).take 8=H.map f:=λ f=>Qb (by simp[hH])
  simp[hH,Ay];exact AF [(0,0),(2324,40)] [24] (by simp[AB]) (by simp[AB,hw,hy])
 refine AC (Dw ⟨211,[(0,.pt 0 0 0),(2,.pv (Ap C)),(6,.pv (Ap W)),(8,.fn (.func 227) [] []),(12,.pt 40 0 0),(106,.I 0)],[(0,some ⟨8,[Ap H],0⟩),(40,some ⟨8,[Ap (V 0)],0⟩)],5100⟩ [(0,0),(40,40)] [] ?_);refine AL (Ae (ι:=Nat) (λ i=>⟨211,[(0,.pt 0 0 0),(2,.pv (Ap C)),(6,.pv (Ap W)),(8,.fn (.func 227) [] []),(12,.pt 40 0 0),(106,.I i)],[(0,some ⟨8,[Ap H],0⟩),(40,some ⟨8,[Ap (V i)],0⟩)],5200⟩) (λ i=>i<=64) (λ i=>64 - i) 0 (by omega) (Av [(0,0),(40,40)] []) ?_)
 intro i hi;refine arc ⟨211,[(0,.pt 0 0 0),(2,.pv (Ap C)),(6,.pv (Ap W)),(8,.fn (.func 227) [] []),(12,.pt 40 0 0),(106,.I i),(107,.B (decide (i<64)))],[(0,some ⟨8,[Ap H],0⟩),(40,some ⟨8,[Ap (V i)],0⟩)],5300⟩ ?_ ?_
 .simp
  exact AF [(0,0),(40,40)] [] (by simp<;>exact Aw (by rw[Qp];simp;omega)) (by simp[AB])
 refine AC (AE _ rfl (λ h=>AJ ?_) λ h=>Aa (hit ?_))
 .rw [Qd] at h
  have h2:=wq (k:=i);have hc:=hj i;obtain⟨v0,v1,v2,v3,v4,v5,v6,v7,hv⟩:=zAw (hb i);have dC:=Iw hC h;have dW:=Iw hh h;have a0:(Ap C).length=64:=by simp[hC]
  have he:(Ap W).length=64:=by simp[hh]
  rw[hv] at hc ⊢;obtain⟨kc,au⟩:=AG (gt C i);obtain⟨kw,av⟩:=AG (gt W i);rw[<- au] at hc dC;rw[<- av] at hc dW;have b1:xF [v0,v1,v2,v3,v4,v5,v6,v7] kc kw=u2 .add (u2 .add (u2 .add (u2 .add v7 (u2 .xor (u2 .xor (C6 v4 6) (C6 v4 11)) (C6 v4 25))) (u2 .xor (u2 .and v4 v5) (u2 .and (nt v4) v6))) kc) kw:=rfl;have b2:mF [v0,v1,v2,v3,v4,v5,v6,v7]=u2 .xor (u2 .xor (u2 .and v0 v1) (u2 .and v0 v2)) (u2 .and v1 v2):=rfl;obtain⟨tt,h7⟩:=AG (xF [v0,v1,v2,v3,v4,v5,v6,v7] kc kw);obtain⟨uu,h9⟩:=AG (u2 .add (r3 v0 2 13 22) (mF [v0,v1,v2,v3,v4,v5,v6,v7]));have b3:r3 v0 2 13 22=u2 .xor (u2 .xor (C6 v0 2) (C6 v0 13)) (C6 v0 22):=rfl
  have b4:V (i+1)=[u2 .add tt uu,v0,v1,v2,u2 .add v3 tt,v4,v5,v6]:=by
   rw[hc,c8];rw[<- h7];rw[h9];rfl
  rw[b1] at h7;rw[b3,b2] at h9;replace h7:=h7.symm;replace h9:=h9.symm;generalize List.drop (i+1) (Ap C)=RC at dC;generalize List.drop (i+1) (Ap W)=RW at dW;refine Ao ⟨211,[(0,.pt 0 0 0),(2,.pv (Ap C)),(6,.pv (Ap W)),(8,.fn (.func 227) [] []),(12,.pt 40 0 0),(106,.I i)],[(0,some ⟨8,[Ap H],0⟩),(40,some ⟨8,[Ap (V (i+1))],0⟩)],8000⟩ ?_ ?_
  .rw [b4]
   refine AL (ar [0,2,6,8,12,13,106] [(0,0),(40,40)] [] 5500 ?_);apply ay [0,2,6,8,12,13,14,15,106] [(0,0),(40,40)] [] 5600
   .simp
    exact⟨rfl,rfl⟩
   apply ay [0,2,6,8,12,14,16,106] [(0,0),(40,40)] [] 6000
   .simp [a0,he,dC,dW,h,show (i:Int)<64 by omega]
    refine Aj (lV v4) ?_;simp[a0,he,dC,dW,show (i:Int)<64 by omega]
    refine Aj (eI v4) ?_;simp;refine Aj (vM v4) ?_;simp;simp only[h7];exact⟨rfl,rfl⟩
   apply ay [0,2,6,8,12,16,17,106] [(0,0),(40,40)] [] 7000
   .simp
    refine Aj (pG v0) ?_;simp;refine Aj (fF v0) ?_;simp;refine Aj (bU v0) ?_;simp;simp only[h9];exact⟨rfl,rfl⟩
   refine Ac rfl ?_;simp (maxSteps:=2000000) [E7,Ay];exact BF [(0,0),(40,40)] []
  refine Ac rfl ?_;simp[h2];exact⟨i+1,by omega,by omega,BF [(0,0),(40,40)] []⟩
 rw[Qa] at h;obtain rfl:i=64:=by omega
 have h3:=hb 64;obtain⟨Z,hZ⟩:=AG (V 64);rw[<- hZ] at h3 ⊢;have a1:oS H Z 0=H:=rfl;have h4:=VG H Z;rw[hH] at h4;have a3:=V1 H Z;have a4:∀ i,oS H Z (i+1)=(oS H Z i).set i (u2 .add (gt H i) (gt Z i)):=λ i=>rfl;refine arc ⟨211,[(0,.pt 0 0 0),(12,.pv (Ap Z)),(196,.I 0)],[(0,some ⟨8,[Ap (oS H Z 0)],0⟩)],9000⟩ ?_ ?_
 .simp
  exact AF [(0,0)] [40] (by simp[AB]) (by simp[AB,a1])
 refine AL (Ae (ι:=Nat) (λ i=>⟨211,[(0,.pt 0 0 0),(12,.pv (Ap Z)),(196,.I i)],[(0,some ⟨8,[Ap (oS H Z i)],0⟩)],9100⟩) (λ i=>i<=8) (λ i=>8 - i) 0 (by omega) (BF [(0,0)] []) ?_)
 intro i hi;refine arc ⟨211,[(0,.pt 0 0 0),(12,.pv (Ap Z)),(196,.I i),(197,.B (decide (i<8)))],[(0,some ⟨8,[Ap (oS H Z i)],0⟩)],9200⟩ ?_ ?_
 .simp
  exact AF [(0,0)] [] (by simp[AB]<;>exact Aw (by rw[Qp];simp;omega)) (by simp[AB])
 refine AC (AE _ rfl (λ h=>AJ ?_) λ h=>Aa (hit ?_))
 .rw [Qd] at h
  have h2:=wq (k:=i);refine Ao ⟨211,[(0,.pt 0 0 0),(12,.pv (Ap Z)),(196,.I i)],[(0,some ⟨8,[Ap (oS H Z (i+1))],0⟩)],9900⟩ ?_ ?_
  .have dO:=Iw (h4 i) h
   have dZ:=Iw h3 h;rw[a3 i i (Qk _)] at dO
   have hs:Ay (Ap (oS H Z i)) i [wd (u2 .add (gt H i) (gt Z i))]=Ap (oS H Z (i+1)):=by
    rw[Ow (by rw[h4];exact h),a4]
   rw[<- hs];have h5:(Ap (oS H Z i)).length=8:=by simp[h4]
   have b5:(Ap Z).length=8:=by simp[h3]
   have h0:∀ ρ sn h,(Ap (oS H Z i)).map (conv ρ sn h 4)=Ap (oS H Z i):=λ ρ sn h=>by simp[AB]
   generalize Ap (oS H Z i)=X at *;generalize gt H i=a at *;generalize gt Z i=b at *;generalize List.drop (i+1) X=RX at dO;generalize List.drop (i+1) (Ap Z)=RZ at dZ;obtain⟨z,hz⟩:=AG (u2 .add a b);rw[<- hz] at hs ⊢;refine AL (arc ⟨211,[(0,.pt 0 0 0),(12,.pv (Ap Z)),(18,.I i),(196,.I i)],[(0,some ⟨8,[X],0⟩)],9300⟩ ?_ ?_)
   .simp
    exact AF [(0,0)] [] (by simp[AB]) (by simp[h0])
   refine Cr rfl ?_;simp[-Ay,dO,dZ,h5,b5,h,show (i:Int)<8 by omega]
   simp only[<- hz];refine⟨by omega,rfl,?_⟩
   have h6:∀ ρ sn h,(Ay X i [wd z]).map (conv ρ sn h 4)=Ay X i [wd z]:=λ ρ sn h=>by unfold Ay;simp only[QT,List.map_take,Vb,h0];simp
   exact AF [(0,0)] [] (by simp[AB]) (by simp[-Ay,h6])
  refine Ac rfl ?_;simp[h2];exact⟨i+1,by omega,by omega,BF [(0,0)] []⟩
 rw[Qa] at h;obtain rfl:i=8:=by omega
 exact⟨.inl rfl,AS.k1 rfl (by simp) (by simp[AB])⟩
section
variable {P:Program} {np id:Nat} {h:Nat->Option AQ} {K:AV->List Nat->List (Nat × Option AQ)->Prop} {s s':Nat} {f:Bool} {rows:List (List AV)} {k l:Nat}
@[simp] theorem y8:aK P np id (.slc s true true false) [.vs s' f rows,.sc (.int .i64 (l:Int)),.sc (.int .i64 (k:Int))] h K=(l<=k/\k<=rows.length/\s'=s/\K (.vs s false ((rows.drop l).take (k - l))) [] []):=by
 rw[GA];refine propext ⟨?_,?_⟩
 .rintro ⟨l',r,m,n,h1,h2,h4,h5,h6,h7,h3,h0,h8,h9⟩
  simp at h4 h1;subst h1;obtain⟨rfl,rfl⟩:l=l'/\k=r:=by omega
  exact⟨h2,h3,h8,by simpa using h9⟩
 .rintro ⟨h1,h2,h3,h4⟩
  exact⟨l,k,0,rows.length,rfl,h1,by simp,(λ h=>by cases h),(λ h=>by cases h),(λ h=>by cases h),h2,(λ h=>by cases h),h3,by simpa using h4⟩
end
theorem Rc (l:List Int):Is (Ak .u8 l)=some (l.map λ n=>UInt8.ofNat n.toNat):=by
 induction l with
 | nil=>rfl
 | cons x l ih =>
   show (Is (Ak .u8 l)).map _=_;rw[ih];rfl
def GQ:List Int:=[1779033703,3144134277,1013904242,2773480762,1359893119,2600822924,528734635,1541459225]
def JB (L:Nat):Nat:=(120 - (L+1) % 64) % 64
def K8 (L:Nat):Int:=IntKind.u64.wrap (IntKind.u64.wrap (L:Int)*8)
def EL (b:List Int):List Int:=b++[128]++List.replicate (JB b.length) 0++A4 (K8 b.length)
def hF (M:List Int):Nat->List Int
 | 0=>GQ
 | i+1=>I5 (hF M i) ((M.drop (64*i)).take 64) Cx
def Gu (x:Int):List Int:=[IntKind.u8.wrap (sh .shr x 24),IntKind.u8.wrap (sh .shr x 16),IntKind.u8.wrap (sh .shr x 8),IntKind.u8.wrap x]
def DX (h:List Int):Nat->List Int
 | 0=>[]
 | i+1=>DX h i++Gu (gt h i)
def Fm (b:List Int):ByteArray:=⟨((DX (hF (EL b) ((EL b).length / 64)) 8).map λ n=>UInt8.ofNat n.toNat).toArray⟩
theorem Mt (h:List Int):∀ i,(DX h i).length=4*i
 | 0=>rfl
 | i+1=>by rw[DX,Qg,Mt h i];simp[Gu];omega
theorem rE {H B C:List Int} (hH:H.length=8):(I5 H B C).length=8:=O4 hH 8
theorem Jv (M:List Int):∀ i,(hF M i).length=8
 | 0=>rfl
 | i+1=>rE (Jv M i)
theorem gG (b:List Int):(EL b).length=b.length+1+JB b.length+8:=by simp[EL,Ic];omega
theorem zts (b:List Int):(EL b).length % 64=0:=by rw[gG];unfold JB;omega
theorem Zm (b:List Int) (hl:b.length<=1073741824):AcP 215 [DE b] [] (.sc (.string (Fm b))) []:=by
 refine xC.s.ai ?_;obtain⟨L,hL⟩:=AG (b.length);obtain⟨Z,hZ⟩:=AG (JB L);have au:Z=(120 - (L+1) % 64) % 64:=hZ;have h1:∀ (k:IntKind) (l:List Int) ρ sn h m,(Ak k l).map (List.map (conv ρ sn h (m+1)))=Ak k l:=PB
 refine ar [0] [] [] 24 ?_;refine arc ⟨87,[(0,DE b),(3,.rs 24 0 8)],[(24,some ⟨1,Ak .u32 GQ,0⟩)],40⟩ ?_ ?_
 .simp
  exact Le.keep rfl (Qk _) (by simp) (by simp[GQ])
 let m:Nat->List Int:=λ z=>b++[128]++List.replicate z 0
 have hq:∀ z,(m z).length=L+1+z:=λ z=>by simp[m,hL];omega
 have hu:∀ z,m (z+1)=m z++[0]:=λ z=>by simp[m,List.replicate_succ']
 have h4:b++[128]++List.replicate (JB b.length) 0=m Z:=by rw[hZ,hL]
 refine arc ⟨87,[(0,DE b),(3,.rs 24 0 8),(4,.rs 64 0 (L+1+0))],[(24,some ⟨1,Ak .u32 GQ,0⟩),(64,some ⟨1,Ak .u8 (m 0),0⟩)],80⟩ ?_ ?_
 .simp [<- hL]
  repeat' apply And.intro
  all_goals first | omega | exact Le.keep rfl (Qk _) (by simp) (by simp[m,hL])
 clear_value m
 refine AC (AL (Ae (ι:=Nat) (λ z=>⟨87,[(0,DE b),(3,.rs 24 0 8),(4,.rs 64 0 (L+1+z))],[(24,some ⟨1,Ak .u32 GQ,0⟩),(64,some ⟨1,Ak .u8 (m z),0⟩)],80⟩) (λ z=>z<=Z) (λ z=>Z - z) 0 (by omega) (Le.refl _ _) ?_))
 intro z hz;obtain⟨N,hN⟩:=AG (L+1+z);have h5:Int.tmod (N:Int) 64=((N % 64:Nat):Int):=rfl;have h0:=hq z;rw[<- hN] at h0;rw[<- hN];refine AC (arc ⟨87,[(0,DE b),(3,.rs 24 0 8),(4,.rs 64 0 N),(19,.B (decide (z<Z)))],[(24,some ⟨1,Ak .u32 GQ,0⟩),(64,some ⟨1,Ak .u8 (m z),0⟩)],112⟩ ?_ ?_)
 .simp [h5,-Int.natCast_emod]
  exact Le.keep rfl (Qk _) (by simp[-Int.natCast_emod];rw[Qp];simp[-Int.natCast_emod];omega) (by simp)
 refine AE _ rfl (λ h=>AJ ?_) λ h=>Aa (hit ?_)
 .simp only[Qd] at h
  have av:N<=1073741900:=by omega
  have hs:=hu z;have hX:=h1 .u8 (m (z+1));have hv:Ak .u8 (m (z+1))=Ak .u8 (m z)++[[.sc (.int .u8 0)]]:=by rw[hs,Ak,QT];rfl
  have b1:(Ak .u8 (m z)).length=N:=by rw[IJ,h0]
  refine AL (Ac rfl ?_);simp[h0];refine⟨by omega,z+1,by omega,by omega,?_⟩
  refine Le.ents [(24,24),(128,64)] [] rfl (by simp) (by simp) (by simp) (by simp) (by simp) (by simp;exact GI (by simp;omega)) λ p hp=>?_
  simp only[Qs,Ub,or_false] at hp;rcases hp with rfl | rfl
  .exact ⟨24,_,_,rfl,by simp,rfl,Am.eq (by simp only[Ab,h1]) (by simp)⟩
  .exact ⟨128,_,_,rfl,by simp,rfl,Am.eq (by
    show Ab _ _ _ _ ⟨1,List.take N (Ak .u8 (m z))++[[.sc (.int .u8 0)]],0⟩=_;rw[Qb (by omega),<- hv]
    simp only[Ab,h1]) (by simp)⟩
 simp only[Qa] at h;obtain rfl:z=Z:=by omega
 obtain⟨M0,hw⟩:=AG (m z);rw[<- hw] at h0 h4 ⊢;obtain⟨bt,h6⟩:=AG (K8 L);refine arc ⟨87,[(3,.rs 24 0 8),(4,.rs 64 0 N),(5,.sc (.int .u64 bt))],[(24,some ⟨1,Ak .u32 GQ,0⟩),(64,some ⟨1,Ak .u8 M0,0⟩)],152⟩ ?_ ?_
 .simp [<- hL]
  exact Le.keep rfl (Qk _) (by simp[h6,K8]) (by simp)
 let q:Nat->List Int:=λ j=>M0++FZ bt j
 have h7:∀ j,(q j).length=N+j:=λ j=>by simp only[q];rw[Qg,Jm,h0]
 have hx:∀ j,q (j+1)=q j++[En bt (7 - j)]:=λ j=>by simp only[q];rw[Kx,Qu]
 have hy:q 0=M0:=by simp[q,FZ]
 have h9:q 8=EL b:=by
  simp only[q];rw[EL,h4,h6,hL];rfl
 refine AC (arc ⟨87,[(3,.rs 24 0 8),(4,.rs 64 0 (N+0)),(5,.sc (.int .u64 bt)),(6,.I (7 - (0:Nat)))],[(24,some ⟨1,Ak .u32 GQ,0⟩),(64,some ⟨1,Ak .u8 (q 0),0⟩)],160⟩ ?_ ?_)
 .simp [hy]
  exact Ek
 clear_value q
 refine AL (Ae (ι:=Nat) (λ j=>⟨87,[(3,.rs 24 0 8),(4,.rs 64 0 (N+j)),(5,.sc (.int .u64 bt)),(6,.I (7 - (j:Int)))],[(24,some ⟨1,Ak .u32 GQ,0⟩),(64,some ⟨1,Ak .u8 (q j),0⟩)],160⟩) (λ j=>j<=8) (λ j=>8 - j) 0 (by omega) (Le.refl _ _) ?_)
 intro j hj;refine AC (arc ⟨87,[(3,.rs 24 0 8),(4,.rs 64 0 (N+j)),(5,.sc (.int .u64 bt)),(6,.I (7 - (j:Int))),(28,.B (decide (j<8)))],[(24,some ⟨1,Ak .u32 GQ,0⟩),(64,some ⟨1,Ak .u8 (q j),0⟩)],176⟩ ?_ ?_)
 .simp
  exact Le.keep rfl (Qk _) (by simp;omega) (by simp)
 refine AE _ rfl (λ h=>AJ ?_) λ h=>Aa (hit ?_)
 .simp only[Qd] at h
  refine Ao ⟨87,[(3,.rs 24 0 8),(4,.rs 64 0 (N+(j+1))),(5,.sc (.int .u64 bt)),(6,.I (7 - (j:Int)))],[(24,some ⟨1,Ak .u32 GQ,0⟩),(64,some ⟨1,Ak .u8 (q (j+1)),0⟩)],256⟩ ?_ ?_
  .have hs:=hx j
   have a0:=h7 j;rw[hs];generalize q j=Y at *;obtain⟨k,hk⟩:∃ k:Nat,7 - (j:Int)=k:=⟨7 - j,by omega⟩
   have a1:7 - j=k:=by omega
   have ha:IntKind.i64.wrap (8*(k:Int))=((8*k:Nat):Int):=by rw[w6];omega
   have hd:IntKind.u64.wrap ((8*k:Nat):Int)=((8*k:Nat):Int):=by rw[IntKind.wrap_u64];omega
   have hb:En bt k=IntKind.u8.wrap (bt.fdiv (2 ^ (min (8*k) 64))):=rfl;rw[hk,a1];generalize En bt k=y at hb ⊢;obtain⟨s,a2⟩:=AG (8*k);rw[<- a2] at ha hd hb;refine AL (Ac rfl ?_);simp[ha,hd,IntKind.bits,<- hb,a0];have h2:List.take (N+j) (Ak .u8 Y)=Ak .u8 Y:=Qb (by rw[IJ];omega)
   refine⟨by omega,?_⟩
   refine Le.ents [(24,24),(240,64)] [] rfl (by simp) (by simp) (by simp) (by simp) (by simp) (by simp;exact GI (by simp;omega)) λ p hp=>?_
   simp only[Qs,Ub,or_false] at hp;rcases hp with rfl | rfl
   .exact ⟨24,_,_,rfl,by simp,rfl,Am.eq (by simp only[Ab,h1]) (by simp)⟩
   .exact ⟨240,_,_,rfl,by simp,rfl,Am.eq (by
     show Ab _ _ _ _ ⟨1,List.take (N+j) (Ak .u8 Y)++[[.sc (.int .u8 y)]],0⟩=_;rw[h2]
     simp[Ab,AB]) (by simp)⟩
  have a3:IntKind.i64.wrap (7 - (j:Int) - 1)=7 - ((j+1:Nat):Int):=by rw[w6];omega
  refine Ac rfl ?_;simp[a3];refine⟨j+1,by omega,by omega,?_⟩
  refine Le.ents [(24,24),(64,64)] [] rfl (by simp) (by simp) (by simp) (by simp) (by simp) (by simp) λ p hp=>?_
  simp only[Qs,Ub,or_false] at hp;rcases hp with rfl | rfl
  .exact ⟨24,_,_,rfl,by simp,rfl,Am.eq (by simp only[Ab,h1]) (by simp)⟩
  .exact ⟨64,_,_,rfl,by simp,rfl,Am.eq (by simp only[Ab,h1]) (by simp)⟩
 simp only[Qa] at h;obtain rfl:j=8:=by omega
 obtain⟨M,hM⟩:=AG (EL b);have a4:M.length=N+8:=by rw[hM,<- h9];exact h7 8
 have an:M.length % 64=0:=by rw[hM];exact zts b
 obtain⟨nb,a5⟩:=AG (M.length / 64);have he:Fm b=⟨((DX (hF M nb) 8).map λ n=>UInt8.ofNat n.toNat).toArray⟩:=by rw[a5,hM];rfl
 rw[h9,<- hM,<- a4,he];refine arc ⟨87,[(3,Be (hF M 0)),(4,DE M),(7,Be Cx)],[],192⟩ ?_ ?_
 .simp
  refine E2 tP rfl ?_;simp[AB];exact A5 [24,64,176] (by simp[AB,hF,GQ,Pl,Qb]<;>exact .refl _)
 refine AC (ar [3,4,7,8] [] [] 200 ?_);refine AL (Ae (ι:=Nat) (λ i=>⟨87,[(3,Be (hF M i)),(4,DE M),(7,Be Cx),(8,.I (64*i:Nat))],[],200⟩) (λ i=>i<=nb) (λ i=>nb - i) 0 (by omega) (Le.refl _ _) ?_)
 intro i hi;obtain⟨c,hc⟩:=AG (64*i);rw[<- hc];refine AC (arc ⟨87,[(3,Be (hF M i)),(4,DE M),(7,Be Cx),(8,.I c),(44,.B (decide (i<nb)))],[],232⟩ ?_ ?_)
 .simp
  exact A5 [] (by simp<;>exact Aw (by rw[Qp];simp;omega))
 refine AE _ rfl (λ h=>AJ ?_) λ h=>Aa (hit ?_)
 .simp only[Qd] at h
  have hf:=w8 (hF M i) ((M.drop c).take 64) Cx (Jv M i) (by simp;omega) Pl
  have a6:hF M (i+1)=I5 (hF M i) ((M.drop c).take 64) Cx:=by rw[hF,hc]
  rw[<- a6] at hf;have a7:=Jv M (i+1);obtain⟨c2,b2⟩:=AG (c+64);have a8:IntKind.i64.wrap ((c:Int)+64)=(c2:Int):=by rw[w6];omega
  have hh:c2 - c=64:=by omega
  have ho:IntKind.i64.wrap ((c:Int)+64)=((64*(i+1):Nat):Int):=by rw[w6];omega
  refine Ao ⟨87,[(3,Be (hF M (i+1))),(4,DE M),(7,Be Cx),(8,.I c)],[],304⟩ ?_ ?_
  .refine AL (Ac rfl ?_)
   simp[a8,hh];refine⟨by omega,by omega,?_⟩
   refine E2 hf (by simp[Vb,List.map_take]) ?_
   simp[AB];exact A5 [288] (by simp[AB,a7];exact GI (congrArg _ (Qb (by simp;omega))))
  refine Ac rfl ?_;simp[ho];exact⟨i+1,by omega,by omega,A5 [] (by simp)⟩
 simp only[Qa] at h;obtain rfl:i=nb:=by omega
 obtain⟨H,hH⟩:=AG (hF M i);have a9:H.length=8:=by rw[hH];exact Jv M i
 rw[<- hH];refine ar [3,9] [] [] 240 ?_;refine AC (ar [3,9,10] [] [] 248 ?_);refine AL (Ae (ι:=Nat) (λ i=>⟨87,[(3,Be H),(9,.rs 16 0 (4*i)),(10,.I i)],[(16,some ⟨1,Ak .u8 (DX H i),0⟩)],248⟩) (λ i=>i<=8) (λ i=>8 - i) 0 (by omega) (Le.lst [] [] [(16,1)] rfl (by simp) (by simp) (by simp) (by simp) (by simp) (by simp) (by simp) (by simp[Up]) (by simp[DX])) ?_)
 intro i hi;refine AC (arc ⟨87,[(3,Be H),(9,.rs 16 0 (4*i)),(10,.I i),(56,.B (decide (i<8)))],[(16,some ⟨1,Ak .u8 (DX H i),0⟩)],264⟩ ?_ ?_)
 .simp
  exact Le.keep rfl (Qk _) (by simp<;>omega) (by simp)
 refine AE _ rfl (λ h=>AJ ?_) λ h=>Aa (hit ?_)
 .simp only[Qd] at h
  refine Ao ⟨87,[(3,Be H),(9,.rs 16 0 (4*(i+1))),(10,.I i)],[(16,some ⟨1,Ak .u8 (DX H (i+1)),0⟩)],480⟩ ?_ ?_
  .obtain ⟨lh,gh⟩:=F7 a9 h
   have h3:=Mt H i;have hs:DX H (i+1)=DX H i++Gu (gt H i):=rfl;rw[hs];generalize gt H i=x at *;generalize DX H i=Y at *;have h2:List.take (4*i) (Ak .u8 Y)=Ak .u8 Y:=Qb (by rw[IJ];omega)
   obtain⟨c,hc⟩:=AG (4*i);rw[<- hc] at h3 h2 ⊢;refine AL (Cr rfl ?_);simp[lh,gh,h3];refine⟨by omega,rfl,?_⟩
   exact Le.ren1 464 16 [] rfl rfl (by simp) (by simp) rfl (by simp only[Ab];simp[h2,AB,Gu]) (by simp) (by simp;exact GI (by simp;omega))
  have ad:=wq (k:=i);refine Ac rfl ?_;simp[ad];exact⟨i+1,by omega,by omega,Le.K1 16 16 [] rfl rfl (by simp) (by simp) rfl (by simp)⟩
 simp only[Qa] at h;obtain rfl:i=8:=by omega
 have h3:=Mt H 8;have ag:=Rc (DX H 8);refine arc ⟨87,[(2,.sc (.string ⟨((DX H 8).map λ n=>UInt8.ofNat n.toNat).toArray⟩))],[],288⟩ ?_ ?_
 .have h2:List.take 32 (Ak .u8 (DX H 8))=Ak .u8 (DX H 8):=Qb (by rw[IJ];omega)
  generalize DX H 8=Y at *;generalize hR:Ak .u8 Y=R at *;have am:R.length=32:=by rw[<- hR,IJ,h3]
  simp[am,h2,ag];exact A5 [] (by simp)
 exact B7 [] []
theorem qS:AcP 219 [] [] (.agg (Ap Cx)) []:=by
 refine b8.s.ai ?_;refine rs [0] [16] [] ?_;apply ax [0] [(16,16)] [] 400
 .simp (maxSteps:=2000000) [E7,Ay]
  rfl
 exact A9 (AS.out [] [16] rfl (by simp) (by simp) (by simp[Cx]) (by simp))
section
variable {P:Program} {np id:Nat} {h:Nat->Option AQ} {K:AV->List Nat->List (Nat × Option AQ)->Prop} {s s':Nat} {f:Bool} {rows:List (List AV)}
theorem fJ:aK P np id (.slc s false true false) [.vs s' f rows,.sc (.int .i64 64)] h K=(64<=rows.length/\s'=s/\K (.vs s false (rows.take 64)) [] []):=fH (k:=64)
theorem rH:aK P np id (.slc s true false false) [.vs s' f rows,.sc (.int .i64 64)] h K=(64<=rows.length/\s'=s/\K (.vs s f (rows.drop 64)) [] []):=vK (k:=64)
end
theorem nV (b:List Int) (hl:b.length<=1073741824):AcP 209 [DE b] [] (.sc (.string (Fm b))) []:=by
 refine tN.s.ai ?_;obtain⟨L,hL⟩:=AG (b.length);obtain⟨Z,hZ⟩:=AG (JB L);have b3:Z=(120 - (L+1) % 64) % 64:=hZ;refine ar [0] [] [] 100 ?_
 let m:Nat->List Int:=λ z=>b++[128]++List.replicate z 0
 have h5:∀ z,(m z).length=L+1+z:=λ z=>by simp[m,hL];omega
 have hw:∀ z,m (z+1)=m z++[0]:=λ z=>by simp[m,List.replicate_succ']
 have h6:b++[128]++List.replicate (JB b.length) 0=m Z:=by rw[hZ,hL]
 have h7:m 0=b++[128]:=by simp[m]
 have h2:∀ (l:List Int) (f:Int->List AV),(l.map f).take l.length=l.map f:=λ l f=>Qb (by simp)
 refine arc ⟨69,[(0,DE b),(3,.rs 64 0 (m 0).length)],[(64,some ⟨1,Ak .u8 (m 0),0⟩)],200⟩ ?_ ?_
 .simp [<- hL]
  refine⟨by omega,by omega,?_⟩
  exact AF [(124,64)] [] (by simp[h7,hL]) (by simp[h7,AB])
 clear_value m
 refine AC (AL (Ae (ι:=Nat) (λ z=>⟨69,[(0,DE b),(3,.rs 64 0 (m z).length)],[(64,some ⟨1,Ak .u8 (m z),0⟩)],300⟩) (λ z=>z<=Z) (λ z=>Z - z) 0 (by omega) (BF [(64,64)] []) ?_))
 intro z hz;obtain⟨N,hN⟩:=AG (L+1+z);have h9:Int.tmod (N:Int) 64=((N % 64:Nat):Int):=rfl;have h0:=h5 z;rw[<- hN] at h0;rw[h0];refine AC (arc ⟨69,[(0,DE b),(3,.rs 64 0 N),(18,.B (decide (z<Z)))],[(64,some ⟨1,Ak .u8 (m z),0⟩)],400⟩ ?_ ?_)
 .simp [h9,-Int.natCast_emod]
  exact AF [(64,64)] [] (by simp[-Int.natCast_emod,AB]<;>exact Aw (by rw[Qp];simp[-Int.natCast_emod];omega)) (by simp[AB])
 refine AE _ rfl (λ h=>AJ ?_) λ h=>Aa (hit ?_)
 .rw [Qd] at h
  have hs:=hw z;have hx:=h5 (z+1);have h1:=h2 (m z);rw[h0] at h1;refine AL (Ac rfl ?_);simp[h0];refine⟨by omega,z+1,by omega,by omega,?_⟩
  rw[hx,hs];exact AF [(416,64)] [] (by simp[hN]<;>exact GI (by simp;omega)) (by simp[AB,h1])
 rw[Qa] at h;obtain rfl:z=Z:=by omega
 obtain⟨M0,hy⟩:=AG (m z);rw[<- hy] at h0 h6 ⊢;obtain⟨bt,ha⟩:=AG (K8 L);refine arc ⟨69,[(3,.rs 64 0 N),(4,.sc (.int .u64 bt))],[(64,some ⟨1,Ak .u8 M0,0⟩)],500⟩ ?_ ?_
 .simp [<- hL]
  exact AF [(64,64)] [] (by simp[ha,K8,AB]) (by simp[AB])
 let q:Nat->List Int:=λ j=>M0++FZ bt j
 have hc:∀ j,(q j).length=N+j:=λ j=>by simp only[q];rw[Qg,Jm,h0]
 have a0:∀ j,q (j+1)=q j++[En bt (7 - j)]:=λ j=>by simp only[q];rw[Kx,Qu]
 have a1:q 0=M0:=by simp[q,FZ]
 have hd:q 8=EL b:=by
  simp only[q];rw[EL,h6,ha,hL];rfl
 refine AC (arc ⟨69,[(3,.rs 64 0 (N+0)),(4,.sc (.int .u64 bt)),(5,.I (56 - 8*((0:Nat):Int)))],[(64,some ⟨1,Ak .u8 (q 0),0⟩)],600⟩ ?_ ?_)
 .simp [a1]
  exact BF [(64,64)] []
 clear_value q
 refine AL (Ae (ι:=Nat) (λ j=>⟨69,[(3,.rs 64 0 (N+j)),(4,.sc (.int .u64 bt)),(5,.I (56 - 8*(j:Int)))],[(64,some ⟨1,Ak .u8 (q j),0⟩)],700⟩) (λ j=>j<=8) (λ j=>8 - j) 0 (by omega) (BF [(64,64)] []) ?_)
 intro j hj;refine AC (arc ⟨69,[(3,.rs 64 0 (N+j)),(4,.sc (.int .u64 bt)),(5,.I (56 - 8*(j:Int))),(27,.B (decide (j<8)))],[(64,some ⟨1,Ak .u8 (q j),0⟩)],800⟩ ?_ ?_)
 .simp
  exact AF [(64,64)] [] (by simp[AB]<;>exact Aw (by rw[Qp];simp;omega)) (by simp[AB])
 refine AE _ rfl (λ h=>AJ ?_) λ h=>Aa (hit ?_)
 .rw [Qd] at h
  refine Ao ⟨69,[(3,.rs 64 0 (N+(j+1))),(4,.sc (.int .u64 bt)),(5,.I (56 - 8*(j:Int)))],[(64,some ⟨1,Ak .u8 (q (j+1)),0⟩)],1000⟩ ?_ ?_
  .have hs:=a0 j
   have he:=hc j;have h1:=h2 (q j);rw[he] at h1;rw[hs];generalize q j=Y at *;obtain⟨k,hk⟩:∃ k:Nat,k=7 - j:=⟨_,rfl⟩;obtain⟨s,a2⟩:∃ s:Nat,s=8*k:=⟨_,rfl⟩;have a3:56 - 8*(j:Int)=(s:Int):=by omega
   have a4:IntKind.u64.wrap (s:Int)=(s:Int):=by rw[IntKind.wrap_u64];omega
   have hb:En bt k=IntKind.u8.wrap (bt.fdiv (2 ^ (min (8*k) 64))):=rfl;rw[<- hk];generalize En bt k=y at hb ⊢;rw[<- a2] at hb;rw[a3];refine AL (Ac rfl ?_);simp[a4,IntKind.bits,<- hb,he];refine⟨by omega,?_⟩
   exact AF [(856,64)] [] (by simp<;>exact GI (by simp;omega)) (by simp[AB,h1])
  have h4:IntKind.i64.wrap (56 - 8*(j:Int) - 8)=56 - 8*((j+1:Nat):Int):=by rw[w6];omega
  refine Ac rfl ?_;simp[h4];exact⟨j+1,by omega,by omega,BF [(64,64)] []⟩
 rw[Qa] at h;obtain rfl:j=8:=by omega
 obtain⟨M,hM⟩:=AG (EL b);have a5:M.length=N+8:=by rw[hM,<- hd];exact hc 8
 have b2:M.length % 64=0:=by rw[hM];exact zts b
 obtain⟨nb,a6⟩:=AG (M.length / 64);have hf:Fm b=⟨((DX (hF M nb) 8).map λ n=>UInt8.ofNat n.toNat).toArray⟩:=by rw[a6,hM];rfl
 have a7:M.length=64*nb:=by omega
 rw[hd,<- hM,<- a5,hf];have a8:=h2 M;refine arc ⟨69,[(3,DE (M.drop (64*0))),(6,.pt 30 0 0),(7,.pv (Ap Cx))],[(30,some ⟨8,[Ap (hF M 0)],0⟩)],2000⟩ ?_ ?_
 .simp (maxSteps:=2000000) [E7]
  refine Aj qS ?_;simp (maxSteps:=2000000) [Ay,Pl];exact AF [(816,30)] [64,824] (by simp[AB,a8]) (by simp[hF,GQ])
 have a9:∀ i,i<=nb->(M.drop (64*i)).length=64*(nb - i):=λ i hi=>by rw[UQ,a7];omega
 refine AC (AL (Ae (ι:=Nat) (λ i=>⟨69,[(3,DE (M.drop (64*i))),(6,.pt 30 0 0),(7,.pv (Ap Cx))],[(30,some ⟨8,[Ap (hF M i)],0⟩)],2100⟩) (λ i=>i<=nb) (λ i=>nb - i) 0 (by omega) (BF [(30,30)] []) ?_))
 intro i hi;have hh:=a9 i hi;obtain⟨D,hD⟩:=AG (M.drop (64*i));rw[<- hD] at hh ⊢;refine AC (arc ⟨69,[(3,DE D),(6,.pt 30 0 0),(7,.pv (Ap Cx)),(42,.B (decide (i<nb)))],[(30,some ⟨8,[Ap (hF M i)],0⟩)],2200⟩ ?_ ?_)
 .simp [hh]
  exact AF [(30,30)] [] (by simp[AB]<;>exact Aw (by rw[Qp];simp;omega)) (by simp[AB])
 refine AE _ rfl (λ h=>AJ ?_) λ h=>Aa (hit ?_)
 .rw [Qd] at h
  have ad:D.drop 64=M.drop (64*(i+1)):=by rw[hD,List.drop_drop];congr 1
  have ho:=mU (hF M i) (D.take 64) Cx (Jv M i) (by rw[QV];omega) rfl
  have ag:I5 (hF M i) (D.take 64) Cx=hF M (i+1):=by rw[hD];rfl
  rw[ag] at ho;have hq:64<=D.length:=by omega
  have b4:D.length<=1073742000:=by rw[hD,UQ];omega
  refine Ao ⟨69,[(3,DE D),(6,.pt 30 0 0),(7,.pv (Ap Cx))],[(30,some ⟨8,[Ap (hF M (i+1))],0⟩)],3000⟩ ?_ ?_
  .refine AL (Ac rfl ?_)
   simp[fJ,hq];refine Cq (i:=30) rfl (e':=⟨8,[Ap (hF M i)],0⟩) (by simp[AB]) ho (by simp) (by simp[AB,List.map_take]) ?_
   simp;exact BF [(30,30)] []
  refine Ac rfl ?_;simp[rH,hq];have am:(Ak .u8 D).drop 64=Ak .u8 (D.drop 64):=by simp[Ak,Vb]
  exact⟨i+1,by omega,by omega,AF [(30,30)] [] (by simp[AB];rw[<- ad];exact GI (by rw[am])) (by simp[AB])⟩
 rw[Qa] at h;obtain rfl:i=nb:=by omega
 obtain⟨R,hR⟩:=AG (hF M i);have h3:R.length=8:=by rw[hR];exact Jv M i
 rw[<- hR];have hu:DX R 0=[]:=rfl;have an:∀ j,DX R (j+1)=DX R j++Gu (gt R j):=λ j=>rfl;have au:=Mt R;refine ar [6,8] [(30,30)] [] 4000 ?_;refine AC (arc ⟨69,[(8,.nilS),(48,.agg (Ap R)),(49,.I 0)],[],4100⟩ ?_ ?_)
 .have hv:∀ f:Int->AV,(R.map f).take 8=R.map f:=λ f=>Qb (by simp[h3])
  simp[h3];exact AF [] [] (by simp[AB,hv]) (by simp[AB])
 refine AL ?_
 refine Ae (ι:=Nat) (λ j=>⟨69,[(8,.rs 50 0 (DX R j).length),(48,.agg (Ap R)),(49,.I j)],[(50,some ⟨1,Ak .u8 (DX R j),0⟩)],4200⟩) (λ j=>j<=8) (λ j=>8 - j) 0 (by omega)
  (Le.lst [] [] [(50,1)] rfl (by simp) (by simp) (by simp) (by simp) (by simp) (by simp) (by simp) (by simp[Up,hu,AB]) (by simp[hu])) ?_
 intro j hj;have b5:=au j;refine arc ⟨69,[(8,.rs 50 0 (DX R j).length),(48,.agg (Ap R)),(49,.I j),(50,.B (decide (j<8)))],[(50,some ⟨1,Ak .u8 (DX R j),0⟩)],4300⟩ ?_ ?_
 .simp
  exact AF [(50,50)] [] (by simp[AB]<;>exact Aw (by rw[Qp];simp;omega)) (by simp[AB])
 refine AC (AE _ rfl (λ h=>AJ ?_) λ h=>Aa (hit ?_))
 .rw [Qd] at h
  have h4:=wq (k:=j);have h1:=h2 (DX R j);obtain⟨av,hgt⟩:=F7 h3 h;refine Ao ⟨69,[(8,.rs 50 0 (DX R (j+1)).length),(48,.agg (Ap R)),(49,.I j)],[(50,some ⟨1,Ak .u8 (DX R (j+1)),0⟩)],5000⟩ ?_ ?_
  .rw [an]
   have b1:Gu (gt R j)=[IntKind.u8.wrap (sh .shr (gt R j) 24),IntKind.u8.wrap (sh .shr (gt R j) 16),IntKind.u8.wrap (sh .shr (gt R j) 8),IntKind.u8.wrap (gt R j)]:=rfl;rw[b1];generalize DX R j=Y at *;generalize gt R j=w at *;refine AL ?_;apply ax [8,10,48,49] [(50,50)] [] 4400
   .simp [h3,av,hgt,h]
    refine⟨by omega,?_⟩
    rfl
   refine Ac rfl ?_;simp;refine⟨by omega,?_⟩
   exact AF [(4504,50)] [] (by simp[AB]) (by simp[AB,h1])
  refine Ac rfl ?_;simp[h4];exact⟨j+1,by omega,by omega,BF [(50,50)] []⟩
 rw[Qa] at h;obtain rfl:j=8:=by omega
 have h1:=h2 (DX R 8);apply ax [2] [] [] 6000
 .simp
  refine⟨_,by rw[h1];exact Rc _,?_⟩
  rfl
 exact Bl
theorem Rm (v:Int) (k:Nat) (hk:k<=7):IntKind.u8.wrap ((IntKind.u64.wrap v).fdiv (2 ^ (min (8*k) 64)))=En v k:=by
 have h0:k=0∨k=1∨k=2∨k=3∨k=4∨k=5∨k=6∨k=7:=by omega
 unfold En;rw[IntKind.wrap_u64];rcases h0 with rfl | rfl | rfl | rfl | rfl | rfl | rfl | rfl
 .rw [show (2:Int) ^ (min (8*0) 64)=1 from rfl,QK _ (by decide),QK _ (by decide),IntKind.wrap_u8,IntKind.wrap_u8]
  omega
 .rw [show (2:Int) ^ (min (8*1) 64)=256 from rfl,QK _ (by decide),QK _ (by decide),IntKind.wrap_u8,IntKind.wrap_u8]
  omega
 .rw [show (2:Int) ^ (min (8*2) 64)=65536 from rfl,QK _ (by decide),QK _ (by decide),IntKind.wrap_u8,IntKind.wrap_u8]
  omega
 .rw [show (2:Int) ^ (min (8*3) 64)=16777216 from rfl,QK _ (by decide),QK _ (by decide),IntKind.wrap_u8,IntKind.wrap_u8]
  omega
 .rw [show (2:Int) ^ (min (8*4) 64)=4294967296 from rfl,QK _ (by decide),QK _ (by decide),IntKind.wrap_u8,IntKind.wrap_u8]
  omega
 .rw [show (2:Int) ^ (min (8*5) 64)=1099511627776 from rfl,QK _ (by decide),QK _ (by decide),IntKind.wrap_u8,IntKind.wrap_u8]
  omega
 .rw [show (2:Int) ^ (min (8*6) 64)=281474976710656 from rfl,QK _ (by decide),QK _ (by decide),IntKind.wrap_u8,IntKind.wrap_u8]
  omega
 .rw [show (2:Int) ^ (min (8*7) 64)=72057594037927936 from rfl,QK _ (by decide),QK _ (by decide),IntKind.wrap_u8,IntKind.wrap_u8]
  omega
theorem sS (v:Int):AcP 221 [.nilS,.I v] [] (.rs 0 0 8) [some ⟨1,Ak .u8 (A4 v),0⟩]:=by
 refine VH.s.ai ?_;have h4:∀ (l:List Int) (f:Int->List AV),(l.map f).take l.length=l.map f:=λ l f=>Qb (by simp)
 let q:Nat->List Int:=λ j=>[]++FZ v j
 have h0:∀ j,(q j).length=([]:List Int).length+j:=λ j=>by simp only[q];rw[Qg,Jm]
 have h5:∀ j,q (j+1)=q j++[En v (7 - j)]:=λ j=>by simp only[q];rw[Kx,Qu]
 have h1:q 0=[]:=by simp[q,FZ]
 have h2:q 8=[]++A4 v:=rfl
 try rw[<- h2]
 refine ar [0,1] [] [] 100 ?_;refine AC (ar [0,1,5] [] [] 200 ?_);refine AL (Ae (ι:=Nat) (λ j=>⟨20,[(0,.rs 50 0 (q j).length),(1,.I v),(5,.I (56 - 8*(j:Int)))],[(50,some ⟨1,Ak .u8 (q j),0⟩)],300⟩) (λ j=>j<=8) (λ j=>8 - j) 0 (by omega) (Le.lst [] [] [(50,1)] rfl (by simp) (by simp) (by simp) (by simp) (by simp) (by simp) (by simp) (by simp[Up,h1,AB]) (by simp[h1])) ?_)
 clear_value q
 intro j hj;have h6:=h0 j
 try simp only[UP,Q1] at h6
 refine AC (arc ⟨20,[(0,.rs 50 0 (q j).length),(1,.I v),(5,.I (56 - 8*(j:Int))),(7,.B (decide (j<8)))],[(50,some ⟨1,Ak .u8 (q j),0⟩)],400⟩ ?_ ?_)
 .simp
  exact AF [(50,50)] [] (by simp[AB]<;>exact Aw (by rw[Qp];simp;omega)) (by simp[AB])
 refine AE _ rfl (λ h=>AJ ?_) λ h=>Aa (hit ?_)
 .rw [Qd] at h
  refine Ao ⟨20,[(0,.rs 50 0 (q (j+1)).length),(1,.I v),(5,.I (56 - 8*(j:Int)))],[(50,some ⟨1,Ak .u8 (q (j+1)),0⟩)],1000⟩ ?_ ?_
  .have hs:=h5 j
   have h7:=h4 (q j);rw[hs];generalize q j=Y at *;obtain⟨k,hk⟩:∃ k:Nat,k=7 - j:=⟨_,rfl⟩;obtain⟨s,h9⟩:∃ s:Nat,s=8*k:=⟨_,rfl⟩;have ha:56 - 8*(j:Int)=(s:Int):=by omega
   have hc:IntKind.u64.wrap (s:Int)=(s:Int):=by rw[IntKind.wrap_u64];omega
   have hb:En v k=IntKind.u8.wrap (v.fdiv (2 ^ (min (8*k) 64))):=rfl
   have h3:IntKind.u8.wrap ((IntKind.u64.wrap v).fdiv (2 ^ (min s 64)))=En v k:=by
    have:=Rm v k (by omega)
    rw[h9];exact this
   rw[<- hk];generalize En v k=y at hb h3 ⊢;rw[ha];refine AL (Ac rfl ?_);simp[hc,IntKind.bits,h3];refine⟨by omega,?_⟩
   exact AF [(464,50)] [] (by simp[AB]) (by simp[AB,h7])
  have hd:IntKind.i64.wrap (56 - 8*(j:Int) - 8)=56 - 8*((j+1:Nat):Int):=by rw[w6];omega
  refine Ac rfl ?_;simp[hd];exact⟨j+1,by omega,by omega,BF [(50,50)] []⟩
 rw[Qa] at h;obtain rfl:j=8:=by omega
 refine ar [4] [(50,50)] [] 2000 ?_;refine BG ?_;have he:(q 8).length=8:=by rw[h0];rfl
 rw[he];exact⟨.inr rfl,AS.out [50] [] rfl (by simp) (by simp) (by simp) (by simp[AB,h2])⟩
theorem lO (b:List Int) (v:Int) (he:b.length<=1099511627776):AcP 221 [.rs 0 0 b.length,.I v] [⟨1,Ak .u8 b,0⟩] (.rs 1 0 (b.length+8)) [none,some ⟨1,Ak .u8 (b++A4 v),0⟩]:=by
 refine VH.s.ai ?_;have h3:∀ (l:List Int) (f:Int->List AV),(l.map f).take l.length=l.map f:=λ l f=>Qb (by simp)
 let q:Nat->List Int:=λ j=>b++FZ v j
 have h0:∀ j,(q j).length=(b:List Int).length+j:=λ j=>by simp only[q];rw[Qg,Jm]
 have h4:∀ j,q (j+1)=q j++[En v (7 - j)]:=λ j=>by simp only[q];rw[Kx,Qu]
 have h1:q 0=b:=by simp[q,FZ]
 have h5:q 8=b++A4 v:=rfl
 try rw[<- h5]
 refine ar [0,1] [(0,0)] [] 100 ?_;refine AC (ar [0,1,5] [(0,0)] [] 200 ?_);refine AL (Ae (ι:=Nat) (λ j=>⟨20,[(0,.rs 50 0 (q j).length),(1,.I v),(5,.I (56 - 8*(j:Int)))],[(50,some ⟨1,Ak .u8 (q j),0⟩)],300⟩) (λ j=>j<=8) (λ j=>8 - j) 0 (by omega) (AF [(0,50)] [] (by simp[AB,h1]) (by simp[AB,h1])) ?_)
 clear_value q
 intro j hj;have h6:=h0 j
 try simp only[UP,Q1] at h6
 refine AC (arc ⟨20,[(0,.rs 50 0 (q j).length),(1,.I v),(5,.I (56 - 8*(j:Int))),(7,.B (decide (j<8)))],[(50,some ⟨1,Ak .u8 (q j),0⟩)],400⟩ ?_ ?_)
 .simp
  exact AF [(50,50)] [] (by simp[AB]<;>exact Aw (by rw[Qp];simp;omega)) (by simp[AB])
 refine AE _ rfl (λ h=>AJ ?_) λ h=>Aa (hit ?_)
 .rw [Qd] at h
  refine Ao ⟨20,[(0,.rs 50 0 (q (j+1)).length),(1,.I v),(5,.I (56 - 8*(j:Int)))],[(50,some ⟨1,Ak .u8 (q (j+1)),0⟩)],1000⟩ ?_ ?_
  .have hs:=h4 j
   have h7:=h3 (q j);rw[hs];generalize q j=Y at *;obtain⟨k,hk⟩:∃ k:Nat,k=7 - j:=⟨_,rfl⟩;obtain⟨s,h9⟩:∃ s:Nat,s=8*k:=⟨_,rfl⟩;have ha:56 - 8*(j:Int)=(s:Int):=by omega
   have hc:IntKind.u64.wrap (s:Int)=(s:Int):=by rw[IntKind.wrap_u64];omega
   have hb:En v k=IntKind.u8.wrap (v.fdiv (2 ^ (min (8*k) 64))):=rfl
   have h2:IntKind.u8.wrap ((IntKind.u64.wrap v).fdiv (2 ^ (min s 64)))=En v k:=by
    have:=Rm v k (by omega)
    rw[h9];exact this
   rw[<- hk];generalize En v k=y at hb h2 ⊢;rw[ha];refine AL (Ac rfl ?_);simp[hc,IntKind.bits,h2];refine⟨by omega,?_⟩
   exact AF [(464,50)] [] (by simp[AB]) (by simp[AB,h7])
  have hd:IntKind.i64.wrap (56 - 8*(j:Int) - 8)=56 - 8*((j+1:Nat):Int):=by rw[w6];omega
  refine Ac rfl ?_;simp[hd];exact⟨j+1,by omega,by omega,BF [(50,50)] []⟩
 rw[Qa] at h;obtain rfl:j=8:=by omega
 refine ar [4] [(50,50)] [] 2000 ?_;refine BG ?_;rw[h0 8];exact⟨.inr rfl,AS.m1 50 (by decide) rfl (by simp) (by simp) (by simp[AB])⟩
theorem sJ (b:List Int) (hb:b≠[]) (hl:b.length<=1099511627776):AcP 222 [DE b] [] (.rs 0 0 b.length) [some ⟨1,Ak .u8 b,0⟩]:=by
 refine zcz.s.ai ?_;have h0:0<b.length:=Uy.2 hb;have h1:b.length≠0:=by omega
 have h2:∀ (f:Int->List AV),(b.map f).take b.length=b.map f:=λ f=>Qb (by simp)
 refine ar [0] [] [] 100 ?_;refine AC (arc ⟨8,[(0,DE b),(4,.B false)],[],200⟩ ?_ ?_)
 .obtain ⟨x,r,rfl⟩:=List.exists_cons_of_ne_nil hb
  simp;exact AF [] [] (by simp;exact .refl _)
 refine AE _ rfl (λ h=>by cases h) λ _=>?_
 refine AJ ?_;apply ax [2] [(216,50)] [] 300
 .simp
  refine⟨by omega,?_⟩
  rfl
 exact B7 [50] []
theorem vT (v:Int):AcP 210 [.nilS,.I v] [] (.rs 0 0 8) [some ⟨1,Ak .u8 (A4 v),0⟩]:=by
 have h0:AcP 222 [.nilS] [] .nilS []:=by
  refine zcz.s.ai ?_;refine ar [0] [] [] 100 ?_;refine AC (ar [4] [] [] 200 ?_);refine AE _ rfl (λ _=>?_) λ h=>by cases h
  refine ar [2] [] [] 300 ?_;exact Bl
 refine SZ.s.ai ?_;refine ar [0,1] [] [] 100 ?_;apply ax [4] [(124,50)] [] 300
 .simp
  refine Aj h0 ?_;simp;refine CV (sS v) ?_;simp;rfl
 exact B7 [50] []
theorem Sb (b:List Int) (v:Int) (hb:b≠[]) (hl:b.length<=1099511627776):AcP 210 [DE b,.I v] [] (.rs 0 0 (b.length+8)) [some ⟨1,Ak .u8 (b++A4 v),0⟩]:=by
 have h0:∀ (f:Int->List AV),(b.map f).take b.length=b.map f:=λ f=>Qb (by simp)
 refine SZ.s.ai ?_;refine ar [0,1] [] [] 100 ?_;apply ax [4] [(124,50)] [] 300
 .simp
  refine E2 (sJ b hb hl) (by simp[AB]) ?_
  simp;refine Cq (i:=108) rfl (e':=⟨1,Ak .u8 b,0⟩) (by simp[AB]) (lO b v hl) (by simp) (by simp) ?_
  simp;rfl
 exact B7 [50] []
theorem kN (s:ByteArray) (hs:s.size<=1099511627776):AcP 211 [.nilS,.sc (.string s)] [] (.rs 0 0 (s.size+8)) [some ⟨1,Ak .u8 (DV s),0⟩]:=by
 refine rP.s.ai ?_;refine ar [0,1] [] [] 24 ?_;have hI:=vT s.size;have e:DV s=A4 s.size++FK s:=rfl;have h0:(A4 s.size).length=8:=Ic _;rw[e];generalize A4 s.size=Y at *;have h1:List.take 8 (Ak .u8 Y)=Ak .u8 Y:=Qb (by rw[IJ];omega)
 refine arc ⟨11,[(4,.rs 64 0 (s.size+8))],[(64,some ⟨1,Ak .u8 (Y++FK s),0⟩)],80⟩ ?_ ?_
 .simp
  refine CV hI ?_;simp[AB,SB,h0];refine⟨_,_,_,⟨h1,rfl,rfl⟩,?_⟩;simp[h0]
  repeat' apply And.intro
  all_goals first | omega | exact Le.keep rfl (Qk _) (by simp;omega) (by simp)
 exact B7 [64] []
end Go.Proofs.YtkngdgplbojdlaaGreat
namespace Go.Proofs.YtkngdgplbojdlaaGreat
open Go Go.RowKit Go.Shelf Go.Maps Go.Sort
attribute [local go_sem] Oper.semAt_some
def Jx:Go.Shelf.Ren:=⟨fun | 11=>204 | n=>n,fun | 0=>0 | 24=>22 | 26=>3 | 28=>180 | 33=>68 | n=>n,fun | n=>n⟩
theorem Nz:SlLaysZI.n11 Tryz.prog Jx:={
 mixed:=by kernel_rfl
 f11:=⟨Tryz.f204.name,by decide,Tryz.func204.trans (congrArg some (by kernel_rfl))⟩
 t0:=Tryz.underlying0
 a0:=Tryz.isAgg0
 z0:=Tryz.sizeOf0
 v0:=Tryz.zeroValue0
 t24:=Tryz.underlying22
 a24:=Tryz.isAgg22
 z24:=Tryz.sizeOf22
 v24:=Tryz.zeroValue22
 t26:=Tryz.underlying3
 a26:=Tryz.isAgg3
 z26:=Tryz.sizeOf3
 v26:=Tryz.zeroValue3
 t28:=Tryz.underlying180
 a28:=Tryz.isAgg180
 z28:=Tryz.sizeOf180
 v28:=Tryz.zeroValue180
 i26:=by kernel_rfl
}
theorem Yh {l:List Int} {k:Nat} (h:k<l.length):l.take (k+1)=l.take k++[l[k]]:=Qm h
theorem Ye (F:Fence) (n:Nat) (h7:F.fn 187) (hro:F.round=none) (hn:1<=n) (l Bs B0 b off cap:Nat) (a:Option Addr) (zs:List Int) (ha:zs≠[]->a=some ⟨b,off,none⟩) (hreach:zs.length<=17592186044416) (J:List Int->World->Prop) (W:World) (hJ:∀ pre W1,J pre W1 -> ∀ j (h:j<zs.length),W1.cell? ⟨b,off+j,none⟩=some (.int .i64 zs[j])) (hY:∀ pre x W1,J pre W1->pre.length<zs.length->YieldAt F (n - 1) Tryz.prog l #[.int .i64 x] W1 λ e W'=>e = .returned (.bool true)/\J (pre++[x]) W'/\KeepsWalks W1 W') (hBs:W.cell? ⟨Bs,B0,none⟩=some (.slice a zs.length cap)) (h0:J [] W) :
  CallsIn F n Tryz.prog 187 #[.func (.yield l) #[] #[],.pointer (some ⟨Bs,B0,none⟩)] W λ e W'=>(∃ v,e = .returned v)/\J zs W':=by
 refine callsIn_of_wp Tryz.func187 rfl h7 ?_ hro;simp only[Tryz.ntmps187,Ue,QN,UP,Nat.reduceAdd,Nat.reduceSub,Array.replicate_succ,Array.replicate_zero,List.push_toArray,List.append_toArray,Q5,QR]
 gi_wp2
 gi_loopw [7] (λ i wr=>∃ k:Nat,k<=zs.length/\i = .int .i64 k/\J (zs.take k) wr) (λ i _=>zs.length - (intOf i).toNat)
 case atStart=>exact⟨0,Qh _,rfl,by simpa using h0⟩
 case round =>
  obtain⟨k,hk,rfl,hJs⟩:=hrel
  by_cases hlt:k<zs.length
  .have hcx':wr.cell? ⟨b,off+k,none⟩=some (.int .i64 zs[k]):=hJ _ _ hJs k hlt
   obtain rfl:=ha (by rintro rfl;simp at hlt)
   obtain⟨fn,tmps,assign,body,hy,hR⟩:=hY _ zs[k] wr hJs (by rw[QV];omega)
   gi_wp2
   refine hR.mono ?_
   rintro e W3 ⟨rfl,hJ3,hk3⟩
   gi_wp2
   go_roundw
   case rel=>exact⟨k+1,by omega,by simp,by rw[Yh hlt];exact hJ3⟩
   case measure=>simp[intOf];omega
  .obtain rfl:k=zs.length:=by omega
   gi_wp2
   go_end0
   exact⟨⟨_,rfl⟩,by simpa using hJs⟩
theorem fZ (F:Fence) (n:Nat) (h11:F.fn 204) (hFg:F.fn 187) (hro:F.round=none) (hn:2<=n) (Bs B0 b off cap:Nat) (a:Option Addr) (zs:List Int) (ha:zs≠[]->a=some ⟨b,off,none⟩) (hN:zs.length<=1099511627776) (w:World) (hBs:w.cell? ⟨Bs,B0,none⟩=some (.slice a zs.length cap)) (hBl:Bs<w.heap.size) (hbl:zs≠[]->b<w.heap.size) (hc:∀ j (h:j<zs.length),w.cell? ⟨b,off+j,none⟩=some (.int .i64 zs[j])) :
  CallsIn F n Tryz.prog 204 #[.slice none 0 0,.func (.func 187) #[] #[.pointer (some ⟨Bs,B0,none⟩)]] w λ e w'=>∃ v:Value,e = .returned v/\w'.ownsRow w.heap.size 3 1 v zs.length (zs.map encZ)/\Below w.heap.size w w':=by
 have h1:1<=n:=by omega
 have hmax:zs.length<=maxLen:=by unfold maxLen;omega
 have L:=Nz;have hne:(22:Nat)≠3:=by decide
 have eg:∀ args w,(callFunc 187 args).run Tryz.prog w = .ok (.enter 187 args) w:=λ args w=>(enters_of Tryz.func187 (by kernel_rfl) rfl) args w
 refine callsIn_of_wp_marks Tryz.func204 rfl h11 ?_ hro;simp only[Tryz.ntmps204,Ue,QN,UP,Nat.reduceAdd,Nat.reduceSub,Array.replicate_succ,Array.replicate_zero,List.push_toArray,List.append_toArray,Q5,QR]
 gi_wp2
 refine wpIn_rangeFunc ?_;intro fn hfn;rw[hro];obtain⟨W0,hW0⟩:∃ W0,w.alloc (.cells #[.slice none 0 0] 22)=W0:=⟨_,rfl⟩;have hs0:W0.heap.size=w.heap.size+1:=by rw[<- hW0];simp
 have hv0:W0.heap[w.heap.size]? = some (.cells #[.slice none 0 0] 22 (0,0)):=by rw[<- hW0];exact World.alloc_heap_new w _
 have hb0:Below w.heap.size w W0:=by rw[<- hW0];exact(Below.refl _ w).alloc (Qk _) _
 rw[hW0];obtain⟨sv,hsv⟩:∃ sv:Value,sv = .func (.func 187) #[] #[.pointer (some ⟨Bs,B0,none⟩)]:=⟨_,rfl⟩;rw[<- hsv];obtain⟨W1,hW1⟩:∃ W1,(W0.alloc (.deferred (some []))).alloc (.loop (AnyZI.apRec Jx fn sv w.heap.size W0.heap.size .ready none))=W1:=⟨_,rfl⟩
 have hold:∀ k,k<W0.heap.size->W1.heap[k]? = W0.heap[k]?:=λ k hk=>by
  rw[<- hW1];exact(Below.heap_alloc _ _ k (by simp;omega)).trans (Below.heap_alloc _ _ k hk)
 have hb1:Below w.heap.size w W1:=by rw[<- hW1];exact(hb0.alloc hb0.size _).alloc (by have:=hb0.size;simp;omega) _
 have hs1:W1.heap.size=W0.heap.size+2:=by rw[<- hW1];simp
 have hM:AnyZI.ApAt Jx w fn sv w.heap.size (W0.heap.size+1) W0.heap.size [] W1 :=
  ⟨⟨_,(hold w.heap.size (by omega)).trans hv0,⟨rfl,.inl ⟨rfl,rfl⟩⟩,by simp⟩,
   by rw[<- hW1];have:=World.alloc_heap_new (W0.alloc (.deferred (some []))) (.loop (AnyZI.apRec Jx fn sv w.heap.size W0.heap.size .ready none));rwa [World.size_alloc] at this,
   by rw[<- hW1];exact(Below.heap_alloc _ _ _ (by simp)).trans (World.alloc_heap_new W0 _),hb1⟩
 refine⟨W0.heap.size+1,[{ target:=.collected W0.heap.size,args:=#[] }],W1,{ target:=.fn (.func 187) #[.pointer (some ⟨Bs,B0,none⟩)],args:=#[.func (.yield (W0.heap.size+1)) #[] #[]] },W1,187,
  #[.func (.yield (W0.heap.size+1)) #[] #[]] ++ #[.pointer (some ⟨Bs,B0,none⟩)],W1,?_,?_,?_,?_,λ _=>h1,?_⟩
 .rw [<- hW1];exact run_enterLoop_outer _ _ _ _ _
 .rw [hsv];simp[resolve,go_sem]
 .intro f' hf';simp[Target.leads] at hf';subst hf';exact hFg
 .simp [invoke,go_sem,eg]
 .refine (Ye F (n - 1) hFg hro (by omega) (W0.heap.size+1) Bs B0 b off cap a zs ha (by omega) (AnyZI.ApAt Jx w fn sv w.heap.size (W0.heap.size+1) W0.heap.size) W1 (λ pre W' h' j hj=>(h'.below.cell (p:=⟨b,off+j,none⟩) (hbl (by rintro rfl;simp at hj))).trans (hc j hj))
   (λ pre x W hJ hl=>AnyZI.apYield { L with } F (n - 1 - 1) w fn hfn _ w.heap.size (W0.heap.size+1) W0.heap.size (by omega) (by omega) (by omega) (Qk _) (by omega) zs.length hmax (by omega) pre x W hJ hl) ((hb1.cell (p:=⟨Bs,B0,none⟩) hBl).trans hBs) hM).mono ?_
  rintro e W2 ⟨⟨v0,rfl⟩,h2⟩
  obtain⟨v,hv,hrow,hnil⟩:=h2.box;have hend:=run_endLoop (P:=Tryz.prog) h2.L (by simp[AnyZI.apRec])
  obtain⟨W3,hW3⟩:∃ W3,W2.putObj (W0.heap.size+1) (.loop { AnyZI.apRec Jx fn sv w.heap.size W0.heap.size .ready none with state:=.exhausted })=W3:=⟨_,rfl⟩;rw[hW3] at hend;have hg3:W2.grownBy W3 (some (W0.heap.size+1)):=by rw[<- hW3];exact grownBy_putObj_a _ _ _
  have hv3:W3.heap[w.heap.size]? = some (.cells #[v] 22 (0,0)):=by rw[<- hW3];exact(World.putObj_heap_other (by omega)).trans hv
  have hK3:W3.heap[W0.heap.size]? = some (.deferred (some [])):=by rw[<- hW3];exact(World.putObj_heap_other (by omega)).trans h2.K
  have hrow3:=hrow.kept hg3 (ownsRow_ne_a hrow h2.L (λ cur e=>by first | cases e | exact hne (Obj.cells.inj e).2.1))
  have hb3:Below w.heap.size w W3:=h2.below.grown hg3 h2.below.size (λ k e=>by cases e;omega)
  obtain⟨hc3,hf3⟩:=cell_of_box_a hv3
  clear hW3
  refine⟨none,W3,hend,?_⟩
  gi_wp2
  rw[<- hs0];refine⟨by simp,.inl ⟨_,_,rfl,run_takeDeferred hK3,?_⟩⟩
  exact⟨_,results_tmp rfl _ _ _,v,rfl,hrow3.kept (grownBy_putObj_a _ _ _) (ownsRow_ne_a hrow3 hK3 (λ cur e=>by first | cases e | exact hne (Obj.cells.inj e).2.1)),hb3.grown (grownBy_putObj_a _ _ _) hb3.size (λ k e=>by cases e;omega)⟩
def G1 (aA:List AV):Prop:=∀ ρ sn h n,aA.map (conv ρ sn h (n+1))=aA
def CH {α:Type} (l:List α) (q:α->Bool):Int:=if l.findIdx q<l.length then (l.findIdx q:Int) else -1
theorem OM {α:Type} {l:List α} {q:α->Bool} {k:Nat} (hk:k<l.length) (h1:∀ i,i<k -> ∀ h:i<l.length,q l[i]=false) (h2:q l[k]=true):CH l q=k:=by
 have:l.findIdx q=k:=by
  rw[List.findIdx_eq hk];exact⟨h2,λ j hj=>by simpa using h1 j hj (by omega)⟩
 unfold CH;rw[this,if_pos hk]
theorem N5 {α:Type} {l:List α} {q:α->Bool} (h1:∀ i,i<l.length -> ∀ h:i<l.length,q l[i]=false):CH l q = -1:=by
 have:l.findIdx q=l.length:=by
  rw[UZ];intro x hx;obtain⟨i,hi,rfl⟩:=QG.1 hx;exact h1 i hi hi
 unfold CH;rw[this,if_neg (by omega)]
theorem ziz (f:FuncId) (aA:List AV) (q:Ed->Bool) (l:List Ed) (hl:l.length<=1099511627776) (hs:G1 aA) (hc:∀ e∈l,AcP f (eE e::aA) [] (.B (q e)) []):AcP 128 [CB l,.fn (.func f) [] aA] [] (.I (CH l q)) []:=by
 have h6:∀ ρ sn h,aA.map (conv ρ sn h 2)=aA:=λ _ _ _=>hs _ _ _ 1
 have h0:∀ ρ sn h,aA.map (conv ρ sn h 3)=aA:=λ _ _ _=>hs _ _ _ 2
 have h2:∀ ρ sn h,aA.map (conv ρ sn h 4)=aA:=λ _ _ _=>hs _ _ _ 3
 refine g8.s.ai ?_;refine AC (AX ?_);refine AC (AC (AX ?_));refine AL (Ae (ι:=Nat) (λ k=>⟨19,[(0,CB l),(1,.fn (.func f) [] aA),(7,.I l.length),(8,.I k)],[],16⟩) (λ k=>k<=l.length /\ ∀ i,i<k -> ∀ h:i<l.length,q l[i]=false) (λ k=>l.length - k) (0) ?_ (A5 [] (by simp[h0])) ?_)
 .simp
 rintro k ⟨hk,hp⟩
 refine AC (AX ?_);refine AC (AE _ rfl (λ h4=>?_) λ h4=>?_)
 .try simp at h4
  have h3:=w6 (x:=(k:Int)+1);have h5:=hc l[k] (Qj h4);refine AJ (AC (AL (AC (Ag (s:=?s5) rfl ?o5 ?q5))))
  case o5=>simp[h4];rfl
  refine AC (Ag (s:=?s6) rfl ?o6 ?q6)
  case o6 =>
   simp[h4];refine Aq h5 ?_ ?_
   .simp [h2]
   simp;rfl
  refine AE _ rfl (λ h7=>?_) λ h7=>?_
  .try simp at h7
   refine AC (AX ?_);exact A9 (AS.one (by simp[OM h4 hp h7]))
  try simp at h7
  refine AJ (Ag (s:=?s9) rfl ?o9 ?q9)
  case o9=>simp[h3];rfl
  refine⟨k+1,⟨h4,λ i hi=>?_⟩,by omega,A5 [] (by simp[h0])⟩
  rcases QY.1 hi with h | rfl
  .exact hp i h
  .exact λ _=>h7
 try simp at h4
 have h1:∀ i,i<l.length -> ∀ h:i<l.length,q l[i]=false:=λ i hi=>hp i (by omega)
 refine Aa (hit (AC (AX ?_)));exact A9 (AS.one (by simp[N5 h1]))
abbrev A3 (l:List Ed):List (List AV):=l.map λ e=>[AV.I e.f,AV.I e.t,AV.I e.v]
theorem WM {l:List Ed} {q:Ed->Bool} (h:∀ i,i<l.length -> ∀ h:i<l.length,q l[i]=false):l.filter (λ e=>!q e)=l:=by
 rw[Vh];intro x hx;obtain⟨i,hi,rfl⟩:=QG.1 hx;simp[h i hi hi]
theorem YL (l:List Ed) (q:Ed->Bool) (j:Nat) (h:j<l.length):(l.take (j+1)).filter (λ e=>!q e)=(l.take j).filter (λ e=>!q e)++if q l[j]=true then [] else [l[j]]:=by
 rw[<- UN h,UD,Ug]
 congr 1
 cases hq:q l[j]<;>simp[hq]
theorem S5 (f:FuncId) (aA:List AV) (q:Ed->Bool) (l:List Ed) (n m:Nat) (hn:l.length=n) (hm:(l.filter λ e=>!q e).length=m) (hl:n<=1099511627776) (hs:G1 aA) (hc:∀ e∈l,AcP f (eE e::aA) [] (.B (q e)) []) :
  AcP 76 [.rs 0 0 n,.fn (.func f) [] aA] [⟨3,A3 l,0⟩] (.rs 0 0 m) [some ⟨3,A3 (l.filter λ e=>!q e)++List.replicate (n - m) [.I 0,.I 0,.I 0],0⟩]:=by
 have h6:∀ ρ sn h,aA.map (conv ρ sn h 2)=aA:=λ _ _ _=>hs _ _ _ 1
 have h7:∀ ρ sn h,aA.map (conv ρ sn h 3)=aA:=λ _ _ _=>hs _ _ _ 2
 have h9:∀ ρ sn h,aA.map (conv ρ sn h 4)=aA:=λ _ _ _=>hs _ _ _ 3
 refine bO.s.ai ?_;have a3:m<=n:=by rw[<- hm,<- hn];exact QU _ _
 apply ak [0,1] [0] 24
 .simp
  rfl
 apply ak [0,1,5] [0] 56
 .simp
  refine Hk [0] (ziz f aA q l (by omega) hs hc) ?_ (.sc _) ?_
  .simp [h6,h7,h9,<- hn,AB,Cz]
  simp;rfl
 refine AC (arc ⟨42,[(0,.rs 0 0 n),(1,.fn (.func f) [] aA),(5,.I (CH l q)),(12,.B (decide (CH l q = -1)))],[(0,some ⟨3,A3 l,0⟩)],72⟩ ?_ ?_)
 .simp
  exact Le.keep rfl (Qk _) (by simp<;>rw[Qp]<;>simp) (by simp)
 refine AE _ rfl (λ h=>?_) λ h=>AJ ?_
 .simp only[Qd] at h
  have hq:∀ i,i<l.length -> ∀ h:i<l.length,q l[i]=false:=by
   intro i hi _;unfold CH at h;split at h
   .omega
   .rename_i a4
    have:l.findIdx q=l.length:=by have:=Vc (xs:=l) (p:=q);omega
    rw[UZ] at this;exact this _ (Qj hi)
  have hf:=WM hq;rw[hf] at hm ⊢;obtain rfl:n=m:=by omega
  refine AC (AX ?_);refine BG ⟨.inr rfl,⟨[.rs 0 0 n],rfl,[],[],by simp[List.range,List.range.loop],by simp,by simp,?_,?_⟩⟩
  .simp [List.range,List.range.loop]
  .simp [List.range,List.range.loop,AB]
 simp only[Qa] at h
 obtain⟨i0,hu,h2,hh,hw⟩:∃ i0:Nat,CH l q=i0/\i0<l.length/\(∀ i,i<i0 -> ∀ h:i<l.length,q l[i]=false) /\ ∀ h:i0<l.length,q l[i0]=true:=by
  unfold CH at h ⊢;split at h
  .rename_i h2
   refine⟨l.findIdx q,by rw[if_pos h2],h2,λ i hi _=>?_,λ h=>Vm (w:=h)⟩
   simpa using List.not_of_lt_findIdx hi
  .omega
 rw[hu]
 have ha:(l.take (i0+1)).filter (λ e=>!q e)=l.take i0:=by
  rw[YL l q i0 h2,if_pos (hw h2),QW];refine WM λ i hi h=>?_;rw[QV] at hi;simp only[UU];exact hh i (by omega) (by omega)
 have hx:=wq (k:=i0)
 let C:Nat × List Ed->St:=λ p=>⟨42,[(0,.rs 0 0 n),(1,.fn (.func f) [] aA),(5,.I ((l.take p.1).filter λ e=>!q e).length),(6,.I p.1)],[(0,some ⟨3,A3 ((l.take p.1).filter (λ e=>!q e)++p.2++l.drop p.1),0⟩)],96⟩
 refine AC (D9 (C (i0+1,[l[i0]])) rfl ?_ ?_)
 .simp [hx]
  refine Le.keep rfl (Qk _) ?_ ?_
  .simp only[C,ha]
   simp;omega
  .simp only[C,ha]
   simp
 refine AL (Ae C (λ p:Nat × List Ed=>p.1<=n/\p.2≠[]/\((l.take p.1).filter λ e=>!q e).length+p.2.length=p.1) (λ p:Nat × List Ed=>n - p.1) (i0+1,[l[i0]]) ?_ (Le.refl _ _) ?_)
 .simp only[ha]
  simp;omega
 rintro⟨j,M⟩ ⟨hj,hM,h1⟩
 simp only at hj hM h1 ⊢;obtain⟨A,hA⟩:=AG ((l.take j).filter λ e=>!q e);rw[<- hA] at h1;have hC:C (j,M)=⟨42,[(0,.rs 0 0 n),(1,.fn (.func f) [] aA),(5,.I A.length),(6,.I j)],[(0,some ⟨3,A3 (A++M++l.drop j),0⟩)],96⟩:=by subst hA;rfl
 rw[hC];refine AC (arc ⟨42,[(0,.rs 0 0 n),(1,.fn (.func f) [] aA),(5,.I A.length),(6,.I j),(19,.B (decide (j<n)))],[(0,some ⟨3,A3 (A++M++l.drop j),0⟩)],128⟩ ?_ ?_)
 .simp
  exact Ek
 refine AE _ rfl (λ h=>AJ ?_) λ h=>Aa (hit ?_)
 .simp only[Qd] at h
  have h3:j<l.length:=by omega
  match M,hM,h1 with
  | m0::M1,_,h1 =>
  simp only[QN] at h1;have h0:=YL l q j h3;rw[<- hA] at h0
  have hk:(A3 (A++m0::M1++l.drop j))[j]? = some [AV.I l[j].f,AV.I l[j].t,AV.I l[j].v]:=by
   rw[QA,Qv (by simp;omega),Q9,show j+(j - (A++m0::M1).length)=j by simp;omega,Qc h3]
   rfl
  have hb:(A3 (A++m0::M1++l.drop j))[A.length]? = some [AV.I m0.f,AV.I m0.t,AV.I m0.v]:=by
   rw[QA,Qu,Qv (by omega)]
   simp
  have ho:(A3 (A++m0::M1++l.drop j)).set A.length [AV.I l[j].f,AV.I l[j].t,AV.I l[j].v]=A3 ((A++[l[j]])++(M1++[l[j]])++l.drop (j+1)):=by
   have e1:l.drop j=l[j]::l.drop (j+1):=QP h3;rw[e1];simp[A3,List.set_append]
  have he:A++m0::M1++l.drop j=A++(m0::M1++[l[j]])++l.drop (j+1):=by
   have e1:l.drop j=l[j]::l.drop (j+1):=QP h3;rw[e1];simp
  generalize h4:A3 (A++m0::M1++l.drop j)=R at *;have a5:R.length=n:=by rw[<- h4];simp;omega
  have hy:=hc l[j] (Qj h3);generalize hv:l[j]=v at *
  refine FO (ι:=List Ed × List Ed) (λ p=>⟨42,[(0,.rs 0 0 n),(1,.fn (.func f) [] aA),(5,.I p.1.length),(6,.I j)],[(0,some ⟨3,A3 (p.1++p.2++l.drop (j+1)),0⟩)],272⟩)
   (λ p=>p.1=(l.take (j+1)).filter (λ e=>!q e)/\p.2≠[]/\p.1.length+p.2.length=j+1) ?_ ?_
  .refine AL (arc ⟨42,[(0,.rs 0 0 n),(1,.fn (.func f) [] aA),(5,.I A.length),(6,.I j),(7,.pt 160 0 0)],[(0,some ⟨3,R,0⟩),(160,some ⟨3,[[.I v.f,.I v.t,.I v.v]],0⟩)],176⟩ ?_ ?_)
   .simp [h,hk]
    exact Ek
   refine arc ⟨42,[(0,.rs 0 0 n),(1,.fn (.func f) [] aA),(5,.I A.length),(6,.I j),(7,.pt 160 0 0),(29,.B (!q v))],[(0,some ⟨3,R,0⟩),(160,some ⟨3,[[.I v.f,.I v.t,.I v.v]],0⟩)],208⟩ ?_ ?_
   .simp
    refine Aq hy ?_ ?_
    .simp [h6,h7,h9]
    simp;exact Ek
   refine AE _ rfl (λ h5=>?_) λ h5=>AJ ?_
   .simp only[UF] at h5
    rw[h5] at h0;refine arc ⟨42,[(0,.rs 0 0 n),(1,.fn (.func f) [] aA),(5,.I A.length),(6,.I j)],[(0,some ⟨3,A3 ((A++[v])++(M1++[v])++l.drop (j+1)),0⟩)],248⟩ ?_ ?_
    .simp [hb,show A.length<n by omega,Ay,ho]
     exact Ek
    have hz:IntKind.i64.wrap ((A.length:Int)+1)=((A.length+1:Nat):Int):=by rw[w6];omega
    refine Ac rfl ?_;simp[hz];refine⟨A++[v],M1++[v],⟨by rw[h0];simp,by simp,by simp;omega⟩,Ek⟩
   .simp only[Bool.not_eq_false'] at h5
    rw[h5] at h0;refine⟨(A,m0::M1++[v]),⟨by rw[h0];simp,by simp,by simp;omega⟩,Le.keep rfl (CL rfl) (by simp) ?_⟩
    rw[<- he,h4];simp
  rintro⟨A',M'⟩ ⟨p1,p2,p3⟩
  simp only at p1 p2 p3 ⊢;have a0:=wq (k:=j);refine Ac rfl ?_;simp[a0];refine⟨j+1,M',⟨by omega,p2,by rw[<- p1];omega⟩,by omega,?_⟩
  have hD:C (j+1,M')=⟨42,[(0,.rs 0 0 n),(1,.fn (.func f) [] aA),(5,.I A'.length),(6,.I ((j+1:Nat):Int))],[(0,some ⟨3,A3 (A'++M'++l.drop (j+1)),0⟩)],96⟩:=by rw[p1]
  rw[hD];refine Le.ents [(0,0)] [] rfl (by simp) (by simp) (by simp) (by simp) (by simp) (by simp[h6,h7,h9]) λ p hp=>?_
  simp at hp;subst hp;exact⟨0,_,_,rfl,by simp,rfl,Am.eq (by simp[AB]) (by simp)⟩
 simp only[Qa] at h;obtain rfl:j=n:=by omega
 have hd:l.drop j=[]:=Us (by omega)
 have ht:l.take j=l:=Qb (by omega)
 rw[ht] at hA;rw[hd,QW];rw[<- hA] at hm ⊢;subst hm;have a1:(A3 (A++M)).take A.length=A3 A:=by simp[A3]
 have a2:(A3 (A++M)).drop (A.length+(j - A.length))=[]:=Us (by simp;omega)
 have a6:(A3 (A++M)).length=j:=by simp;omega
 generalize A3 (A++M)=R at *;refine arc ⟨42,[(0,.rs 0 0 j),(5,.I A.length)],[(0,some ⟨3,A3 A++List.replicate (j - A.length) [.I 0,.I 0,.I 0],0⟩)],160⟩ ?_ ?_
 .simp
  refine⟨by omega,by omega,?_⟩
  rw[a1,a2];exact Ek
 refine AC (Ag (s:=?s2) rfl ?o2 ?q2)
 case o2 =>
  simp;refine⟨by omega,?_⟩
  rfl
 refine BG ⟨.inr rfl,⟨[.rs 0 0 A.length],rfl,[],[],by simp[List.range,List.range.loop],by simp,by simp,?_,?_⟩⟩
 .simp [List.range,List.range.loop]
 .simp [List.range,List.range.loop,AB]
def AM (g:Gr) (v:Int):Gr:=⟨g.size,g.edges.filter λ e=>!decide (e.v<v),g.gone⟩
theorem SA (e:Ed) (v:Int):AcP 77 [eE e,.pv [.I v]] [] (.B (decide (e.v<v))) []:=by
 refine dA.s.ai ?_;refine ar [1,2] [] [16] 16 ?_;refine AC (AX ?_);exact Bl
theorem Kp (g:Gr) (v:Int) (hl:g.edges.length<=1099511627776) (h2:g.gone.length<=1099511627776):AcP 38 [eG g,.I v] [] (eG (AM g v)) []:=by
 refine zjP.s.ai ?_;obtain⟨E,hE⟩:=AG (g.edges.filter λ e=>!decide (e.v<v));have h3:E.length<=g.edges.length:=by rw[hE];exact QU _ _
 have h0:=S5 77 [.pv [.I v]] (λ e=>decide (e.v<v)) g.edges g.edges.length E.length rfl (by rw[hE]) hl (λ ρ sn h n=>by simp) (λ e _=>SA e v)
 rw[<- hE] at h0;have h1:AM g v=⟨g.size,E,g.gone⟩:=by rw[hE];rfl
 rw[h1];refine arc ⟨14,[(2,.pv (gC g)),(3,.pt 24 0 0),(4,.pt 32 0 0)],[(24,some ⟨1,[[.I v]],0⟩),(32,some zG)],40⟩ ?_ ?_
 .simp
  refine Le.ents [(24,24),(32,32)] [16] rfl (by simp) (by simp) (by simp) (by simp) (by simp) (by simp) λ p hp=>?_
  simp at hp;rcases hp with rfl | rfl
  .exact ⟨24,_,_,rfl,by simp,rfl,Am.eq (by simp) (by simp)⟩
  .exact ⟨32,_,_,rfl,by simp,rfl,Am.eq (by simp) (by simp)⟩
 apply ak [3,4,5] [24,32,56,48,49] 72
 .simp
  refine NJ (zgs g (by omega) (by omega)) rfl ?_
  simp[AB];rfl
 apply ak [4,5] [32,56,48,49] 120
 .simp
  refine KQ (i:=48) (j:=24) (by decide) (Qh _) rfl rfl ?_ h0 (by simp) ?_ ?_
  .simp [AB]
  .simp
  simp[AB];rfl
 refine AC (AX ?_);refine BG ⟨.inr rfl,?_⟩;show AS [(4,some (true,3))] 0 _ _ _;refine AS.out (vs:=[.agg [.I g.size,.rs 48 0 E.length,.rs 49 0 g.gone.length]]) [] [48,49] (by simp) (by simp) (by simp) ?_ (by simp)
 simp[AB,Cz]
theorem Yg (l:List Ed) (v:Int) (k:Nat) (h:k<l.length):(l.take (k+1)).filter (λ e=>!decide (e.v<v))=(l.take k).filter (λ e=>!decide (e.v<v))++if v<=l[k].v then [l[k]] else []:=by
 rw[<- UN h,UD,Ug]
 congr 1
 by_cases hq:v<=l[k].v
 .have:¬ l[k].v<v:=by omega
  simp[hq,this]
 .have:l[k].v<v:=by omega
  simp[hq,this]
theorem KG (g:Gr) (v:Int) (hl:g.edges.length<=1099511627776) (h7:g.gone.length<=1099511627776):AcP 29 [eG g,.I v] [] (eG (AM g v)) []:=by
 refine v8.s.ai ?_;refine arc ⟨36,[(1,.I v),(2,.pv (gC g)),(4,.pt 24 0 0)],[(24,some zG)],32⟩ ?_ ?_
 .simp
  refine Le.ents [(24,24)] [16] rfl (by simp) (by simp) (by simp) (by simp) (by simp) (by simp) λ p hp=>?_
  simp at hp;subst hp;exact⟨24,_,_,rfl,by simp,rfl,Am.eq (by simp) (by simp)⟩
 apply ak [1,2,4,5] [24,48,40,41] 64
 .simp
  refine NJ (zh2 g (by omega) (by omega)) rfl ?_
  simp[AB];rfl
 refine arc ⟨36,[(1,.I v),(2,.pv (gC g)),(4,.pt 24 0 0),(5,.pt 48 0 0)],[(24,some zG),(48,some ⟨3,[[.I g.size,.nilS,AA g.gone]],0⟩)],80⟩ ?_ ?_
 .simp
  refine Le.ents [(24,24),(48,48)] [41] rfl (by simp) (by simp) (by simp) (by simp) (by simp) (by simp) λ p hp=>?_
  simp at hp;rcases hp with rfl | rfl
  .exact ⟨24,_,_,rfl,by simp,rfl,Am.eq (by simp) (by simp)⟩
  .exact ⟨48,_,_,rfl,by simp,rfl,Am.eq (by simp[Ay,AB,Cz]) (by simp)⟩
 refine AC ?_;apply ak [1,2,4,5,6] [24,48] 88
 .simp
  rfl
 refine AL ?_
 let F:Nat->List Ed:=λ k=>(g.edges.take k).filter λ e=>!decide (e.v<v)
 let C:Nat->St:=λ k=>⟨36,[(1,.I v),(2,.pv (gC g)),(4,.pt 24 0 0),(5,.pt 48 0 0),(6,.I k)],[(24,some zG),(48,some ⟨3,[[.I g.size,.rs 16 0 (F k).length,AA g.gone]],0⟩),(16,some ⟨3,A3 (F k),0⟩)],88⟩
 refine Ae C (λ k=>k<=g.edges.length) (λ k=>g.edges.length - k) 0 (Qh _) ?_ ?_
 .refine Le.lst [(24,24),(48,48)] [] [(16,3)] rfl (by simp) (by simp) (by simp[C]) (by simp[C]) (by simp) (by simp) (by simp) (by simp[C,Up]) λ p hp e' h0=>?_
  simp[C] at hp;rcases hp with rfl | rfl | rfl
  .cases h0
   exact .inl ⟨(24,24),by simp,rfl,_,rfl,Am.eq (by simp) (by simp)⟩
  .cases h0
   refine .inl ⟨(48,48),by simp,rfl,_,rfl,Am.row (by simp;rfl) (by simp) ?_⟩
   exact⟨.inl (.refl _),.inr ⟨rfl,16,3,by simp[F],by simp⟩,.inl (.refl _),trivial⟩
  .cases h0
   exact .inr ⟨by simp,by simp[F],rfl⟩
 intro k hk
 have h9:(F k).length<=k:=by
  have h1:(F k).length<=(g.edges.take k).length:=QU _ _;simp at h1;omega
 have hC:C k=⟨36,[(1,.I v),(2,.pv (gC g)),(4,.pt 24 0 0),(5,.pt 48 0 0),(6,.I k)],[(24,some zG),(48,some ⟨3,[[.I g.size,.rs 16 0 (F k).length,AA g.gone]],0⟩),(16,some ⟨3,A3 (F k),0⟩)],88⟩:=rfl;rw[hC];refine AC ?_;apply ak [1,2,4,5,6,14] [24,48,16] 128
 .simp
  rfl
 refine AE _ rfl (λ h=>AJ ?_) λ h=>Aa (hit ?_)
 .simp only[Qd] at h
  have h2:=Yg g.edges v k h;have h4:F (k+1)=F k++if v<=g.edges[k].v then [g.edges[k]] else []:=h2
  refine Ao ⟨36,[(1,.I v),(2,.pv (gC g)),(4,.pt 24 0 0),(5,.pt 48 0 0),(6,.I k)],[(24,some zG),(48,some ⟨3,[[.I g.size,.rs 16 0 (F (k+1)).length,AA g.gone]],0⟩),(16,some ⟨3,A3 (F (k+1)),0⟩)],280⟩ ?_ ?_
  .rw [h4]
   generalize F k=A at *;refine AL ?_;apply ak [1,2,4,5,6,24] [24,48,16] 192
   .simp [h]
    rfl
   refine AE _ rfl (λ h5=>?_) λ h5=>AJ ?_
   .simp only[Qd] at h5
    rw[if_pos h5];refine Cr rfl ?_;have ha:(A3 A).length=A.length:=by simp
    simp[h,Ay,List.replicate];refine⟨by omega,by omega,rfl,?_⟩
    refine Le.ents [(24,24),(48,48),(256,16)] [] rfl (by simp) (by simp) (by simp) (by simp) (by simp) (by simp) λ p hp=>?_
    simp at hp;rcases hp with rfl | rfl | rfl
    .exact ⟨24,_,_,rfl,by simp,rfl,Am.eq (by simp) (by simp)⟩
    .exact ⟨48,_,_,rfl,by simp,rfl,Am.eq (by simp) (by simp)⟩
    .exact ⟨256,_,_,rfl,by simp,rfl,Am.eq (by simp[AB,Cz]) (by simp)⟩
   .simp only[Qa] at h5
    rw[if_neg h5,QW];exact Le.keep rfl (CL rfl) (by simp) (by simp)
  have h6:=wq (k:=k);refine Ac rfl ?_;simp[h6];refine⟨k+1,by omega,by omega,?_⟩
  refine Le.ents [(24,24),(48,48),(16,16)] [] rfl (by simp) (by simp) (by simp[C]) (by simp) (by simp[C]) (by simp[C]) λ p hp=>?_
  simp[C] at hp;rcases hp with rfl | rfl | rfl
  .exact ⟨24,_,_,rfl,by simp,rfl,Am.eq (by simp) (by simp)⟩
  .exact ⟨48,_,_,rfl,by simp,rfl,Am.eq (by simp) (by simp)⟩
  .exact ⟨16,_,_,rfl,by simp,rfl,Am.eq (by simp[AB]) (by simp)⟩
 simp only[Qa] at h;obtain rfl:k=g.edges.length:=by omega
 have hF:F g.edges.length=(AM g v).edges:=by
  show (g.edges.take g.edges.length).filter _=_;rw[Qb (Qk _)];rfl
 rw[hF];have h3:AM g v=⟨g.size,(AM g v).edges,g.gone⟩:=rfl;rw[h3];generalize (AM g v).edges=E at *;refine AC (AX ?_);refine BG ⟨.inr rfl,?_⟩;show AS [(4,some (true,3))] 0 _ _ _;refine AS.out (vs:=[.agg [.I g.size,.rs 16 0 E.length,AA g.gone]]) [] [16] (by simp) (by simp) (by simp) ?_ (by simp)
 simp[AB,Cz]
variable {order:List Int}
def MJ (g:Gr) (lv f t:Int):Prop:=∃ e∈g.edges,e.f=f/\e.t=t/\lv<=e.v
theorem OS:∀ {a b:List Int},a.Nodup->(∀ x∈a,x∈b)->b.length<=a.length->a.Perm b
 | [],b,_,_,hl=>by
   have:b=[]:=UJ.1 (by simpa using hl)
   rw[this]
 | x::a,b,hn,hs,hl=>by
   have hx:x∈b:=hs x (Qn ..);rw[Q7] at hn;have hb:=List.perm_cons_erase hx;have h2:(b.erase x).length+1=b.length:=by have:=hb.length_eq;simp at this;omega
   refine(List.Perm.cons x (OS hn.2 (λ y hy=>?_) ?_)).trans hb.symm
   .have h0:=hs y (Ql _ hy)
    have h1:y≠x:=λ e=>hn.1 (e ▸ hy);exact(List.mem_erase_of_ne h1).2 h0
   .rw [QN] at hl
    omega
def Ew (l:List Int):List Int:=l.mergeSort λ x y=>decide (x<=y)
theorem GB (l:List Int):(Ew l).Perm l:=List.mergeSort_perm ..
theorem Kr (l:List Int):(Ew l).Pairwise (· <= ·):=by
 have h:=List.pairwise_mergeSort (le:=λ x y:Int=>decide (x<=y)) (λ a b c h1 h2=>by simp at *;omega) (λ a b=>by simp;omega) l
 exact h.imp λ {a b} h=>by simpa using h
theorem Ln {a b:List Int}:Ew a=Ew b↔a.Perm b:=by
 constructor
 .intro h
  exact(GB a).symm.trans (h ▸ GB b)
 .intro h
  exact List.Perm.eq_of_pairwise (le:=(· <= ·)) (λ x y _ _ h1 h2=>by omega) (Kr a) (Kr b) (((GB a).trans h).trans (GB b).symm)
def NV (g:Gr) (lv:Int) (seeds order w:List Int):Prop :=
 (∃ k,w.head? = some k/\k∈seeds)/\(∀ k∈w,k∈order)/\w.Nodup /\ ∀ i (h:i+1<w.length),MJ g lv w[i] w[i+1]
def Ep (P:List (List Int)) (k:Int):Nat:=P.countP λ w=>decide (w.head? = some k)
def EI (P:List (List Int)) (k:Int):Nat:=(P.flatMap List.dropLast).count k
def H7 (c:List Int) (P:List (List Int)):Prop:=∀ k (h:k<c.length),(Ep P k:Int)<=c[k]/\(EI P k:Int)<=max 0 (c[k] - 1)
def GL (P:List (List Int)):List Int:=P.filterMap List.getLast?
def KC (g:Gr) (lv:Int) (seeds order c:List Int) (P:List (List Int)) (ends:List Int):Prop :=
 (∀ w∈P,NV g lv seeds order w)/\H7 c P/\Ew (GL P)=Ew ends
def Ki (g:Gr) (lv:Int) (seeds order c:List Int) (P:List (List Int)) (ends:List Int):Prop :=
 P.length=ends.length/\ends.Nodup/\(∀ w∈P,NV g lv seeds order w)/\(∀ k∈GL P,k∈ends)/\(GL P).Nodup/\H7 c P
theorem NV.ne {g:Gr} {lv:Int} {seeds w:List Int} (h:NV g lv seeds order w):w≠[]:=by
 rintro rfl
 obtain⟨k,hk,_⟩:=h.1
 cases hk
theorem RK {P:List (List Int)} (h:∀ w∈P,w≠[]):(GL P).length=P.length:=by
 unfold GL
 induction P with
 | nil=>rfl
 | cons w P ih =>
   have hw:=h w (Qn ..);rw[U2,List.getLast?_eq_some_getLast hw];simp only[QN];rw[ih λ x hx=>h x (Ql _ hx)]
theorem SK {g:Gr} {lv:Int} {seeds c:List Int} {P:List (List Int)} {h5:List Int} (hn:h5.Nodup):KC g lv seeds order c P h5↔Ki g lv seeds order c P h5:=by
 constructor
 .rintro ⟨h1,h2,h3⟩
  have hp:=Ln.1 h3;have hl:=RK λ w hw=>(h1 w hw).ne;exact⟨by rw[<- hl,hp.length_eq],hn,h1,λ k hk=>hp.mem_iff.1 hk,hp.nodup_iff.2 hn,h2⟩
 .rintro ⟨h0,_,h1,h2,h3,h4⟩
  have hl:=RK λ w hw=>(h1 w hw).ne;exact⟨h1,h4,Ln.2 (OS h3 h2 (by omega))⟩
def H2 (order:List Int) (key:Int):List Int:=order.takeWhile λ x=>decide (x≠key)
theorem iG (x:Int) (o:List Int) (key:Int):H2 (x::o) key=if x=key then [] else x::H2 o key:=by
 unfold H2;rw[List.takeWhile_cons]
 by_cases h:x=key<;>simp[h]
def Ij (order l:List Int) (key:Int):Prop:=l.Sublist (H2 order key)
theorem aP (order:List Int) (key:Int):key∉H2 order key:=by
 induction order with
 | nil=>simp[H2]
 | cons x o ih =>
   rw[iG];split
   .simp
   .rename_i h
    simp only[Qs,not_or];exact⟨λ e=>h e.symm,ih⟩
theorem Ij.nodup {l:List Int} {key:Int} (h:Ij order l key) (hn:order.Nodup):(l++[key]).Nodup:=by
 rw[Uh];refine⟨(hn.sublist (List.takeWhile_sublist _)).sublist h,by simp,λ x hx y hy=>?_⟩
 rw[QC] at hy;subst hy
 rintro rfl
 exact aP order x (h.subset hx)
theorem qQ (l:List Ed) (key:Int):(A7 l key).length=l.countP λ e=>decide (e.f=key):=by
 induction l with
 | nil=>rfl
 | cons e l ih =>
   unfold A7 at *
   by_cases h:e.f=key<;>simp[h,ih]
theorem AI.fits {g:Gr} (h:AI g):∀ e∈g.edges,BO g e:=by
 intro e he;obtain⟨i,hi,rfl⟩:=QG.1 he;exact(h.2 i hi).1
theorem L9.rfl' (a:Gr):L9 a a:=⟨rfl,rfl,rfl⟩
abbrev HR (l:List Int):List Int:=l.mergeSort λ x y=>decide (x<=y)
theorem Oc (l:List Int):(HR l).length=l.length:=List.length_mergeSort ..
theorem fG {l:List Int} {x:Int}:x∈HR l↔x∈l:=List.mem_mergeSort
theorem AI.pair {g:Gr} (h:AI g):g.edges.Pairwise Bd:=by
 rw[QX];intro i j hi hj h0;exact h.lt j i hi hj h0
theorem Gh {st st':St} {i j:Nat} {sn:List Nat} {e e':AQ} (h0:st'.sz=st.sz) (hh:st'.h=[(j,some e')]) (hj:j<st'.n) (hs:∀ k∈sn,k≠i) (he:st.hp i=some e) (h1:Ab [(i,j)] sn st.hp 4 e=e') (hr:e'.ro<=e'.rows.length) (ht:∀ p∈st'.t,Wk (conv [(i,j)] sn st.hp 4 (st.get p.1)) p.2):Le 0 st st' :=
 Le.ents [(i,j)] sn h0 (by simp) (by simp) (by simpa using hj) (by simpa using hs) (Qh _) ht (λ p hp=>by
  rw[hh] at hp;simp at hp;subst hp
  exact⟨i,e,e',rfl,by simp,he,Am.eq h1 hr⟩)
theorem Xt (f:FuncId) (aA:List AV) (q:Int->Bool) (l:List Int) (hl:l.length<=1099511627776) (hs:G1 aA) (hc:∀ e∈l,AcP f (AV.I e::aA) [] (.B (q e)) []):AcP 131 [AA l,.fn (.func f) [] aA] [] (.I (CH l q)) []:=by
 have h6:∀ ρ sn h,aA.map (conv ρ sn h 2)=aA:=λ _ _ _=>hs _ _ _ 1
 have h0:∀ ρ sn h,aA.map (conv ρ sn h 3)=aA:=λ _ _ _=>hs _ _ _ 2
 have h2:∀ ρ sn h,aA.map (conv ρ sn h 4)=aA:=λ _ _ _=>hs _ _ _ 3
 refine tK.s.ai ?_;refine AC (AX ?_);refine AC (AC (AX ?_));refine AL (Ae (ι:=Nat) (λ k=>⟨19,[(0,AA l),(1,.fn (.func f) [] aA),(7,.I l.length),(8,.I k)],[],16⟩) (λ k=>k<=l.length /\ ∀ i,i<k -> ∀ h:i<l.length,q l[i]=false) (λ k=>l.length - k) (0) ?_ (A5 [] (by simp[h0])) ?_)
 .simp
 rintro k ⟨hk,hp⟩
 refine AC (AX ?_);refine AC (AE _ rfl (λ h4=>?_) λ h4=>?_)
 .try simp at h4
  have h3:=w6 (x:=(k:Int)+1);have h5:=hc l[k] (Qj h4);refine AJ (AC (AL (AC (Ag (s:=?s5) rfl ?o5 ?q5))))
  case o5=>simp[h4];rfl
  refine AC (Ag (s:=?s6) rfl ?o6 ?q6)
  case o6 =>
   simp[h4];refine Aq h5 ?_ ?_
   .simp [h2]
   simp;rfl
  refine AE _ rfl (λ h7=>?_) λ h7=>?_
  .try simp at h7
   refine AC (AX ?_);exact A9 (AS.one (by simp[OM h4 hp h7]))
  try simp at h7
  refine AJ (Ag (s:=?s9) rfl ?o9 ?q9)
  case o9=>simp[h3];rfl
  refine⟨k+1,⟨h4,λ i hi=>?_⟩,by omega,A5 [] (by simp[h0])⟩
  rcases QY.1 hi with h | rfl
  .exact hp i h
  .exact λ _=>h7
 try simp at h4
 have h1:∀ i,i<l.length -> ∀ h:i<l.length,q l[i]=false:=λ i hi=>hp i (by omega)
 refine Aa (hit (AC (AX ?_)));exact A9 (AS.one (by simp[N5 h1]))
abbrev AD (l:List Int):List (List AV):=l.map λ e=>[AV.I e]
theorem Rq {l:List Int} {q:Int->Bool} (h:∀ i,i<l.length -> ∀ h:i<l.length,q l[i]=false):l.filter (λ e=>!q e)=l:=by
 rw[Vh];intro x hx;obtain⟨i,hi,rfl⟩:=QG.1 hx;simp[h i hi hi]
theorem XJ (l:List Int) (q:Int->Bool) (j:Nat) (h:j<l.length):(l.take (j+1)).filter (λ e=>!q e)=(l.take j).filter (λ e=>!q e)++if q l[j]=true then [] else [l[j]]:=by
 rw[<- UN h,UD,Ug]
 congr 1
 cases hq:q l[j]<;>simp[hq]
theorem wI (f:FuncId) (aA:List AV) (q:Int->Bool) (l:List Int) (n m:Nat) (hn:l.length=n) (hm:(l.filter λ e=>!q e).length=m) (hl:n<=1099511627776) (hs:G1 aA) (hc:∀ e∈l,AcP f (AV.I e::aA) [] (.B (q e)) []) :
  AcP 82 [.rs 0 0 n,.fn (.func f) [] aA] [⟨1,AD l,0⟩] (.rs 0 0 m) [some ⟨1,AD (l.filter λ e=>!q e)++List.replicate (n - m) [.I 0],0⟩]:=by
 have h6:∀ ρ sn h,aA.map (conv ρ sn h 2)=aA:=λ _ _ _=>hs _ _ _ 1
 have h7:∀ ρ sn h,aA.map (conv ρ sn h 3)=aA:=λ _ _ _=>hs _ _ _ 2
 have h9:∀ ρ sn h,aA.map (conv ρ sn h 4)=aA:=λ _ _ _=>hs _ _ _ 3
 refine d5.s.ai ?_;have a3:m<=n:=by rw[<- hm,<- hn];exact QU _ _
 apply ak [0,1] [0] 24
 .simp
  rfl
 apply ak [0,1,5] [0] 56
 .simp
  refine Hk [0] (Xt f aA q l (by omega) hs hc) ?_ (.sc _) ?_
  .simp [h6,h7,h9,<- hn,AB,Cz]
  simp;rfl
 refine AC (arc ⟨42,[(0,.rs 0 0 n),(1,.fn (.func f) [] aA),(5,.I (CH l q)),(12,.B (decide (CH l q = -1)))],[(0,some ⟨1,AD l,0⟩)],72⟩ ?_ ?_)
 .simp
  exact Le.keep rfl (Qk _) (by simp<;>rw[Qp]<;>simp) (by simp)
 refine AE _ rfl (λ h=>?_) λ h=>AJ ?_
 .simp only[Qd] at h
  have hq:∀ i,i<l.length -> ∀ h:i<l.length,q l[i]=false:=by
   intro i hi _;unfold CH at h;split at h
   .omega
   .rename_i a4
    have:l.findIdx q=l.length:=by have:=Vc (xs:=l) (p:=q);omega
    rw[UZ] at this;exact this _ (Qj hi)
  have hf:=Rq hq;rw[hf] at hm ⊢;obtain rfl:n=m:=by omega
  refine AC (AX ?_);refine BG ⟨.inr rfl,⟨[.rs 0 0 n],rfl,[],[],by simp[List.range,List.range.loop],by simp,by simp,?_,?_⟩⟩
  .simp [List.range,List.range.loop]
  .simp [List.range,List.range.loop,AB]
 simp only[Qa] at h
 obtain⟨i0,hu,h2,hh,hw⟩:∃ i0:Nat,CH l q=i0/\i0<l.length/\(∀ i,i<i0 -> ∀ h:i<l.length,q l[i]=false) /\ ∀ h:i0<l.length,q l[i0]=true:=by
  unfold CH at h ⊢;split at h
  .rename_i h2
   refine⟨l.findIdx q,by rw[if_pos h2],h2,λ i hi _=>?_,λ h=>Vm (w:=h)⟩
   simpa using List.not_of_lt_findIdx hi
  .omega
 rw[hu]
 have ha:(l.take (i0+1)).filter (λ e=>!q e)=l.take i0:=by
  rw[XJ l q i0 h2,if_pos (hw h2),QW];refine Rq λ i hi h=>?_;rw[QV] at hi;simp only[UU];exact hh i (by omega) (by omega)
 have hx:=wq (k:=i0)
 let C:Nat × List Int->St:=λ p=>⟨42,[(0,.rs 0 0 n),(1,.fn (.func f) [] aA),(5,.I ((l.take p.1).filter λ e=>!q e).length),(6,.I p.1)],[(0,some ⟨1,AD ((l.take p.1).filter (λ e=>!q e)++p.2++l.drop p.1),0⟩)],96⟩
 refine AC (D9 (C (i0+1,[l[i0]])) rfl ?_ ?_)
 .simp [hx]
  refine Le.keep rfl (Qk _) ?_ ?_
  .simp only[C,ha]
   simp;omega
  .simp only[C,ha]
   simp
 refine AL (Ae C (λ p:Nat × List Int=>p.1<=n/\p.2≠[]/\((l.take p.1).filter λ e=>!q e).length+p.2.length=p.1) (λ p:Nat × List Int=>n - p.1) (i0+1,[l[i0]]) ?_ (Le.refl _ _) ?_)
 .simp only[ha]
  simp;omega
 rintro⟨j,M⟩ ⟨hj,hM,h1⟩
 simp only at hj hM h1 ⊢;obtain⟨A,hA⟩:=AG ((l.take j).filter λ e=>!q e);rw[<- hA] at h1;have hC:C (j,M)=⟨42,[(0,.rs 0 0 n),(1,.fn (.func f) [] aA),(5,.I A.length),(6,.I j)],[(0,some ⟨1,AD (A++M++l.drop j),0⟩)],96⟩:=by subst hA;rfl
 rw[hC];refine AC (arc ⟨42,[(0,.rs 0 0 n),(1,.fn (.func f) [] aA),(5,.I A.length),(6,.I j),(19,.B (decide (j<n)))],[(0,some ⟨1,AD (A++M++l.drop j),0⟩)],128⟩ ?_ ?_)
 .simp
  exact Ek
 refine AE _ rfl (λ h=>AJ ?_) λ h=>Aa (hit ?_)
 .simp only[Qd] at h
  have h3:j<l.length:=by omega
  match M,hM,h1 with
  | m0::M1,_,h1 =>
  simp only[QN] at h1;have h0:=XJ l q j h3;rw[<- hA] at h0
  have hk:(AD (A++m0::M1++l.drop j))[j]? = some [AV.I l[j]]:=by
   rw[QA,Qv (by simp;omega),Q9,show j+(j - (A++m0::M1).length)=j by simp;omega,Qc h3]
   rfl
  have hb:(AD (A++m0::M1++l.drop j))[A.length]? = some [AV.I m0]:=by
   rw[QA,Qu,Qv (by omega)]
   simp
  have ho:(AD (A++m0::M1++l.drop j)).set A.length [AV.I l[j]]=AD ((A++[l[j]])++(M1++[l[j]])++l.drop (j+1)):=by
   have e1:l.drop j=l[j]::l.drop (j+1):=QP h3;rw[e1];simp[AD,List.set_append]
  have he:A++m0::M1++l.drop j=A++(m0::M1++[l[j]])++l.drop (j+1):=by
   have e1:l.drop j=l[j]::l.drop (j+1):=QP h3;rw[e1];simp
  generalize h4:AD (A++m0::M1++l.drop j)=R at *;have a5:R.length=n:=by rw[<- h4];simp;omega
  have hy:=hc l[j] (Qj h3);generalize hv:l[j]=v at *
  refine FO (ι:=List Int × List Int) (λ p=>⟨42,[(0,.rs 0 0 n),(1,.fn (.func f) [] aA),(5,.I p.1.length),(6,.I j)],[(0,some ⟨1,AD (p.1++p.2++l.drop (j+1)),0⟩)],272⟩)
   (λ p=>p.1=(l.take (j+1)).filter (λ e=>!q e)/\p.2≠[]/\p.1.length+p.2.length=j+1) ?_ ?_
  .refine AL (arc ⟨42,[(0,.rs 0 0 n),(1,.fn (.func f) [] aA),(5,.I A.length),(6,.I j),(7,.I v)],[(0,some ⟨1,R,0⟩)],168⟩ ?_ ?_)
   .simp [h,hk]
    exact Ek
   refine arc ⟨42,[(0,.rs 0 0 n),(1,.fn (.func f) [] aA),(5,.I A.length),(6,.I j),(7,.I v),(29,.B (!q v))],[(0,some ⟨1,R,0⟩)],200⟩ ?_ ?_
   .simp
    refine Aq hy ?_ ?_
    .simp [h6,h7,h9]
    simp;exact Ek
   refine AE _ rfl (λ h5=>?_) λ h5=>AJ ?_
   .simp only[UF] at h5
    rw[h5] at h0;refine arc ⟨42,[(0,.rs 0 0 n),(1,.fn (.func f) [] aA),(5,.I A.length),(6,.I j)],[(0,some ⟨1,AD ((A++[v])++(M1++[v])++l.drop (j+1)),0⟩)],240⟩ ?_ ?_
    .simp [hb,show A.length<n by omega,Ay,ho]
     exact Ek
    have hz:IntKind.i64.wrap ((A.length:Int)+1)=((A.length+1:Nat):Int):=by rw[w6];omega
    refine Ac rfl ?_;simp[hz];refine⟨A++[v],M1++[v],⟨by rw[h0];simp,by simp,by simp;omega⟩,Le.keep rfl (CL rfl) (by simp) (by simp)⟩
   .simp only[Bool.not_eq_false'] at h5
    rw[h5] at h0;refine⟨(A,m0::M1++[v]),⟨by rw[h0];simp,by simp,by simp;omega⟩,Le.keep rfl (CL rfl) (by simp) ?_⟩
    rw[<- he,h4];simp
  rintro⟨A',M'⟩ ⟨p1,p2,p3⟩
  simp only at p1 p2 p3 ⊢;have a0:=wq (k:=j);refine Ac rfl ?_;simp[a0];refine⟨j+1,M',⟨by omega,p2,by rw[<- p1];omega⟩,by omega,?_⟩
  have hD:C (j+1,M')=⟨42,[(0,.rs 0 0 n),(1,.fn (.func f) [] aA),(5,.I A'.length),(6,.I ((j+1:Nat):Int))],[(0,some ⟨1,AD (A'++M'++l.drop (j+1)),0⟩)],96⟩:=by rw[p1]
  rw[hD];refine Le.ents [(0,0)] [] rfl (by simp) (by simp) (by simp) (by simp) (by simp) (by simp[h6,h7,h9]) λ p hp=>?_
  simp at hp;subst hp;exact⟨0,_,_,rfl,by simp,rfl,Am.eq (by simp[AB]) (by simp)⟩
 simp only[Qa] at h;obtain rfl:j=n:=by omega
 have hd:l.drop j=[]:=Us (by omega)
 have ht:l.take j=l:=Qb (by omega)
 rw[ht] at hA;rw[hd,QW];rw[<- hA] at hm ⊢;subst hm;have a1:(AD (A++M)).take A.length=AD A:=by simp[AD]
 have a2:(AD (A++M)).drop (A.length+(j - A.length))=[]:=Us (by simp;omega)
 have a6:(AD (A++M)).length=j:=by simp;omega
 generalize AD (A++M)=R at *;refine arc ⟨42,[(0,.rs 0 0 j),(5,.I A.length)],[(0,some ⟨1,AD A++List.replicate (j - A.length) [.I 0],0⟩)],160⟩ ?_ ?_
 .simp
  refine⟨by omega,by omega,?_⟩
  rw[a1,a2];exact Ek
 refine AC (Ag (s:=?s2) rfl ?o2 ?q2)
 case o2 =>
  simp;refine⟨by omega,?_⟩
  rfl
 refine BG ⟨.inr rfl,⟨[.rs 0 0 A.length],rfl,[],[],by simp[List.range,List.range.loop],by simp,by simp,?_,?_⟩⟩
 .simp [List.range,List.range.loop]
 .simp [List.range,List.range.loop,AB]
theorem RJ (f:FuncId) (aA:List AV) (q:Int->Bool) (l:List Int) (hl:l.length<=1099511627776) (hs:G1 aA) (hc:∀ e∈l,AcP f (AV.I e::aA) [] (.B (q e)) []):AcP 94 [AA l,.fn (.func f) [] aA] [] (.B (l.any q)) []:=by
 have h0:∀ ρ sn h,aA.map (conv ρ sn h 2)=aA:=λ _ _ _=>hs _ _ _ 1
 have h1:∀ ρ sn h,aA.map (conv ρ sn h 3)=aA:=λ _ _ _=>hs _ _ _ 2
 have h3:∀ ρ sn h,aA.map (conv ρ sn h 4)=aA:=λ _ _ _=>hs _ _ _ 3
 refine dH.s.ai ?_;refine AC (AX ?_)
 have hi:decide (0<=CH l q)=l.any q:=by
  unfold CH
  by_cases h:l.findIdx q<l.length
  .rw [if_pos h]
   have:=Vm (w:=h);have h2:l.any q=true:=Ui.2 ⟨_,Qj h,this⟩;rw[h2];simp
  .rw [if_neg h]
   have:l.findIdx q=l.length:=by have:=Vc (xs:=l) (p:=q);omega
   rw[UZ] at this
   have h2:l.any q=false:=by
    rw[List.any_eq_false];intro x hx;simp[this x hx]
   rw[h2];simp
 refine arc ⟨9,[(4,.B (l.any q))],[],16⟩ ?_ ?_
 .simp
  refine Aq (Xt f aA q l hl hs hc) ?_ ?_
  .simp [h0,h1,h3]
  simp;exact A5 [] (by simp;exact Aw hi)
 exact Bl
def CU (n:Nat) (q:Int->Bool):List Int:=((List.range n).map λ (i:Nat)=>(i:Int)).filter q
theorem Pj (n:Nat) (q:Int->Bool):CU (n+1) q=CU n q++if q n=true then [(n:Int)] else []:=by
 unfold CU;rw[Uk,QT,Ug]
 congr 1
 cases hq:q n<;>simp[hq]
theorem Ig (n:Nat) (q:Int->Bool):(CU n q).length<=n:=by
 unfold CU;have:=QU q ((List.range n).map λ (i:Nat)=>(i:Int))
 simpa using this
theorem KK (f:FuncId) (aA:List AV) (q:Int->Bool) (N:Int) (hN:N<=1000000) (hs:G1 aA) (hc:∀ k:Nat,(k:Int)<N->AcP f (AV.I k::aA) [] (.B (q k)) []) :
  AcP 41 [.I N,.fn (.func f) [] aA] [] (.rs 0 0 (CU N.toNat q).length) [some ⟨1,AD (CU N.toNat q),0⟩]:=by
 have h0:∀ ρ sn h,aA.map (conv ρ sn h 2)=aA:=λ _ _ _=>hs _ _ _ 1
 have h1:∀ ρ sn h,aA.map (conv ρ sn h 3)=aA:=λ _ _ _=>hs _ _ _ 2
 have h2:∀ ρ sn h,aA.map (conv ρ sn h 4)=aA:=λ _ _ _=>hs _ _ _ 3
 refine Wv.s.ai ?_;refine AC (AX ?_);refine AC (AX ?_);refine AC (AC (AX ?_));refine AL ?_
 let C:Nat->St:=λ k=>⟨20,[(1,.fn (.func f) [] aA),(5,.rs 16 0 (CU k q).length),(7,.I N),(8,.I k)],[(16,some ⟨1,AD (CU k q),0⟩)],24⟩
 refine Ae C (λ k=>k<=N.toNat) (λ k=>N.toNat - k) 0 (Qh _) (Le.lst [] [] [(16,1)] rfl (by simp) (by simp) (by simp) (by simp[C]) (by simp) (by simp) (by simp) (by simp[C,Up,CU,h0,h1,h2]) (by simp[C,CU])) ?_
 intro k hk;have h9:=Ig k q;have h4:C k=⟨20,[(1,.fn (.func f) [] aA),(5,.rs 16 0 (CU k q).length),(7,.I N),(8,.I k)],[(16,some ⟨1,AD (CU k q),0⟩)],24⟩:=rfl;rw[h4];apply ak [1,5,7,8,9] [16] 32
 .simp
  rfl
 refine AC (AE _ rfl (λ h=>AJ ?_) λ h=>Aa (hit ?_))
 .simp only[Qd] at h
  have h6:=hc k h;have h3:=Pj k q;have h7:=wq (k:=k);refine Ao ⟨20,[(1,.fn (.func f) [] aA),(5,.rs 16 0 (CU (k+1) q).length),(7,.I N),(8,.I k)],[(16,some ⟨1,AD (CU (k+1) q),0⟩)],24⟩ ?_ ?_
  .rw [h3]
   generalize CU k q=W at *;refine AL (AC (AX ?_));apply ak [1,5,6,7,8,13] [16] 72
   .simp
    refine Aq h6 ?_ ?_
    .simp [h0,h1,h2]
    simp;rfl
   refine AE _ rfl (λ h5=>?_) λ h5=>AJ ?_
   .rw [if_pos h5]
    refine Ac rfl ?_;simp[List.replicate];refine⟨by omega,by omega,Gh (i:=96) (sn:=[]) rfl rfl (by simp) (by simp) rfl (by simp[AB,Cz]) (by simp) (by simp[h0,h1,h2])⟩
   .rw [if_neg (by simp[h5]),QW]
    exact Gh (i:=16) (sn:=[]) rfl rfl (by simp) (by simp) rfl (by simp[AB]) (by simp) (by simp[h0,h1,h2])
  refine Ac rfl ?_;simp[h7];exact⟨k+1,by omega,by omega,Gh (i:=16) (sn:=[]) rfl rfl (by simp[C]) (by simp) rfl (by simp[AB]) (by simp) (by simp[C,h0,h1,h2])⟩
 simp only[Qa] at h;obtain rfl:k=N.toNat:=by omega
 generalize CU N.toNat q=W at *;refine AC (AX ?_);exact B7 [16] []
end Go.Proofs.YtkngdgplbojdlaaGreat
