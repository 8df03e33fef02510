/- Texts of this claim,merged. -/
import Derived.Test.YtklclphfcibagaaGreatRb2
import Derived.Test.YtklclphfcibagaaGreatRows
import Derived.Test.YtklclphfcibagaaGreatProg
import Derived.KernelRfl
import Derived.Shelf.Sort.Plain
import Derived.Shelf.SlIterI.Collect
import Derived.RangeFuncLeaves
import Derived.Shelf.Slices.In.SortNone
set_option linter.unusedSimpArgs false
set_option linter.unusedVariables false
set_option linter.unusedSectionVars false
set_option maxRecDepth 100000
set_option maxHeartbeats 8000000
noncomputable section
namespace Go.Proofs.YtklclphfcibagaaGreat
open Go
variable {P:Program} {np:Nat} {α:Type}
theorem aO:∀ (ops:List Ca) (n i:Nat) (st:St) (tr:List (List Nat × List Nat)) (K:α->St->List (List Nat × List Nat)->Prop),B8 P np n i ops st tr (λ s t=>∃ x,K x s t) -> ∃ x,B8 P np n i ops st tr (K x):=by
 intro ops
 induction ops with
 | nil=>intro n i st tr K h;exact h
 | cons o os ih =>
   intro n i st tr K h
   have u:∀ (op:FY) (xs:List AV) (h:Nat->Option AX) (F:AV->List Nat->List (Nat × Option AX)->(St->List (List Nat × List Nat)->Prop)->Prop),
     (∀ v rd up,F v rd up (λ s t=>∃ x,K x s t) -> ∃ x,F v rd up (K x))->aK P np (n+8*i) op xs h (λ v rd up=>F v rd up (λ s t=>∃ x,K x s t)) -> ∃ x,aK P np (n+8*i) op xs h (λ v rd up=>F v rd up (K x)):=by
    intro op xs h F hF hk;obtain⟨v,rd,up,h1,h2⟩:=Nn hk;obtain⟨x,hx⟩:=hF v rd up h1;refine⟨x,S6 (λ a b c e=>?_) h2⟩;obtain⟨rfl,rfl,rfl⟩:=e;exact hx
   unfold B8 at h ⊢
   cases hg:o.guard with
   | none =>
     simp only[hg] at h ⊢;exact u _ _ _ (λ v rd up K'=>B8 P np n (i+1) os ((st.put o.dst v).upd up) (tr++[(rd,up.map (·.1))]) K') (λ v rd up=>ih _ _ _ _ _) h
   | some gw =>
     obtain⟨g,want⟩:=gw;simp only[hg] at h ⊢;obtain⟨b,hb,h⟩:=h
     by_cases q:b=some want
     .rw [if_pos q] at h
      obtain⟨x,hx⟩:=u _ _ _ (λ v rd up K'=>B8 P np n (i+1) os ((st.put o.dst v).upd up) (tr++[(rd,up.map (·.1))]) K') (λ v rd up=>ih _ _ _ _ _) h
      exact⟨x,b,hb,by rw[if_pos q];exact hx⟩
     .rw [if_neg q] at h
      obtain⟨x,hx⟩:=ih _ _ _ _ _ h;exact⟨x,b,hb,by rw[if_neg q];exact hx⟩
theorem Le.trans' {a b c:St} (h1:Le np a b) (h2:Le np b c):Le np a c:=by
 intro T0 M0 w0 T M ac w ok hn;obtain⟨T',M',ok',q⟩:=h1 T0 M0 w0 T M ac w ok hn;exact h2 T0 M0 w0 T' M' ac w ok' q
theorem j8:∀ {c:C5} {α:Type} {Q:α->Fl->St->Prop} {st:St},AQ P np c (λ e s=>∃ x,Q x e s) st -> ∃ x,AQ P np c (Q x) st:=by
 intro c
 induction c with
 | skip=>intro α Q st h;exact h
 | reg draw ops after =>
   intro α Q st hw
   obtain⟨x,hx⟩:=aO ops st.n 0 st [] (λ x st' tr=>(draw=true->Gp ops after tr=true)/\Q x .normal { st' with n:=st.n+8*ops.length })
    (E7 _ _ _ _ _ _ _ (λ s t h=>by obtain⟨h1,x,h2⟩:=h;exact⟨x,h1,h2⟩) hw.2)
   exact⟨x,hw.1,hx⟩
 | seq a b iha ihb =>
   intro α Q st hw;refine iha (Gm (λ e s hs=>?_) hw)
   cases e with
   | normal =>
     obtain⟨st2,u,h2⟩:=hs;obtain⟨x,hx⟩:=ihb h2;exact⟨x,st2,u,hx⟩
   | exit id=>exact hs
   | ret=>exact hs
 | cond c a b iha ihb =>
   intro α Q st hw;obtain⟨t,ht,hw⟩:=hw
   cases t
   .obtain ⟨x,hx⟩:=ihb hw
    exact⟨x,false,ht,hx⟩
   .obtain ⟨x,hx⟩:=iha hw
    exact⟨x,true,ht,hx⟩
 | block id a iha =>
   intro α Q st hw;refine iha (Gm (λ e s hs=>?_) hw)
   cases e with
   | normal=>exact hs
   | exit id' =>
     simp only at hs ⊢
     by_cases hi:id'=id
     .simp only[if_pos hi] at hs ⊢;exact hs
     .simp only[if_neg hi] at hs ⊢;exact hs
   | ret=>exact hs
 | loop a iha =>
   intro α Q st hw;obtain⟨I,⟨st0,k0,u,hI⟩,hb⟩:=hw
   have key:∀ k s,I k s -> ∃ x,AQ P np (.loop a) (Q x) s:=by
    intro k
    induction k using Nat.strongRecOn with
    | ind k ihk =>
      intro s hs
      have h0:AQ P np a (λ e s'=>∃ y:{ y:α × Nat × (Nat->St->Prop) // ∀ k' s',y.2.2 k' s'->AQ P np a (λ e st'=>match e with | .normal=>∃ st2 k2,Le np st' st2/\y.2.2 k2 st2/\k2<k' | e=>Q y.1 e st') s' },
        match e with | .normal=>∃ st2,Le np s' st2/\y.1.2.2 y.1.2.1 st2 | e=>Q y.1.1 e s') s:=by
       refine Gm (λ e s' h=>?_) (hb k s hs)
       cases e with
       | normal =>
         obtain⟨st2,k2,h1,h2,h3⟩:=h;obtain⟨x,J,⟨st3,k3,h4,h5⟩,h6⟩:=ihk k2 h3 st2 h2;exact⟨⟨(x,k3,J),h6⟩,st3,Le.trans' h1 h4,h5⟩
       | exit id=>obtain⟨x,h⟩:=h;exact⟨⟨(x,0,λ _ _=>False),λ _ _ h=>h.elim⟩,h⟩
       | ret=>obtain⟨x,h⟩:=h;exact⟨⟨(x,0,λ _ _=>False),λ _ _ h=>h.elim⟩,h⟩
      obtain⟨⟨⟨x,q,J⟩,hJ⟩,hy⟩:=iha h0;simp only at hJ hy;refine⟨x,λ k' s'=>J k' s'∨(k'=q+1/\s'=s),⟨s,q+1,Le.refl _ _,.inr ⟨rfl,rfl⟩⟩,?_⟩
      rintro k' s' (h | ⟨rfl,rfl⟩)
      .refine Gm (λ e s2 h2=>?_) (hJ k' s' h)
       cases e with
       | normal=>obtain⟨st2,k2,h1,h2,h3⟩:=h2;exact⟨st2,k2,h1,.inl h2,h3⟩
       | exit id=>exact h2
       | ret=>exact h2
      .refine Gm (λ e s2 h2=>?_) hy
       cases e with
       | normal=>obtain⟨st2,h1,h2⟩:=h2;exact⟨st2,q,h1,.inl h2,Nat.lt_succ_self q⟩
       | exit id=>exact h2
       | ret=>exact h2
   obtain⟨x,hx⟩:=key k0 st0 hI;obtain⟨J,⟨s3,k3,h4,h5⟩,h6⟩:=hx;exact⟨x,J,⟨s3,k3,Le.trans' u h4,h5⟩,h6⟩
 | exit id=>intro α Q st h;exact h
 | ret=>intro α Q st h;exact h
 | bad=>intro α Q st h;exact h.elim
def Af {α:Type} (rs:List (Nat × Option (Bool × Nat))) (np:Nat) (F:α->AV) (H:α->List (Option AX)) (R:α->Prop) (e:Fl) (st:St):Prop:=(e = .normal∨e = .ret) /\ ∃ x,R x/\AG rs np st (F x) (H x)
theorem Af.mk {rs:List (Nat × Option (Bool × Nat))} {F:α->AV} {H:α->List (Option AX)} {R:α->Prop} {e:Fl} {st:St} (he:e = .normal∨e = .ret) (x:α) (hx:R x) (h:AG rs np st (F x) (H x)):Af rs np F H R e st:=⟨he,x,hx,h⟩
theorem Src.acallsX {f:FuncId} {af:DI} (s:Src P f af) (F:α->AV) (H:α->List (Option AX)) (R:α->Prop) {args:List AV} {hs:List AX} (h0:args.length<=af.nt) (q:hs.length<=16) (u:∀ x,hs.length<=(H x).length) (h:AQ P hs.length af.code (Af af.res hs.length F H R) (GL af args hs)):∃ x,R x/\Cq P f args hs (F x) (H x):=by
 obtain⟨⟨x,hx⟩,hw⟩:=j8 (α:={ x:α // R x }) (Q:=λ x e st=>(e = .normal∨e = .ret)/\AG af.res hs.length st (F x.1) (H x.1)) (Gm (λ e st h=>by
  obtain⟨h1,x,h2,h3⟩:=h
  exact⟨⟨x,h2⟩,h1,h3⟩) h)
 exact⟨x,hx,s.acalls h0 q (u x) hw⟩
variable {P:Program} {Q:Fl->St->Prop} {af:List (List Nat)} {h:List (Nat × Option AX)} {n np sz:Nat} {ops:List Ca} {s st st':St} {t:List (Nat × AV)}
def F1 (l:List Nat):List (Nat × Nat):=l.map λ i=>(i,i)
def Gw (live keep sn:List Nat) (n:Nat) (st:St):St :=
 ⟨st.sz,live.map (λ i=>(i,conv (F1 keep) sn st.hp 4 (st.get i))),keep.map (λ i=>(i,(st.hp i).map (Ak (F1 keep) sn st.hp 4))),n⟩
def EY (keep:List Nat) (st:St):Prop:=∀ i∈keep,∀ e,st.hp i=some e->e.ro<=e.rows.length
def Ew (np n:Nat) (ρ:List (Nat × Nat)) (sn:List Nat):Bool :=
 decide (ρ.map (·.1)).Nodup && decide (ρ.map (·.2)).Nodup && ρ.all (λ p=>decide (p.2<n) && (decide (np<=p.2) || p.1 == p.2)) && sn.all (λ i=>decide (np<=i) && !(ρ.map (·.1)).contains i) && decide (np<=n)
theorem Le.go (ρ:List (Nat × Nat)) (sn:List Nat) (h6:st'.sz=st.sz) (u:Ew np st'.n ρ sn=true) (ht:∀ p∈st'.t,Wk (conv ρ sn st.hp 4 (st.get p.1)) p.2) (hh:∀ p∈st'.h,∃ q∈ρ,q.2=p.1/\(st.hp q.1).map (Ak ρ sn st.hp 4)=p.2 /\ ∀ e,p.2=some e->e.ro<=e.rows.length):Le np st st':=by
 simp only[Ew,QW,UL,Qb,UU,beq_iff_eq,U0,List.contains_eq_mem,Qd] at u;obtain⟨⟨⟨⟨h1,h2⟩,h3⟩,h4⟩,h5⟩:=u;refine Le.lst ρ sn [] h6 h1 h2 (λ p hp=>⟨(h3 p hp).1,λ h8=>?_⟩) zz (λ i hi=>h4 i hi) h5 zz (λ p hp=>.inl (ht p hp)) λ p hp e' h0=>?_
 .rcases (h3 p hp).2 with h | h
  .omega
  .exact h
 .obtain ⟨q,hq,hq2,hm,hr⟩:=hh p hp
  rw[h0] at hm
  cases hs:st.hp q.1 with
  | none=>rw[hs] at hm;cases hm
  | some e =>
    rw[hs] at hm;have h7:Ak ρ sn st.hp 4 e=e':=by simpa using hm
    exact .inl ⟨q,hq,hq2,e,hs,by rw[h7];exact Av.rfl' (hr e' h0)⟩
theorem BT (ρ:List (Nat × Nat)) (sn:List Nat) (h0:st'.sz=st.sz:=by rfl) (u:Ew np st'.n ρ sn=true:=by rfl) (ht:∀ p∈st'.t,Wk (conv ρ sn st.hp 4 (st.get p.1)) p.2:=by simp) (hh:∀ p∈st'.h,∃ q∈ρ,q.2=p.1/\(st.hp q.1).map (Ak ρ sn st.hp 4)=p.2 /\ ∀ e,p.2=some e->e.ro<=e.rows.length:=by simp):Le np st st':=Le.go ρ sn h0 u ht hh
theorem B4 (ρ:List (Nat × Nat)) (sn:List Nat) (h0:st'.sz=st.sz:=by rfl) (u:Ew np st'.n ρ sn=true:=by rfl) (ht:∀ p∈st'.t,Wk (conv ρ sn st.hp 4 (st.get p.1)) p.2:=by simp) (hh:∀ p∈st'.h,∃ q∈ρ,q.2=p.1/\(st.hp q.1).map (Ak ρ sn st.hp 4)=p.2 /\ ∀ e,p.2=some e->e.ro<=e.rows.length:=by simp[AB]):Le np st st':=Le.go ρ sn h0 u ht hh
theorem AY (ρ:List (Nat × Nat)) (sn:List Nat) (h0:st'.sz=st.sz:=by rfl) (u:Ew np st'.n ρ sn=true:=by rfl) (ht:∀ p∈st'.t,Wk (conv ρ sn st.hp 4 (st.get p.1)) p.2:=by simp[AB]) (hh:∀ p∈st'.h,∃ q∈ρ,q.2=p.1/\(st.hp q.1).map (Ak ρ sn st.hp 4)=p.2 /\ ∀ e,p.2=some e->e.ro<=e.rows.length:=by simp[AB]):Le np st st':=Le.go ρ sn h0 u ht hh
theorem AN (ρ:List (Nat × Nat)) (sn:List Nat) (ht:∀ p∈st'.t,Wk (conv ρ sn st.hp 4 (st.get p.1)) p.2) (hh:∀ p∈st'.h,∃ q∈ρ,q.2=p.1/\(st.hp q.1).map (Ak ρ sn st.hp 4)=p.2 /\ ∀ e,p.2=some e->e.ro<=e.rows.length:=by simp) (h0:st'.sz=st.sz:=by rfl) (u:Ew np st'.n ρ sn=true:=by rfl):Le np st st':=Le.go ρ sn h0 u ht hh
def LP (np:Nat) (ρ:List (Nat × Nat)) (sn:List Nat) (st st':St):Prop:=Le np st st'
theorem LP.i {ρ:List (Nat × Nat)} {sn:List Nat} (h0:st'.sz=st.sz:=by rfl) (u:Ew np st'.n ρ sn=true:=by rfl) (ht:∀ p∈st'.t,Wk (conv ρ sn st.hp 4 (st.get p.1)) p.2:=by first | simp;done | simp[AB]) (hh:∀ p∈st'.h,∃ q∈ρ,q.2=p.1/\(st.hp q.1).map (Ak ρ sn st.hp 4)=p.2 /\ ∀ e,p.2=some e->e.ro<=e.rows.length:=by first | simp;done | simp[AB]):LP np ρ sn st st':=Le.go ρ sn h0 u ht hh
theorem BP {b:C5} (s:St) (ρ:List (Nat × Nat)) (sn:List Nat) (hq:AQ P np b Q s) (ho:B8 P np n 0 ops ⟨sz,t,h,n⟩ [] (λ st' _=>LP np ρ sn ⟨st'.sz,st'.t,st'.h,n+8*ops.length⟩ s):=by simp;exact LP.i) (hd:(ops.all λ o=>o.dst.all (· < sz))=true:=by rfl):AQ P np (.seq (.reg false ops af) b) Q ⟨sz,t,h,n⟩:=BE s hd ho hq
theorem Le.cut (live keep sn:List Nat) (n:Nat) (q:Ew np n (F1 keep) sn=true) (hr:EY keep st):Le np st (Gw live keep sn n st):=by
 refine Le.go (F1 keep) sn rfl q (λ p hp=>?_) λ p hp=>?_
 .obtain ⟨i,_,rfl⟩:=Qm.1 hp
  exact .refl _
 .obtain ⟨i,hi,rfl⟩:=Qm.1 hp
  refine⟨(i,i),Qm.2 ⟨i,hi,rfl⟩,rfl,rfl,λ e he=>?_⟩;simp only at he
  cases hs:st.hp i with
  | none=>rw[hs] at he;cases he
  | some e0 =>
    rw[hs] at he;have u:Ak (F1 keep) sn st.hp 4 e0=e:=by simpa using he
    subst u;have:=hr i hi e0 hs
    simpa [Ak] using this
theorem rx {b:C5} (live keep sn:List Nat) (hd:((ops.all λ o=>o.dst.all (· < sz)) && Ew np (n+8*ops.length) (F1 keep) sn)=true) (ho:B8 P np n 0 ops ⟨sz,t,h,n⟩ [] λ st' _=>EY keep st'/\Gw live keep sn (n+8*ops.length) st'=s) (hq:AQ P np b Q s):AQ P np (.seq (.reg false ops af) b) Q ⟨sz,t,h,n⟩:=by
 rw[QW] at hd;refine BE s hd.1 (E7 _ _ _ _ _ _ _ (λ st' _ hc=>?_) ho) hq;obtain⟨h1,rfl⟩:=hc;exact Le.cut (st:=⟨st'.sz,st'.t,st'.h,n+8*ops.length⟩) live keep sn _ hd.2 h1
theorem rs {b:C5} (live keep sn:List Nat) (hq:AQ P np b Q s) (hd:((ops.all λ o=>o.dst.all (· < sz)) && Ew np (n+8*ops.length) (F1 keep) sn)=true:=by rfl) (ho:B8 P np n 0 ops ⟨sz,t,h,n⟩ [] (λ st' _=>EY keep st'/\Gw live keep sn (n+8*ops.length) st'=s):=by simp;rfl):AQ P np (.seq (.reg false ops af) b) Q ⟨sz,t,h,n⟩:=rx live keep sn hd ho hq
theorem NW {b:C5} (live keep sn:List Nat) (hd:((ops.all λ o=>o.dst.all (· < sz)) && Ew np (n+8*ops.length) (F1 keep) sn)=true) (ho:B8 P np n 0 ops ⟨sz,t,h,n⟩ [] λ st' tr=>Ir ops af tr/\EY keep st'/\Gw live keep sn (n+8*ops.length) st'=s) (hq:AQ P np b Q s):AQ P np (.seq (.reg true ops af) b) Q ⟨sz,t,h,n⟩:=by
 rw[QW] at hd;refine H9 s hd.1 (E7 _ _ _ _ _ _ _ (λ st' _ hc=>?_) ho) hq;obtain⟨h0,h1,rfl⟩:=hc;exact⟨h0,Le.cut (st:=⟨st'.sz,st'.t,st'.h,n+8*ops.length⟩) live keep sn _ hd.2 h1⟩
def Gx (live keep:List Nat) (n:Nat) (st:St):St:=⟨st.sz,live.map (λ i=>(i,st.get i)),keep.map (λ i=>(i,st.hp i)),n⟩
theorem Le.cutk (live keep:List Nat) (n:Nat) (hn:st.n<=n):Le np st (Gx live keep n st) :=
 Le.keep rfl hn (λ p hp=>by obtain⟨i,_,rfl⟩:=Qm.1 hp;rfl) λ p hp e he=>by
  obtain⟨i,_,rfl⟩:=Qm.1 hp;exact he
theorem rk {b:C5} (live keep:List Nat) (hd:(ops.all λ o=>o.dst.all (· < sz))=true) (ho:B8 P np n 0 ops ⟨sz,t,h,n⟩ [] λ st' _=>Gx live keep (n+8*ops.length) st'=s) (hq:AQ P np b Q s):AQ P np (.seq (.reg false ops af) b) Q ⟨sz,t,h,n⟩:=by
 refine BE s hd (E7 _ _ _ _ _ _ _ (λ st' _ hc=>?_) ho) hq;subst hc;exact Le.cutk (st:=⟨st'.sz,st'.t,st'.h,n+8*ops.length⟩) live keep _ (Qg _)
@[simp] theorem mW:F1 []=[]:=(rfl)
@[simp] theorem pX {i:Nat} {l:List Nat}:F1 (i::l)=(i,i)::F1 l:=(rfl)
@[simp] theorem nT:EY [] st=True:=by simp[EY]
@[simp] theorem mH {i:Nat} {l:List Nat}:EY (i::l) st=((∀ e,st.hp i=some e->e.ro<=e.rows.length)/\EY l st):=by simp[EY]
@[simp] theorem lU {live keep sn:List Nat} {m:Nat}:Gw live keep sn n ⟨sz,t,h,m⟩=⟨sz,live.map (λ i=>(i,conv (F1 keep) sn (St.mk sz t h m).hp 4 ((St.mk sz t h m).get i))),keep.map (λ i=>(i,((St.mk sz t h m).hp i).map (Ak (F1 keep) sn (St.mk sz t h m).hp 4))),n⟩:=(rfl)
@[simp] theorem lI {live keep:List Nat} {m:Nat}:Gx live keep n ⟨sz,t,h,m⟩=⟨sz,live.map (λ i=>(i,(St.mk sz t h m).get i)),keep.map (λ i=>(i,(St.mk sz t h m).hp i)),n⟩:=(rfl)
variable {P:Program} {Q:Fl->St->Prop} {af:List (List Nat)} {h:List (Nat × Option AX)} {n np sz:Nat} {ops:List Ca} {s st:St} {t:List (Nat × AV)}
def FR (live:List Nat) (ρ:List (Nat × Nat)) (sn:List Nat) (n:Nat) (st:St):St :=
 ⟨st.sz,live.map (λ i=>(i,conv ρ sn st.hp 4 (st.get i))),ρ.map (λ p=>(p.2,(st.hp p.1).map (Ak ρ sn st.hp 4))),n⟩
def Gt (ρ:List (Nat × Nat)) (st:St):Prop:=∀ p∈ρ,∀ e,st.hp p.1=some e->e.ro<=e.rows.length
theorem Le.cutr (live:List Nat) (ρ:List (Nat × Nat)) (sn:List Nat) (n:Nat) (u:Ew np n ρ sn=true) (hr:Gt ρ st):Le np st (FR live ρ sn n st):=by
 refine Le.go ρ sn rfl u (λ p hp=>?_) λ p hp=>?_
 .obtain ⟨i,_,rfl⟩:=Qm.1 hp
  exact .refl _
 .obtain ⟨q,hq,rfl⟩:=Qm.1 hp
  refine⟨q,hq,rfl,rfl,λ e he=>?_⟩;simp only at he
  cases hs:st.hp q.1 with
  | none=>rw[hs] at he;cases he
  | some e0 =>
    rw[hs] at he;have h0:Ak ρ sn st.hp 4 e0=e:=by simpa using he
    subst h0;have:=hr q hq e0 hs
    simpa [Ak] using this
theorem ax {b:C5} (live:List Nat) (ρ:List (Nat × Nat)) (sn:List Nat) (m:Nat) (ho:B8 P np n 0 ops ⟨sz,t,h,n⟩ [] λ st' _=>Gt ρ st'/\FR live ρ sn m st'=s) (hq:AQ P np b Q s) (hd:((ops.all λ o=>o.dst.all (· < sz)) && Ew np m ρ sn)=true:=by rfl):AQ P np (.seq (.reg false ops af) b) Q ⟨sz,t,h,n⟩:=by
 rw[QW] at hd;refine BE s hd.1 (E7 _ _ _ _ _ _ _ (λ st' _ hc=>?_) ho) hq;obtain⟨h1,rfl⟩:=hc;exact Le.cutr (st:=⟨st'.sz,st'.t,st'.h,n+8*ops.length⟩) live ρ sn m hd.2 h1
theorem ay {b:C5} (live:List Nat) (ρ:List (Nat × Nat)) (sn:List Nat) (m:Nat) (ho:B8 P np n 0 ops ⟨sz,t,h,n⟩ [] λ st' tr=>Ir ops af tr/\Gt ρ st'/\FR live ρ sn m st'=s) (hq:AQ P np b Q s) (hd:((ops.all λ o=>o.dst.all (· < sz)) && Ew np m ρ sn)=true:=by rfl):AQ P np (.seq (.reg true ops af) b) Q ⟨sz,t,h,n⟩:=by
 rw[QW] at hd;refine H9 s hd.1 (E7 _ _ _ _ _ _ _ (λ st' _ hc=>?_) ho) hq;obtain⟨h0,h1,rfl⟩:=hc;exact⟨h0,Le.cutr (st:=⟨st'.sz,st'.t,st'.h,n+8*ops.length⟩) live ρ sn m hd.2 h1⟩
@[simp] theorem qK:Gt [] st=True:=by simp[Gt]
@[simp] theorem lL {i j:Nat} {l:List (Nat × Nat)}:Gt ((i,j)::l) st=((∀ e,st.hp i=some e->e.ro<=e.rows.length)/\Gt l st):=by simp[Gt]
@[simp] theorem pA {live:List Nat} {ρ:List (Nat × Nat)} {sn:List Nat} {m:Nat}:FR live ρ sn n ⟨sz,t,h,m⟩=⟨sz,live.map (λ i=>(i,conv ρ sn (St.mk sz t h m).hp 4 ((St.mk sz t h m).get i))),ρ.map (λ p=>(p.2,((St.mk sz t h m).hp p.1).map (Ak ρ sn (St.mk sz t h m).hp 4))),n⟩:=(rfl)
theorem ar {b:C5} (live:List Nat) (ρ:List (Nat × Nat)) (sn:List Nat) (m:Nat) (hq:AQ P np b Q s) (hd:((ops.all λ o=>o.dst.all (· < sz)) && Ew np m ρ sn)=true:=by rfl) (ho:B8 P np n 0 ops ⟨sz,t,h,n⟩ [] λ st' _=>Gt ρ st'/\FR live ρ sn m st'=s:=by simp[AB];rfl):AQ P np (.seq (.reg false ops af) b) Q ⟨sz,t,h,n⟩:=ax live ρ sn m ho hq hd
theorem ak {b:C5} (live keep:List Nat) (m:Nat) (ho:B8 P np n 0 ops ⟨sz,t,h,n⟩ [] λ st' _=>Gx live keep m st'=s) (hq:AQ P np b Q s) (hd:((ops.all λ o=>o.dst.all (· < sz)) && decide (n+8*ops.length<=m))=true:=by rfl):AQ P np (.seq (.reg false ops af) b) Q ⟨sz,t,h,n⟩:=by
 rw[QW,Qb] at hd;refine BE s hd.1 (E7 _ _ _ _ _ _ _ (λ st' _ hc=>?_) ho) hq;subst hc;exact Le.cutk (st:=⟨st'.sz,st'.t,st'.h,n+8*ops.length⟩) live keep m hd.2
theorem al {b:C5} (live keep:List Nat) (m:Nat) (ho:B8 P np n 0 ops ⟨sz,t,h,n⟩ [] λ st' tr=>Ir ops af tr/\Gx live keep m st'=s) (hq:AQ P np b Q s) (hd:((ops.all λ o=>o.dst.all (· < sz)) && decide (n+8*ops.length<=m))=true:=by rfl):AQ P np (.seq (.reg true ops af) b) Q ⟨sz,t,h,n⟩:=by
 rw[QW,Qb] at hd;refine H9 s hd.1 (E7 _ _ _ _ _ _ _ (λ st' _ hc=>?_) ho) hq;obtain⟨h0,rfl⟩:=hc;exact⟨h0,Le.cutk (st:=⟨st'.sz,st'.t,st'.h,n+8*ops.length⟩) live keep m hd.2⟩
theorem Src.ai {f:FuncId} {af:DI} (s:Src P f af) {args:List AV} {hs:List AX} {res:AV} {hs':List (Option AX)} {z k:Nat} (hk:AQ P k af.code (λ e st=>(e = .normal∨e = .ret)/\AG af.res k st res hs') ⟨z,t,h,16⟩) (hz:af.nt=z:=by conv=>lhs;reduce) (hi:args.zipIdx.map (λ (a,i)=>(i,a))=t/\hs.zipIdx.map (λ (e,k)=>(k,some e))=h/\hs.length=k:=by simp;exact⟨rfl,rfl,rfl⟩) (h0:args.length<=af.nt:=by exact AW rfl) (u:hs.length<=16:=by exact AW rfl) (q:hs.length<=hs'.length:=by simp):Cq P f args hs res hs':=by
 obtain⟨h1,h2,h3⟩:=hi;subst h1 h2 h3 hz;exact s.acalls h0 u q hk
abbrev AA (l:List Int):AV:=.vs 1 false (l.map λ n=>[AV.I n])
theorem Mn (l:List Int) (n:Int) (hl:l.length<=140737488355328):AK 95 [AA l,.I n] [] (.B (l.contains n)) []:=by
 refine Yf.s.ai ?_;refine AC (BA (s:=?s1) rfl ?o1 ?q1)
 case o1=>simp;rfl
 refine AC (AC (BA (s:=?s2) rfl ?o2 ?q2))
 case o2=>simp;rfl
 refine AI (Ag (ι:=Nat) (λ k=>{ sz:=18,t:=[(0,AA l),(1,.I n),(5,.I k)],h:=[],n:=16 }) (λ k=>k<=l.length/\n∉l.take k) (λ k=>l.length - k) 0 zz ?_ ?_)
 .refine Le.slots rfl rfl ?_
  simp[AA]
 .rintro k ⟨hk,hn⟩
  refine AC (AC (BA (s:=?s3) rfl ?o3 ?q3))
  case o3=>simp;rfl
  refine AD _ rfl ?_ ?_
  .intro q
   simp only[Qb] at q;show AQ _ _ _ _ _;refine AC (AI (AC (BA (s:=?s4) rfl ?o4 ?q4)))
   case o4=>simp[q];rfl
   refine AD _ rfl ?_ ?_
   .intro heq
    refine AC (BA (s:=?s5) rfl ?o5 ?q5)
    case o5=>simp;rfl
    refine⟨.inr rfl,AG.one ?_⟩;have:n∈l:=by simp at heq;simp[<- heq]
    simp[this]
   .intro u
    refine AE (BA (s:=?s6) rfl ?o6 ?q6)
    case o6=>simp;rfl
    refine⟨k+1,⟨zy,?_⟩,zy,Le.slots rfl rfl ?_⟩
    .intro hm
     simp at u;rw[Ql q] at hm;rcases Qn.1 hm with h | h
     .exact hn h
     .exact u (Qw.1 h).symm
    .have hw:IntKind.i64.wrap ((k:Int)+1)=((k+1:Nat):Int):=w6
     simp[Wk.refl,hw]
  .intro hge
   refine Aa (Ab ?_);refine AC (BA (s:=?s7) rfl ?o7 ?q7)
   case o7=>simp;rfl
   refine AO ⟨.inr rfl,AG.one ?_⟩;simp at hge
   have:n∉l:=by
    have:l.take k=l:=Qc hge;rw[this] at hn;exact hn
   simp[this]
theorem Tf (x:Int):AK 269 [.I x] [] (.B false) []:=by
 refine Y6.s.ai ?_;refine AC (BA (s:=?s1) rfl ?o1 ?q1)
 case o1=>simp;rfl
 refine AC (BA (s:=?s2) rfl ?o2 ?q2)
 case o2=>simp;rfl
 exact Bv
theorem Ge (n lo hi:Int):AK 84 [.I n,.I lo,.I hi] [] (.B (decide (lo<=n) && decide (n<=hi))) []:=by
 refine jW.s.ai ?_;refine AC (BA (s:=?s1) rfl ?o1 ?q1)
 case o1=>simp;rfl
 by_cases h:lo<=n
 .refine AC (BA (s:=?s2) rfl ?o2 ?q2)
  case o2=>simp[h];rfl
  exact BG (AG.one (by simp[h]))
 .refine AC (BA (s:=?s3) rfl ?o3 ?q3)
  case o3=>simp[h];rfl
  exact BG (AG.one (by simp[h]))
def BC (x y:Int):Int:=if x<y then -1 else if x > y then 1 else 0
theorem Jd (x y:Int):AK 199 [.I x,.I y] [] (.I (BC x y)) []:=by
 refine bV.s.ai ?_;refine AC (BA (s:=?s1) rfl ?o1 ?q1)
 case o1=>simp;rfl
 refine AC (BA (s:=?s2) rfl ?o2 ?q2)
 case o2=>simp;refine AT (Tf _) rfl ?_;simp;rfl
 refine AC (BA (s:=?s3) rfl ?o3 ?q3)
 case o3=>simp;refine AT (Tf _) rfl ?_;simp;rfl
 refine AC (AC (BA (s:=?s4) rfl ?o4 ?q4))
 case o4=>simp;rfl
 refine AD _ rfl (λ h=>by cases h) λ _=>AE ?_
 refine AC (AC (BA (s:=?s5) rfl ?o5 ?q5))
 case o5=>simp;rfl
 refine AD _ rfl (λ h=>by cases h) λ _=>AE ?_
 refine AC (AC (BA (s:=?s6) rfl ?o6 ?q6))
 case o6=>simp;rfl
 refine AD _ rfl (λ h=>?_) λ h1=>AE ?_
 .refine AC (BA (s:=?s7) rfl ?o7 ?q7)
  case o7=>simp;rfl
  exact BG (AG.one (by simp at h;simp[BC,h]))
 refine AC (AC (BA (s:=?s8) rfl ?o8 ?q8))
 case o8=>simp;rfl
 refine AD _ rfl (λ h=>?_) λ h2=>AE ?_
 .refine AC (BA (s:=?s9) rfl ?o9 ?q9)
  case o9=>simp;rfl
  exact BG (AG.one (by simp at h h1;simp[BC,h,Int.not_lt.2 h1]))
 refine AC (BA (s:=?s10) rfl ?o10 ?q10)
 case o10=>simp;rfl
 exact BG (AG.one (by simp at h1 h2;simp[BC,Int.not_lt.2 h1,Int.not_lt.2 h2]))
theorem Tq (l:List Int) (hl:l.length<=140737488355328):AK 198 [AA l] [] (.I ((l.find? (· != 0)).getD 0)) []:=by
 refine gK.s.ai ?_;refine AC (Ad ?_);refine AC (Ad ?_);refine AC (AC (Ad ?_));refine AI (Ag (ι:=Nat) (λ k=>⟨18,[(3,.I 0),(6,AA l),(7,.I l.length),(8,.I k)],[],16⟩) (λ k=>k<=l.length/\l.find? (· != 0)=(l.drop k).find? (· != 0)) (λ k=>l.length - k) 0 ?_ (Le.slots rfl rfl ?_) ?_)
 .simp
 .simp
 rintro k ⟨hk,hf⟩
 refine AC (Ad ?_);refine AC (AD _ rfl (λ h5=>?_) λ h5=>?_)
 .simp at h5
  rw[QX h5,U8] at hf;refine AE (AC (AI (AC (BA (s:=?s6) rfl ?o6 ?q6))))
  case o6=>simp[h5];rfl
  refine AC (Ad ?_);refine AD _ rfl (λ h8=>?_) λ h8=>?_
  .refine AC (Ad ?_)
   refine AO ?_;rw[h8] at hf;exact⟨.inr rfl,AG.one (by simp[hf])⟩
  refine AE (Ad ?_);rw[h8] at hf;have hw:=w6 (x:=(k:Int)+1);refine⟨k+1,⟨h5,hf⟩,zy,Le.slots rfl rfl ?_⟩
  simp[hw]
 simp at h5;rw[Q4 h5] at hf;refine Aa (Ab (AC (Ad ?_)));exact BG (AG.one (by simp[hf]))
structure Ed where
 f:Int
 t:Int
 v:Int
 deriving DecidableEq,Inhabited
abbrev Ed.row (e:Ed):List AV:=[.I e.f,.I e.t,.I e.v]
abbrev eE (e:Ed):AV:=.agg [.I e.f,.I e.t,.I e.v]
abbrev Cr (l:List Ed):AV:=.vs 3 false (l.map λ e=>[.I e.f,.I e.t,.I e.v])
def Hq (a b:Ed):Int:=([BC a.f b.f,BC a.t b.t].find? (· != 0)).getD 0
theorem Zf (a b:Ed):AK 201 [eE a,eE b] [] (.I (Hq a b)) []:=by
 refine WU.s.ai ?_;refine AC (Ad ?_);refine AC (IC (s:=?s2) (tr:=?t2) rfl ?o2 ?r2 ?q2)
 case o2 =>
  simp;refine AT (Jd ..) rfl ?_;simp;refine AT (Jd ..) rfl ?_;simp;refine G9 [120] (Tq [BC a.f b.f,BC a.t b.t] zz) zz (.sc _) ?_;simp;constructor<;>rfl
 case r2=>rfl
 exact BG (AG.one (by simp;exact .refl _))
def Gh (l:List Int) (x:Int):Int:=if x∈l then (l.idxOf x:Int) else -1
theorem kP (l:List Int) (x:Int) (hl:l.length<=9223372036854775807):AK 175 [AA l,.I x] [] (.I (Gh l x)) []:=by
 refine kX.s.ai ?_;refine AC (Ad ?_);refine AC (AC (Ad ?_));refine AI (Ag (ι:=Nat) (λ k=>⟨19,[(0,AA l),(1,.I x),(6,AA l),(7,.I l.length),(8,.I k)],[],16⟩) (λ k=>k<=l.length/\x∉l.take k) (λ k=>l.length - k) 0 ?_ (Le.slots rfl rfl ?_) ?_)
 .simp
 .simp
 rintro k ⟨hk,hn⟩
 refine AC (Ad ?_);refine AC (AD _ rfl (λ h4=>?_) λ h4=>?_)
 .simp at h4
  refine AE (AC (AI (AC (Ad ?_))));refine AC (BA (s:=?s6) rfl ?o6 ?q6)
  case o6=>simp[h4];rfl
  refine AD _ rfl (λ h7=>?_) λ h7=>?_
  .refine AC (Ad ?_)
   refine AO ?_;have hm:x∈l:=by simp at h7;rw[h7];exact Qi h4
   have hi:l.idxOf x=k:=by
    simp at h7;have h1:l=l.take k++x::l.drop (k+1):=by rw[h7,<- QX h4,QL]
    rw[h1,List.idxOf_append,if_neg hn,List.idxOf_cons_self];simp;omega
   exact⟨.inr rfl,AG.one (by simp[Gh,hm,hi])⟩
  refine AE (Ad ?_);have hw:=w6 (x:=(k:Int)+1);refine⟨k+1,⟨h4,?_⟩,zy,Le.slots rfl rfl ?_⟩
  .intro hm
   simp at h7;rw[Ql h4] at hm;rcases Qn.1 hm with h | h
   .exact hn h
   .exact h7 (Qw.1 h)
  .simp [hw]
 simp at h4;refine Aa (Ab (AC (Ad ?_)));refine AO ?_;rw[Qc h4] at hn;exact⟨.inr rfl,AG.one (by simp[Gh,hn])⟩
theorem Y7 (l:List Int) (x:Int) (hl:l.length<=9223372036854775807):AK 118 [AA l,.I x] [] (.B (decide (x∈l))) []:=by
 refine kK.s.ai ?_;refine AC (Ad ?_);refine AC (BA (s:=?s2) rfl ?o2 ?q2)
 case o2=>simp;refine AT (kP l x hl) rfl ?_;simp;rfl
 refine AO ?_
 have:decide (0<=Gh l x)=decide (x∈l):=by
  unfold Gh
  by_cases h:x∈l
  .simp [h]
  .simp [h]
 exact⟨.inr rfl,AG.one (by simp[this])⟩
theorem Kv (l:List Int) (x:Int) (hl:l.length<=140737488355328):AK 118 [AA l,.I x] [] (.B (decide (x∈l))) [] :=
 Y7 l x zy
def Hb (l:List Int) (lo hi:Int) (i:Nat):Prop:=∀ h:i<l.length,lo<=l[i]/\l[i]<=hi/\(0<i->l[i - 1]<l[i])
def Bh (l:List Int) (lo hi:Int):Prop:=∀ i,Hb l lo hi i
open Classical in
theorem Ye (l:List Int) (lo hi:Int) (hl:l.length<=9223372036854775807):AK 141 [AA l,.I lo,.I hi] [] (.B (decide (Bh l lo hi))) []:=by
 refine Wz.s.ai ?_;refine AC (Ad ?_);refine AC (AC (Ad ?_));refine AI (Ag (ι:=Nat) (λ k=>⟨38,[(0,AA l),(1,.I lo),(2,.I hi),(9,AA l),(10,.I l.length),(11,.I k)],[],16⟩) (λ k=>k<=l.length /\ ∀ i,i<k->Hb l lo hi i) (λ k=>l.length - k) 0 ?_ (Le.slots rfl rfl ?_) ?_)
 .simp
 .simp
 rintro k ⟨hk,hp⟩
 refine AC (Ad ?_);refine AC (AD _ rfl (λ h4=>?_) λ h4=>?_)
 .simp at h4
  have hw:=w6 (x:=(k:Int)+1);refine AE (AC (AI (AC (BA (s:=?s5) rfl ?o5 ?q5))))
  case o5=>simp[h4];rfl
  refine AC ?_
  by_cases a1:l[k]<lo
  .refine BA (s:=?s21) rfl ?o21 ?q21
   case o21=>simp[a1];rfl
   refine AD _ rfl (λ _=>?_) λ h=>by cases h
   refine AC (Ad ?_);refine AO ?_;have hn:¬ Bh l lo hi:=λ h=>by have:=h k h4;omega
   exact⟨.inr rfl,AG.one (by simp[hn])⟩
  by_cases a2:hi<l[k]
  .refine BA (s:=?s22) rfl ?o22 ?q22
   case o22=>simp[a1,a2];rfl
   refine AD _ rfl (λ _=>?_) λ h=>by cases h
   refine AC (Ad ?_);refine AO ?_;have hn:¬ Bh l lo hi:=λ h=>by have:=h k h4;omega
   exact⟨.inr rfl,AG.one (by simp[hn])⟩
  by_cases a3:0<k
  .have q:IntKind.i64.wrap ((k:Int) - 1)=((k - 1:Nat):Int):=by rw[w6];omega
   have h5:k - 1<l.length:=zy
   by_cases a4:l[k]<=l[k - 1]
   .refine BA (s:=?s23) rfl ?o23 ?q23
    case o23=>simp[a1,a2,a3,a4,q,h5];rfl
    refine AD _ rfl (λ _=>?_) λ h=>by cases h
    refine AC (Ad ?_);refine AO ?_;have hn:¬ Bh l lo hi:=λ h=>by have:=h k h4;have:=this.2.2 a3;omega
    exact⟨.inr rfl,AG.one (by simp[hn])⟩
   .refine BA (s:=?s24) rfl ?o24 ?q24
    case o24=>simp[a1,a2,a3,a4,q,h5];rfl
    refine AD _ rfl (λ h=>by cases h) λ _=>AE ?_
    refine Ad ?_;refine⟨k+1,⟨h4,λ i hi=>?_⟩,zy,Le.slots rfl rfl ?_⟩
    .rcases QN.1 hi with h | rfl
     .exact hp i h
     .intro _;exact⟨zy,zy,λ _=>zy⟩
    .simp [hw]
  .refine BA (s:=?s25) rfl ?o25 ?q25
   case o25=>simp[a1,a2,a3];rfl
   refine AD _ rfl (λ h=>by cases h) λ _=>AE ?_
   refine Ad ?_;refine⟨k+1,⟨h4,λ i hi=>?_⟩,zy,Le.slots rfl rfl ?_⟩
   .rcases QN.1 hi with h | rfl
    .exact hp i h
    .intro _;exact⟨zy,zy,λ h=>absurd h a3⟩
   .simp [hw]
 simp at h4;refine Aa (Ab (AC (Ad ?_)));refine AO ?_;have hy:Bh l lo hi:=λ i hi=>hp i zy hi
 exact⟨.inr rfl,AG.one (by simp[hy])⟩
open Classical in
theorem PM (l:List Int) (lo hi:Int) (hl:l.length<=140737488355328):AK 141 [AA l,.I lo,.I hi] [] (.B (decide (Bh l lo hi))) [] :=
 Ye l lo hi zy
structure Gr where
 size:Int
 edges:List Ed
 gone:List Int
abbrev gC (g:Gr):List AV:=[.I g.size,Cr g.edges,AA g.gone]
abbrev eG (g:Gr):AV:=.agg (gC g)
abbrev eC (e:Ed):List AV:=[.I e.f,.I e.t,.I e.v]
def DX (g:Gr) (e:Ed):Prop:=0<=e.f/\e.f<=g.size - 1/\0<=e.t/\e.t<=g.size - 1/\e.f≠e.t/\e.f∉g.gone/\e.t∉g.gone
instance (g:Gr) (e:Ed):Decidable (DX g e):=by unfold DX;infer_instance
theorem jB (g:Gr) (e:Ed) (hs:0<=g.size) (hs':g.size<=64) (hl:g.gone.length<=140737488355328):AK 200 [eG g,eE e] [] (.B (decide (DX g e))) []:=by
 refine V4.s.ai ?_;apply ax [2,3,4] [] [16,24] 16
 .simp -implicitDefEqProofs
  rfl
 have hw:=w6 (x:=g.size - 1);refine arc ⟨42,[(4,.B (decide (DX g e)))],[],16⟩ ?_ ?_
 .simp [hw]
  repeat' first
   | (refine CC 84 rfl ?_;refine AT (Ge ..) rfl ?_;simp)
   | (refine CC 118 rfl ?_;refine AT (Kv _ _ hl) rfl ?_;simp)
   | (refine BK (λ hb=>?_) (λ hb=>?_)<;>(try rw[hb])<;>simp[hw])
  all_goals exact AM [] (by simp;exact An (by simp at *;grind [DX]))
 exact Bv
def Ii (g:Gr):Prop:=0<=g.size/\g.size<=64/\g.edges.length<=500/\Bh g.gone 0 (g.size - 1)
def Eu (g:Gr) (i:Nat):Prop:=∀ h:i<g.edges.length,DX g g.edges[i]/\1<=g.edges[i].v/\g.edges[i].v<=3/\(0<i->Hq g.edges[i - 1] g.edges[i]<0)
def Ah (g:Gr):Prop:=Ii g /\ ∀ i,Eu g i
open Classical in
theorem i9 (g:Gr) (hl:g.edges.length<=140737488355328) (q:g.gone.length<=140737488355328):AK 140 [eG g] [] (.I (if Ah g then 0 else 14)) []:=by
 refine aY.s.ai ?_;refine ar [1] [] [16] 16 ?_;refine AC (arc ⟨58,[(1,.pv (gC g)),(23,.B (decide (¬ Ii g)))],[],16⟩ ?_ ?_)
 .simp
  repeat' first
   | (refine CC 84 rfl ?_;refine AT (Ge ..) rfl ?_;simp)
   | (refine CC 141 rfl ?_;have hw:IntKind.i64.wrap (g.size - 1)=g.size - 1:=w6;rw[hw];refine AT (PM _ _ _ q) rfl ?_;simp)
   | (refine BK (λ hb=>?_) (λ hb=>?_)<;>(try rw[hb])<;>(try simp at hb)<;>simp[hb])
  all_goals exact AM [] (by simp;exact An (by (try simp at *);grind [Ii]))
 refine AD _ rfl (λ h1=>?_) λ h1=>?_
 .refine AC (Ad ?_)
  refine AO ?_;simp at h1;exact⟨.inr rfl,AG.one (by simp[Ah,h1])⟩
 simp at h1;have hs:=h1.1;have u:=h1.2.1;refine AE (AC (AC (Ad ?_)));refine AI (Ag (ι:=Nat) (λ k=>⟨58,[(1,.pv (gC g)),(25,Cr g.edges),(26,.I g.edges.length),(27,.I k)],[],16⟩) (λ k=>k<=g.edges.length /\ ∀ i,i<k->Eu g i) (λ k=>g.edges.length - k) (0) ?_ (AM [] zz) ?_)
 .simp
 rintro k ⟨hk,hp⟩
 refine AC (Ad ?_);refine AC (AD _ rfl (λ h5=>?_) λ h5=>?_)
 .simp at h5
  have h0:=w6 (x:=(k:Int)+1);have h2:0<k->IntKind.i64.wrap ((k:Int) - 1)=((k - 1:Nat):Int):=λ h=>by rw[w6];omega
  have h3:k - 1<g.edges.length:=zy
  refine AE (AC (AI ?_));apply ax [1,3,4,25,26,27] [] [48] 16
  .simp [h5]
   rfl
  refine BM ⟨58,[(1,.pv (gC g)),(25,Cr g.edges),(26,.I g.edges.length),(27,.I k),(56,.B (decide (¬ Eu g k)))],[],16⟩ ?_ ?_
  .simp
   repeat' first
    | (refine CC 200 rfl ?_;refine AT (jB g _ hs u q) rfl ?_;simp)
    | (refine CC 84 rfl ?_;refine AT (Ge ..) rfl ?_;simp)
    | (refine CC 201 rfl ?_;refine AT (Zf ..) rfl ?_;simp)
    | (refine BK (λ hb=>?_) (λ hb=>?_)<;>(try rw[hb])<;>(try simp at hb)<;>simp[hb,h5,h3,h2])
   all_goals exact⟨rfl,AM [] (by simp;exact An (by (try simp at *);grind [Eu]))⟩
  refine AD _ rfl (λ h6=>?_) λ h6=>?_
  .refine AC (Ad ?_)
   refine AO ?_;have hn:¬ Ah g:=λ h=>by simp at h6;exact h6 (h.2 k)
   exact⟨.inr rfl,AG.one (by simp[hn])⟩
  simp at h6;refine AE (Ad ?_);refine⟨k+1,⟨h5,λ i hi=>?_⟩,?_,AM [] (by simp[h0])⟩
  .rcases QN.1 hi with h | rfl
   .exact hp i h
   .exact h6
  .omega
 simp at h5;have hy:Ah g:=⟨h1,λ i hi=>hp i zy hi⟩
 refine Aa (Ab (AC (Ad ?_)));exact BG (AG.one (by simp[hy]))
def EU (a b:Ed):Prop:=a.f<b.f∨a.f=b.f/\a.t<b.t
instance (a b:Ed):Decidable (EU a b):=by unfold EU;infer_instance
theorem Ka {a b:Ed}:Hq a b<0↔EU a b:=by
 simp only[Hq,BC,EU]
 grind
theorem WX (a b:Ed):AK 94 [eE a,eE b] [] (.B (decide (EU a b))) []:=by
 refine f6.s.ai ?_;refine ar [2,3] [] [16,24] 16 ?_;refine arc ⟨24,[(4,.B (decide (EU a b)))],[],16⟩ ?_ ?_
 .simp
  repeat' first
   | (refine BK (λ hb=>?_) (λ hb=>?_)<;>(try rw[hb])<;>(try simp at hb)<;>simp[hb])
  all_goals exact AM [] (by simp;exact An (by (try simp at *);grind [EU]))
 exact Bv
open Classical in
theorem MV (l:List Int) (n:Int) (hl:l.length<=140737488355328):AK 93 [AA l,.I n] [] (.B (decide (Bh l 0 (n - 1)))) []:=by
 refine bL.s.ai ?_;refine AC (Ad ?_);refine AC (AC (Ad ?_));refine AI (Ag (ι:=Nat) (λ k=>⟨41,[(0,AA l),(1,.I n),(5,.I k)],[],16⟩) (λ k=>k<=l.length /\ ∀ i,i<k->Hb l 0 (n - 1) i) (λ k=>l.length - k) (0) ?_ (AM [] zz) ?_)
 .simp
 rintro k ⟨hk,hp⟩
 refine AC (AC (Ad ?_));refine AD _ rfl (λ h4=>?_) λ h4=>?_
 .try simp at h4
  have q:=w6 (x:=(k:Int)+1);have u:0<k->IntKind.i64.wrap ((k:Int) - 1)=((k - 1:Nat):Int):=λ h=>by rw[w6];omega
  have h0:k - 1<l.length:=zy
  refine AE (AC (AI (BM ⟨41,[(0,AA l),(1,.I n),(5,.I k),(40,.B (decide (¬ Hb l 0 (n - 1) k)))],[],16⟩ ?_ ?_)))
  .simp [h4,q,u,h0]
   repeat' first
    | (refine BK (λ hb=>?_) (λ hb=>?_)<;>(try rw[hb])<;>(try simp at hb)<;>simp[hb,h4,q,u,h0])
   all_goals exact⟨rfl,AM [] (by simp;exact An (by (try simp at *);grind [Hb]))⟩
  refine AD _ rfl (λ h5=>?_) λ h5=>?_
  .try simp at h5
   refine AC (BA (s:=?s6) rfl ?o6 ?q6)
   case o6=>simp[h4,q,u,h0];rfl
   refine AO ?_;have hn:¬ Bh l 0 (n - 1):=λ h=>h5 (h k);exact⟨.inr rfl,AG.one (by simp[hn])⟩
  try simp at h5
  refine AE (BA (s:=?s7) rfl ?o7 ?q7)
  case o7=>simp[h4,q,u,h0];rfl
  refine⟨k+1,⟨h4,λ i hi=>?_⟩,zy,AM [] (by simp[h4,q,u,h0])⟩
  rcases QN.1 hi with h | rfl
  .exact hp i h
  .exact h5
 try simp at h4
 have h1:∀ i,i<l.length->Hb l 0 (n - 1) i:=λ i hi=>hp i zy
 refine Aa (Ab (AC (Ad ?_)));refine AO ?_;have hy:Bh l 0 (n - 1):=λ i hi=>h1 i hi hi;exact⟨.inr rfl,AG.one (by simp[hy])⟩
def IK (g:Gr) (e:Ed):Prop:=0<=e.f/\e.f<g.size/\0<=e.t/\e.t<g.size/\e.f≠e.t/\1<=e.v/\e.v<=3
instance (g:Gr) (e:Ed):Decidable (IK g e):=by unfold IK;infer_instance
def JH (g:Gr) (k:Nat):Prop:=∀ h:k<g.edges.length,(0<k->EU g.edges[k - 1] g.edges[k])/\g.edges[k].f∉g.gone/\g.edges[k].t∉g.gone
theorem O9 (g:Gr) (k:Nat) (h:k<g.edges.length):Eu g k↔IK g g.edges[k]/\JH g k:=by
 simp only[Eu,IK,JH,DX,Ka]
 grind
open Classical in
theorem j4 (g:Gr) (hl:g.edges.length<=140737488355328) (h3:g.gone.length<=140737488355328):AK 47 [eG g] [] (.I (if Ah g then 0 else 14)) []:=by
 refine kM.s.ai ?_;refine ar [1] [] [16] 16 ?_;refine AC (arc ⟨105,[(1,.pv (gC g)),(26,.B (decide (¬ Ii g)))],[],16⟩ ?_ ?_)
 .simp
  repeat' first
   | (refine CC 93 rfl ?_;refine AT (MV _ _ h3) rfl ?_;simp)
   | (refine BK (λ hb=>?_) (λ hb=>?_)<;>(try rw[hb])<;>(try simp at hb)<;>simp[hb])
  all_goals exact AM [] (by simp;exact An (by (try simp at *);grind [Ii,IK,JH]))
 refine AD _ rfl (λ h1=>?_) λ h1=>?_
 .try simp at h1
  refine AC (Ad ?_);exact BG (AG.one (by simp[Ah,h1]))
 try simp at h1
 refine AE (AC (AC (Ad ?_)));refine AI (Ag (ι:=Nat) (λ k=>⟨105,[(1,.pv (gC g)),(3,.I k)],[],16⟩) (λ k=>k<=g.edges.length /\ ∀ i,i<k->Eu g i) (λ k=>g.edges.length - k) (0) ?_ (AM [] zz) ?_)
 .simp
 rintro k ⟨hk,hp⟩
 refine AC (AC (Ad ?_));refine AD _ rfl (λ h5=>?_) λ h5=>?_
 .try simp at h5
  have q:=w6 (x:=(k:Int)+1);have u:0<k->IntKind.i64.wrap ((k:Int) - 1)=((k - 1:Nat):Int):=λ h=>by rw[w6];omega
  have h0:k - 1<g.edges.length:=zy
  refine AE (AC (AI (arc ⟨105,[(1,.pv (gC g)),(3,.I k),(4,.pv (eC g.edges[k]))],[],16⟩ ?_ ?_)))
  .simp [h5,q,u,h0]
   exact AM [96] (by simp[h5,q,u,h0])
  refine AC (arc ⟨105,[(1,.pv (gC g)),(3,.I k),(4,.pv (eC g.edges[k])),(77,.B (decide (¬ IK g g.edges[k])))],[],16⟩ ?_ ?_)
  .simp [h5,q,u,h0]
   repeat' first
    | (refine BK (λ hb=>?_) (λ hb=>?_)<;>(try rw[hb])<;>(try simp at hb)<;>simp[hb,h5,q,u,h0])
   all_goals exact AM [] (by simp;exact An (by (try simp at *);grind [Ii,IK,JH]))
  refine AD _ rfl (λ h6=>?_) λ h6=>?_
  .try simp at h6
   refine AC (BA (s:=?s7) rfl ?o7 ?q7)
   case o7=>simp[h5,q,u,h0];rfl
   refine AO ?_;have hn:¬ Ah g:=λ h=>by have h2:=(O9 g k h5).1 (h.2 k);simp_all
   exact⟨.inr rfl,AG.one (by simp[hn])⟩
  try simp at h6
  refine AE (BM ⟨105,[(1,.pv (gC g)),(3,.I k),(104,.B (decide (¬ JH g k)))],[],16⟩ ?_ ?_)
  .simp [h5,q,u,h0]
   repeat' first
    | (refine CC 94 rfl ?_;refine AT (WX ..) rfl ?_;simp[h5,q,u,h0])
    | (refine CC 95 rfl ?_;refine AT (Mn _ _ h3) rfl ?_;simp[h5,q,u,h0])
    | (refine BK (λ hb=>?_) (λ hb=>?_)<;>(try rw[hb])<;>(try simp at hb)<;>simp[hb,h5,q,u,h0])
   all_goals exact⟨rfl,AM [] (by simp;exact An (by (try simp at *);grind [Ii,IK,JH]))⟩
  refine AD _ rfl (λ h8=>?_) λ h8=>?_
  .try simp at h8
   refine AC (BA (s:=?s9) rfl ?o9 ?q9)
   case o9=>simp[h5,q,u,h0];rfl
   refine AO ?_;have hn:¬ Ah g:=λ h=>by have h2:=(O9 g k h5).1 (h.2 k);simp_all
   exact⟨.inr rfl,AG.one (by simp[hn])⟩
  try simp at h8
  refine AE (BA (s:=?s10) rfl ?o10 ?q10)
  case o10=>simp[h5,q,u,h0];rfl
  refine⟨k+1,⟨h5,λ i hi=>?_⟩,zy,AM [] (by simp[h5,q,u,h0])⟩
  rcases QN.1 hi with h | rfl
  .exact hp i h
  .exact (O9 g i h5).2 ⟨h6,h8⟩
 try simp at h5
 have h4:∀ i,i<g.edges.length->Eu g i:=λ i hi=>hp i zy
 refine Aa (Ab (AC (Ad ?_)));refine AO ?_;have hy:Ah g:=⟨h1,λ i hi=>h4 i hi hi⟩;exact⟨.inr rfl,AG.one (by simp[hy])⟩
theorem TL (l:List Int) (hl:l.length*8<=140737488355328):AK 227 [AA l] [] (.rs 0 0 l.length) [some ⟨1,l.map λ n=>[AV.I n],0⟩]:=by
 cases l with
 | nil =>
   refine VT λ ad c=>?_;refine PY.s.ai ?_;refine AC (Ad ?_);refine BO ⟨8,[(0,.vs 1 false [])],[],40⟩ ?_ ?_
   .refine AC (Ad ?_)
    refine AD _ rfl (λ h3=>?_) λ h3=>?_
    .refine arc ⟨8,[(2,.rs 40 0 0)],[(40,some ⟨1,[],0⟩)],48⟩ ?_ ?_
     .simp
      exact Le.lst [] [] [(40,1)] rfl zz zz zz zz zz zz zz (by simp[Up]) zz
     exact CD [40] []
    exact AE (Le.slots rfl rfl (by simp;exact .mt _ _ _))
   refine AC (BA (s:=?s5) rfl ?o5 ?q5)
   case o5=>simp[List.replicate];rfl
   exact CD [56] []
 | cons x l =>
   refine PY.s.ai ?_;refine AC (Ad ?_);refine AC (AC (Ad ?_));refine AD _ rfl (λ h3=>by cases h3) λ h3=>?_
   refine AE (AC (BA (s:=?t4) rfl ?p4 ?r4))
   case p4=>simp[List.replicate];refine⟨by simpa using hl,by simp at hl;omega,?_⟩;rfl
   exact CD [56] []
theorem ZR (l:List Ed) (hl:l.length*24<=140737488355328):AK 239 [Cr l] [] (.rs 0 0 l.length) [some ⟨3,l.map λ e=>[AV.I e.f,AV.I e.t,AV.I e.v],0⟩]:=by
 cases l with
 | nil =>
   refine VT λ ad c=>?_;refine TJ.s.ai ?_;refine AC (Ad ?_);refine BO ⟨8,[(0,.vs 3 false [])],[],40⟩ ?_ ?_
   .refine AC (Ad ?_)
    refine AD _ rfl (λ h3=>?_) λ h3=>?_
    .refine arc ⟨8,[(2,.rs 40 0 0)],[(40,some ⟨3,[],0⟩)],48⟩ ?_ ?_
     .simp
      exact Le.lst [] [] [(40,3)] rfl zz zz zz zz zz zz zz (by simp[Up]) zz
     exact CD [40] []
    exact AE (Le.slots rfl rfl (by simp;exact .mt _ _ _))
   refine AC (BA (s:=?s5) rfl ?o5 ?q5)
   case o5=>simp[List.replicate];rfl
   exact CD [56] []
 | cons x l =>
   refine TJ.s.ai ?_;refine AC (Ad ?_);refine AC (AC (Ad ?_));refine AD _ rfl (λ h3=>by cases h3) λ h3=>?_
   refine AE (AC (BA (s:=?t4) rfl ?p4 ?r4))
   case p4=>simp[List.replicate];refine⟨by simpa using hl,by simp at hl;omega,?_⟩;rfl
   exact CD [56] []
theorem Zx (g:Gr) (hl:g.edges.length*24<=140737488355328) (q:g.gone.length*8<=140737488355328):AK 96 [eG g] [] (.agg [.I g.size,.rs 0 0 g.edges.length,.rs 1 0 g.gone.length]) [some ⟨3,g.edges.map λ e=>[AV.I e.f,AV.I e.t,AV.I e.v],0⟩,some ⟨1,g.gone.map λ n=>[AV.I n],0⟩]:=by
 refine W5.s.ai ?_;have u:g.edges.length<=140737488355328:=zy
 have h0:g.gone.length<=140737488355328:=zy
 refine AC (Ad ?_);refine AC (IC (s:=?s1) (tr:=?t1) rfl ?o1 ?r1 ?q1)
 case o1=>simp[hl,q,u,h0];constructor<;>rfl
 case r1=>rfl
 refine AO ⟨.inr rfl,?_⟩;show AG [(2,some (true,3))] 0 _ _ _;exact AG.out (vs:=[.agg [.I g.size,.rs 64 0 g.edges.length,.rs 88 0 g.gone.length]]) [64,88] [] zz zz zz zz zw
theorem Ym (g:Gr) (hl:g.edges.length*24<=140737488355328) (q:g.gone.length*8<=140737488355328):AK 172 [eG g] [] (.agg [.I g.size,.rs 0 0 g.edges.length,.rs 1 0 g.gone.length]) [some ⟨3,g.edges.map λ e=>[AV.I e.f,AV.I e.t,AV.I e.v],0⟩,some ⟨1,g.gone.map λ n=>[AV.I n],0⟩]:=by
 refine WS.s.ai ?_;have u:g.edges.length<=140737488355328:=zy
 have h0:g.gone.length<=140737488355328:=zy
 refine AC (Ad ?_);refine AC (IC (s:=?s1) (tr:=?t1) rfl ?o1 ?r1 ?q1)
 case o1=>simp;refine Cu (ZR _ hl) rfl ?_;simp;refine Cu (TL _ q) rfl ?_;simp[AB];constructor<;>rfl
 case r1=>rfl
 refine AO ⟨.inr rfl,?_⟩;show AG [(2,some (true,3))] 0 _ _ _;exact AG.out (vs:=[.agg [.I g.size,.rs 64 0 g.edges.length,.rs 88 0 g.gone.length]]) [64,88] [] zz zz zz zz zw
theorem V8 {α:Type} {a b:List α} (h:a.length=b.length) (hp:∀ i,i<a.length->a[i]? = b[i]?):a=b:=by
 apply List.ext_getElem?;intro i;rcases Ua i a.length with h1 | h1
 .exact hp i h1
 .rw [QT h1,QT zy]
theorem Rv (a b:List Int) (hl:a.length<=140737488355328):AK 68 [AA a,AA b] [] (.B (decide (a=b))) []:=by
 refine fO.s.ai ?_;refine AC (Ad ?_);refine AC (AC (Ad ?_));refine AD _ rfl (λ h3=>?_) λ h3=>?_
 .try simp at h3
  refine AC (Ad ?_);refine AO ?_;have hn:a≠b:=λ h=>h3 (by rw[h])
  exact⟨.inr rfl,AG.one (by simp[hn])⟩
 try simp at h3
 refine AE (AC (AC (Ad ?_)));refine AI (Ag (ι:=Nat) (λ k=>⟨26,[(0,AA a),(1,AA b),(5,.I k)],[],16⟩) (λ k=>k<=a.length /\ ∀ i,i<k->a[i]? = b[i]?) (λ k=>a.length - k) (0) ?_ (AM [] zz) ?_)
 .simp
 rintro k ⟨hk,hp⟩
 refine AC (AC (Ad ?_));refine AD _ rfl (λ h7=>?_) λ h7=>?_
 .try simp at h7
  have h0:=w6 (x:=(k:Int)+1);have h1:0<k->IntKind.i64.wrap ((k:Int) - 1)=((k - 1:Nat):Int):=λ h=>by rw[w6];omega
  have h2:k - 1<a.length:=zy
  have q:k<b.length:=zy
  refine AE (AC (AI (AC (IC (s:=?s8) (tr:=?t8) rfl ?o8 ?r8 ?q8))))
  case o8=>simp[h7,q];constructor<;>rfl
  case r8=>rfl
  refine AD _ rfl (λ h9=>?_) λ h9=>?_
  .try simp at h9
   refine AC (Ad ?_);refine AO ?_;have hn:a≠b:=λ h=>h9 (by simp[h])
   exact⟨.inr rfl,AG.one (by simp[hn])⟩
  try simp at h9
  refine AE (BA (s:=?s11) rfl ?o11 ?q11)
  case o11=>simp[h0];rfl
  refine⟨k+1,⟨h7,λ i hi=>?_⟩,zy,AM [] zz⟩
  rcases QN.1 hi with h | rfl
  .exact hp i h
  .simp [h7,q,h9]
 try simp at h7
 have u:∀ i,i<a.length->a[i]? = b[i]?:=λ i hi=>hp i zy
 refine Aa (Ab (AC (Ad ?_)));refine AO ?_;have hy:a=b:=V8 zy u
 exact⟨.inr rfl,AG.one (by simp[hy])⟩
def Lm (a b:Gr):Prop:=a.size=b.size/\a.edges=b.edges/\a.gone=b.gone
instance (a b:Gr):Decidable (Lm a b):=by unfold Lm;infer_instance
theorem VV {P:Program} {f:FuncId} {xs ys:List AV} {hs:List AX} {res:AV} {hs':List (Option AX)} (hl:xs.length=ys.length) (hw:∀ i,i<ys.length->Wk (xs.getD i .dead) (ys.getD i .dead)) (h:Cq P f ys hs res hs'):Cq P f xs hs res hs' :=
 ⟨h.1,h.2.1,λ T M w vs h1 h2 h3 hr=>h.2.2 T M w vs h1 h2 h3 ⟨hr.1.trans hl,λ i hi=>(hw i hi).rep (hr.2 i (hl ▸ hi))⟩⟩
section
variable {H:Type}
def PS (x:Int):Prop:=-9223372036854775808<=x/\x<=9223372036854775807
variable {P:Program} {tI tE aD aC tG:TypeId}
theorem f7 {n:Nat} (hI:P.underlying tI=some (.int .i64)) {d:DataW H} {cs:List AV} (h:D9 P (n+1) tI d=some cs):∃ x,cs=[.I x]/\PS x:=by
 cases d<;>simp[D9,hI] at h
 rename_i l
 cases l<;>simp at h
 obtain⟨⟨rfl,hw⟩,rfl⟩:=h;refine⟨_,rfl,?_⟩;unfold PS
 simpa [Lit.wf,IntKind.min,IntKind.max,IntKind.signed,IntKind.bits] using hw
theorem SQ {α:Type} {f:DataW H->Option (List AV)} (Q:α->List AV):∀ {ds:List (DataW H)} {rows:List (List AV)},(∀ d row,f d=some row -> ∃ a,row=Q a)->ds.mapM f=some rows -> ∃ l:List α,rows=l.map Q
 | [],rows,_,h=>by simp at h;subst h;exact⟨[],rfl⟩
 | d::ds,rows,hf,h=>by
   simp only[List.mapM_cons] at h
   cases h1:f d with
   | none=>simp[h1] at h
   | some row =>
     cases h2:ds.mapM f with
     | none=>simp[h1,h2] at h
     | some rows' =>
       simp[h1,h2] at h;subst h;obtain⟨a,rfl⟩:=hf d row h1;obtain⟨l,rfl⟩:=SQ Q hf h2;exact⟨a::l,rfl⟩
theorem Zz {α:Type} {n:Nat} {t e:TypeId} (ht:P.underlying t=some (.slice e)) (Q:α->List AV) (hf:∀ (d:DataW H) row,D9 P n e d=some row -> ∃ a,row=Q a) {d:DataW H} {cs:List AV} (h:D9 P (n+1) t d=some cs) :
  ∃ (l:List α) (x:AV),cs=[x]/\Wk x (.vs (P.cellsOf e) false (l.map Q)):=by
 cases d<;>simp[D9,ht] at h
 .subst h;exact⟨[],_,rfl,.nil _ _⟩
 .obtain ⟨_,rows,h,rfl⟩:=h
  obtain⟨l,rfl⟩:=SQ Q hf h;exact⟨l,_,rfl,.refl _⟩
end
theorem KR:ownKnob Tryz.prog.godebug=none:=by kernel_rfl
theorem Sd:laidOutB Tryz.prog=true:=by kernel_rfl
section
variable {H:Type} {P:Program} {tI aC:TypeId}
theorem Ri {n:Nat} (hI:P.underlying tI=some (.int .i64)) (q:P.underlying aC=some (.slice tI)) (cI:P.cellsOf tI=1) {d:DataW H} {x:AV} (h:FZ P (n+2) aC d=some x):∃ l:List Int,Wk x (AA l):=by
 simp only[FZ,q,Uj] at h;obtain⟨cs,h1,h2⟩:=h;obtain⟨l,y,rfl,hw⟩:=Zz q (λ x:Int=>[AV.I x]) (λ d row h=>by obtain⟨x,h,_⟩:=f7 hI h;exact⟨x,h⟩) h1
 rw[cI] at hw;simp at h2;subst h2;exact⟨l,hw⟩
theorem Rc {n:Nat} {a b:TypeId} {ds:List (DataW H)} {xs:List AV} (h:H8 P n [a,b] ds=some xs):∃ (d1 d2:DataW H) (x1 x2:AV),ds=[d1,d2]/\xs=[x1,x2]/\FZ P n a d1=some x1/\FZ P n b d2=some x2:=by
 match ds,h with
 | [],h=>cases h
 | [_],h=>simp only[H8] at h;split at h<;>simp_all
 | _::_::_::_,h=>simp only[H8] at h;split at h<;>simp_all
 | [d1,d2],h =>
   simp only[H8] at h
   cases h1:FZ P n a d1 with
   | none=>simp[h1] at h
   | some x1 =>
     cases h2:FZ P n b d2 with
     | none=>simp[h1,h2] at h
     | some x2 =>
       simp[h1,h2] at h;exact⟨d1,d2,x1,x2,rfl,h.symm,h1,h2⟩
end
theorem TG {H:Type} {P:Program} {tU:TypeId} {n:Nat} (hU:P.underlying tU=some (.int .u8)) {d:DataW H} {x:AV} (h:FZ P (n+1) tU d=some x):∃ k:Int,x = .sc (.int .u8 k)/\0<=k/\k<=255:=by
 simp only[FZ,hU,Uj] at h;obtain⟨cs,h1,h2⟩:=h
 cases d<;>simp[D9,hU] at h1
 rename_i l
 cases l<;>simp at h1
 obtain⟨⟨rfl,hw⟩,rfl⟩:=h1;simp at h2;subst h2;exact⟨_,rfl,by simpa [Lit.wf,IntKind.min,IntKind.max,IntKind.signed,IntKind.bits] using hw⟩
variable {P:Program} {Q:Fl->St->Prop} {np:Nat}
theorem G4 {a b:C5} {st:St} (h:AQ P np a (λ e st'=>match e with | .normal=>∃ s,Le np st' s/\AQ P np b Q s | e=>Q e st') st):AQ P np (.seq a b) Q st:=by
 show AQ P np a _ st;refine Gm (λ e s hs=>?_) h
 cases e with
 | normal=>exact hs
 | exit id=>exact hs
 | ret=>exact hs
theorem ae {ops:List Ca} {sz n:Nat} {t:List (Nat × AV)} {h:List (Nat × Option AX)} {af:List (List Nat)} {R:St->Prop} {s:St} (live:List Nat) (ρ:List (Nat × Nat)) (sn:List Nat) (m:Nat) (ho:B8 P np n 0 ops ⟨sz,t,h,n⟩ [] λ st' _=>Gt ρ st'/\FR live ρ sn m st'=s) (hq:R s) (hN:∀ st',(∃ s,Le np st' s/\R s)->Q .normal st':=by exact λ _ h=>h) (hd:((ops.all λ o=>o.dst.all (· < sz)) && Ew np m ρ sn)=true:=by rfl):AQ P np (.reg false ops af) Q ⟨sz,t,h,n⟩:=by
 rw[QW] at hd;refine AU hd.1 (E7 _ _ _ _ _ _ _ (λ st' _ hc=>?_) ho);obtain⟨h1,rfl⟩:=hc;exact hN _ ⟨_,Le.cutr (st:=⟨st'.sz,st'.t,st'.h,n+8*ops.length⟩) live ρ sn m hd.2 h1,hq⟩
theorem ad {ops:List Ca} {sz n:Nat} {t:List (Nat × AV)} {h:List (Nat × Option AX)} {af:List (List Nat)} {R:St->Prop} {s:St} (live:List Nat) (ρ:List (Nat × Nat)) (sn:List Nat) (m:Nat) (ho:B8 P np n 0 ops ⟨sz,t,h,n⟩ [] λ st' tr=>Ir ops af tr/\Gt ρ st'/\FR live ρ sn m st'=s) (hq:R s) (hN:∀ st',(∃ s,Le np st' s/\R s)->Q .normal st':=by exact λ _ h=>h) (hd:((ops.all λ o=>o.dst.all (· < sz)) && Ew np m ρ sn)=true:=by rfl):AQ P np (.reg true ops af) Q ⟨sz,t,h,n⟩:=by
 rw[QW] at hd;refine Cn hd.1 (E7 _ _ _ _ _ _ _ (λ st' _ hc=>?_) ho);obtain⟨h0,h1,rfl⟩:=hc;exact⟨h0,hN _ ⟨_,Le.cutr (st:=⟨st'.sz,st'.t,st'.h,n+8*ops.length⟩) live ρ sn m hd.2 h1,hq⟩⟩
theorem Le.nw {st st':St} (ρ:List (Nat × Nat)) (nl:List (Nat × Nat)) (u:st'.sz=st.sz:=by rfl) (ht:∀ p∈st'.t,Up nl (conv ρ [] st.hp 4 (st.get p.1)) p.2:=by simp[Up,AB]) (hh:∀ p∈st'.h,∀ e',p.2=some e'->(∃ q∈ρ,q.2=p.1 /\ ∃ e,st.hp q.1=some e/\Av nl (Ak ρ [] st.hp 4 e) e')∨((p.1,e'.s)∈nl/\e'.rows=[]/\e'.ro=0):=by simp) (h0:(ρ.map (·.1)).Nodup:=by simp) (h1:(ρ.map (·.2)).Nodup:=by simp) (h2:∀ p∈ρ,p.2<st'.n/\(p.2<np->p.1=p.2):=by simp) (h3:∀ p∈nl,np<=p.1/\p.1<st'.n/\p.1∉ρ.map (·.2)/\p.2≠0:=by simp) (h5:np<=st'.n:=by simp) (h6:(nl.map (·.1)).Nodup:=by simp):Le np st st' :=
 Le.lst ρ [] nl u h0 h1 h2 h3 zz h5 h6 ht hh
theorem Ci {k N:Nat} (h:k<N) (hN:N<=1099511627776:=by omega):IntKind.i64.wrap ((k:Int)+1)=((k+1:Nat):Int):=by rw[w6];omega
theorem Ba {α β:Type} (f:α->β) (l:List α):List.take l.length (l.map f)=l.map f:=Qc zz
theorem HK {f:FuncId} {args aB:List AV} {hs:List AX} {res:AV} {hs':List (Option AX)} (h:Cq P f aB hs res hs') (hw:Ec args aB):Cq P f args hs res hs':=by
 refine⟨h.1,h.2.1,λ T M w vs h1 h2 h3 hr=>h.2.2 T M w vs h1 h2 h3 ⟨hr.1.trans hw.length,λ i hi=>?_⟩⟩;have hi':i<args.length:=by rw[hw.length];exact hi
 exact(hw.get i hi').rep (hr.2 i hi')
theorem P1 (b:ByteArray):∀ (n i:Nat) (r:List UInt8),b.size - i=n->(ByteArray.toList.loop b i r).length=r.length+n
 | 0,i,r,h=>by rw[ByteArray.toList.loop,if_neg zy,Q9];rfl
 | n+1,i,r,h=>by
   rw[ByteArray.toList.loop,if_pos zy,P1 b n (i+1) _ zy,QZ];omega
theorem VP (b:ByteArray):b.toList.length=b.size:=by
 unfold ByteArray.toList;rw[P1 b b.size 0 [] rfl];simp
def uE:DI:=⟨41,[(2,none),(3,none)],
 (sr [oo 1 (.box 7) [.t 0],oo 2 .mv [(.c ve)],oo 3 .mv [ki 0]]
 (.seq (.seq
 (rg [oo 6 (.ld true 7) [.t 1],ca 7 63 [.t 6],ma 4 7])
 (sr [ma 8 4,oo 9 (.bin .neq) [.t 8,ki 0]]
 (.cond (.t 9)
 (sr [ma 10 4,oo 2 .mv [(.c ve)],ma 3 10]
 .ret)
 .skip)))
 (sr [oo 11 (.bsl 1 0 [(.int .u8 0)] []) [],oo 12 .apps [.t 11,(.c (.string ⟨#[116,114,117,115,116,102,108,111,119]⟩))],ma 5 12]
 (sr [ma 13 5,fa 14 0 1,la 15 14,ca 16 184 [.t 13,.t 15],ma 5 16]
 (sr [ma 17 5,fa 18 1 1,fa 19 0 18,la 20 19,ca 21 184 [.t 17,.t 20],ma 5 21]
 (sr [ma 22 5,fa 23 1 1,fa 24 1 23,la 25 24,ca 26 184 [.t 22,.t 25],ma 5 26]
 (sr [ma 27 5,fa 28 1 1,fa 29 2 28,la 30 29,fa 31 4 1,la 32 31,fa 33 5 1,la 34 33,fa 35 6 1,la 36 35,oo 37 (.bsl 1 4 [v0] [0,1,2,3]) [.t 30,.t 32,.t 34,.t 36],ca 38 184 [.t 27,.t 37],ma 5 38]
 (sr [ma 39 5,ca 40 177 [.t 39],ma 2 40,oo 3 .mv [ki 0]]
 .ret))))))))⟩
def qW:DI:=⟨66,[(2,none)],
 (sr [oo 2 .mv [kn]]
 (sr [oo 3 .mv [kn]]
 (.seq (.seq
 (rg [oo 4 .mv [ki 0]])
 (.block 0 (.loop
 (.seq (.seq
 (rg [ma 8 4,ma 9 0,oo 10 .len [.t 9],oo 11 (.bin .lss) [.t 8,.t 10]])
 (.cond (.t 11)
 .skip
 (.exit 0)))
 (.seq (.block 1 (sr [ma 15 0,ma 16 4,oo 17 (.iad 13) [.t 15,.t 16],oo 18 (.ld true 13) [.t 17],ca 19 320 [.t 18],ma 14 19,oo 20 (.ext 0) [.t 14],oo 21 (.ext 1) [.t 14],oo 5 (.alloc [v0,v0,v0,v0,v0,vn,vn]) [],ou (.st 7) [.t 5,.t 20],ma 6 21]
 (.seq (.seq
 (rg [ma 22 6,oo 23 (.un .not) [.t 22]])
 (.cond (.t 23)
 (.exit 1)
 .skip))
 (sr [oo 7 .mv [ki 0]]
 (.seq (.block 2 (.loop
 (.seq (.seq
 (.reg true [ma 24 7,ma 25 3,oo 26 .len [.t 25],oo 27 (.bin .lss) [.t 24,.t 26],ma 28 27,mg 29 3 28,mg 30 7 28,og 31 (.iad 4) [.t 29,.t 30] 28,og 32 (.ld true 4) [.t 31] 28,fg 33 1 5 28,og 34 (.ld true 4) [.t 33] 28,og 35 .call [.f 321,.t 32,.t 34] 28,oo 36 .pick [.t 28,.t 35,.c (.bool false)]] [[],[],[1],[0,2],[3],[4],[4],[5,6,4],[7,4],[4],[9,4],[8,10,4,4],[4,11]])
 (.cond (.t 36)
 .skip
 (.exit 2)))
 (.block 3 (rg [ma 37 7,oo 38 (.bin .add) [.t 37,ki 1],ma 7 38])))))
 (.seq (.reg true [ma 39 7,ma 40 3,oo 41 .len [.t 40],oo 42 (.bin .eql) [.t 39,.t 41],ma 43 42,mh 44 3 43,mh 45 7 43,oh 46 (.iad 4) [.t 44,.t 45] 43,oh 47 (.ld true 4) [.t 46] 43,fh 48 1 5 43,oh 49 (.ld true 4) [.t 48] 43,oh 50 (.aeq true [0,0,0,0]) [.t 47,.t 49] 43,oo 51 .pick [.t 43,.c (.bool true),.t 50]] [[],[],[1],[0,2],[3],[4],[4],[5,6,4],[7,4],[4],[9,4],[8,10,4],[4,11]])
 (.cond (.t 51)
 (.reg true [oo 52 (.bsl 4 0 [v0,v0,v0,v0] []) [],ma 53 3,ma 54 7,oo 55 (.slc 4 false true false) [.t 53,.t 54],oo 56 (.app 4 32) [.t 52,.t 55],fa 57 1 5,oo 58 (.ld true 4) [.t 57],oo 59 (.bsl 4 1 [v0,v0,v0,v0] [0]) [.t 58],oo 60 (.app 4 32) [.t 56,.t 59],ma 61 3,ma 62 7,oo 63 (.slc 4 true false false) [.t 61,.t 62],oo 64 (.app 4 32) [.t 60,.t 63],ma 3 64] [[],[],[],[1,2],[0,3],[],[5],[6],[4,7,4],[],[],[9,10],[8,11,8],[12,12,0,1,2,3,4,5,6,7,8,9,10,11,12]])
 .skip)))))))
 (rg [ma 12 4,oo 13 (.bin .add) [.t 12,ki 1],ma 4 13]))))))
 (sr [ma 65 3,ma 2 65]
 .ret))))⟩
def vP:DI:=⟨72,[(4,none)],
 (sr [oo 3 (.box 4) [.t 1],oo 4 .mv [kn]]
 (sr [oo 5 .mv [kn]]
 (.seq (.seq
 (rg [oo 6 .mv [ki 0]])
 (.block 0 (.loop
 (.seq (.seq
 (rg [ma 10 6,ma 11 0,oo 12 .len [.t 11],oo 13 (.bin .lss) [.t 10,.t 12]])
 (.cond (.t 13)
 .skip
 (.exit 0)))
 (.seq (.block 1 (sr [ma 17 0,ma 18 6,oo 19 (.iad 13) [.t 17,.t 18],oo 20 (.ld true 13) [.t 19],ca 21 320 [.t 20],ma 16 21,oo 22 (.ext 0) [.t 16],oo 23 (.ext 1) [.t 16],oo 7 (.alloc [v0,v0,v0,v0,v0,vn,vn]) [],ou (.st 7) [.t 7,.t 22],ma 8 23]
 (.seq (.seq
 (rg [ma 24 8,oo 25 (.un .not) [.t 24],ma 26 25,fh 27 1 7 26,oh 28 (.ld true 4) [.t 27] 26,oh 29 (.ld true 4) [.t 3] 26,oh 30 (.aeq true [0,0,0,0]) [.t 28,.t 29] 26,oo 31 .pick [.t 26,.c (.bool true),.t 30]])
 (.cond (.t 31)
 (.exit 1)
 .skip))
 (sr [oo 9 .mv [ki 0]]
 (.seq (.block 2 (.loop
 (.seq (.seq
 (.reg true [ma 32 9,ma 33 5,oo 34 .len [.t 33],oo 35 (.bin .lss) [.t 32,.t 34],ma 36 35,mg 37 5 36,mg 38 9 36,og 39 (.iad 7) [.t 37,.t 38] 36,og 40 (.ld true 7) [.t 39] 36,og 41 (.ld true 7) [.t 7] 36,og 42 .call [.f 337,.t 40,.t 41] 36,oo 43 .pick [.t 36,.t 42,.c (.bool false)]] [[],[],[1],[0,2],[3],[4],[4],[5,6,4],[7,4],[4],[8,9,4,4],[4,10]])
 (.cond (.t 43)
 .skip
 (.exit 2)))
 (.block 3 (rg [ma 44 9,oo 45 (.bin .add) [.t 44,ki 1],ma 9 45])))))
 (.seq (.seq
 (.reg true [ma 46 9,ma 47 5,oo 48 .len [.t 47],oo 49 (.bin .lss) [.t 46,.t 48],ma 50 49,og 51 (.ld true 7) [.t 7] 50,mg 52 5 50,mg 53 9 50,og 54 (.iad 7) [.t 52,.t 53] 50,og 55 (.ld true 7) [.t 54] 50,og 56 .call [.f 337,.t 51,.t 55] 50,og 57 (.un .not) [.t 56] 50,oo 58 .pick [.t 50,.t 57,.c (.bool false)]] [[],[],[1],[0,2],[3],[4],[4],[4],[6,7,4],[8,4],[5,9,4,4],[10,4],[4,11]])
 (.cond (.t 58)
 (.exit 1)
 .skip))
 (.reg true [oo 59 (.bsl 7 0 [v0,v0,v0,v0,v0,vn,vn] []) [],ma 60 5,ma 61 9,oo 62 (.slc 7 false true false) [.t 60,.t 61],oo 63 (.app 7 88) [.t 59,.t 62],oo 64 (.ld true 7) [.t 7],oo 65 (.bsl 7 1 [v0,v0,v0,v0,v0,vn,vn] [0]) [.t 64],oo 66 (.app 7 88) [.t 63,.t 65],ma 67 5,ma 68 9,oo 69 (.slc 7 true false false) [.t 67,.t 68],oo 70 (.app 7 88) [.t 66,.t 69],ma 5 70] [[],[],[],[1,2],[0,3],[],[5],[4,6,4],[],[],[8,9],[7,10,7],[11,11,0,1,2,3,4,5,6,7,8,9,10,11]])))))))
 (rg [ma 14 6,oo 15 (.bin .add) [.t 14,ki 1],ma 6 15]))))))
 (sr [ma 71 5,ma 4 71]
 .ret))))⟩
def wT:SC 3:=A9 Tryz.f3
def sU:SC 4:=A9 Tryz.f4
def tX:SC 8:=A9 Tryz.f8
def tW:SC 9:=A9 Tryz.f9
def vD:SC 10:=A9 Tryz.f10
def tM:SC 11:=A9 Tryz.f11
def rN:SC 13:=A9 Tryz.f13
def rR:SC 14:=A9 Tryz.f14
def qP:SC 15:=A9 Tryz.f15
def wA:SC 16:=A9 Tryz.f16
def wK:SC 17:=A9 Tryz.f17
def uT:SC 18:=A9 Tryz.f18
def vX:SC 20:=A9 Tryz.f20
def vQ:SC 21:=A9 Tryz.f21
def sP:SC 22:=A9 Tryz.f22
def rX:SC 23:=A9 Tryz.f23
def rL:SC 29:=A9 Tryz.f29
def vN:SC 31:=A9 Tryz.f31
def sM:SC 32:=A9 Tryz.f32
def vI:SC 33:=A9 Tryz.f33
def rY:SC 37:=A9 Tryz.f37
def tS:SC 40:=A9 Tryz.f40
def vM:SC 41:=A9 Tryz.f41
def vT:SC 42:=A9 Tryz.f42
def sH:SC 45:=A9 Tryz.f45
def t7:SC 46:=A9 Tryz.f46
def tT:SC 48:=A9 Tryz.f48
def rJ:SC 51:=A9 Tryz.f51
def vW:SC 52:=A9 Tryz.f52
def wE:SC 54:=A9 Tryz.f54
def vB:SC 55:=A9 Tryz.f55
def u9:SC 56:=A9 Tryz.f56
def uJ:SC 57:=A9 Tryz.f57
def rT:SC 61:=A9 Tryz.f61
def rP:SC 63:=A9 Tryz.f63
def rF:SC 64:=A9 Tryz.f64
def sL:SC 65:=A9 Tryz.f65
def sJ:SC 69:=A9 Tryz.f69
def wF:SC 70:=A9 Tryz.f70
def tH:SC 76:=A9 Tryz.f76
def wB:SC 77:=A9 Tryz.f77
def sW:SC 78:=A9 Tryz.f78
def wM:SC 79:=A9 Tryz.f79
def vU:SC 80:=A9 Tryz.f80
def uL:SC 87:=A9 Tryz.f87
def tZ:SC 88:=A9 Tryz.f88
def rZ:SC 89:=A9 Tryz.f89
def sN:SC 90:=A9 Tryz.f90
def wN:SC 91:=A9 Tryz.f91
def wQ:SC 92:=A9 Tryz.f92
def sY:SC 97:=A9 Tryz.f97
def qU:SC 98:=A9 Tryz.f98
def qS:SC 99:=A9 Tryz.f99
def qZ:SC 100:=A9 Tryz.f100
def tO:SC 107:=A9 Tryz.f107
def rS:SC 109:=A9 Tryz.f109
def tF:SC 113:=A9 Tryz.f113
def rM:SC 115:=A9 Tryz.f115
def uO:SC 116:=A9 Tryz.f116
def vH:SC 128:=A9 Tryz.f128
def rH:SC 129:=A9 Tryz.f129
def sV:SC 130:=A9 Tryz.f130
def uP:SC 131:=A9 Tryz.f131
def uB:SC 132:=A9 Tryz.f132
def vK:SC 133:=A9 Tryz.f133
def rG:SC 134:=A9 Tryz.f134
def sX:SC 135:=A9 Tryz.f135
def uD:SC 143:=A9 Tryz.f143
def v8:SC 144:=A9 Tryz.f144
def uG:SC 145:=A9 Tryz.f145
def tP:SC 146:=A9 Tryz.f146
def rV:SC 147:=A9 Tryz.f147
def wJ:SC 148:=A9 Tryz.f148
def sA:SC 150:=A9 Tryz.f150
def rB:SC 151:=A9 Tryz.f151
def sS:SC 152:=A9 Tryz.f152
def wL:SC 153:=A9 Tryz.f153
def vA:SC 166:=A9 Tryz.f166
def sZ:SC 167:=A9 Tryz.f167
def sE:SC 168:=A9 Tryz.f168
def qV:SC 169:=A9 Tryz.f169
def tL:SC 171:=A9 Tryz.f171
theorem tV:Src Tryz.prog 179 uE:=VL Tryz.f179
def uN:SC 180:=A9 Tryz.f180
def tJ:SC 181:=A9 Tryz.f181
def qY:SC 182:=A9 Tryz.f182
def sB:SC 183:=A9 Tryz.f183
def uX:SC 184:=A9 Tryz.f184
def wO:SC 185:=A9 Tryz.f185
def sG:SC 186:=A9 Tryz.f186
def rA:SC 187:=A9 Tryz.f187
def vL:SC 188:=A9 Tryz.f188
def u7:SC 189:=A9 Tryz.f189
def uM:SC 190:=A9 Tryz.f190
def u0:SC 191:=A9 Tryz.f191
def tR:SC 192:=A9 Tryz.f192
def vJ:SC 205:=A9 Tryz.f205
def uQ:SC 206:=A9 Tryz.f206
def wD:SC 207:=A9 Tryz.f207
def rK:SC 208:=A9 Tryz.f208
def vV:SC 209:=A9 Tryz.f209
def tN:SC 210:=A9 Tryz.f210
def wH:SC 211:=A9 Tryz.f211
def u5:SC 212:=A9 Tryz.f212
def vY:SC 213:=A9 Tryz.f213
def uA:SC 214:=A9 Tryz.f214
def uH:SC 230:=A9 Tryz.f230
def uC:SC 231:=A9 Tryz.f231
def rE:SC 232:=A9 Tryz.f232
def tQ:SC 233:=A9 Tryz.f233
def tC:SC 246:=A9 Tryz.f246
def wI:SC 247:=A9 Tryz.f247
def wS:SC 248:=A9 Tryz.f248
def rD:SC 249:=A9 Tryz.f249
def uW:SC 250:=A9 Tryz.f250
def wV:SC 251:=A9 Tryz.f251
def sD:SC 252:=A9 Tryz.f252
def wR:SC 253:=A9 Tryz.f253
def wC:SC 254:=A9 Tryz.f254
def uV:SC 255:=A9 Tryz.f255
def vS:SC 256:=A9 Tryz.f256
def uY:SC 271:=A9 Tryz.f271
def sK:SC 273:=A9 Tryz.f273
def vE:SC 274:=A9 Tryz.f274
def sO:SC 275:=A9 Tryz.f275
def vO:SC 276:=A9 Tryz.f276
def rQ:SC 283:=A9 Tryz.f283
theorem qR:Src Tryz.prog 284 qW:=VL Tryz.f284
def rU:SC 285:=A9 Tryz.f285
def rI:SC 286:=A9 Tryz.f286
def uR:SC 287:=A9 Tryz.f287
def uS:SC 288:=A9 Tryz.f288
def sF:SC 289:=A9 Tryz.f289
def vZ:SC 300:=A9 Tryz.f300
def uK:SC 316:=A9 Tryz.f316
def rO:SC 317:=A9 Tryz.f317
theorem vG:Src Tryz.prog 318 vP:=VL Tryz.f318
def qT:SC 319:=A9 Tryz.f319
def vR:SC 320:=A9 Tryz.f320
def wU:SC 321:=A9 Tryz.f321
def qX:SC 322:=A9 Tryz.f322
def sQ:SC 323:=A9 Tryz.f323
def uU:SC 334:=A9 Tryz.f334
def sR:SC 335:=A9 Tryz.f335
def uZ:SC 336:=A9 Tryz.f336
def u6:SC 337:=A9 Tryz.f337
def qQ:SC 338:=A9 Tryz.f338
def tD:SC 339:=A9 Tryz.f339
def uI:SC 340:=A9 Tryz.f340
def sI:SC 344:=A9 Tryz.f344
def uF:SC 345:=A9 Tryz.f345
end Go.Proofs.YtklclphfcibagaaGreat
namespace Go.Proofs
open Go.Shelf
def Tryz.lays189_ren:Go.Shelf.Ren:=⟨fun | 189=>136 | 125=>194 | 257=>193 | 128=>266 | 129=>267 | 294=>257 | 295=>258 | 296=>259 | 297=>260 | 298=>261 | 299=>262 | 216=>263 | 300=>264 | 301=>265 | 328=>290 | 329=>291 | 330=>292 | 331=>293 | 332=>294 | 215=>269 | 343=>324 | n=>n,fun | 28=>22 | 3=>3 | 46=>228 | 0=>0 | 51=>268 | 53=>270 | 4=>4 | 183=>293 | 182=>292 | 131=>288 | 5=>5 | 9=>9 | 218=>319 | 222=>323 | 228=>362 | 229=>254 | n=>n,fun | n=>n⟩
theorem Tryz.lays189:Go.Proofs.Lays.n189 Tryz.prog Tryz.lays189_ren:={
 mixed:=by kernel_rfl
 f125:=Tryz.func194.trans (congrArg some (by kernel_rfl))
 f128:=Tryz.func266.trans (congrArg some (by kernel_rfl))
 f129:=Tryz.func267.trans (congrArg some (by kernel_rfl))
 f189:=Tryz.func136.trans (congrArg some (by kernel_rfl))
 f215:=Tryz.func269.trans (congrArg some (by kernel_rfl))
 f216:=Tryz.func263.trans (congrArg some (by kernel_rfl))
 f257:=Tryz.func193.trans (congrArg some (by kernel_rfl))
 f294:=Tryz.func257.trans (congrArg some (by kernel_rfl))
 f295:=Tryz.func258.trans (congrArg some (by kernel_rfl))
 f296:=Tryz.func259.trans (congrArg some (by kernel_rfl))
 f297:=Tryz.func260.trans (congrArg some (by kernel_rfl))
 f298:=Tryz.func261.trans (congrArg some (by kernel_rfl))
 f299:=Tryz.func262.trans (congrArg some (by kernel_rfl))
 f300:=Tryz.func264.trans (congrArg some (by kernel_rfl))
 f301:=Tryz.func265.trans (congrArg some (by kernel_rfl))
 f328:=Tryz.func290.trans (congrArg some (by kernel_rfl))
 f329:=Tryz.func291.trans (congrArg some (by kernel_rfl))
 f330:=Tryz.func292.trans (congrArg some (by kernel_rfl))
 f331:=Tryz.func293.trans (congrArg some (by kernel_rfl))
 f332:=Tryz.func294.trans (congrArg some (by kernel_rfl))
 f343:=Tryz.func324.trans (congrArg some (by kernel_rfl))
 t0:=Tryz.underlying0
 a0:=Tryz.isAgg0
 z0:=Tryz.sizeOf0
 v0:=Tryz.zeroValue0
 t3:=Tryz.underlying3
 a3:=Tryz.isAgg3
 z3:=Tryz.sizeOf3
 v3:=Tryz.zeroValue3
 t4:=Tryz.underlying4
 a4:=Tryz.isAgg4
 z4:=Tryz.sizeOf4
 v4:=Tryz.zeroValue4
 t5:=Tryz.underlying5
 a5:=Tryz.isAgg5
 z5:=Tryz.sizeOf5
 v5:=Tryz.zeroValue5
 t9:=Tryz.underlying9
 a9:=Tryz.isAgg9
 z9:=Tryz.sizeOf9
 v9:=Tryz.zeroValue9
 t28:=Tryz.underlying22
 a28:=Tryz.isAgg22
 z28:=Tryz.sizeOf22
 v28:=Tryz.zeroValue22
 t46:=Tryz.underlying228
 a46:=Tryz.isAgg228
 z46:=Tryz.sizeOf228
 v46:=Tryz.zeroValue228
 t51:=Tryz.underlying268
 a51:=Tryz.isAgg268
 z51:=Tryz.sizeOf268
 v51:=Tryz.zeroValue268
 t53:=Tryz.underlying270
 a53:=Tryz.isAgg270
 z53:=Tryz.sizeOf270
 v53:=Tryz.zeroValue270
 t131:=Tryz.underlying288
 a131:=Tryz.isAgg288
 z131:=Tryz.sizeOf288
 v131:=Tryz.zeroValue288
 t182:=Tryz.underlying292
 a182:=Tryz.isAgg292
 z182:=Tryz.sizeOf292
 v182:=Tryz.zeroValue292
 t183:=Tryz.underlying293
 a183:=Tryz.isAgg293
 z183:=Tryz.sizeOf293
 v183:=Tryz.zeroValue293
 t218:=Tryz.underlying319
 a218:=Tryz.isAgg319
 z218:=Tryz.sizeOf319
 v218:=Tryz.zeroValue319
 t222:=Tryz.underlying323
 a222:=Tryz.isAgg323
 z222:=Tryz.sizeOf323
 v222:=Tryz.zeroValue323
 t228:=Tryz.underlying362
 a228:=Tryz.isAgg362
 z228:=Tryz.sizeOf362
 v228:=Tryz.zeroValue362
 t229:=Tryz.underlying254
 a229:=Tryz.isAgg254
 z229:=Tryz.sizeOf254
 v229:=Tryz.zeroValue254 }
end Go.Proofs
namespace Go.Proofs.YtklclphfcibagaaGreat
open Go
def D5 (l:List Int):List (List AV):=l.map λ n=>[AV.I n]
theorem Src.body {P:Program} {f:FuncId} {af:DI} (s:Src P f af):∃ fn c,P.funcs[f]? = some fn/\fn.body=some c/\fn.name ≠ "runtime.NumGoroutine":=by
 obtain⟨_,fn,hf,hc,hn⟩:=s;unfold Jg at hc
 cases hb:fn.body with
 | none=>rw[hb] at hc;cases hc
 | some c=>exact⟨fn,c,hf,hb,hn⟩
theorem Yr (zs:List Int) (h0:zs≠[]) (hl:zs.length<4611686018427387904) :
  AK 136 [.rs 0 0 zs.length] [{ s:=1,rows:=D5 zs }] (.tup []) ([{ s:=1,rows:=D5 (zs.mergeSort λ x y=>decide (x<=y)) }].map some):=by
 refine⟨PQ.s.body,zz,λ T M w vs hv am hx hy=>?_⟩
 have hpos:0<zs.length:=Us.2 h0;obtain⟨an,hr⟩:=hy;have hm:=hr 0 zz
 simp only[U5] at hm
 have aq:vs = #[vs.getD 0 undef]:=by
  apply Array.ext
  .simpa using an
  .intro i h1 h2
   have:i=0:=by simp at h2;omega
   subst this;simp[Array.getD,h1]
 rw[aq];generalize vs.getD 0 undef=v at hm
 cases hm with
 | rs _ _ _ _ cap a g hg b3 b4 hn hb =>
 obtain⟨g',a0,ent⟩:=am.ent 0 _ rfl;rw[hg] at a0;obtain rfl:=Qj a0;have au:(D5 zs).length=zs.length:=by simp[D5]
 cases q:g.blk with
 | none =>
   have:=ent.none q;simp[D5] at this;exact absurd this h0
 | some b =>
 obtain⟨a1,c0,t0,f0,b5,b2⟩:=hb b q;obtain⟨cells,ty,hw,av,a2,hq⟩:=ent.blk (UX 0) b q
 have ha:a=some ⟨b,g.base+0*g.s,none⟩:=by
  rcases a1 with h | h
  .omega
  .exact h
 subst ha;simp only[Nat.zero_mul,Uk] at *
 have h9:∀ i,(hi:i<zs.length)->cells[g.base+i]? = some (.int .i64 zs[i]):=by
  intro i hi;obtain⟨u,hu,_,a3⟩:=hq i 0 (by rw[au];exact hi) zx
  simp only[Nat.mul_one,Uk] at hu;rw[hu];have:((D5 zs).getD i []).getD 0 .dead = .I zs[i]:=by simp[D5,List.getD,hi]
  rw[this] at a3
  cases a3;rfl
 have a4:b<w.heap.size:=(Q0.1 hw).1;refine(Any.slices_Sort_int Tryz.lays189 b g.base cap zs w ?_ a4 hl).mono ?_
 .intro j hj
  have hd:j<zs.length:=by simpa using hj
  constructor
  .show w.cell? _=_
   unfold World.cell?;simp only[hw];rw[h9 j hd];simp[hd]
  .unfold World.frozen?
   simp only[hw];simp
 .rintro e w' ⟨rfl,n,os,rfl⟩
  have a5:(zs.mergeSort λ x y=>decide (x<=y)).length=zs.length:=List.length_mergeSort zs;generalize (zs.mergeSort λ x y=>decide (x<=y))=ys at a5
  have hh:∀ b',b'<w.heap.size->(Go.Sort.grow (Go.Sort.putRow (Value.int .i64) (Go.Sort.ahead w n) b g.base ys.toArray) os).heap[b']? = if b'=b then some (.cells (Go.Sort.putCells (Value.int .i64) g.base ys.toArray cells) ty (0,0)) else w.heap[b']?:=by
   intro b' h7;have a6:(w.heap.modify b (Go.Sort.onCells (Go.Sort.putCells (Value.int .i64) g.base ys.toArray))).size=w.heap.size:=Array.size_modify;show ((w.heap.modify b (Go.Sort.onCells (Go.Sort.putCells (Value.int .i64) g.base ys.toArray)))++os)[b']? = _;rw[Ui (by rw[a6];exact h7),Array.getElem?_modify]
   by_cases h8:b=b'
   .subst h8
    rw[if_pos rfl,if_pos rfl,hw];rfl
   .rw [if_neg h8,if_neg (Ne.symm h8)]
  have a7:∀ o,(o<g.base∨g.base+ys.length<=o)->(Go.Sort.putCells (Value.int .i64) g.base ys.toArray cells)[o]? = cells[o]?:=by
   intro o ho;unfold Go.Sort.putCells;rw[Array.getElem?_mapIdx]
   cases hc:cells[o]? with
   | none=>rfl
   | some u =>
     simp only[Um];rw[if_neg];simp;omega
  have hs:∀ i,(hi:i<ys.length)->(Go.Sort.putCells (Value.int .i64) g.base ys.toArray cells)[g.base+i]? = some (.int .i64 ys[i]):=by
   intro i hi;unfold Go.Sort.putCells;rw[Array.getElem?_mapIdx,h9 i zy]
   simp only[Um];rw[if_pos zu]
   simp[hi]
  have a8:(Go.Sort.putCells (Value.int .i64) g.base ys.toArray cells).size=cells.size:=by
   unfold Go.Sort.putCells;exact Array.size_mapIdx
  have hf:w.heap.size<=(Go.Sort.grow (Go.Sort.putRow (Value.int .i64) (Go.Sort.ahead w n) b g.base ys.toArray) os).heap.size:=by
   show w.heap.size<=((w.heap.modify b _)++os).size;rw[UG,Array.size_modify];omega
  have a9:T b<=g.base:=by simpa using av
  generalize ht:(Go.Sort.grow (Go.Sort.putRow (Value.int .i64) (Go.Sort.ahead w n) b g.base ys.toArray) os)=w' at hh hf;have b0:∀ b' o,w.heap[b']? = some o->b'<w.heap.size:=λ b' o h=>(Q0.1 h).1
  have ag:A4 T w T w':=by
   refine⟨λ _=>Qg _,λ b' cs' ty' fz' h=>?_⟩;rw[hh b' (b0 _ _ h)]
   by_cases h8:b'=b
   .subst h8
    rw[hw] at h
    cases h;exact⟨_,_,if_pos rfl,a8,λ o ho=>a7 o (.inl zy)⟩
   .exact ⟨cs',fz',by rw[if_neg h8];exact h,rfl,λ _ _=>rfl⟩
  rw[MT];refine⟨_,T,M,rfl,.tup M [] #[] rfl (λ i hi=>by simp at hi),⟨λ id e he=>?_,λ id id' e e' g1 g2 b' h1 h2 h3 h4 h5 h6=>?_⟩,⟨λ b' h7=>?_,λ _ _ _=>rfl,λ _ _=>rfl,?_,?_,?_,hf,λ b' h7 b1=>?_,ag,λ k g1 b' hk ai _=>?_⟩⟩
  .have hid:id=0:=by
    cases id with
    | zero=>rfl
    | succ k=>simp[DR] at he
   subst hid;simp only[DR,List.getElem?_cons_zero,Qx] at he;subst he;refine⟨g,hg,⟨ent.s,Qh _,λ _ row hr=>?_,λ hn=>(by rw[q] at hn;cases hn),λ hz=>absurd hz (UX 0),λ _ b' h7=>?_⟩⟩
   .simp [D5] at hr
    obtain⟨x,_,rfl⟩:=hr;rfl
   .rw [q] at h7
    obtain rfl:=Qj h7;refine⟨_,ty,by rw[hh _ a4,if_pos rfl],by simpa using a9,by simp[D5,a8,a5];simpa [D5] using a2,λ i j hi hj=>?_⟩
    have hi':i<ys.length:=by simpa [D5] using hi
    have hd:j=0:=by simp at hj;omega
    subst hd;refine⟨.int .i64 ys[i],by simpa using hs i hi',rfl,?_⟩
    have:((D5 ys).getD i []).getD 0 .dead = .I ys[i]:=by simp[D5,List.getD,hi']
    rw[this];exact .sc _ _ rfl
  .have h0:∀ id e,DR [({ s:=1,rows:=D5 ys }:AX)] id=some e->id=0:=by
    intro id e he
    cases id with
    | zero=>rfl
    | succ k=>simp[DR] at he
   rw[h0 _ _ h1,h0 _ _ h2]
  .obtain ⟨c1,ty1,fz1,h1,h2⟩:=hv b' h7
   obtain⟨c2,fz2,h3,h4,_⟩:=ag.cell b' c1 ty1 fz1 h1;exact⟨c2,ty1,fz2,h3,zy⟩
  .rw [<- ht];rfl
  .rw [<- ht];rfl
  .rw [<- ht];rfl
  .rw [hh b' h7,if_neg]
   intro h8;exact b1 ⟨0,g,zz,hg,by rw[q,h8]⟩
  .rw [hx k hk] at ai
   cases ai
end Go.Proofs.YtklclphfcibagaaGreat
namespace Go.Proofs.YtklclphfcibagaaGreat
open Go Go.RowKit Go.Shelf Go.Maps Go.Sort
attribute [local go_sem] Oper.semAt_some
def JN:Go.Shelf.Ren:=⟨fun | 11=>299 | n=>n,fun | 0=>0 | 24=>22 | 26=>3 | 28=>249 | 33=>118 | n=>n,fun | n=>n⟩
theorem NK:SlLaysZI.n11 Tryz.prog JN:={
 mixed:=by kernel_rfl
 f11:=⟨Tryz.f299.name,zx,Tryz.func299.trans (congrArg some (by kernel_rfl))⟩
 t0:=Tryz.underlying0
 a0:=Tryz.isAgg0
 z0:=Tryz.sizeOf0
 v0:=Tryz.zeroValue0
 t24:=Tryz.underlying22
 a24:=Tryz.isAgg22
 z24:=Tryz.sizeOf22
 v24:=Tryz.zeroValue22
 t26:=Tryz.underlying3
 a26:=Tryz.isAgg3
 z26:=Tryz.sizeOf3
 v26:=Tryz.zeroValue3
 t28:=Tryz.underlying249
 a28:=Tryz.isAgg249
 z28:=Tryz.sizeOf249
 v28:=Tryz.zeroValue249
 i26:=by kernel_rfl
}
theorem dT {l:List Int} {k:Nat} (h:k<l.length):l.take (k+1)=l.take k++[l[k]]:=Ql h
theorem iH (F:Fence) (n:Nat) (h7:F.fn 272) (hro:F.round=none) (hn:1<=n) (l Bs B0 b off cap:Nat) (a:Option Addr) (zs:List Int) (ha:zs≠[]->a=some ⟨b,off,none⟩) (hreach:zs.length<=17592186044416) (J:List Int->World->Prop) (W:World) (hJ:∀ pre W1,J pre W1 -> ∀ j (h:j<zs.length),W1.cell? ⟨b,off+j,none⟩=some (.int .i64 zs[j])) (hY:∀ pre x W1,J pre W1->pre.length<zs.length->YieldAt F (n - 1) Tryz.prog l #[.int .i64 x] W1 λ e W'=>e = .returned (.bool true)/\J (pre++[x]) W'/\KeepsWalks W1 W') (hBs:W.cell? ⟨Bs,B0,none⟩=some (.slice a zs.length cap)) (h0:J [] W) :
  CallsIn F n Tryz.prog 272 #[.func (.yield l) #[] #[],.pointer (some ⟨Bs,B0,none⟩)] W λ e W'=>(∃ v,e = .returned v)/\J zs W':=by
 refine callsIn_of_wp Tryz.func272 rfl h7 ?_ hro;simp only[Tryz.ntmps272,Uc,QZ,U7,Nat.reduceAdd,Nat.reduceSub,Array.replicate_succ,Array.replicate_zero,List.push_toArray,List.append_toArray,UJ,UW]
 gi_wp2
 gi_loopw [7] (λ i wr=>∃ k:Nat,k<=zs.length/\i = .int .i64 k/\J (zs.take k) wr) (λ i _=>zs.length - (intOf i).toNat)
 case atStart=>exact⟨0,Qh _,rfl,by simpa using h0⟩
 case round =>
  obtain⟨k,hk,rfl,hJs⟩:=hrel
  by_cases hlt:k<zs.length
  .have hcx':wr.cell? ⟨b,off+k,none⟩=some (.int .i64 zs[k]):=hJ _ _ hJs k hlt
   obtain rfl:=ha (by rintro rfl;simp at hlt)
   obtain⟨fn,tmps,assign,body,hy,hR⟩:=hY _ zs[k] wr hJs (by rw[QB];omega)
   gi_wp2
   refine hR.mono ?_
   rintro e W3 ⟨rfl,hJ3,hk3⟩
   gi_wp2
   go_roundw
   case rel=>exact⟨k+1,zy,zz,by rw[dT hlt];exact hJ3⟩
   case measure=>simp[intOf];omega
  .obtain rfl:k=zs.length:=zy
   gi_wp2
   go_end0
   exact⟨⟨_,rfl⟩,by simpa using hJs⟩
theorem YO (F:Fence) (n:Nat) (h11:F.fn 299) (hFg:F.fn 272) (hro:F.round=none) (hn:2<=n) (Bs B0 b off cap:Nat) (a:Option Addr) (zs:List Int) (ha:zs≠[]->a=some ⟨b,off,none⟩) (hN:zs.length<=1099511627776) (w:World) (hBs:w.cell? ⟨Bs,B0,none⟩=some (.slice a zs.length cap)) (hBl:Bs<w.heap.size) (hbl:zs≠[]->b<w.heap.size) (hc:∀ j (h:j<zs.length),w.cell? ⟨b,off+j,none⟩=some (.int .i64 zs[j])) :
  CallsIn F n Tryz.prog 299 #[.slice none 0 0,.func (.func 272) #[] #[.pointer (some ⟨Bs,B0,none⟩)]] w λ e w'=>∃ v:Value,e = .returned v/\w'.ownsRow w.heap.size 3 1 v zs.length (zs.map encZ)/\Below w.heap.size w w':=by
 have h1:1<=n:=zy
 have hmax:zs.length<=maxLen:=by unfold maxLen;omega
 have L:=NK;have hne:(22:Nat)≠3:=zx
 have eg:∀ args w,(callFunc 272 args).run Tryz.prog w = .ok (.enter 272 args) w:=λ args w=>(enters_of Tryz.func272 (by kernel_rfl) rfl) args w
 refine callsIn_of_wp_marks Tryz.func299 rfl h11 ?_ hro;simp only[Tryz.ntmps299,Uc,QZ,U7,Nat.reduceAdd,Nat.reduceSub,Array.replicate_succ,Array.replicate_zero,List.push_toArray,List.append_toArray,UJ,UW]
 gi_wp2
 refine wpIn_rangeFunc ?_;intro fn hfn;rw[hro];obtain⟨W0,hW0⟩:∃ W0,w.alloc (.cells #[.slice none 0 0] 22)=W0:=⟨_,rfl⟩;have hs0:W0.heap.size=w.heap.size+1:=by rw[<- hW0];simp
 have hv0:W0.heap[w.heap.size]? = some (.cells #[.slice none 0 0] 22 (0,0)):=by rw[<- hW0];exact World.alloc_heap_new w _
 have hb0:Below w.heap.size w W0:=by rw[<- hW0];exact(Below.refl _ w).alloc (Qg _) _
 rw[hW0];obtain⟨sv,hsv⟩:∃ sv:Value,sv = .func (.func 272) #[] #[.pointer (some ⟨Bs,B0,none⟩)]:=⟨_,rfl⟩;rw[<- hsv];obtain⟨W1,hW1⟩:∃ W1,(W0.alloc (.deferred (some []))).alloc (.loop (AnyZI.apRec JN fn sv w.heap.size W0.heap.size .ready none))=W1:=⟨_,rfl⟩
 have hold:∀ k,k<W0.heap.size->W1.heap[k]? = W0.heap[k]?:=λ k hk=>by
  rw[<- hW1];exact(Below.heap_alloc _ _ k zu).trans (Below.heap_alloc _ _ k hk)
 have hb1:Below w.heap.size w W1:=by rw[<- hW1];exact(hb0.alloc hb0.size _).alloc (by have:=hb0.size;simp;omega) _
 have hs1:W1.heap.size=W0.heap.size+2:=by rw[<- hW1];simp
 have hM:AnyZI.ApAt JN w fn sv w.heap.size (W0.heap.size+1) W0.heap.size [] W1 :=
  ⟨⟨_,(hold w.heap.size zy).trans hv0,⟨rfl,.inl ⟨rfl,rfl⟩⟩,zz⟩,
   by rw[<- hW1];have:=World.alloc_heap_new (W0.alloc (.deferred (some []))) (.loop (AnyZI.apRec JN fn sv w.heap.size W0.heap.size .ready none));rwa [World.size_alloc] at this,
   by rw[<- hW1];exact(Below.heap_alloc _ _ _ zz).trans (World.alloc_heap_new W0 _),hb1⟩
 refine⟨W0.heap.size+1,[{ target:=.collected W0.heap.size,args:=#[] }],W1,{ target:=.fn (.func 272) #[.pointer (some ⟨Bs,B0,none⟩)],args:=#[.func (.yield (W0.heap.size+1)) #[] #[]] },W1,272,
  #[.func (.yield (W0.heap.size+1)) #[] #[]] ++ #[.pointer (some ⟨Bs,B0,none⟩)],W1,?_,?_,?_,?_,λ _=>h1,?_⟩
 .rw [<- hW1];exact run_enterLoop_outer _ _ _ _ _
 .rw [hsv];simp[resolve,go_sem]
 .intro f' hf';simp[Target.leads] at hf';subst hf';exact hFg
 .simp [invoke,go_sem,eg]
 .refine (iH F (n - 1) hFg hro zy (W0.heap.size+1) Bs B0 b off cap a zs ha zy (AnyZI.ApAt JN w fn sv w.heap.size (W0.heap.size+1) W0.heap.size) W1 (λ pre W' h' j hj=>(h'.below.cell (p:=⟨b,off+j,none⟩) (hbl (by rintro rfl;simp at hj))).trans (hc j hj))
   (λ pre x W hJ hl=>AnyZI.apYield { L with } F (n - 1 - 1) w fn hfn _ w.heap.size (W0.heap.size+1) W0.heap.size zy zy zy (Qg _) zy zs.length hmax zy pre x W hJ hl) ((hb1.cell (p:=⟨Bs,B0,none⟩) hBl).trans hBs) hM).mono ?_
  rintro e W2 ⟨⟨v0,rfl⟩,h2⟩
  obtain⟨v,hv,hrow,hnil⟩:=h2.box;have hend:=run_endLoop (P:=Tryz.prog) h2.L (by simp[AnyZI.apRec])
  obtain⟨W3,hW3⟩:∃ W3,W2.putObj (W0.heap.size+1) (.loop { AnyZI.apRec JN fn sv w.heap.size W0.heap.size .ready none with state:=.exhausted })=W3:=⟨_,rfl⟩;rw[hW3] at hend;have hg3:W2.grownBy W3 (some (W0.heap.size+1)):=by rw[<- hW3];exact grownBy_putObj_a _ _ _
  have hv3:W3.heap[w.heap.size]? = some (.cells #[v] 22 (0,0)):=by rw[<- hW3];exact(World.putObj_heap_other zy).trans hv
  have hK3:W3.heap[W0.heap.size]? = some (.deferred (some [])):=by rw[<- hW3];exact(World.putObj_heap_other zy).trans h2.K
  have hrow3:=hrow.kept hg3 (ownsRow_ne_a hrow h2.L (λ cur e=>by first | cases e | exact hne (Obj.cells.inj e).2.1))
  have hb3:Below w.heap.size w W3:=h2.below.grown hg3 h2.below.size (λ k e=>by cases e;omega)
  obtain⟨hc3,hf3⟩:=cell_of_box_a hv3
  clear hW3
  refine⟨none,W3,hend,?_⟩
  gi_wp2
  rw[<- hs0];refine⟨zz,.inl ⟨_,_,rfl,run_takeDeferred hK3,?_⟩⟩
  exact⟨_,results_tmp rfl _ _ _,v,rfl,hrow3.kept (grownBy_putObj_a _ _ _) (ownsRow_ne_a hrow3 hK3 (λ cur e=>by first | cases e | exact hne (Obj.cells.inj e).2.1)),hb3.grown (grownBy_putObj_a _ _ _) hb3.size (λ k e=>by cases e;omega)⟩
theorem Fz.refl {n:Nat} {T:Nat->Nat} {M:GM} {w:World} (q:HI T w) (u:∀ k,n<=k->M k=none):Fz n T M w T M w :=
 ⟨q,λ _ _ _=>rfl,λ _ _=>rfl,rfl,rfl,rfl,Qg _,λ _ _ _=>rfl,⟨λ _=>Qg _,λ _ cells _ fz h=>⟨cells,fz,h,rfl,λ _ _=>rfl⟩⟩,λ k g b hk h=>by rw[u k hk] at h;cases h⟩
theorem Jw {vs:Array Value} (h:vs.size=1):vs = #[vs.getD 0 undef]:=by
 apply Array.ext
 .simpa using h
 .intro i h1 h2
  have:i=0:=by simp at h2;omega
  subst this;simp[Array.getD,h1]
theorem NM (zs:List Int) (hl:zs.length<4611686018427387904) :
  AK 136 [.rs 0 0 zs.length] [{ s:=1,rows:=D5 zs }] (.tup []) ([{ s:=1,rows:=D5 (zs.mergeSort λ x y=>decide (x<=y)) }].map some):=by
 by_cases h0:zs=[]
 .subst h0
  refine⟨PQ.s.body,zz,λ T M w vs u h3 h1 h2=>?_⟩
  obtain⟨h4,hr⟩:=h2;have q:=hr 0 zz
  simp only[U5] at q;rw[Jw h4];generalize vs.getD 0 undef=v at q
  cases q with
  | rs _ _ _ _ cap a g hg h5 h6 hn hb =>
  refine(Any.slices_Sort_int_none Tryz.lays189 a cap w).mono ?_
  rintro e w' ⟨rfl,rfl⟩
  exact⟨_,T,M,rfl,.tup M [] #[] rfl (λ i hi=>by simp at hi),by rw[MT];simpa using h3,Fz.refl u h1⟩
 .exact Yr zs h0 hl
theorem CI {α β:Type} (f:α->β) (l:List α):List.take l.length (List.map f l)=List.map f l:=Qc zz
def BR (l:List Ed) (key:Int):List Int:=l.filterMap λ e=>if e.f=key then some e.t else none
theorem SK (l:List Ed) (key:Int) (k:Nat) (h:k<l.length):BR (l.take (k+1)) key=BR (l.take k) key++if l[k].f=key then [l[k].t] else []:=by
 unfold BR;rw[<- UH h,UF,List.filterMap_append]
 congr 1
 by_cases hc:l[k].f=key<;>simp[hc]
theorem NP (l:List Ed) (key:Int):(BR l key).length<=l.length:=List.length_filterMap_le _ _
theorem V9 (g:Gr) (key:Int) (hl:g.edges.length<=1099511627776):AK 120 [eG g,.I key] [] (.rs 0 0 (BR g.edges key).length) [some ⟨1,((BR g.edges key).mergeSort λ x y=>decide (x<=y)).map λ n=>[AV.I n],0⟩]:=by
 refine YU.s.ai ?_;refine AC (Ad ?_);refine AC (Ad ?_);refine AC (AC (Ad ?_));refine AI (Ag (ι:=Nat) (λ k=>⟨28,[(1,.I key),(5,.rs 16 0 (BR (g.edges.take k) key).length),(9,Cr g.edges),(10,.I g.edges.length),(11,.I k)],[(16,some ⟨1,(BR (g.edges.take k) key).map λ n=>[AV.I n],0⟩)],24⟩) (λ k=>k<=g.edges.length) (λ k=>g.edges.length - k) (0) ?_ (Le.lst [] [] [(16,1)] rfl zz zz zz zz zz zz zz (by simp[Up,BR]) (by simp[BR])) ?_)
 .simp
 rintro k hk
 have h1:(BR (g.edges.take k) key).length<=k:=QI (NP _ _) (by simp;exact Nat.min_le_left _ _)
 refine AC (Ad ?_);refine AC (AD _ rfl (λ h4=>?_) λ h4=>?_)
 .try simp at h4
  have q:=w6 (x:=(k:Int)+1);have h2:0<k->IntKind.i64.wrap ((k:Int) - 1)=((k - 1:Nat):Int):=λ h=>by rw[w6];omega
  have h3:k - 1<g.edges.length:=zy
  refine AE (AC (AI (arc ⟨28,[(1,.I key),(5,.rs 16 0 (BR (g.edges.take k) key).length),(7,.pv (eC g.edges[k])),(9,Cr g.edges),(10,.I g.edges.length),(11,.I k)],[(16,some ⟨1,(BR (g.edges.take k) key).map λ n=>[AV.I n],0⟩)],24⟩ ?_ ?_)))
  .simp [h4]
   exact Le.var1 16 [48] rfl rfl (AW rfl) zx rfl zw zz zz
  refine AC (Ad ?_);refine AD _ rfl (λ h6=>?_) λ h6=>?_
  .try simp at h6
   refine BA (s:=?s7) rfl ?o7 ?q7
   case o7 =>
    simp[List.replicate];refine⟨zy,zy,?_⟩
    rfl
   refine BA (s:=?s8) rfl ?o8 ?q8
   case o8=>simp[q];rfl
   have hs:=SK g.edges key k h4;rw[if_pos h6] at hs;refine⟨k+1,h4,zy,Le.ren1 88 16 [] rfl rfl (AW rfl) zx rfl (by simp[hs,AB,CI]) zz (by simp[hs])⟩
  try simp at h6
  refine AE (BA (s:=?s9) rfl ?o9 ?q9)
  case o9=>simp[q];rfl
  have hs:=SK g.edges key k h4;rw[if_neg h6,QK] at hs;refine⟨k+1,h4,zy,Le.var1 16 [] rfl rfl (AW rfl) zx rfl (by simp[hs,AB]) zz (by simp[hs])⟩
 try simp at h4
 have u:k=g.edges.length:=zy
 subst u;have h0:=NP g.edges key;refine Aa (Ab (AC (BA (s:=?s10) rfl ?o10 ?q10)))
 case o10 =>
  simp;refine BX (i:=16) rfl (e':=⟨1,D5 (BR g.edges key),0⟩) (by simp[D5,AB]) (NM (BR g.edges key) zy) zz zz ?_
  simp[D5,AB];rfl
 refine AC (Ad ?_);exact CD [16] []
@[simp] theorem pS {ρ:List (Nat × Nat)} {sn:List Nat} {h:Nat->Option AX} {n:Nat} {f:Fn} {a b:List AV}:conv ρ sn h (n+1) (.fn f a b) = .fn f (a.map (conv ρ sn h n)) (b.map (conv ρ sn h n)):=(rfl)
def D3 (n m:Int):Int:=if m<1 then 0 else n % m
theorem k8 {n m:Int} (hm:0<m):n.tmod m % m=n % m:=by
 have h:=Int.mul_tdiv_add_tmod n m
 conv=>rhs;rw[<- h]
 rw[Int.add_comm,Int.add_mul_emod_self_left]
theorem Za {n m:Int} (hm:0<m) : -m<n.tmod m/\n.tmod m<m:=⟨Int.lt_tmod_of_pos n hm,Int.tmod_lt_of_pos n hm⟩
def DK (L:List Int) (a:Nat) (n:Int):Int × Nat:=if h:a<L.length then (D3 L[a] n,a+1) else (0,a)
abbrev AS (L:List Int) (a:Nat):AX:=⟨2,[[AA L,.I a]],0⟩
theorem AG.k1 {rs:List (Nat × Option (Bool × Nat))} {st:St} {vs:List AV} {res:AV} {e:AX} (h1:F2 st rs=some vs) (hw:Wk (conv [(0,0)] [] st.hp 4 (EE vs)) res) (he:(st.hp 0).map (Ak [(0,0)] [] st.hp 4)=some e):AG rs 1 st res [some e] :=
 ⟨vs,h1,[],[],zx,zz,zz,hw,by simpa using he⟩
theorem SE (n m:Int) (hm:m<=9223372036854775807):AK 53 [.I n,.I m] [] (.I (D3 n m)) []:=by
 refine bH.s.ai ?_;refine AC (Ad ?_);refine AC (AC (Ad ?_));refine AD _ rfl (λ h3=>?_) λ h3=>?_
 .try simp at h3
  refine AC (Ad ?_);exact BG (AG.one (by simp[D3,h3]))
 try simp at h3
 have u:m≠0:=zy
 have q:¬ m<1:=zy
 obtain⟨t1,t2⟩:=Za (n:=n) (m:=m) zy
 have te:=k8 (n:=n) (m:=m) zy
 refine AE (AC (BA (s:=?s5) rfl ?o5 ?q5))
 case o5=>simp[u];rfl
 refine AC (AC (Ad ?_));refine AD _ rfl (λ h7=>?_) λ h7=>?_
 .try simp at h7
  have hw:=w6 (x:=n.tmod m+m);have hr:n % m=n.tmod m+m:=by rw[<- te,<- Int.add_emod_right,Int.emod_eq_of_lt zy zy]
  refine BA (s:=?s8) rfl ?o8 ?q8
  case o8=>simp[hw];rfl
  refine AC (Ad ?_);exact BG (AG.one (by simp[D3,q,hr]))
 try simp at h7
 have hr:n % m=n.tmod m:=by rw[<- te,Int.emod_eq_of_lt zy zy]
 refine AE (AC (Ad ?_));exact BG (AG.one (by simp[D3,q,hr]))
theorem XW (L:List Int):AK 39 [AA L] [] (.pt 0 0 0) [some (AS L 0)]:=by
 refine gB.s.ai ?_;refine AC (Ad ?_);refine AC (Ad ?_);exact CD [40] []
theorem MD (L:List Int) (a:Nat) (n:Int) (hl:L.length<=1099511627776) (ha:a<=L.length) (hn:n<=9223372036854775807):AK 19 [.pt 0 0 0,.I n] [AS L a] (.I (DK L a n).1) [some (AS L (DK L a n).2)]:=by
 refine YI.s.ai ?_;refine AC (Ad ?_);refine AC (AC (IC (s:=?s2) (tr:=?t2) rfl ?o2 ?r2 ?q2))
 case o2=>simp;constructor<;>rfl
 case r2=>rfl
 refine AD _ rfl (λ h3=>?_) λ h3=>?_
 .try simp at h3
  refine AC (Ad ?_);refine AO ?_;have hr:DK L a n=(0,a):=by unfold DK;rw[dif_neg zy]
  rw[hr];exact⟨.inr rfl,AG.k1 rfl zz zw⟩
 try simp at h3
 have hw:=w6 (x:=(a:Int)+1);have q:=w6 (x:=(a:Int));refine AE (AC (BA (s:=?s5) rfl ?o5 ?q5))
 case o5=>simp[hw];rfl
 refine AC (IC (s:=?s6) (tr:=?t6) rfl ?o6 ?r6 ?q6)
 case o6=>simp[q,h3];refine AT (SE _ _ hn) rfl ?_;simp;constructor<;>rfl
 case r6=>rfl
 refine AO ?_;have hr:DK L a n=(D3 L[a] n,a+1):=by unfold DK;rw[dif_pos h3]
 rw[hr];exact⟨.inr rfl,AG.k1 rfl zz zw⟩
variable {n:Int}
theorem Rz {m:Int} (hm:0<m):0<=D3 n m/\D3 n m<m:=by
 unfold D3;rw[if_neg zy]
 exact⟨Int.emod_nonneg _ zy,Int.emod_lt_of_pos _ hm⟩
theorem Mu {L:List Int} {a:Nat} (hn:0<n):0<=(DK L a n).1/\(DK L a n).1<n:=by
 unfold DK;split
 .exact Rz hn
 .exact ⟨Vb _,hn⟩
theorem LU {L:List Int} {a:Nat} (ha:a<=L.length):(DK L a n).2<=L.length:=by
 unfold DK;split
 .simp only;omega
 .exact ha
def KC (L:List Int) (a:Nat) (l:List Int):Int:=l.getD (DK L a l.length).1.toNat 0
theorem fZ (L:List Int) (a:Nat) (n:Int) (hl:L.length<=1099511627776) (ha:a<=L.length) (q:0<=n) (hn:n<=9223372036854775807):AK 75 [.pt 0 0 0,.I n] [AS L a] (.B (decide ((DK L a n).1=n - 1))) [some (AS L (DK L a n).2)]:=by
 refine ZJ.s.ai ?_;have hw:=w6 (x:=n - 1);refine AC (Ad ?_);refine AC (BA (s:=?s2) rfl ?o2 ?q2)
 case o2 =>
  simp;refine BX (i:=0) rfl (e':=AS L a) zz (MD L a n hl ha hn) zz zz ?_
  simp[hw];rfl
 refine AO ?_;exact⟨.inr rfl,AG.k1 rfl (by simp<;>exact An rfl) zz⟩
theorem ZU (L:List Int) (a:Nat) (l:List Int) (hl:L.length<=1099511627776) (ha:a<=L.length) (h0:0<l.length) (h1:l.length<=1099511627776):AK 26 [.pt 0 0 0,AA l] [AS L a] (.I (KC L a l)) [some (AS L (DK L a l.length).2)]:=by
 refine Wb.s.ai ?_
 obtain⟨q,hq,u⟩:∃ q:Nat,(DK L a l.length).1=q/\q<l.length:=by
  have:=Mu (L:=L) (a:=a) (n:=l.length) zy
  exact⟨(DK L a l.length).1.toNat,zy,zy⟩
 have ho:KC L a l=l[q]:=by unfold KC;rw[hq];simp[u]
 refine AC (Ad ?_);refine AC (BA (s:=?s2) rfl ?o2 ?q2)
 case o2 =>
  simp;refine BX (i:=0) rfl (e':=AS L a) zw (MD L a l.length hl ha zy) zz zz ?_
  simp[hq,u,AB];rfl
 refine AO ?_;rw[ho];exact⟨.inr rfl,AG.k1 rfl zz zw⟩
theorem Ah.lt {g:Gr} (h:Ah g):∀ (j i:Nat) (hi:i<g.edges.length) (hj:j<g.edges.length),i<j->EU g.edges[i] g.edges[j]
 | 0,_,_,_,h0=>zy
 | j+1,i,hi,hj,hij=>by
   have h1:EU g.edges[j] g.edges[j+1]:=Ka.1 ((h.2 (j+1) hj).2.2.2 zy)
   rcases Ua i j with h2 | h2
   .have h3:=Ah.lt h j i hi zy h2
    unfold EU at *;omega
   .obtain rfl:i=j:=zy
    exact h1
theorem Ah.mono {g:Gr} (h:Ah g) (e:Ed):∀ (i j:Nat) (hi:i<g.edges.length) (hj:j<g.edges.length),i<=j->EU g.edges[j] e->EU g.edges[i] e:=by
 intro i j hi hj hij hb;rcases Ua i j with h2 | h2
 .have h3:=h.lt j i hi hj h2
  unfold EU at *;omega
 .obtain rfl:i=j:=zy
  exact hb
section
variable {P:Program} {np id:Nat} {h:Nat->Option AX} {K:AV->List Nat->List (Nat × Option AX)->Prop} {f:FuncId} {first aA args aB:List AV} {res:AV}
theorem Hh {i j:Nat} {e e' ej:AX} {hs':List (Option AX)} (hij:j≠i) (q:np<=j) (hi:h i=some e) (hj:h j=some ej) (u:Ak [(i,0)] [j] h 4 e=e') (hc:Cq P f aB [e'] res hs') (h8:hs'.length<=9) (he:(first++args++aA).map (conv [(i,0)] [j] h 4)=aB) (hk:K (conv (Cc [i] id) [] (λ _=>none) 4 res) [i,j] ((hs'.zipIdx.map λ (e,k)=>((i::(List.range 8).map (id + ·)).getD k 0,e.map (Ak (Cc [i] id) [] (λ _=>none) 4)))++[(j,some { ej with ro:=ej.rows.length })])):aK P np id .call (.fn (.func f) first aA::args) h K :=
 ⟨[i],[j],true,aB,[e'],res,hs',zz,by simpa using hij,by simpa using q,by rw[show [i].zipIdx=[(i,0)] from rfl,he];exact FW _,by rw[show [i].zipIdx=[(i,0)] from rfl];simpa [hi] using u,hc,by simpa using h8,.inl rfl,by simpa [Cc,hj] using hk⟩
end
theorem Av.eq {nl:List (Nat × Nat)} {e e':AX} (h:e=e') (hr:e'.ro<=e'.rows.length):Av nl e e':=by
 subst h;exact Av.rfl' hr
theorem Av.row {nl:List (Nat × Nat)} {s ro:Nat} {e:AX} {r r':List AV} (h:e=⟨s,[r],ro⟩) (hr:ro<=1) (hu:El nl r r') (hs:s≠0:=by decide):Av nl e ⟨s,[r'],ro⟩:=by
 subst h;refine⟨rfl,Qg _,hr,.inr ⟨hs,rfl,λ i=>?_⟩⟩
 match i with
 | 0=>exact hu
 | _+1=>exact trivial
theorem Le.ents {np:Nat} {st st':St} (ρ:List (Nat × Nat)) (sn:List Nat) (u:st'.sz=st.sz) (h0:(ρ.map (·.1)).Nodup) (h1:(ρ.map (·.2)).Nodup) (h2:∀ p∈ρ,p.2<st'.n/\(p.2<np->p.1=p.2)) (h4:∀ i∈sn,np<=i/\i∉ρ.map (·.1)) (h5:np<=st'.n) (ht:∀ p∈st'.t,Wk (conv ρ sn st.hp 4 (st.get p.1)) p.2) (hh:∀ p∈st'.h,∃ q e e',p.2=some e'/\(q,p.1)∈ρ/\st.hp q=some e/\Av [] (Ak ρ sn st.hp 4 e) e'):Le np st st' :=
 Le.lst ρ sn [] u h0 h1 h2 zz h4 h5 zz (λ p hp=>.inl (ht p hp)) λ p hp e' h6=>by
  obtain⟨q,e,e2,h1,h2,h3,h4⟩:=hh p hp;rw[h6] at h1
  cases h1;exact .inl ⟨(q,p.1),h2,rfl,e,h3,h4⟩
theorem YY (L:List Int) (a:Nat) (n:Int) (hl:L.length<=400) (ha:a<=L.length) (hn:n<=9223372036854775807):AK 19 [.pt 0 0 0,.I n] [AS L a] (.I (DK L a n).1) [some (AS L (DK L a n).2)]:=MD L a n zy ha hn
abbrev zG:AX:=⟨3,[[.I 0,.nilS,.nilS]],0⟩
def Gg (aA:List AV):Prop:=∀ ρ sn h n,aA.map (conv ρ sn h (n+1))=aA
def CR {α:Type} (l:List α) (q:α->Bool):Int:=if l.findIdx q<l.length then (l.findIdx q:Int) else -1
theorem N8 {α:Type} {l:List α} {q:α->Bool} {k:Nat} (hk:k<l.length) (h1:∀ i,i<k -> ∀ h:i<l.length,q l[i]=false) (h2:q l[k]=true):CR l q=k:=by
 have:l.findIdx q=k:=by
  rw[List.findIdx_eq hk];exact⟨h2,λ j hj=>by simpa using h1 j hj zy⟩
 unfold CR;rw[this,if_pos hk]
theorem OS {α:Type} {l:List α} {q:α->Bool} (h1:∀ i,i<l.length -> ∀ h:i<l.length,q l[i]=false):CR l q = -1:=by
 have:l.findIdx q=l.length:=by
  rw[List.findIdx_eq_length];intro x hx;obtain⟨i,hi,rfl⟩:=Qr.1 hx;exact h1 i hi hi
 unfold CR;rw[this,if_neg zy]
theorem i7 (f:FuncId) (aA:List AV) (q:Ed->Bool) (l:List Ed) (hl:l.length<=1099511627776) (hs:Gg aA) (hc:∀ e∈l,AK f (eE e::aA) [] (.B (q e)) []):AK 240 [Cr l,.fn (.func f) [] aA] [] (.I (CR l q)) []:=by
 have h5:∀ ρ sn h,aA.map (conv ρ sn h 2)=aA:=λ _ _ _=>hs _ _ _ 1
 have u:∀ ρ sn h,aA.map (conv ρ sn h 3)=aA:=λ _ _ _=>hs _ _ _ 2
 have h1:∀ ρ sn h,aA.map (conv ρ sn h 4)=aA:=λ _ _ _=>hs _ _ _ 3
 refine XX.s.ai ?_;refine AC (Ad ?_);refine AC (AC (Ad ?_));refine AI (Ag (ι:=Nat) (λ k=>⟨19,[(0,Cr l),(1,.fn (.func f) [] aA),(7,.I l.length),(8,.I k)],[],16⟩) (λ k=>k<=l.length /\ ∀ i,i<k -> ∀ h:i<l.length,q l[i]=false) (λ k=>l.length - k) (0) ?_ (AM [] (by simp[u])) ?_)
 .simp
 rintro k ⟨hk,hp⟩
 refine AC (Ad ?_);refine AC (AD _ rfl (λ h4=>?_) λ h4=>?_)
 .try simp at h4
  have h2:=w6 (x:=(k:Int)+1);have h3:=hc l[k] (Qi h4);refine AE (AC (AI (AC (BA (s:=?s5) rfl ?o5 ?q5))))
  case o5=>simp[h4];rfl
  refine AC (BA (s:=?s6) rfl ?o6 ?q6)
  case o6 =>
   simp[h4];refine AT h3 ?_ ?_
   .simp [h1]
   simp;rfl
  refine AD _ rfl (λ h7=>?_) λ h7=>?_
  .try simp at h7
   refine AC (Ad ?_);exact BG (AG.one (by simp[N8 h4 hp h7]))
  try simp at h7
  refine AE (BA (s:=?s9) rfl ?o9 ?q9)
  case o9=>simp[h2];rfl
  refine⟨k+1,⟨h4,λ i hi=>?_⟩,zy,AM [] (by simp[u])⟩
  rcases QN.1 hi with h | rfl
  .exact hp i h
  .exact λ _=>h7
 try simp at h4
 have h0:∀ i,i<l.length -> ∀ h:i<l.length,q l[i]=false:=λ i hi=>hp i zy
 refine Aa (Ab (AC (Ad ?_)));exact BG (AG.one (by simp[OS h0]))
abbrev CE (l:List Ed):List (List AV):=l.map λ e=>[AV.I e.f,AV.I e.t,AV.I e.v]
theorem VK {l:List Ed} {q:Ed->Bool} (h:∀ i,i<l.length -> ∀ h:i<l.length,q l[i]=false):l.filter (λ e=>!q e)=l:=by
 rw[List.filter_eq_self];intro x hx;obtain⟨i,hi,rfl⟩:=Qr.1 hx;simp[h i hi hi]
theorem RN (l:List Ed) (q:Ed->Bool) (j:Nat) (h:j<l.length):(l.take (j+1)).filter (λ e=>!q e)=(l.take j).filter (λ e=>!q e)++if q l[j]=true then [] else [l[j]]:=by
 rw[<- UH h,UF,Q3]
 congr 1
 cases hq:q l[j]<;>simp[hq]
theorem XJ (f:FuncId) (aA:List AV) (q:Ed->Bool) (l:List Ed) (n m:Nat) (hn:l.length=n) (hm:(l.filter λ e=>!q e).length=m) (hl:n<=1099511627776) (hs:Gg aA) (hc:∀ e∈l,AK f (eE e::aA) [] (.B (q e)) []) :
  AK 173 [.rs 0 0 n,.fn (.func f) [] aA] [⟨3,CE l,0⟩] (.rs 0 0 m) [some ⟨3,CE (l.filter λ e=>!q e)++List.replicate (n - m) [.I 0,.I 0,.I 0],0⟩]:=by
 have h4:∀ ρ sn h,aA.map (conv ρ sn h 2)=aA:=λ _ _ _=>hs _ _ _ 1
 have h6:∀ ρ sn h,aA.map (conv ρ sn h 3)=aA:=λ _ _ _=>hs _ _ _ 2
 have h7:∀ ρ sn h,aA.map (conv ρ sn h 4)=aA:=λ _ _ _=>hs _ _ _ 3
 refine kD.s.ai ?_;have hy:m<=n:=by rw[<- hm,<- hn];exact QO _ _
 apply ak [0,1] [0] 24
 .simp
  rfl
 apply ak [0,1,5] [0] 56
 .simp
  refine G9 [0] (i7 f aA q l zy hs hc) ?_ (.sc _) ?_
  .simp [h4,h6,h7,<- hn,AB,CI]
  simp;rfl
 refine AC (arc ⟨42,[(0,.rs 0 0 n),(1,.fn (.func f) [] aA),(5,.I (CR l q)),(12,.B (decide (CR l q = -1)))],[(0,some ⟨3,CE l,0⟩)],72⟩ ?_ ?_)
 .simp
  exact Le.keep rfl (Qg _) (by simp<;>rw[Qk]<;>simp) zz
 refine AD _ rfl (λ h=>?_) λ h=>AE ?_
 .simp only[Qb] at h
  have hh:∀ i,i<l.length -> ∀ h:i<l.length,q l[i]=false:=by
   intro i hi _;unfold CR at h;split at h
   .omega
   .rename_i hz
    have:l.findIdx q=l.length:=by have:=List.findIdx_le_length (xs:=l) (p:=q);omega
    rw[List.findIdx_eq_length] at this;exact this _ (Qi hi)
  have hf:=VK hh;rw[hf] at hm ⊢;obtain rfl:n=m:=zy
  refine AC (Ad ?_);refine AO ⟨.inr rfl,⟨[.rs 0 0 n],rfl,[],[],by simp[List.range,List.range.loop],zz,zz,?_,?_⟩⟩
  .simp [List.range,List.range.loop]
  .simp [List.range,List.range.loop,AB]
 simp only[Qd] at h
 obtain⟨i0,hi0,h1,hb,hk⟩:∃ i0:Nat,CR l q=i0/\i0<l.length/\(∀ i,i<i0 -> ∀ h:i<l.length,q l[i]=false) /\ ∀ h:i0<l.length,q l[i0]=true:=by
  unfold CR at h ⊢;split at h
  .rename_i h1
   refine⟨l.findIdx q,by rw[if_pos h1],h1,λ i hi _=>?_,λ h=>List.findIdx_getElem (w:=h)⟩
   simpa using List.not_of_lt_findIdx hi
  .omega
 rw[hi0]
 have h8:(l.take (i0+1)).filter (λ e=>!q e)=l.take i0:=by
  rw[RN l q i0 h1,if_pos (hk h1),QK];refine VK λ i hi h=>?_;rw[QB] at hi;simp only[Uv];exact hb i zy zy
 have ho:=wq (k:=i0)
 let C:Nat × List Ed->St:=λ p=>⟨42,[(0,.rs 0 0 n),(1,.fn (.func f) [] aA),(5,.I ((l.take p.1).filter λ e=>!q e).length),(6,.I p.1)],[(0,some ⟨3,CE ((l.take p.1).filter (λ e=>!q e)++p.2++l.drop p.1),0⟩)],96⟩
 refine AC (BE (C (i0+1,[l[i0]])) rfl ?_ ?_)
 .simp [ho]
  refine Le.keep rfl (Qg _) ?_ ?_
  .simp only[C,h8]
   simp;omega
  .simp only[C,h8]
   simp
 refine AI (Ag C (λ p:Nat × List Ed=>p.1<=n/\p.2≠[]/\((l.take p.1).filter λ e=>!q e).length+p.2.length=p.1) (λ p:Nat × List Ed=>n - p.1) (i0+1,[l[i0]]) ?_ (Le.refl _ _) ?_)
 .simp only[h8]
  simp;omega
 rintro⟨j,M⟩ ⟨hj,hM,h0⟩
 simp only at hj hM h0 ⊢;obtain⟨A,hA⟩:=AL ((l.take j).filter λ e=>!q e);rw[<- hA] at h0;have hC:C (j,M)=⟨42,[(0,.rs 0 0 n),(1,.fn (.func f) [] aA),(5,.I A.length),(6,.I j)],[(0,some ⟨3,CE (A++M++l.drop j),0⟩)],96⟩:=by subst hA;rfl
 rw[hC];refine AC (arc ⟨42,[(0,.rs 0 0 n),(1,.fn (.func f) [] aA),(5,.I A.length),(6,.I j),(19,.B (decide (j<n)))],[(0,some ⟨3,CE (A++M++l.drop j),0⟩)],128⟩ ?_ ?_)
 .simp
  exact BD
 refine AD _ rfl (λ h=>AE ?_) λ h=>Aa (Ab ?_)
 .simp only[Qb] at h
  have h2:j<l.length:=zy
  match M,hM,h0 with
  | m0::M1,_,h0 =>
  simp only[QZ] at h0;have u:=RN l q j h2;rw[<- hA] at u
  have he:(CE (A++m0::M1++l.drop j))[j]? = some [AV.I l[j].f,AV.I l[j].t,AV.I l[j].v]:=by
   rw[QG,Qt zu,Ub,show j+(j - (A++m0::M1).length)=j by simp;omega,Qa h2]
   rfl
  have h9:(CE (A++m0::M1++l.drop j))[A.length]? = some [AV.I m0.f,AV.I m0.t,AV.I m0.v]:=by
   rw[QG,Qq,Qt zy]
   simp
  have hg:(CE (A++m0::M1++l.drop j)).set A.length [AV.I l[j].f,AV.I l[j].t,AV.I l[j].v]=CE ((A++[l[j]])++(M1++[l[j]])++l.drop (j+1)):=by
   have e1:l.drop j=l[j]::l.drop (j+1):=QX h2;rw[e1];simp[CE,List.set_append]
  have ha:A++m0::M1++l.drop j=A++(m0::M1++[l[j]])++l.drop (j+1):=by
   have e1:l.drop j=l[j]::l.drop (j+1):=QX h2;rw[e1];simp
  generalize h3:CE (A++m0::M1++l.drop j)=R at *;have a0:R.length=n:=by rw[<- h3];simp;omega
  have hq:=hc l[j] (Qi h2);generalize hv:l[j]=v at *
  refine Bn (ι:=List Ed × List Ed) (λ p=>⟨42,[(0,.rs 0 0 n),(1,.fn (.func f) [] aA),(5,.I p.1.length),(6,.I j)],[(0,some ⟨3,CE (p.1++p.2++l.drop (j+1)),0⟩)],272⟩)
   (λ p=>p.1=(l.take (j+1)).filter (λ e=>!q e)/\p.2≠[]/\p.1.length+p.2.length=j+1) ?_ ?_
  .refine AI (arc ⟨42,[(0,.rs 0 0 n),(1,.fn (.func f) [] aA),(5,.I A.length),(6,.I j),(7,.pt 160 0 0)],[(0,some ⟨3,R,0⟩),(160,some ⟨3,[[.I v.f,.I v.t,.I v.v]],0⟩)],176⟩ ?_ ?_)
   .simp [h,he]
    exact BD
   refine arc ⟨42,[(0,.rs 0 0 n),(1,.fn (.func f) [] aA),(5,.I A.length),(6,.I j),(7,.pt 160 0 0),(29,.B (!q v))],[(0,some ⟨3,R,0⟩),(160,some ⟨3,[[.I v.f,.I v.t,.I v.v]],0⟩)],208⟩ ?_ ?_
   .simp
    refine AT hq ?_ ?_
    .simp [h4,h6,h7]
    simp;exact BD
   refine AD _ rfl (λ h5=>?_) λ h5=>AE ?_
   .simp only[U0] at h5
    rw[h5] at u;refine arc ⟨42,[(0,.rs 0 0 n),(1,.fn (.func f) [] aA),(5,.I A.length),(6,.I j)],[(0,some ⟨3,CE ((A++[v])++(M1++[v])++l.drop (j+1)),0⟩)],248⟩ ?_ ?_
    .simp [h9,show A.length<n by omega,AZ,hg]
     exact BD
    have hr:IntKind.i64.wrap ((A.length:Int)+1)=((A.length+1:Nat):Int):=by rw[w6];omega
    refine AU rfl ?_;simp[hr];refine⟨A++[v],M1++[v],⟨by rw[u];simp,zz,zu⟩,BD⟩
   .simp only[Bool.not_eq_false'] at h5
    rw[h5] at u;refine⟨(A,m0::M1++[v]),⟨by rw[u];simp,zz,zu⟩,Le.keep rfl (AW rfl) zz ?_⟩
    rw[<- ha,h3];simp
  rintro⟨A',M'⟩ ⟨p1,p2,p3⟩
  simp only at p1 p2 p3 ⊢;have hu:=wq (k:=j);refine AU rfl ?_;simp[hu];refine⟨j+1,M',⟨zy,p2,by rw[<- p1];omega⟩,zy,?_⟩
  have hD:C (j+1,M')=⟨42,[(0,.rs 0 0 n),(1,.fn (.func f) [] aA),(5,.I A'.length),(6,.I ((j+1:Nat):Int))],[(0,some ⟨3,CE (A'++M'++l.drop (j+1)),0⟩)],96⟩:=by rw[p1]
  rw[hD];refine Le.ents [(0,0)] [] rfl zz zz zz zz zz (by simp[h4,h6,h7]) λ p hp=>?_
  simp at hp;subst hp;exact⟨0,_,_,rfl,zz,rfl,Av.eq zw zz⟩
 simp only[Qd] at h;obtain rfl:j=n:=zy
 have hd:l.drop j=[]:=Q4 zy
 have ht:l.take j=l:=Qc zy
 rw[ht] at hA;rw[hd,QK];rw[<- hA] at hm ⊢;subst hm;have hw:(CE (A++M)).take A.length=CE A:=by simp[CE]
 have hx:(CE (A++M)).drop (A.length+(j - A.length))=[]:=Q4 zu
 have a1:(CE (A++M)).length=j:=zu
 generalize CE (A++M)=R at *;refine arc ⟨42,[(0,.rs 0 0 j),(5,.I A.length)],[(0,some ⟨3,CE A++List.replicate (j - A.length) [.I 0,.I 0,.I 0],0⟩)],160⟩ ?_ ?_
 .simp
  refine⟨zy,zy,?_⟩
  rw[hw,hx];exact BD
 refine AC (BA (s:=?s2) rfl ?o2 ?q2)
 case o2 =>
  simp;refine⟨zy,?_⟩
  rfl
 refine AO ⟨.inr rfl,⟨[.rs 0 0 A.length],rfl,[],[],by simp[List.range,List.range.loop],zz,zz,?_,?_⟩⟩
 .simp [List.range,List.range.loop]
 .simp [List.range,List.range.loop,AB]
def Ao (g:Gr) (v:Int):Gr:=⟨g.size,g.edges.filter λ e=>!decide (e.v<v),g.gone⟩
theorem cN (e:Ed) (v:Int):AK 174 [eE e,.pv [.I v]] [] (.B (decide (e.v<v))) []:=by
 refine d6.s.ai ?_;refine ar [1,2] [] [16] 16 ?_;refine AC (Ad ?_);exact Bv
theorem Nh (g:Gr) (v:Int) (hl:g.edges.length<=1099511627776) (h0:g.gone.length<=1099511627776):AK 117 [eG g,.I v] [] (eG (Ao g v)) []:=by
 refine Zy.s.ai ?_;obtain⟨E,hE⟩:=AL (g.edges.filter λ e=>!decide (e.v<v));have h1:E.length<=g.edges.length:=by rw[hE];exact QO _ _
 have q:=XJ 174 [.pv [.I v]] (λ e=>decide (e.v<v)) g.edges g.edges.length E.length rfl (by rw[hE]) hl (λ ρ sn h n=>zz) (λ e _=>cN e v)
 rw[<- hE] at q;have u:Ao g v=⟨g.size,E,g.gone⟩:=by rw[hE];rfl
 rw[u];refine arc ⟨14,[(2,.pv (gC g)),(3,.pt 24 0 0),(4,.pt 32 0 0)],[(24,some ⟨1,[[.I v]],0⟩),(32,some zG)],40⟩ ?_ ?_
 .simp
  refine Le.ents [(24,24),(32,32)] [16] rfl zz zz zz zz zz zz λ p hp=>?_
  simp at hp;rcases hp with rfl | rfl
  .exact ⟨24,_,_,rfl,zz,rfl,Av.eq zz zz⟩
  .exact ⟨32,_,_,rfl,zz,rfl,Av.eq zz zz⟩
 apply ak [3,4,5] [24,32,56,48,49] 72
 .simp
  refine Po (Ym g zy zy) rfl ?_
  simp[AB];rfl
 apply ak [4,5] [32,56,48,49] 120
 .simp
  refine Hh (i:=48) (j:=24) zx (Qh _) rfl rfl ?_ q zz ?_ ?_
  .simp [AB]
  .simp
  simp[AB];rfl
 refine AC (Ad ?_);refine AO ⟨.inr rfl,?_⟩;show AG [(4,some (true,3))] 0 _ _ _;refine AG.out (vs:=[.agg [.I g.size,.rs 48 0 E.length,.rs 49 0 g.gone.length]]) [] [48,49] zz zz zz ?_ zz
 simp[AB,CI]
theorem iV (l:List Ed) (v:Int) (k:Nat) (h:k<l.length):(l.take (k+1)).filter (λ e=>!decide (e.v<v))=(l.take k).filter (λ e=>!decide (e.v<v))++if v<=l[k].v then [l[k]] else []:=by
 rw[<- UH h,UF,Q3]
 congr 1
 by_cases hq:v<=l[k].v
 .have:¬ l[k].v<v:=zy
  simp[hq,this]
 .have:l[k].v<v:=zy
  simp[hq,this]
theorem Ns (g:Gr) (v:Int) (hl:g.edges.length<=1099511627776) (h4:g.gone.length<=1099511627776):AK 50 [eG g,.I v] [] (eG (Ao g v)) []:=by
 refine kG.s.ai ?_;refine arc ⟨36,[(1,.I v),(2,.pv (gC g)),(4,.pt 24 0 0)],[(24,some zG)],32⟩ ?_ ?_
 .simp
  refine Le.ents [(24,24)] [16] rfl zz zz zz zz zz zz λ p hp=>?_
  simp at hp;subst hp;exact⟨24,_,_,rfl,zz,rfl,Av.eq zz zz⟩
 apply ak [1,2,4,5] [24,48,40,41] 64
 .simp
  refine Po (Zx g zy zy) rfl ?_
  simp[AB];rfl
 refine arc ⟨36,[(1,.I v),(2,.pv (gC g)),(4,.pt 24 0 0),(5,.pt 48 0 0)],[(24,some zG),(48,some ⟨3,[[.I g.size,.nilS,AA g.gone]],0⟩)],80⟩ ?_ ?_
 .simp
  refine Le.ents [(24,24),(48,48)] [41] rfl zz zz zz zz zz zz λ p hp=>?_
  simp at hp;rcases hp with rfl | rfl
  .exact ⟨24,_,_,rfl,zz,rfl,Av.eq zz zz⟩
  .exact ⟨48,_,_,rfl,zz,rfl,Av.eq (by simp[AZ,AB,CI]) zz⟩
 refine AC ?_;apply ak [1,2,4,5,6] [24,48] 88
 .simp
  rfl
 refine AI ?_
 let F:Nat->List Ed:=λ k=>(g.edges.take k).filter λ e=>!decide (e.v<v)
 let C:Nat->St:=λ k=>⟨36,[(1,.I v),(2,.pv (gC g)),(4,.pt 24 0 0),(5,.pt 48 0 0),(6,.I k)],[(24,some zG),(48,some ⟨3,[[.I g.size,.rs 16 0 (F k).length,AA g.gone]],0⟩),(16,some ⟨3,CE (F k),0⟩)],88⟩
 refine Ag C (λ k=>k<=g.edges.length) (λ k=>g.edges.length - k) 0 (Qh _) ?_ ?_
 .refine Le.lst [(24,24),(48,48)] [] [(16,3)] rfl zz zz (by simp[C]) (by simp[C]) zz zz zz (by simp[C,Up]) λ p hp e' q=>?_
  simp[C] at hp;rcases hp with rfl | rfl | rfl
  .cases q
   exact .inl ⟨(24,24),zz,rfl,_,rfl,Av.eq zz zz⟩
  .cases q
   refine .inl ⟨(48,48),zz,rfl,_,rfl,Av.row (by simp;rfl) zz ?_⟩
   exact⟨.inl (.refl _),.inr ⟨rfl,16,3,by simp[F],zz⟩,.inl (.refl _),trivial⟩
  .cases q
   exact .inr ⟨zz,by simp[F],rfl⟩
 intro k hk
 have h6:(F k).length<=k:=by
  have h1:(F k).length<=(g.edges.take k).length:=QO _ _;simp at h1;omega
 have hC:C k=⟨36,[(1,.I v),(2,.pv (gC g)),(4,.pt 24 0 0),(5,.pt 48 0 0),(6,.I k)],[(24,some zG),(48,some ⟨3,[[.I g.size,.rs 16 0 (F k).length,AA g.gone]],0⟩),(16,some ⟨3,CE (F k),0⟩)],88⟩:=rfl;rw[hC];refine AC ?_;apply ak [1,2,4,5,6,14] [24,48,16] 128
 .simp
  rfl
 refine AD _ rfl (λ h=>AE ?_) λ h=>Aa (Ab ?_)
 .simp only[Qb] at h
  have u:=iV g.edges v k h;have h2:F (k+1)=F k++if v<=g.edges[k].v then [g.edges[k]] else []:=u
  refine BO ⟨36,[(1,.I v),(2,.pv (gC g)),(4,.pt 24 0 0),(5,.pt 48 0 0),(6,.I k)],[(24,some zG),(48,some ⟨3,[[.I g.size,.rs 16 0 (F (k+1)).length,AA g.gone]],0⟩),(16,some ⟨3,CE (F (k+1)),0⟩)],280⟩ ?_ ?_
  .rw [h2]
   generalize F k=A at *;refine AI ?_;apply ak [1,2,4,5,6,24] [24,48,16] 192
   .simp [h]
    rfl
   refine AD _ rfl (λ h5=>?_) λ h5=>AE ?_
   .simp only[Qb] at h5
    rw[if_pos h5];refine Cn rfl ?_;have h7:(CE A).length=A.length:=zz
    simp[h,AZ,List.replicate];refine⟨zy,zy,rfl,?_⟩
    refine Le.ents [(24,24),(48,48),(256,16)] [] rfl zz zz zz zz zz zz λ p hp=>?_
    simp at hp;rcases hp with rfl | rfl | rfl
    .exact ⟨24,_,_,rfl,zz,rfl,Av.eq zz zz⟩
    .exact ⟨48,_,_,rfl,zz,rfl,Av.eq zz zz⟩
    .exact ⟨256,_,_,rfl,zz,rfl,Av.eq (by simp[AB,CI]) zz⟩
   .simp only[Qd] at h5
    rw[if_neg h5,QK];exact Le.keep rfl (AW rfl) zz zz
  have h3:=wq (k:=k);refine AU rfl ?_;simp[h3];refine⟨k+1,zy,zy,?_⟩
  refine Le.ents [(24,24),(48,48),(16,16)] [] rfl zz zz (by simp[C]) zz (by simp[C]) (by simp[C]) λ p hp=>?_
  simp[C] at hp;rcases hp with rfl | rfl | rfl
  .exact ⟨24,_,_,rfl,zz,rfl,Av.eq zz zz⟩
  .exact ⟨48,_,_,rfl,zz,rfl,Av.eq zz zz⟩
  .exact ⟨16,_,_,rfl,zz,rfl,Av.eq zw zz⟩
 simp only[Qd] at h;obtain rfl:k=g.edges.length:=zy
 have hF:F g.edges.length=(Ao g v).edges:=by
  show (g.edges.take g.edges.length).filter _=_;rw[Qc (Qg _)];rfl
 rw[hF];have h0:Ao g v=⟨g.size,(Ao g v).edges,g.gone⟩:=rfl;rw[h0];generalize (Ao g v).edges=E at *;refine AC (Ad ?_);refine AO ⟨.inr rfl,?_⟩;show AG [(4,some (true,3))] 0 _ _ _;refine AG.out (vs:=[.agg [.I g.size,.rs 16 0 E.length,AA g.gone]]) [] [16] zz zz zz ?_ zz
 simp[AB,CI]
variable {order:List Int}
def L2 (g:Gr) (lv f t:Int):Prop:=∃ e∈g.edges,e.f=f/\e.t=t/\lv<=e.v
theorem Mi:∀ {a b:List Int},a.Nodup->(∀ x∈a,x∈b)->b.length<=a.length->a.Perm b
 | [],b,_,_,hl=>by
   have:b=[]:=UY.1 (by simpa using hl)
   rw[this]
 | x::a,b,hn,hs,hl=>by
   have hx:x∈b:=hs x (Qp ..);rw[Ur] at hn;have hb:=List.perm_cons_erase hx;have h0:(b.erase x).length+1=b.length:=by have:=hb.length_eq;simp at this;omega
   refine(List.Perm.cons x (Mi hn.2 (λ y hy=>?_) ?_)).trans hb.symm
   .have q:=hs y (Qo _ hy)
    have u:y≠x:=λ e=>hn.1 (e ▸ hy);exact(List.mem_erase_of_ne u).2 q
   .rw [QZ] at hl
    omega
def HL (l:List Int):List Int:=l.mergeSort λ x y=>decide (x<=y)
theorem JZ (l:List Int):(HL l).Perm l:=List.mergeSort_perm ..
theorem NY (l:List Int):(HL l).Pairwise (· <= ·):=by
 have h:=List.pairwise_mergeSort (le:=λ x y:Int=>decide (x<=y)) (λ a b c h1 h2=>by simp at *;omega) (λ a b=>zu) l
 exact h.imp λ {a b} h=>by simpa using h
theorem LF {a b:List Int}:HL a=HL b↔a.Perm b:=by
 constructor
 .intro h
  exact(JZ a).symm.trans (h ▸ JZ b)
 .intro h
  exact List.Perm.eq_of_pairwise (le:=(· <= ·)) (λ x y _ _ h1 h2=>zy) (NY a) (NY b) (((JZ a).trans h).trans (JZ b).symm)
def LJ (g:Gr) (lv:Int) (seeds order w:List Int):Prop :=
 (∃ k,w.head? = some k/\k∈seeds)/\(∀ k∈w,k∈order)/\w.Nodup /\ ∀ i (h:i+1<w.length),L2 g lv w[i] w[i+1]
def EJ (P:List (List Int)) (k:Int):Nat:=P.countP λ w=>decide (w.head? = some k)
def D6 (P:List (List Int)) (k:Int):Nat:=(P.flatMap List.dropLast).count k
def HW (c:List Int) (P:List (List Int)):Prop:=∀ k (h:k<c.length),(EJ P k:Int)<=c[k]/\(D6 P k:Int)<=max 0 (c[k] - 1)
def GC (P:List (List Int)):List Int:=P.filterMap List.getLast?
def Jq (g:Gr) (lv:Int) (seeds order c:List Int) (P:List (List Int)) (ends:List Int):Prop :=
 (∀ w∈P,LJ g lv seeds order w)/\HW c P/\HL (GC P)=HL ends
def Kj (g:Gr) (lv:Int) (seeds order c:List Int) (P:List (List Int)) (ends:List Int):Prop :=
 P.length=ends.length/\ends.Nodup/\(∀ w∈P,LJ g lv seeds order w)/\(∀ k∈GC P,k∈ends)/\(GC P).Nodup/\HW c P
theorem LJ.ne {g:Gr} {lv:Int} {seeds w:List Int} (h:LJ g lv seeds order w):w≠[]:=by
 rintro rfl
 obtain⟨k,hk,_⟩:=h.1
 cases hk
theorem RV {P:List (List Int)} (h:∀ w∈P,w≠[]):(GC P).length=P.length:=by
 unfold GC
 induction P with
 | nil=>rfl
 | cons w P ih =>
   have hw:=h w (Qp ..);rw[UP,List.getLast?_eq_some_getLast hw];simp only[QZ];rw[ih λ x hx=>h x (Qo _ hx)]
theorem SB {g:Gr} {lv:Int} {seeds c:List Int} {P:List (List Int)} {q:List Int} (hn:q.Nodup):Jq g lv seeds order c P q↔Kj g lv seeds order c P q:=by
 constructor
 .rintro ⟨h1,h2,h3⟩
  have hp:=LF.1 h3;have hl:=RV λ w hw=>(h1 w hw).ne;exact⟨by rw[<- hl,hp.length_eq],hn,h1,λ k hk=>hp.mem_iff.1 hk,hp.nodup_iff.2 hn,h2⟩
 .rintro ⟨h0,_,h1,h2,h3,h4⟩
  have hl:=RV λ w hw=>(h1 w hw).ne;exact⟨h1,h4,LF.2 (Mi h3 h2 zy)⟩
def Ha (order:List Int) (key:Int):List Int:=order.takeWhile λ x=>decide (x≠key)
theorem cC (x:Int) (o:List Int) (key:Int):Ha (x::o) key=if x=key then [] else x::Ha o key:=by
 unfold Ha;rw[List.takeWhile_cons]
 by_cases h:x=key<;>simp[h]
def IJ (order l:List Int) (key:Int):Prop:=l.Sublist (Ha order key)
theorem YJ (order:List Int) (key:Int):key∉Ha order key:=by
 induction order with
 | nil=>simp[Ha]
 | cons x o ih =>
   rw[cC];split
   .simp
   .rename_i h
    simp only[Qv,not_or];exact⟨λ e=>h e.symm,ih⟩
theorem IJ.nodup {l:List Int} {key:Int} (h:IJ order l key) (hn:order.Nodup):(l++[key]).Nodup:=by
 rw[Uy];refine⟨(hn.sublist (List.takeWhile_sublist _)).sublist h,zz,λ x hx y hy=>?_⟩
 rw[Qw] at hy;subst hy
 rintro rfl
 exact YJ order x (h.subset hx)
theorem jD (l:List Ed) (key:Int):(BR l key).length=l.countP λ e=>decide (e.f=key):=by
 induction l with
 | nil=>rfl
 | cons e l ih =>
   unfold BR at *
   by_cases h:e.f=key<;>simp[h,ih]
theorem Ah.fits {g:Gr} (h:Ah g):∀ e∈g.edges,DX g e:=by
 intro e he;obtain⟨i,hi,rfl⟩:=Qr.1 he;exact(h.2 i hi).1
theorem Lm.rfl' (a:Gr):Lm a a:=⟨rfl,rfl,rfl⟩
abbrev Gk (l:List Int):List Int:=l.mergeSort λ x y=>decide (x<=y)
theorem Mv (l:List Int):(Gk l).length=l.length:=List.length_mergeSort ..
theorem XE {l:List Int} {x:Int}:x∈Gk l↔x∈l:=List.mem_mergeSort
theorem Ah.pair {g:Gr} (h:Ah g):g.edges.Pairwise EU:=by
 rw[QD];intro i j hi hj hij;exact h.lt j i hi hj hij
theorem Fr {st st':St} {i j:Nat} {sn:List Nat} {e e':AX} (q:st'.sz=st.sz) (hh:st'.h=[(j,some e')]) (hj:j<st'.n) (hs:∀ k∈sn,k≠i) (he:st.hp i=some e) (u:Ak [(i,j)] sn st.hp 4 e=e') (hr:e'.ro<=e'.rows.length) (ht:∀ p∈st'.t,Wk (conv [(i,j)] sn st.hp 4 (st.get p.1)) p.2):Le 0 st st' :=
 Le.ents [(i,j)] sn q zz zz (by simpa using hj) (by simpa using hs) (Qh _) ht (λ p hp=>by
  rw[hh] at hp;simp at hp;subst hp
  exact⟨i,e,e',rfl,zz,he,Av.eq u hr⟩)
theorem S0 (f:FuncId) (aA:List AV) (q:Int->Bool) (l:List Int) (hl:l.length<=1099511627776) (hs:Gg aA) (hc:∀ e∈l,AK f (AV.I e::aA) [] (.B (q e)) []):AK 176 [AA l,.fn (.func f) [] aA] [] (.I (CR l q)) []:=by
 have h5:∀ ρ sn h,aA.map (conv ρ sn h 2)=aA:=λ _ _ _=>hs _ _ _ 1
 have u:∀ ρ sn h,aA.map (conv ρ sn h 3)=aA:=λ _ _ _=>hs _ _ _ 2
 have h1:∀ ρ sn h,aA.map (conv ρ sn h 4)=aA:=λ _ _ _=>hs _ _ _ 3
 refine fF.s.ai ?_;refine AC (Ad ?_);refine AC (AC (Ad ?_));refine AI (Ag (ι:=Nat) (λ k=>⟨19,[(0,AA l),(1,.fn (.func f) [] aA),(7,.I l.length),(8,.I k)],[],16⟩) (λ k=>k<=l.length /\ ∀ i,i<k -> ∀ h:i<l.length,q l[i]=false) (λ k=>l.length - k) (0) ?_ (AM [] (by simp[u])) ?_)
 .simp
 rintro k ⟨hk,hp⟩
 refine AC (Ad ?_);refine AC (AD _ rfl (λ h4=>?_) λ h4=>?_)
 .try simp at h4
  have h2:=w6 (x:=(k:Int)+1);have h3:=hc l[k] (Qi h4);refine AE (AC (AI (AC (BA (s:=?s5) rfl ?o5 ?q5))))
  case o5=>simp[h4];rfl
  refine AC (BA (s:=?s6) rfl ?o6 ?q6)
  case o6 =>
   simp[h4];refine AT h3 ?_ ?_
   .simp [h1]
   simp;rfl
  refine AD _ rfl (λ h7=>?_) λ h7=>?_
  .try simp at h7
   refine AC (Ad ?_);exact BG (AG.one (by simp[N8 h4 hp h7]))
  try simp at h7
  refine AE (BA (s:=?s9) rfl ?o9 ?q9)
  case o9=>simp[h2];rfl
  refine⟨k+1,⟨h4,λ i hi=>?_⟩,zy,AM [] (by simp[u])⟩
  rcases QN.1 hi with h | rfl
  .exact hp i h
  .exact λ _=>h7
 try simp at h4
 have h0:∀ i,i<l.length -> ∀ h:i<l.length,q l[i]=false:=λ i hi=>hp i zy
 refine Aa (Ab (AC (Ad ?_)));exact BG (AG.one (by simp[OS h0]))
abbrev AH (l:List Int):List (List AV):=l.map λ e=>[AV.I e]
theorem P4 {l:List Int} {q:Int->Bool} (h:∀ i,i<l.length -> ∀ h:i<l.length,q l[i]=false):l.filter (λ e=>!q e)=l:=by
 rw[List.filter_eq_self];intro x hx;obtain⟨i,hi,rfl⟩:=Qr.1 hx;simp[h i hi hi]
theorem Sf (l:List Int) (q:Int->Bool) (j:Nat) (h:j<l.length):(l.take (j+1)).filter (λ e=>!q e)=(l.take j).filter (λ e=>!q e)++if q l[j]=true then [] else [l[j]]:=by
 rw[<- UH h,UF,Q3]
 congr 1
 cases hq:q l[j]<;>simp[hq]
theorem Zm (f:FuncId) (aA:List AV) (q:Int->Bool) (l:List Int) (n m:Nat) (hn:l.length=n) (hm:(l.filter λ e=>!q e).length=m) (hl:n<=1099511627776) (hs:Gg aA) (hc:∀ e∈l,AK f (AV.I e::aA) [] (.B (q e)) []) :
  AK 237 [.rs 0 0 n,.fn (.func f) [] aA] [⟨1,AH l,0⟩] (.rs 0 0 m) [some ⟨1,AH (l.filter λ e=>!q e)++List.replicate (n - m) [.I 0],0⟩]:=by
 have h4:∀ ρ sn h,aA.map (conv ρ sn h 2)=aA:=λ _ _ _=>hs _ _ _ 1
 have h6:∀ ρ sn h,aA.map (conv ρ sn h 3)=aA:=λ _ _ _=>hs _ _ _ 2
 have h7:∀ ρ sn h,aA.map (conv ρ sn h 4)=aA:=λ _ _ _=>hs _ _ _ 3
 refine gW.s.ai ?_;have hy:m<=n:=by rw[<- hm,<- hn];exact QO _ _
 apply ak [0,1] [0] 24
 .simp
  rfl
 apply ak [0,1,5] [0] 56
 .simp
  refine G9 [0] (S0 f aA q l zy hs hc) ?_ (.sc _) ?_
  .simp [h4,h6,h7,<- hn,AB,CI]
  simp;rfl
 refine AC (arc ⟨42,[(0,.rs 0 0 n),(1,.fn (.func f) [] aA),(5,.I (CR l q)),(12,.B (decide (CR l q = -1)))],[(0,some ⟨1,AH l,0⟩)],72⟩ ?_ ?_)
 .simp
  exact Le.keep rfl (Qg _) (by simp<;>rw[Qk]<;>simp) zz
 refine AD _ rfl (λ h=>?_) λ h=>AE ?_
 .simp only[Qb] at h
  have hh:∀ i,i<l.length -> ∀ h:i<l.length,q l[i]=false:=by
   intro i hi _;unfold CR at h;split at h
   .omega
   .rename_i hz
    have:l.findIdx q=l.length:=by have:=List.findIdx_le_length (xs:=l) (p:=q);omega
    rw[List.findIdx_eq_length] at this;exact this _ (Qi hi)
  have hf:=P4 hh;rw[hf] at hm ⊢;obtain rfl:n=m:=zy
  refine AC (Ad ?_);refine AO ⟨.inr rfl,⟨[.rs 0 0 n],rfl,[],[],by simp[List.range,List.range.loop],zz,zz,?_,?_⟩⟩
  .simp [List.range,List.range.loop]
  .simp [List.range,List.range.loop,AB]
 simp only[Qd] at h
 obtain⟨i0,hi0,h1,hb,hk⟩:∃ i0:Nat,CR l q=i0/\i0<l.length/\(∀ i,i<i0 -> ∀ h:i<l.length,q l[i]=false) /\ ∀ h:i0<l.length,q l[i0]=true:=by
  unfold CR at h ⊢;split at h
  .rename_i h1
   refine⟨l.findIdx q,by rw[if_pos h1],h1,λ i hi _=>?_,λ h=>List.findIdx_getElem (w:=h)⟩
   simpa using List.not_of_lt_findIdx hi
  .omega
 rw[hi0]
 have h8:(l.take (i0+1)).filter (λ e=>!q e)=l.take i0:=by
  rw[Sf l q i0 h1,if_pos (hk h1),QK];refine P4 λ i hi h=>?_;rw[QB] at hi;simp only[Uv];exact hb i zy zy
 have ho:=wq (k:=i0)
 let C:Nat × List Int->St:=λ p=>⟨42,[(0,.rs 0 0 n),(1,.fn (.func f) [] aA),(5,.I ((l.take p.1).filter λ e=>!q e).length),(6,.I p.1)],[(0,some ⟨1,AH ((l.take p.1).filter (λ e=>!q e)++p.2++l.drop p.1),0⟩)],96⟩
 refine AC (BE (C (i0+1,[l[i0]])) rfl ?_ ?_)
 .simp [ho]
  refine Le.keep rfl (Qg _) ?_ ?_
  .simp only[C,h8]
   simp;omega
  .simp only[C,h8]
   simp
 refine AI (Ag C (λ p:Nat × List Int=>p.1<=n/\p.2≠[]/\((l.take p.1).filter λ e=>!q e).length+p.2.length=p.1) (λ p:Nat × List Int=>n - p.1) (i0+1,[l[i0]]) ?_ (Le.refl _ _) ?_)
 .simp only[h8]
  simp;omega
 rintro⟨j,M⟩ ⟨hj,hM,h0⟩
 simp only at hj hM h0 ⊢;obtain⟨A,hA⟩:=AL ((l.take j).filter λ e=>!q e);rw[<- hA] at h0;have hC:C (j,M)=⟨42,[(0,.rs 0 0 n),(1,.fn (.func f) [] aA),(5,.I A.length),(6,.I j)],[(0,some ⟨1,AH (A++M++l.drop j),0⟩)],96⟩:=by subst hA;rfl
 rw[hC];refine AC (arc ⟨42,[(0,.rs 0 0 n),(1,.fn (.func f) [] aA),(5,.I A.length),(6,.I j),(19,.B (decide (j<n)))],[(0,some ⟨1,AH (A++M++l.drop j),0⟩)],128⟩ ?_ ?_)
 .simp
  exact BD
 refine AD _ rfl (λ h=>AE ?_) λ h=>Aa (Ab ?_)
 .simp only[Qb] at h
  have h2:j<l.length:=zy
  match M,hM,h0 with
  | m0::M1,_,h0 =>
  simp only[QZ] at h0;have u:=Sf l q j h2;rw[<- hA] at u
  have he:(AH (A++m0::M1++l.drop j))[j]? = some [AV.I l[j]]:=by
   rw[QG,Qt zu,Ub,show j+(j - (A++m0::M1).length)=j by simp;omega,Qa h2]
   rfl
  have h9:(AH (A++m0::M1++l.drop j))[A.length]? = some [AV.I m0]:=by
   rw[QG,Qq,Qt zy]
   simp
  have hg:(AH (A++m0::M1++l.drop j)).set A.length [AV.I l[j]]=AH ((A++[l[j]])++(M1++[l[j]])++l.drop (j+1)):=by
   have e1:l.drop j=l[j]::l.drop (j+1):=QX h2;rw[e1];simp[AH,List.set_append]
  have ha:A++m0::M1++l.drop j=A++(m0::M1++[l[j]])++l.drop (j+1):=by
   have e1:l.drop j=l[j]::l.drop (j+1):=QX h2;rw[e1];simp
  generalize h3:AH (A++m0::M1++l.drop j)=R at *;have a0:R.length=n:=by rw[<- h3];simp;omega
  have hq:=hc l[j] (Qi h2);generalize hv:l[j]=v at *
  refine Bn (ι:=List Int × List Int) (λ p=>⟨42,[(0,.rs 0 0 n),(1,.fn (.func f) [] aA),(5,.I p.1.length),(6,.I j)],[(0,some ⟨1,AH (p.1++p.2++l.drop (j+1)),0⟩)],272⟩)
   (λ p=>p.1=(l.take (j+1)).filter (λ e=>!q e)/\p.2≠[]/\p.1.length+p.2.length=j+1) ?_ ?_
  .refine AI (arc ⟨42,[(0,.rs 0 0 n),(1,.fn (.func f) [] aA),(5,.I A.length),(6,.I j),(7,.I v)],[(0,some ⟨1,R,0⟩)],168⟩ ?_ ?_)
   .simp [h,he]
    exact BD
   refine arc ⟨42,[(0,.rs 0 0 n),(1,.fn (.func f) [] aA),(5,.I A.length),(6,.I j),(7,.I v),(29,.B (!q v))],[(0,some ⟨1,R,0⟩)],200⟩ ?_ ?_
   .simp
    refine AT hq ?_ ?_
    .simp [h4,h6,h7]
    simp;exact BD
   refine AD _ rfl (λ h5=>?_) λ h5=>AE ?_
   .simp only[U0] at h5
    rw[h5] at u;refine arc ⟨42,[(0,.rs 0 0 n),(1,.fn (.func f) [] aA),(5,.I A.length),(6,.I j)],[(0,some ⟨1,AH ((A++[v])++(M1++[v])++l.drop (j+1)),0⟩)],240⟩ ?_ ?_
    .simp [h9,show A.length<n by omega,AZ,hg]
     exact BD
    have hr:IntKind.i64.wrap ((A.length:Int)+1)=((A.length+1:Nat):Int):=by rw[w6];omega
    refine AU rfl ?_;simp[hr];refine⟨A++[v],M1++[v],⟨by rw[u];simp,zz,zu⟩,Le.keep rfl (AW rfl) zz zz⟩
   .simp only[Bool.not_eq_false'] at h5
    rw[h5] at u;refine⟨(A,m0::M1++[v]),⟨by rw[u];simp,zz,zu⟩,Le.keep rfl (AW rfl) zz ?_⟩
    rw[<- ha,h3];simp
  rintro⟨A',M'⟩ ⟨p1,p2,p3⟩
  simp only at p1 p2 p3 ⊢;have hu:=wq (k:=j);refine AU rfl ?_;simp[hu];refine⟨j+1,M',⟨zy,p2,by rw[<- p1];omega⟩,zy,?_⟩
  have hD:C (j+1,M')=⟨42,[(0,.rs 0 0 n),(1,.fn (.func f) [] aA),(5,.I A'.length),(6,.I ((j+1:Nat):Int))],[(0,some ⟨1,AH (A'++M'++l.drop (j+1)),0⟩)],96⟩:=by rw[p1]
  rw[hD];refine Le.ents [(0,0)] [] rfl zz zz zz zz zz (by simp[h4,h6,h7]) λ p hp=>?_
  simp at hp;subst hp;exact⟨0,_,_,rfl,zz,rfl,Av.eq zw zz⟩
 simp only[Qd] at h;obtain rfl:j=n:=zy
 have hd:l.drop j=[]:=Q4 zy
 have ht:l.take j=l:=Qc zy
 rw[ht] at hA;rw[hd,QK];rw[<- hA] at hm ⊢;subst hm;have hw:(AH (A++M)).take A.length=AH A:=by simp[AH]
 have hx:(AH (A++M)).drop (A.length+(j - A.length))=[]:=Q4 zu
 have a1:(AH (A++M)).length=j:=zu
 generalize AH (A++M)=R at *;refine arc ⟨42,[(0,.rs 0 0 j),(5,.I A.length)],[(0,some ⟨1,AH A++List.replicate (j - A.length) [.I 0],0⟩)],160⟩ ?_ ?_
 .simp
  refine⟨zy,zy,?_⟩
  rw[hw,hx];exact BD
 refine AC (BA (s:=?s2) rfl ?o2 ?q2)
 case o2 =>
  simp;refine⟨zy,?_⟩
  rfl
 refine AO ⟨.inr rfl,⟨[.rs 0 0 A.length],rfl,[],[],by simp[List.range,List.range.loop],zz,zz,?_,?_⟩⟩
 .simp [List.range,List.range.loop]
 .simp [List.range,List.range.loop,AB]
theorem Wo (f:FuncId) (aA:List AV) (q:Int->Bool) (l:List Int) (hl:l.length<=1099511627776) (hs:Gg aA) (hc:∀ e∈l,AK f (AV.I e::aA) [] (.B (q e)) []):AK 119 [AA l,.fn (.func f) [] aA] [] (.B (l.any q)) []:=by
 have u:∀ ρ sn h,aA.map (conv ρ sn h 2)=aA:=λ _ _ _=>hs _ _ _ 1
 have h0:∀ ρ sn h,aA.map (conv ρ sn h 3)=aA:=λ _ _ _=>hs _ _ _ 2
 have h1:∀ ρ sn h,aA.map (conv ρ sn h 4)=aA:=λ _ _ _=>hs _ _ _ 3
 refine WI.s.ai ?_;refine AC (Ad ?_)
 have hi:decide (0<=CR l q)=l.any q:=by
  unfold CR
  by_cases h:l.findIdx q<l.length
  .rw [if_pos h]
   have:=List.findIdx_getElem (w:=h);have h2:l.any q=true:=UM.2 ⟨_,Qi h,this⟩;rw[h2];simp
  .rw [if_neg h]
   have:l.findIdx q=l.length:=by have:=List.findIdx_le_length (xs:=l) (p:=q);omega
   rw[List.findIdx_eq_length] at this
   have h2:l.any q=false:=by
    rw[List.any_eq_false];intro x hx;simp[this x hx]
   rw[h2];simp
 refine arc ⟨9,[(4,.B (l.any q))],[],16⟩ ?_ ?_
 .simp
  refine AT (S0 f aA q l hl hs hc) ?_ ?_
  .simp [u,h0,h1]
  simp;exact AM [] (by simp;exact An hi)
 exact Bv
def Cz (n:Nat) (q:Int->Bool):List Int:=((List.range n).map λ (i:Nat)=>(i:Int)).filter q
theorem Tb (n:Nat) (q:Int->Bool):Cz (n+1) q=Cz n q++if q n=true then [(n:Int)] else []:=by
 unfold Cz;rw[List.range_succ,List.map_append,Q3]
 congr 1
 cases hq:q n<;>simp[hq]
theorem Kx (n:Nat) (q:Int->Bool):(Cz n q).length<=n:=by
 unfold Cz;have:=QO q ((List.range n).map λ (i:Nat)=>(i:Int))
 simpa using this
theorem VI (f:FuncId) (aA:List AV) (q:Int->Bool) (N:Int) (hN:N<=1000000) (hs:Gg aA) (hc:∀ k:Nat,(k:Int)<N->AK f (AV.I k::aA) [] (.B (q k)) []) :
  AK 149 [.I N,.fn (.func f) [] aA] [] (.rs 0 0 (Cz N.toNat q).length) [some ⟨1,AH (Cz N.toNat q),0⟩]:=by
 have u:∀ ρ sn h,aA.map (conv ρ sn h 2)=aA:=λ _ _ _=>hs _ _ _ 1
 have h0:∀ ρ sn h,aA.map (conv ρ sn h 3)=aA:=λ _ _ _=>hs _ _ _ 2
 have h1:∀ ρ sn h,aA.map (conv ρ sn h 4)=aA:=λ _ _ _=>hs _ _ _ 3
 refine RH.s.ai ?_;refine AC (Ad ?_);refine AC (Ad ?_);refine AC (AC (Ad ?_));refine AI ?_
 let C:Nat->St:=λ k=>⟨20,[(1,.fn (.func f) [] aA),(5,.rs 16 0 (Cz k q).length),(7,.I N),(8,.I k)],[(16,some ⟨1,AH (Cz k q),0⟩)],24⟩
 refine Ag C (λ k=>k<=N.toNat) (λ k=>N.toNat - k) 0 (Qh _) (Le.lst [] [] [(16,1)] rfl zz zz zz (by simp[C]) zz zz zz (by simp[C,Up,Cz,u,h0,h1]) (by simp[C,Cz])) ?_
 intro k hk;have h7:=Kx k q;have h3:C k=⟨20,[(1,.fn (.func f) [] aA),(5,.rs 16 0 (Cz k q).length),(7,.I N),(8,.I k)],[(16,some ⟨1,AH (Cz k q),0⟩)],24⟩:=rfl;rw[h3];apply ak [1,5,7,8,9] [16] 32
 .simp
  rfl
 refine AC (AD _ rfl (λ h=>AE ?_) λ h=>Aa (Ab ?_))
 .simp only[Qb] at h
  have h4:=hc k h;have h2:=Tb k q;have h6:=wq (k:=k);refine BO ⟨20,[(1,.fn (.func f) [] aA),(5,.rs 16 0 (Cz (k+1) q).length),(7,.I N),(8,.I k)],[(16,some ⟨1,AH (Cz (k+1) q),0⟩)],24⟩ ?_ ?_
  .rw [h2]
   generalize Cz k q=W at *;refine AI (AC (Ad ?_));apply ak [1,5,6,7,8,13] [16] 72
   .simp
    refine AT h4 ?_ ?_
    .simp [u,h0,h1]
    simp;rfl
   refine AD _ rfl (λ h5=>?_) λ h5=>AE ?_
   .rw [if_pos h5]
    refine AU rfl ?_;simp[List.replicate];refine⟨zy,zy,Fr (i:=96) (sn:=[]) rfl rfl zz zz rfl (by simp[AB,CI]) zz (by simp[u,h0,h1])⟩
   .rw [if_neg (by simp[h5]),QK]
    exact Fr (i:=16) (sn:=[]) rfl rfl zz zz rfl zw zz (by simp[u,h0,h1])
  refine AU rfl ?_;simp[h6];exact⟨k+1,zy,zy,Fr (i:=16) (sn:=[]) rfl rfl (by simp[C]) zz rfl zw zz (by simp[C,u,h0,h1])⟩
 simp only[Qd] at h;obtain rfl:k=N.toNat:=zy
 generalize Cz N.toNat q=W at *;refine AC (Ad ?_);exact CD [16] []
theorem Iy {x:Int} (h1:0<=x) (h2:x<18446744073709551616):IntKind.u64.wrap x=x:=by rw[IntKind.wrap_u64];omega
theorem Nl (n:Nat) (h:n<4294967296):Aw .and (.int .u64 (n:Int)) (.int .u64 4294967295)=some (.int .u64 (n:Int)):=by
 have e:(BitVec.ofInt 64 (n:Int) &&& BitVec.ofInt 64 4294967295).toNat=n:=by
  have h1:(BitVec.ofInt 64 (n:Int)).toNat=n:=by
   rw[BitVec.toNat_ofInt];omega
  have h2:(BitVec.ofInt 64 (4294967295:Int)).toNat=2 ^ 32 - 1:=rfl;rw[BitVec.toNat_and,h1,h2,Nat.and_two_pow_sub_one_eq_mod];omega
 show some (Value.int .u64 (IntKind.u64.wrap ((BitVec.ofInt 64 (n:Int) &&& BitVec.ofInt 64 4294967295).toNat:Int)))=_;rw[e,Iy zy zy]
theorem Nk (n:Nat) (h:n<4294967296):Aw .shr (.int .u64 (n:Int)) (.int .u64 32)=some (.int .u64 0):=by
 show (if (0:Int)<=32 then some (Value.int .u64 ((n:Int).fdiv (2 ^ (min (32:Int).toNat 64)))) else none)=_
 rw[if_pos zy]
 congr 2
 have:(2:Int) ^ (min (32:Int).toNat 64)=4294967296:=rfl;rw[this,QR _ zy]
 omega
abbrev U (n:Int):AV:=.sc (.int .u64 n)
theorem d3 (n:Nat) (h:n<4294967296):AK 315 [U 1,U n] [] (.tup [U 0,U n]) []:=by
 refine ZT.s.ai ?_;have a1:Aw .and (.int .u64 1) (.int .u64 4294967295)=some (.int .u64 1):=Nl 1 zy
 have a0:Aw .and (.int .u64 0) (.int .u64 4294967295)=some (.int .u64 0):=Nl 0 zy
 have an:=Nl n h;have s1:Aw .shr (.int .u64 1) (.int .u64 32)=some (.int .u64 0):=Nk 1 zy
 have s0:Aw .shr (.int .u64 0) (.int .u64 32)=some (.int .u64 0):=Nk 0 zy
 have sn:=Nk n h
 have m1:∀ a:Int,Aw .mul (.int .u64 0) (.int .u64 a)=some (.int .u64 0):=λ a=>by
  show some (Value.int .u64 (IntKind.u64.wrap (0*a)))=_;rw[Int.zero_mul];rfl
 have m2:Aw .mul (.int .u64 1) (.int .u64 (n:Int))=some (.int .u64 (n:Int)):=by
  show some (Value.int .u64 (IntKind.u64.wrap (1*(n:Int))))=_;rw[Int.one_mul,Iy zy zy]
 have m3:Aw .mul (.int .u64 1) (.int .u64 0)=some (.int .u64 0):=rfl;have d0:Aw .add (.int .u64 0) (.int .u64 0)=some (.int .u64 0):=rfl;refine AC (Ad ?_);refine AC (BA (s:=?z2) rfl ?p2 ?r2)
 case p2=>simp[-Aw,a1];rfl
 refine AC (BA (s:=?z3) rfl ?p3 ?r3)
 case p3=>simp[-Aw,s1];rfl
 refine AC (BA (s:=?z4) rfl ?p4 ?r4)
 case p4=>simp[-Aw,an];rfl
 refine AC (BA (s:=?z5) rfl ?p5 ?r5)
 case p5=>simp[-Aw,sn];rfl
 refine AC (BA (s:=?z6) rfl ?p6 ?r6)
 case p6=>simp[-Aw,m2];rfl
 refine AC (BA (s:=?z7) rfl ?p7 ?r7)
 case p7=>simp[-Aw,m1,sn,d0];rfl
 refine AC (BA (s:=?z8) rfl ?p8 ?r8)
 case p8=>simp[-Aw,a0];rfl
 refine AC (BA (s:=?z9) rfl ?p9 ?r9)
 case p9=>simp[-Aw,s0];rfl
 refine AC (BA (s:=?z10) rfl ?p10 ?r10)
 case p10=>simp[-Aw,m3,d0];rfl
 refine AC (BA (s:=?z11) rfl ?p11 ?r11)
 case p11=>simp[-Aw,m1,d0,s0];rfl
 refine AC (BA (s:=?z12) rfl ?p12 ?r12)
 case p12=>simp[-Aw,m2];rfl
 exact CD [] []
theorem Zp (n:Nat) (h:n<4294967296):AK 281 [U 1,U n] [] (.tup [U 0,U n]) []:=by
 refine iI.s.ai ?_;refine AC (Ad ?_);refine AC (AD _ rfl (λ h=>by cases h) λ _=>AE ?_)
 refine AC (BA (s:=?z2) rfl ?p2 ?r2)
 case p2=>simp;refine AT (d3 n h) rfl ?_;simp;rfl
 refine AC (Ad ?_);exact CD [] []
theorem cJ (v:Int) (n:Nat) (hn:n<=1000000):AK 234 [AA [v],.I n] [] (.rs 0 0 n) [some ⟨1,List.replicate n [AV.I v],0⟩]:=by
 refine YL.s.ai ?_;have u:IntKind.u64.wrap 1=1:=rfl;have h0:IntKind.u64.wrap (n:Int)=n:=Iy zy zy
 have h1:IntKind.i64.wrap (n:Int)=n:=w6;refine AC (Ad ?_);refine AC ?_;apply ak [0,1,10] [] 40
 .simp
  rfl
 refine AD _ rfl (λ h=>by cases h) λ _=>AE ?_
 apply ak [0,1,5,6] [] 128
 .simp [u,h0]
  refine AT (Zp n zy) rfl ?_
  simp;rfl
 refine AC (arc ⟨48,[(0,AA [v]),(1,.I n),(5,U 0),(6,U n),(26,.B false)],[],176⟩ ?_ ?_)
 .simp
  exact Le.keep rfl (Qg _) zu zz
 refine AD _ rfl (λ h=>by cases h) λ _=>AE ?_
 refine arc ⟨48,[(0,AA [v]),(7,.rs 192 0 n)],[(192,some ⟨1,List.replicate n [.I 0],0⟩)],208⟩ ?_ ?_
 .simp [h1]
  exact⟨zy,zy,BD⟩
 let R:Nat->List (List AV):=λ m=>List.replicate m [AV.I v]++List.replicate (n - m) [AV.I 0]
 have h2:∀ m,m<=n->(R m).length=n:=λ m hm=>by simp[R];omega
 refine arc ⟨48,[(7,.rs 192 0 n),(8,.I (min 1 n:Nat))],[(192,some ⟨1,R (min 1 n),0⟩)],240⟩ ?_ ?_
 .simp
  refine Le.keep rfl (Qg _) zz ?_
  cases n with
  | zero=>simp[R]
  | succ n=>simp[R,List.replicate]
 refine AC (AI (Ag (ι:=Nat) (λ m=>⟨48,[(7,.rs 192 0 n),(8,.I m)],[(192,some ⟨1,R m,0⟩)],240⟩) (λ m=>m<=n/\(m=0->n=0)) (λ m=>n - m) (min 1 n) ⟨zy,zy⟩ (Le.refl _ _) ?_))
 rintro m ⟨hm,h3⟩
 refine AC ?_;apply ak [7,8,37] [192] 272
 .simp
  rfl
 refine AD _ rfl (λ h=>AE ?_) λ h=>Aa (Ab ?_)
 .simp only[Qb] at h
  obtain⟨k,hk⟩:=AL (min m (n - m));have hw:IntKind.i64.wrap ((m:Int)+(k:Int))=((m+k:Nat):Int):=by rw[w6];omega
  have ht:(R m).take m=List.replicate m [AV.I v]:=by simp[R]
  have hd:(R m).drop (m+k)=List.replicate (n - (m+k)) [AV.I 0]:=by
   simp only[R];rw[List.drop_append,Q4 zz,UJ,List.drop_replicate]
   simp;omega
  have hl:=h2 m hm
  have q:List.replicate m [AV.I v]++(List.replicate k [AV.I v]++List.replicate (n - (m+k)) [AV.I 0])=R (m+k):=by
   simp only[R];rw[<- Qq,List.replicate_append_replicate]
  refine AI (Cn rfl ?_);generalize R m=X at *;simp[hl,ht];refine⟨zy,zy,_,⟨zy,rfl⟩,rfl,m+k,⟨zy,zy⟩,zy,?_⟩
  have e1:min (List.replicate m (([AV.I v]:List AV))).length (n - m)=k:=by simp[hk]
  rw[e1,hw,hd,List.take_replicate,show min k m=k by omega,q]
  exact Fr (i:=192) (sn:=[]) rfl rfl zz zz rfl (by simp[R]) zz zz
 obtain rfl:m=n:=by simp at h;omega
 refine AC (Ad ?_);exact BG (AG.out [192] [] rfl zz zz zz (by simp[R]))
variable {n:Nat}
def Eg (g:Gr) (S:List Int) (k:Int):Bool:=S.contains k && !g.gone.contains k
def dl (g:Gr) (S:List Int):Nat->Int->Int
 | 0,k=>if Eg g S k=true then 0 else -1
 | n+1,k=>if 0<=dl g S n k then dl g S n k else if g.edges.any (λ e=>decide (e.t=k) && decide (dl g S n e.f=n))=true then (n:Int)+1 else -1
def EI (g:Gr) (k:Int):Prop:=0<=k/\k<g.size
variable {g:Gr} {S:List Int}
theorem Et (n:Nat) (k:Int) : -1<=dl g S n k/\dl g S n k<=n:=by
 induction n with
 | zero=>unfold dl;split<;>omega
 | succ n ih=>unfold dl;split<;>(try split)<;>omega
theorem HY {k:Int} (h:0<=dl g S n k):dl g S (n+1) k=dl g S n k:=by
 rw[dl,if_pos h]
theorem Oc {m:Nat} {k:Int} (q:n<=m) (h:0<=dl g S n k):dl g S m k=dl g S n k:=by
 induction m with
 | zero=>obtain rfl:n=0:=zy
         rfl
 | succ m ih =>
   rcases Ua n (m+1) with h1 | h1
   .have:=ih zy
    rw[HY zy,this]
   .obtain rfl:n=m+1:=zy
    rfl
theorem JK {k:Int} (h:0<=dl g S (n+1) k) (h2:¬ 0<=dl g S n k):dl g S (n+1) k=n+1 /\ ∃ e∈g.edges,e.t=k/\dl g S n e.f=n:=by
 rw[dl,if_neg h2] at h ⊢;split at h
 .rename_i ha
  rw[if_pos ha];rw[UM] at ha;obtain⟨e,he,ha⟩:=ha;simp at ha;exact⟨rfl,e,he,ha.1,ha.2⟩
 .omega
theorem NC {k:Int} (h:0<=dl g S n k):dl g S (dl g S n k).toNat k=dl g S n k:=by
 induction n with
 | zero =>
   have:=Et (g:=g) (S:=S) 0 k;have e:dl g S 0 k=0:=zy
   rw[e];exact e
 | succ n ih =>
   by_cases h2:0<=dl g S n k
   .rw [HY h2];exact ih h2
   .obtain ⟨e,_⟩:=JK h h2
    rw[e];have:((n:Int)+1).toNat=n+1:=zy
    rw[this];exact e
theorem Rh {e:Ed} (he:e∈g.edges) (h:0<=dl g S n e.f):0<=dl g S (n+1) e.t/\dl g S (n+1) e.t<=dl g S n e.f+1:=by
 have q:=NC h;have hr:=Et (g:=g) (S:=S) n e.f;obtain⟨m,hm⟩:∃ m:Nat,dl g S n e.f=m:=⟨(dl g S n e.f).toNat,zy⟩
 rw[hm] at q hr ⊢;simp at q
 have key:0<=dl g S (m+1) e.t/\dl g S (m+1) e.t<=m+1:=by
  have u:=Et (g:=g) (S:=S) (m+1) e.t;refine⟨?_,zy⟩
  rw[dl];split
  .assumption
  .rw [if_pos]
   .omega
   .rw [UM]
    exact⟨e,he,by simp[q]⟩
 have:=Oc (g:=g) (S:=S) (n:=m+1) (m:=n+1) zy key.1
 rw[this];exact key
theorem Og (h:Ah g) (hn:∀ k,EI g k->dl g S n k≠n):∀ (m:Nat),n<=m -> ∀ k,EI g k->dl g S m k=dl g S n k/\dl g S m k≠m:=by
 intro m
 induction m with
 | zero =>
   intro hm k hk;obtain rfl:n=0:=zy
   exact⟨rfl,hn k hk⟩
 | succ m ih =>
   intro hm k hk;rcases Ua n (m+1) with h1 | h1
   .have ihm:=ih zy
    have e:dl g S (m+1) k=dl g S m k:=by
     by_cases h2:0<=dl g S m k
     .exact HY h2
     .have hr:=Et (g:=g) (S:=S) m k
      by_cases h3:0<=dl g S (m+1) k
      .obtain ⟨_,e,he,_,h5⟩:=JK h3 h2
       have hf:=h.fits e he;exact absurd h5 (ihm e.f ⟨hf.1,by have:=hf.2.1;omega⟩).2
      .have q:=Et (g:=g) (S:=S) (m+1) k
       omega
    have hr:=Et (g:=g) (S:=S) m k;rw[e,(ihm k hk).1];refine⟨rfl,?_⟩;rw[(ihm k hk).1] at hr;omega
   .obtain rfl:n=m+1:=zy
    exact⟨rfl,hn k hk⟩
def reach (g:Gr) (S:List Int) (n:Nat):Nat:=(List.range g.size.toNat).countP λ (i:Nat)=>decide (0<=dl g S n (i:Int))
theorem RL {α:Type} {p q:α->Bool}:∀ {l:List α},(∀ x∈l,p x=true->q x=true)->(∃ x∈l,q x=true/\p x=false)->l.countP p<l.countP q
 | [],_,h=>by obtain⟨_,h,_⟩:=h;simp at h
 | a::l,h1,h2=>by
   have u:l.countP p<=l.countP q:=List.countP_mono_left λ x hx=>h1 x (Qo _ hx);simp only[List.countP_cons];obtain⟨x,hx,hq,hp⟩:=h2;rcases Qv.1 hx with rfl | hx
   .rw [hq,hp]
    simp;omega
   .have ih:=RL (λ x hx=>h1 x (Qo _ hx)) ⟨x,hx,hq,hp⟩
    have ha:=h1 a Qp
    cases h0:p a<;>cases h3:q a<;>simp_all<;>omega
theorem jM {k:Int} (hk:EI g k) (h:dl g S (n+1) k=n+1):reach g S n<reach g S (n+1):=by
 refine RL (λ i _ hi=>?_) ⟨k.toNat,by simp;have:=hk.1;have:=hk.2;omega,?_,?_⟩
 .simp at hi ⊢
  rw[HY hi];exact hi
 .have e:((k.toNat:Nat):Int)=k:=by have:=hk.1;omega
  simp[e,h];omega
 .have e:((k.toNat:Nat):Int)=k:=by have:=hk.1;omega
  simp only[e,Qd];intro h2;rw[HY h2] at h;have:=Et (g:=g) (S:=S) n k;omega
theorem b9 (h:Ah g) {k:Int} (hd:dl g S (n+1) k=n+1):∃ k',EI g k'/\dl g S n k'=n:=by
 have h2:¬ 0<=dl g S n k:=by
  intro h2;rw[HY h2] at hd;have:=Et (g:=g) (S:=S) n k;omega
 obtain⟨_,e,he,_,h5⟩:=JK zy h2
 have hf:=h.fits e he;exact⟨e.f,⟨hf.1,by have:=hf.2.1;omega⟩,h5⟩
theorem Px (h:Ah g):∀ {n:Nat} {k:Int},EI g k->dl g S n k=n->n+1<=reach g S n
 | 0,k,hk,hd=>by
   have:0<reach g S 0:=List.countP_pos_iff.2 ⟨k.toNat,by simp;have:=hk.1;have:=hk.2;omega,by
    have e:((k.toNat:Nat):Int)=k:=by have:=hk.1;omega
    simp[e]
    omega⟩
   omega
 | n+1,k,hk,hd=>by
   have q:dl g S (n+1) k=(n:Int)+1:=by simpa using hd
   obtain⟨k',u,h'⟩:=b9 h q;have:=Px h u h';have:=jM hk q;omega
theorem Vn (n:Nat):reach g S n<=g.size.toNat:=by
 have:=List.countP_le_length (p:=λ (i:Nat)=>decide (0<=dl g S n (i:Int))) (l:=List.range g.size.toNat)
 simpa [reach] using this
theorem LO (h:Ah g) {k:Int} (hk:EI g k) (hd:dl g S n k=n):(n:Int)<g.size:=by
 have h1:=Px h hk hd;have h2:=Vn (g:=g) (S:=S) n;omega
def Aq (g:Gr) (S:List Int) (k:Int):Int:=dl g S g.size.toNat k
theorem SJ (h:Ah g) (hn:∀ k,EI g k->dl g S n k≠n) (k:Int) (hk:EI g k):dl g S n k=Aq g S k:=by
 unfold Aq;rcases Nat.le_total n g.size.toNat with h1 | h1
 .exact ((Og h hn _ h1 k hk).1).symm
 .have hN:∀ k,EI g k->dl g S g.size.toNat k≠g.size.toNat:=by
   intro k hk hd;have:=LO h hk hd;omega
  exact(Og h hN _ h1 k hk).1
theorem P9 (k:Int) : -1<=Aq g S k/\Aq g S k<=g.size.toNat:=Et _ _
theorem VH (h:Ah g) {k:Int} (hk:EI g k):Aq g S k<g.size∨g.size<=0:=by
 have h1:=P9 (g:=g) (S:=S) k
 by_cases h2:Aq g S k=g.size.toNat
 .have:=LO h hk h2
  omega
 .have:=hk.1;have:=hk.2;omega
theorem Ol (h:Ah g) {k:Int}:Aq g S k=0↔Eg g S k=true:=by
 unfold Aq;constructor
 .intro hd
  have:=NC (g:=g) (S:=S) (n:=g.size.toNat) (k:=k) zy
  rw[hd] at this;simp at this;rw[dl] at this;split at this
  .assumption
  .omega
 .intro hs
  have h0:dl g S 0 k=0:=by rw[dl,if_pos hs]
  rw[Oc (Qh _) zy,h0]
theorem eT (h:Ah g) {e:Ed} (he:e∈g.edges) (hf:0<=Aq g S e.f):0<=Aq g S e.t/\Aq g S e.t<=Aq g S e.f+1:=by
 have q:=h.fits e he;have h1:=Rh (S:=S) he hf
 have hN:∀ k,EI g k->dl g S g.size.toNat k≠g.size.toNat:=by
  intro k hk hd;have:=LO h hk hd;omega
 have h2:=(Og h hN (g.size.toNat+1) zy e.t ⟨q.2.2.1,by have:=q.2.2.2.1;omega⟩).1
 rw[h2] at h1;exact h1
theorem RJ (h:Ah g) {k:Int} (hd:Aq g S k=(n:Int)+1):∃ e∈g.edges,e.t=k/\Aq g S e.f=n:=by
 have q:=NC (g:=g) (S:=S) (n:=g.size.toNat) (k:=k) (by show 0<=Aq g S k;omega)
 have u:dl g S g.size.toNat k=(n:Int)+1:=hd;rw[u] at q;have e1:((n:Int)+1).toNat=n+1:=zy
 rw[e1] at q
 have h2:¬ 0<=dl g S n k:=by
  intro h2;rw[HY h2] at q;have:=Et (g:=g) (S:=S) n k;omega
 obtain⟨_,e,he,h4,h5⟩:=JK zy h2
 refine⟨e,he,h4,?_⟩;have hr:=P9 (g:=g) (S:=S) k;have:Aq g S e.f=dl g S n e.f:=Oc zy zy
 omega
variable {F S:List Int} {d:Nat} {g:Gr}
section
variable {P:Program} {np id:Nat} {h:Nat->Option AX} {K:AV->List Nat->List (Nat × Option AX)->Prop} {f:FuncId} {first aA args aB:List AV} {res:AV}
theorem cY {i:Nat} (sn:List Nat) {e e':AX} {hs':List (Option AX)} (hij:∀ j∈sn,j≠i) (hi:h i=some e) (q:Ak [(i,0)] sn h 4 e=e') (hc:Cq P f aB [e'] res hs') (h8:hs'.length<=9) (he:(first++args++aA).map (conv [(i,0)] sn h 4)=aB) (hp:Plain res) (u:∀ e,some e∈hs'->HJ e) (hk:K (conv (Cc [i] id) [] (λ _=>none) 4 res) (i::sn) ((hs'.zipIdx.map λ (e,k)=>((i::(List.range 8).map (id + ·)).getD k 0,e.map (Ak (Cc [i] id) [] (λ _=>none) 4)))++[])):aK P np id .call (.fn (.func f) first aA::args) h K :=
 ⟨[i],sn,false,aB,[e'],res,hs',zz,by simpa using hij,zz,by rw[show [i].zipIdx=[(i,0)] from rfl,he];exact FW _,by rw[show [i].zipIdx=[(i,0)] from rfl];simpa [hi] using q,hc,by simpa using h8,.inr ⟨hp,u⟩,by simpa [Cc] using hk⟩
theorem bC {j:Nat} {e ej:AX} (q:np<=j) (hj:h j=some ej) (hc:Cq P f aB [] res [some e]) (he:(first++args++aA).map (conv [] [j] h 4)=aB) (hk:K (conv (Cc [] id) [] (λ _=>none) 4 res) [j] [(id,some (Ak (Cc [] id) [] (λ _=>none) 4 e)),(j,some { ej with ro:=ej.rows.length })]):aK P np id .call (.fn (.func f) first aA::args) h K :=
 ⟨[],[j],true,aB,[],res,[some e],zz,zz,by simpa using q,by rw[UK,he];exact FW _,rfl,hc,zz,.inl rfl,by simpa [Cc,hj] using hk⟩
end
theorem Xm {l:List Int} {z:Nat}:HJ ⟨1,AH l++List.replicate z [AV.I 0],0⟩:=by
 intro row q x hx;simp only[Qn,Qm,List.mem_replicate] at q;rcases q with ⟨y,_,rfl⟩ | ⟨_,rfl⟩
 .simp at hx;subst hx;exact .sc _
 .simp at hx;subst hx;exact .sc _
theorem cQ (g:Gr) (S:List Int) (k:Int) (hS:S.length<=1099511627776) (hg:g.gone.length<=1099511627776):AK 236 [eG g,AA S,.I k] [] (.B (Eg g S k)) []:=by
 refine jE.s.ai ?_;refine ar [1,2,3] [] [16] 16 ?_;refine arc ⟨17,[(6,.B (Eg g S k))],[],16⟩ ?_ ?_
 .simp
  refine CC 118 rfl ?_;refine AT (Kv S k zy) rfl ?_
  simp;refine BK (λ hb=>?_) (λ hb=>?_)
  .simp [hb]
   refine CC 118 rfl ?_;refine AT (Kv g.gone k zy) rfl ?_
   simp[hb];exact AM [] (by simp[Eg]<;>exact An (by simp_all))
  .simp [hb]
   exact AM [] (by simp[Eg]<;>exact An (by simp_all))
 exact Bv
theorem fK (g:Gr) (S:List Int) (k:Int) (hS:S.length<=1099511627776) (hg:g.gone.length<=1099511627776):AK 235 [.I k,.pv (gC g),.pv [AA S]] [] (.B (Eg g S k)) []:=by
 refine Zw.s.ai ?_;refine AC (Ad ?_);refine AC (BA (s:=?s1) rfl ?o1 ?q1)
 case o1=>simp;refine AT (cQ g S k hS hg) rfl ?_;simp;rfl
 exact Bv
def D4 (D:List Int) (x:Int):Bool:=!decide (0<=x/\x<D.length) || decide (0<=D.getD x.toNat 0)
theorem gM (D:List Int) (x:Int) (hD:D.length<=1000000):AK 238 [.I x,.pv [AA D]] [] (.B (D4 D x)) []:=by
 refine k7.s.ai ?_;have hw:=w6 (x:=(D.length:Int) - 1);refine AC (Ad ?_);refine arc ⟨17,[(3,.B (D4 D x))],[],16⟩ ?_ ?_
 .simp [hw]
  refine CC 84 rfl ?_;refine AT (Ge ..) rfl ?_;simp
  by_cases hx:0<=x/\x<D.length
  .obtain ⟨k,rfl⟩:∃ k:Nat,x=k:=⟨x.toNat,zy⟩
   have hk:k<D.length:=zy
   have hb:(!decide (0<=(k:Int)) || !decide ((k:Int)<=(D.length:Int) - 1))=false:=zu
   have ho:D4 D k=decide (0<=D[k]):=by
    unfold D4;rw[Q7 hx];simp[hk]
   rw[hb,ho];simp[hk];exact AM [] zz
  .have hb:(!decide (0<=x) || !decide (x<=(D.length:Int) - 1))=true:=zu
   have ho:D4 D x=true:=by
    unfold D4;rw[QE hx];rfl
   rw[hb,ho];simp;exact AM [] zz
 exact Bv
def CZ (g:Gr) (S:List Int):List Int:=(List.range g.size.toNat).map λ (i:Nat)=>Aq g S (i:Int)
def Bu (g:Gr) (S:List Int) (d:Nat):List Int:=(List.range g.size.toNat).map λ (i:Nat)=>if 0<=dl g S d i/\dl g S d i<d then dl g S d i else -1
def Bq (g:Gr) (S:List Int) (d:Nat) (F:List Int):List Int:=(List.range g.size.toNat).map λ (i:Nat)=>if 0<=dl g S d i/\dl g S d i<d then dl g S d i else if (i:Int)∈F then (d:Int) else -1
theorem NB (g:Gr) (S:List Int) (d:Nat):Bq g S d []=Bu g S d:=by
 unfold Bq Bu;simp
theorem bQ (d:Nat) (F:List Int) (hF:∀ x,x∈F↔EI g x/\dl g S d x=d):Bq g S d F=Bu g S (d+1):=by
 unfold Bq Bu;refine Ut λ i hi=>?_;simp at hi;have q:EI g i:=⟨zy,zy⟩
 have hr:=Et (g:=g) (S:=S) d i;have u:=Et (g:=g) (S:=S) (d+1) i;have hm:(i:Int)∈F↔dl g S d i=d:=by rw[hF];exact⟨λ h=>h.2,λ h=>⟨q,h⟩⟩
 simp only[hm]
 by_cases h0:0<=dl g S d i
 .have e:=HY h0
  rw[e]
  by_cases h1:dl g S d i<d
  .rw [if_pos ⟨h0,h1⟩,if_pos ⟨h0,zy⟩]
  .have h2:dl g S d i=d:=zy
   rw[if_neg zy,if_pos h2,if_pos ⟨h0,zy⟩,h2]
 .rw [if_neg zy,if_neg zy]
  by_cases h3:0<=dl g S (d+1) i
  .have:=(JK h3 h0).1
   rw[if_neg zy]
  .rw [if_neg zy]
theorem Ke (g:Gr) (S:List Int) (d:Nat) (F:List Int):(Bq g S d F).length=g.size.toNat:=by simp[Bq]
theorem VO (g:Gr) (S:List Int) (d:Nat):(Bu g S d).length=g.size.toNat:=by simp[Bu]
theorem XI {k:Nat} (hk:k<g.size.toNat) (hd:dl g S d k=d):(Bq g S d F)[k]'(by rw[Ke];exact hk)=if (k:Int)∈F then (d:Int) else -1:=by
 unfold Bq;simp only[List.getElem_map,List.getElem_range];rw[if_neg zy]
theorem S3 (F:List Int) {i:Nat} (hi:i<g.size.toNat):(Bq g S d F)[i]? = some (if 0<=dl g S d i/\dl g S d i<d then dl g S d i else if (i:Int)∈F then (d:Int) else -1):=by
 simp[Bq,hi]
theorem ZK {k:Nat} (hk:k<g.size.toNat) (hd:dl g S d k=d):(Bq g S d F).set k d=Bq g S d (F++[(k:Int)]):=by
 apply List.ext_getElem?;intro i
 by_cases hi:i<g.size.toNat
 .rw [S3 _ hi,UA]
  by_cases q:k=i
  .subst q
   rw[if_pos rfl,if_pos (by rw[Ke];exact hk),if_neg zy,if_pos zz]
  .rw [if_neg q,S3 _ hi]
   have:(i:Int)∈F++[(k:Int)]↔(i:Int)∈F:=by
    simp;omega
   simp only[this]
 .rw [QT (by rw[Ux,Ke];omega),QT (by rw[Ke];omega)]
theorem VQ {F':List Int} (h:∀ x,x∈F↔x∈F'):Bq g S d F=Bq g S d F':=by
 unfold Bq;simp only[h]
theorem c8 {l:List Ed} {x:Int} (hx:x∉F):(l.countP λ e=>decide (e.f∈F++[x]))=(l.countP λ e=>decide (e.f∈F))+(BR l x).length:=by
 rw[jD]
 induction l with
 | nil=>rfl
 | cons e l ih =>
   have e1:decide (e.f∈F++[x])=(decide (e.f∈F) || decide (e.f=x)):=zz
   simp only[List.countP_cons,ih,e1]
   by_cases h1:e.f∈F<;>by_cases h2:e.f=x
   .rw [h2] at h1;exact absurd h1 hx
   all_goals
    simp only[hx,h1,h2,decide_true,decide_false,Bool.or_true,Bool.or_false,Bool.true_or,Bool.false_or,UQ,Uh,Uu];omega
variable {d n:Int}
structure BV where
 seeds:List Int
 table:List Int
 lv:Int
variable {p:BV}
def CG (n:Int) (p:BV):Prop :=
 p.seeds≠[]/\Bh p.seeds 0 (n - 1)/\1<=p.table.length/\p.table.length<=8/\1<=p.lv/\p.lv<=3 /\ ∀ i (h:i<p.table.length),1<=p.table[i]/\p.table[i]<=1000/\(0<i->p.table[i]<=p.table[i - 1])
def D1 (p:BV) (d:Int):Int:=if d<0 then 0 else p.table.getD d.toNat 1
theorem Lz (h:d<0):D1 p d=0:=if_pos h
theorem N3 (hp:CG n p) (h:0<=d):1<=D1 p d/\D1 p d<=1000:=by
 unfold D1;rw[if_neg zy]
 by_cases hd:d.toNat<p.table.length
 .rw [Qf,Qa hd,QH]
  have:=hp.2.2.2.2.2.2 d.toNat hd;omega
 .rw [Qf,QT zy,Option.getD_none]
  omega
theorem Pg (hp:CG n p):0<D1 p d↔0<=d:=by
 constructor
 .intro h
  refine UC λ h1=>?_;rw[Lz zy] at h
  omega
 .intro h
  have:=N3 hp h;omega
theorem PJ (hp:CG n p) (d:Int):0<=D1 p d/\D1 p d<=1000:=by
 by_cases h:0<=d
 .have:=N3 hp h;omega
 .rw [Lz zy];omega
theorem Vp (g:Gr) (v:Int):Ao (Ao g v) v=Ao g v:=by
 unfold Ao;simp only[List.filter_filter,Bool.and_self]
def BB (g:Gr) (p:BV):List Int:=(CZ (Ao g p.lv) p.seeds).map (D1 p)
def DW (g:Gr) (p:BV) (c:List Int) (sinks:List Int):List Ed :=
 ((p.seeds.filter λ x=>decide (0<c.getD x.toNat 0)).map λ x=>⟨0,2+2*x,c.getD x.toNat 0⟩)
 ++ ((List.range c.length).filter λ i=>decide (0<c.getD i 0)).map (λ i=>⟨2+2*(i:Int),3+2*(i:Int),c.getD i 0 - 1⟩)
 ++ ((sinks.filter λ x=>decide (0<c.getD x.toNat 0)).map λ x=>⟨2+2*x,1,1⟩)
 ++ (((Ao g p.lv).edges.filter λ e=>decide (0<c.getD e.f.toNat 0)).map λ e=>⟨3+2*e.f,2+2*e.t,64⟩)
structure GY where
 nodes:Int
 arcs:List Ed
def G0 (n:Int) (a:Ed):Prop:=0<=a.f/\a.f<=n - 1/\0<=a.t/\a.t<=n - 1/\a.f≠a.t/\a.t≠0/\a.f≠1/\0<=a.v/\a.v<=1048576
instance (n:Int) (a:Ed):Decidable (G0 n a):=by unfold G0;infer_instance
def C3 (n:GY):Prop:=2<=n.nodes/\n.nodes<=130/\n.arcs.length<=1200 /\ ∀ a∈n.arcs,G0 n.nodes a
instance (n:GY):Decidable (C3 n):=by unfold C3;infer_instance
def MF (n:GY) (side:List Int):Prop:=C3 n/\Bh side 0 (n.nodes - 1)/\(0:Int)∈side/\(1:Int)∉side
def Ex (arcs:List Ed) (side:List Int):Int:=(arcs.map λ a=>if a.f∈side/\a.t∉side then a.v else 0).sum
def OY (n:GY) (side:List Int) (most:Int):Prop:=MF n side/\Ex n.arcs side<=most
def Az (a:List Int):List Int:=((List.range 64).map Int.ofNat).filter λ x=>decide (x∈a)
theorem ID {a:List Int} {x:Int}:x∈Az a↔x∈a/\0<=x/\x<64:=by
 unfold Az;simp only[QA,Qm,QS,Qb];constructor
 .rintro ⟨⟨i,hi,rfl⟩,h⟩
  exact⟨h,Int.natCast_nonneg _,by show (i:Int)<64;omega⟩
 .rintro ⟨h,h0,h1⟩
  exact⟨⟨x.toNat,zy,by show ((x.toNat:Nat):Int)=x;omega⟩,h⟩
theorem JM (a:List Int):(Az a).Pairwise (· < ·):=by
 unfold Az;refine List.Pairwise.filter _ ?_;rw[Uw];exact List.pairwise_lt_range.imp λ {a b} h=>by show (a:Int)<(b:Int);omega
theorem Fs:∀ {a b:List Int},a.Nodup->(∀ x∈a,x∈b)->a.length<=b.length
 | [],_,_,_=>Qh _
 | x::a,b,hn,hs=>by
   have hx:x∈b:=hs x (Qp ..);rw[Ur] at hn;have hb:=List.perm_cons_erase hx;have u:(b.erase x).length+1=b.length:=by have:=hb.length_eq;simp at this;omega
   have:=Fs (b:=b.erase x) hn.2 λ y hy=>by
    have q:y≠x:=λ e=>hn.1 (e ▸ hy);exact(List.mem_erase_of_ne q).2 (hs y (Qo _ hy))
   rw[QZ];omega
theorem Nf {a:List Int} (hn:a.Nodup) (hr:∀ k∈a,0<=k/\k<64):HL a=Az a:=by
 have h1:(Az a).Nodup:=(JM a).imp λ {x y} h=>zy
 have h2:a.Perm (Az a):=Mi hn (λ x hx=>ID.2 ⟨hx,hr x hx⟩) (Fs h1 λ x hx=>(ID.1 hx).1);exact List.Perm.eq_of_pairwise (le:=(· <= ·)) (λ x y _ _ h1 h2=>zy) (NY a) ((JM a).imp λ {x y} h=>zy) ((JZ a).trans h2)
abbrev pC (p:BV):List AV:=[AA p.seeds,AA p.table,.I p.lv]
abbrev eP (p:BV):AV:=.agg (pC p)
def IT (p:BV) (i:Nat):Prop:=∀ h:i<p.table.length,1<=p.table[i]/\p.table[i]<=1000/\(0<i->p.table[i]<=p.table[i - 1])
def H5 (n:Int) (p:BV):Prop:=p.seeds≠[]/\Bh p.seeds 0 (n - 1)/\(1<=p.table.length/\p.table.length<=8)/\(1<=p.lv/\p.lv<=3)
theorem Je {n:Int} {p:BV}:CG n p↔H5 n p /\ ∀ i,IT p i:=by
 unfold CG H5 IT;constructor
 .rintro ⟨a,b,c,d,e,f,g⟩;exact⟨⟨a,b,⟨c,d⟩,e,f⟩,g⟩
 .rintro ⟨⟨a,b,⟨c,d⟩,e,f⟩,g⟩;exact⟨a,b,c,d,e,f,g⟩
theorem Wp (p:BV) (d:Int):AK 171 [eP p,.I d] [] (.I (D1 p d)) []:=by
 refine tL.s.ai ?_;refine rs [1,2] [] [16] ?_;refine Bn (ι:=Unit) (λ _=>⟨19,[],[],200⟩) (λ _=>0<=d/\(p.table.length:Int)<=d) ?_ λ _ hd=>?_
 .refine AI (rs [1,2,5] [] [] ?_)
  refine AD _ rfl (λ h3=>?_) λ h3=>?_
  .simp at h3
   refine rs [4] [] [] ?_;exact BG (AG.one (by simp[Lz h3]))
  simp at h3;refine rs [1,2,8] [] [] ?_;refine AD _ rfl (λ h6=>?_) λ h6=>?_
  .simp at h6
   obtain⟨k,rfl⟩:∃ k:Nat,d=k:=⟨d.toNat,zy⟩
   have hk:k<p.table.length:=zy
   refine rx (s:=?s7) [4] [] [] rfl ?o7 ?q7
   case o7=>simp[hk];rfl
   exact BG (AG.one (by simp[D1,hk,show ¬ ((k:Int)<0) by omega]))
  simp at h6;exact AE ⟨(),⟨h3,h6⟩,Le.keep rfl (AW rfl) zz zz⟩
 refine rs [4] [] [] ?_;refine AO ?_
 have h1:D1 p d=1:=by
  unfold D1;rw[if_neg zy,Qf,QT zy]
  rfl
 exact⟨.inr rfl,AG.one (by simp[h1])⟩
theorem iM (p:BV) (d:Int):AK 51 [eP p,.I d] [] (.I (D1 p d)) []:=by
 refine rJ.s.ai ?_;refine rs [1,2] [] [16] ?_;refine AC (rs [1,2,6] [] [] ?_);refine AD _ rfl (λ h3=>?_) λ h3=>?_
 .simp at h3
  refine rs [4] [] [] ?_;exact BG (AG.one (by simp[Lz h3]))
 simp at h3;refine AE (AC (rs [1,2,11] [] [] ?_));refine AD _ rfl (λ h6=>?_) λ h6=>?_
 .simp at h6
  obtain⟨k,rfl⟩:∃ k:Nat,d=k:=⟨d.toNat,zy⟩
  have hk:k<p.table.length:=zy
  refine rx (s:=?s7) [4] [] [] rfl ?o7 ?q7
  case o7=>simp[hk];rfl
  exact BG (AG.one (by simp[D1,hk,show ¬ ((k:Int)<0) by omega]))
 simp at h6;refine AE (rs [4] [] [] ?_);refine AO ?_
 have h1:D1 p d=1:=by
  unfold D1;rw[if_neg zy,Qf,QT zy]
  rfl
 exact⟨.inr rfl,AG.one (by simp[h1])⟩
open Classical in
theorem O0 (g:Gr) (p:BV) (hl:g.edges.length<=140737488355328) (h1:g.gone.length<=140737488355328) (hs:p.seeds.length<=140737488355328) (ht:p.table.length<=140737488355328) :
  AK 87 [eG g,eP p] [] (.I (if Ah g then if CG g.size p then 0 else 15 else 14)) []:=by
 refine uL.s.ai ?_;refine rs [2,3] [] [16,24] ?_;refine AC (rx (s:=?s2) [2,3,5] [] [] rfl ?o2 ?q2)
 case o2=>simp;refine AT (i9 g hl h1) zz ?_;simp;rfl
 refine rs [2,3,5,11] [] [] ?_;refine AD _ rfl (λ h4=>?_) λ h4=>?_
 .simp at h4
  refine rs [4] [] [] ?_;exact BG (AG.one (by simp[h4]))
 simp at h4;have h5:=h4.1.1;have h6:=h4.1.2.1;refine AE (AC (arc ⟨65,[(3,.pv (pC p)),(38,.B (decide (¬ H5 g.size p)))],[],288⟩ ?_ ?_))
 .simp
  repeat' first
   | (refine CC 141 rfl ?_;have hw:IntKind.i64.wrap (g.size - 1)=g.size - 1:=w6;rw[hw];refine AT (PM _ _ _ hs) rfl ?_;simp)
   | (refine CC 84 rfl ?_;refine AT (Ge ..) rfl ?_;simp)
   | (refine BK (λ hb=>?_) (λ hb=>?_)<;>(try rw[hb])<;>(try simp at hb)<;>simp[hb])
  all_goals exact AM [] (by simp;first | exact An (by (try simp at *);grind [H5]) | exact⟨by rw[show pC p=[.vs 1 false [],AA p.table,.I p.lv] by simp[pC,AA,hb]];exact .refl _,An (by (try simp at *);grind [H5])⟩)
 refine AD _ rfl (λ h7=>?_) λ h7=>?_
 .simp at h7
  refine rs [4] [] [] ?_;exact BG (AG.one (by simp[h4,Je,h7]))
 simp at h7;refine AE (AC (rs [3,40,41,42] [] [] ?_));refine AI (Ag (ι:=Nat) (λ i=>⟨65,[(3,.pv (pC p)),(40,AA p.table),(41,.I p.table.length),(42,.I i)],[],320⟩) (λ i=>i<=p.table.length /\ ∀ k,k<i->IT p k) (λ i=>p.table.length - i) 0 zz (BT [] []) ?_)
 rintro i ⟨hi,hp⟩
 refine rs [3,40,41,42,43] [] [] ?_;refine AC (AD _ rfl (λ q=>?_) λ q=>?_)
 .simp at q
  have h2:=w6 (x:=(i:Int)+1);have h3:0<i->IntKind.i64.wrap ((i:Int) - 1)=((i - 1:Nat):Int):=λ h=>by rw[w6];omega
  have h0:i - 1<p.table.length:=zy
  refine AE (AC (AI (rx (s:=?s12) [3,6,7,40,41,42] [] [] rfl ?o12 ?q12)))
  case o12=>simp[q];rfl
  refine arc ⟨65,[(3,.pv (pC p)),(40,AA p.table),(41,.I p.table.length),(42,.I i),(63,.B (decide (¬ IT p i)))],[],504⟩ ?_ ?_
  .simp
   repeat' first
    | (refine CC 84 rfl ?_;refine AT (Ge ..) rfl ?_;simp)
    | (refine BK (λ hb=>?_) (λ hb=>?_)<;>(try rw[hb])<;>(try simp at hb)<;>simp[hb,q,h0,h3])
   all_goals exact AM [] (by simp;exact An (by (try simp at *);grind [IT]))
  refine AD _ rfl (λ u=>?_) λ u=>?_
  .refine rs [4] [] [] ?_
   refine AO ?_;have hn:¬ CG g.size p:=λ h=>by simp at u;exact u ((Je.1 h).2 i)
   exact⟨.inr rfl,AG.one (by simp[h4,hn])⟩
  simp at u;refine AE (Ad ?_);refine⟨i+1,⟨q,λ k hk=>?_⟩,?_,AN [] [] (by simp[h2])⟩
  .rcases QN.1 hk with h | rfl
   .exact hp k h
   .exact u
  .omega
 simp at q;have hy:CG g.size p:=Je.2 ⟨h7,λ k hk=>hp k zy hk⟩
 refine Aa (Ab (rs [4] [] [] ?_));exact BG (AG.one (by simp[h4,hy]))
open Classical in
theorem WW (g:Gr) (p:BV) (hs:p.seeds.length<=140737488355328) (ht:p.table.length<=140737488355328) :
  AK 48 [eG g,eP p] [] (.B (decide (CG g.size p))) []:=by
 refine tT.s.ai ?_;refine rs [2,3] [] [16,24] ?_;refine AC (arc ⟨79,[(3,.pv (pC p)),(39,.B (decide (¬ H5 g.size p)))],[],312⟩ ?_ ?_)
 .simp
  repeat' first
   | (refine CC 93 rfl ?_;refine AT (MV _ _ hs) rfl ?_;simp)
   | (refine BK (λ hb=>?_) (λ hb=>?_)<;>(try rw[hb])<;>(try simp at hb)<;>simp[hb])
  all_goals exact AM [] (by simp;first | exact An (by (try simp at *);grind [H5]) | exact⟨by rw[show pC p=[.vs 1 false [],AA p.table,.I p.lv] by simp[pC,AA,hb]];exact .refl _,An (by (try simp at *);grind [H5])⟩)
 refine AD _ rfl (λ h3=>?_) λ h3=>?_
 .simp at h3
  refine rs [4] [] [] ?_;exact BG (AG.one (by simp[Je,h3]))
 simp at h3;refine AE (AC (rs [3,5] [] [] ?_));refine AI (Ag (ι:=Nat) (λ i=>⟨79,[(3,.pv (pC p)),(5,.I i)],[],320⟩) (λ i=>i<=p.table.length /\ ∀ k,k<i->IT p k) (λ i=>p.table.length - i) 0 zz (BT [] []) ?_)
 rintro i ⟨hi,hp⟩
 refine AC (rs [3,5,44] [] [] ?_);refine AD _ rfl (λ h7=>?_) λ h7=>?_
 .simp at h7
  have q:=w6 (x:=(i:Int)+1);have u:0<i->IntKind.i64.wrap ((i:Int) - 1)=((i - 1:Nat):Int):=λ h=>by rw[w6];omega
  have h0:i - 1<p.table.length:=zy
  refine AE (AC (AI (BM ⟨79,[(3,.pv (pC p)),(5,.I i),(78,.B (decide (¬ IT p i)))],[],616⟩ ?_ ?_)))
  .simp [h7]
   repeat' first
    | (refine BK (λ hb=>?_) (λ hb=>?_)<;>(try rw[hb])<;>(try simp at hb)<;>simp[hb,h7,h0,u])
   all_goals exact⟨rfl,AM [] (by simp;exact An (by (try simp at *);grind [IT]))⟩
  refine AD _ rfl (λ h9=>?_) λ h9=>?_
  .refine rs [4] [] [] ?_
   refine AO ?_;have hn:¬ CG g.size p:=λ h=>by simp at h9;exact h9 ((Je.1 h).2 i)
   exact⟨.inr rfl,AG.one (by simp[hn])⟩
  simp at h9;refine AE (Ad ?_);refine⟨i+1,⟨h7,λ k hk=>?_⟩,?_,AN [] [] (by simp[q])⟩
  .rcases QN.1 hk with h | rfl
   .exact hp k h
   .exact h9
  .omega
 simp at h7;have hy:CG g.size p:=Je.2 ⟨h3,λ k hk=>hp k zy hk⟩
 refine Aa (Ab (rs [4] [] [] ?_));exact BG (AG.one (by simp[hy]))
open Classical in
theorem LB (g:Gr) (p:BV) (hl:g.edges.length<=140737488355328) (q:g.gone.length<=140737488355328) (hs:p.seeds.length<=140737488355328) (ht:p.table.length<=140737488355328) :
  AK 15 [eG g,eP p] [] (.I (if Ah g then if CG g.size p then 0 else 15 else 14)) []:=by
 refine qP.s.ai ?_;refine rs [2,3] [] [16,24] ?_;refine AC (rx (s:=?s2) [2,3,7] [] [] rfl ?o2 ?q2)
 case o2=>simp;refine AT (j4 g hl q) zz ?_;simp;rfl
 refine AD _ rfl (λ h3=>?_) λ h3=>?_
 .simp at h3
  refine rs [4] [] [] ?_;exact BG (AG.one (by simp[h3]))
 simp at h3;refine AE (AC (rx (s:=?s5) [11] [] [] rfl ?o5 ?q5))
 case o5=>simp;refine AT (WW g p hs ht) zz ?_;simp;rfl
 refine AD _ rfl (λ h6=>?_) λ h6=>?_
 .simp at h6
  refine rs [4] [] [] ?_;exact BG (AG.one (by simp[h3,h6]))
 simp at h6;refine AE (rs [4] [] [] ?_);exact BG (AG.one (by simp[h3,h6]))
theorem Le.dn {st st':St} {D D':List (List AV)} (N:Nat) (i j i' j':Nat) (sn:List Nat) (u:st'.sz=st.sz) (hh:st'.h=[(i',some ⟨1,[[.rs j' 0 N]],0⟩),(j',some ⟨1,D',0⟩)]) (hi:i'<st'.n) (hj:j'<st'.n) (hij:i≠j) (q:i'≠j') (hs:∀ k∈sn,k≠i/\k≠j) (h1:st.hp i=some ⟨1,[[.rs j 0 N]],0⟩) (h2:st.hp j=some ⟨1,D,0⟩) (hD:D.map (·.map (conv [(i,i'),(j,j')] sn st.hp 4))=D') (ht:∀ p∈st'.t,Wk (conv [(i,i'),(j,j')] sn st.hp 4 (st.get p.1)) p.2):Le 0 st st' :=
 Le.ents [(i,i'),(j,j')] sn u (by simpa using hij) (by simpa using q) (by simp[hi,hj]) (by simpa using hs) (Qh _) ht λ p hp=>by
  rw[hh] at hp;simp at hp;rcases hp with rfl | rfl
  .exact ⟨i,_,_,rfl,zz,h1,Av.eq (by simp[hij]) zz⟩
  .exact ⟨j,_,_,rfl,zz,h2,Av.eq (by simp only[Ak,hD]) zz⟩
theorem VJ {l:List Int} {lo hi:Int} (h:Bh l lo hi):∀ (i:Nat) (hi:i<l.length),lo+i<=l[i]
 | 0,hi=>by have:=(h 0 hi).1;simp;omega
 | i+1,hi=>by
   have h1:=VJ h i zy
   have h2:=(h (i+1) hi).2.2 zy
   simp only[Nat.add_sub_cancel] at h2;omega
theorem Ah.gone_le {g:Gr} (h:Ah g):g.gone.length<=64:=by
 have hr:=h.1.2.2.2;have h1:=h.1.1;have h2:=h.1.2.1;rcases Q8 g.gone.length with h0 | h0
 .omega
 .have h3:=VJ hr (g.gone.length - 1) zy
  have h4:=(hr (g.gone.length - 1) zy).2.1
  omega
theorem S8 {l:List Ed} {x t:Int}:t∈BR l x ↔ ∃ e∈l,e.f=x/\e.t=t:=by
 unfold BR;simp only[U9];constructor
 .rintro ⟨e,he,h⟩
  split at h
  .exact ⟨e,he,by assumption,by simpa using h⟩
  .cases h
 .rintro ⟨e,he,h1,h2⟩
  exact⟨e,he,by rw[if_pos h1,h2]⟩
theorem X0 {g:Gr} {S:List Int} {d:Nat} {F X:List Int} (hg:Ah g) (hF:∀ x,x∈F↔EI g x/\dl g S d x=d) (hX:∀ t,t∈X ↔ ∃ x∈F,t∈BR g.edges x) (x:Int) :
  x∈X.filter (λ e=>!D4 (Bu g S (d+1)) e)↔EI g x/\dl g S (d+1) x=(d+1:Nat):=by
 rw[QA,hX];have h0:=VO g S (d+1);have h8:=hg.1.1;constructor
 .rintro ⟨⟨y,hy,h6⟩,ho⟩
  obtain⟨e,he,rfl,rfl⟩:=S8.1 h6;have h9:=(hF e.f).1 hy;simp only[D4,Bool.not_or,Bool.not_not,QW,Qb,h0] at ho;have hk:EI g e.t:=⟨ho.1.1,zy⟩
  have h1:=Rh (S:=S) (n:=d) he zy
  refine⟨hk,?_⟩;have u:=ho.2;obtain⟨k,h7⟩:∃ k:Nat,e.t=k:=⟨e.t.toNat,by have:=hk.1;omega⟩
  rw[h7] at u h1 ⊢;have h3:k<g.size.toNat:=by have:=hk.2;omega
  have q:(Bu g S (d+1)).getD k 0=if 0<=dl g S (d+1) k/\dl g S (d+1) k<(d+1:Nat) then dl g S (d+1) k else -1:=by
   simp[Bu,List.getD,h3]
  simp only[Vc,q] at u;simp at u;split at u<;>omega
 .rintro ⟨hk,hd⟩
  have h2:¬ 0<=dl g S d x:=by
   intro h2;rw[HY h2] at hd;have:=Et (g:=g) (S:=S) d x;omega
  obtain⟨_,e,he,h4,h5⟩:=JK (g:=g) (S:=S) (n:=d) (k:=x) zy h2
  have hf:=hg.fits e he;refine⟨⟨e.f,(hF _).2 ⟨⟨hf.1,by have:=hf.2.1;omega⟩,h5⟩,S8.2 ⟨e,he,rfl,h4⟩⟩,?_⟩
  obtain⟨k,rfl⟩:∃ k:Nat,x=k:=⟨x.toNat,by have:=hk.1;omega⟩
  have h3:k<g.size.toNat:=by have:=hk.2;omega
  have q:(Bu g S (d+1)).getD k 0=if 0<=dl g S (d+1) k/\dl g S (d+1) k<(d+1:Nat) then dl g S (d+1) k else -1:=by
   simp[Bu,List.getD,h3]
  simp only[D4,Vc,q,h0];rw[if_neg zy]
  simp;omega
theorem Yn {F:List Int} {i:Nat} (h:i<F.length) (x:Int):x∈F.take (i+1)↔x∈F.take i++[F[i]]:=by
 rw[<- UH h,UF]
theorem RF (g:Gr) (S:List Int) (hg:Ah g) (hS:S.length<=1099511627776):AK 170 [eG g,AA S] [] (.rs 0 0 g.size.toNat) [some ⟨1,AH (CZ g S),0⟩]:=by
 refine Z5.s.ai ?_;have b3:=hg.1.1;have av:=hg.1.2.1;have hv:=hg.1.2.2.1;have a6:g.gone.length<=1000000:=QI hg.gone_le zy
 obtain⟨N,hN⟩:∃ N:Nat,N=g.size.toNat:=⟨_,rfl⟩;have a7:(if 0<g.size then g.size else 0)=(N:Int):=by split<;>omega
 refine ar [2,3] [] [16,24] 40 ?_;apply ak [2,3,5] [80,72] 96
 .simp [a7]
  refine bC (j:=40) (Qh _) rfl (cJ (-1) N zy) ?_ ?_
  .simp
  simp;rfl
 have h0:List.replicate N [AV.I (-1)]=AH (Bu g S 0):=by
  unfold Bu AH;rw[Un];apply List.ext_getElem
  .simp [hN]
  .intro i h1 h2
   simp;omega
 rw[h0];obtain⟨F0,hj⟩:∃ F,F=Cz N (Eg g S):=⟨_,rfl⟩
 have hw:∀ x,x∈F0↔EI g x/\dl g S 0 x=((0:Nat):Int):=by
  intro x;rw[hj];unfold Cz;simp only[QA,Qm,QS];constructor
  .rintro ⟨⟨i,hi,rfl⟩,hs⟩
   exact⟨⟨zy,zy⟩,by rw[dl,if_pos hs];rfl⟩
  .rintro ⟨⟨k1,k2⟩,hs⟩
   refine⟨⟨x.toNat,zy,zy⟩,?_⟩
   rw[dl] at hs;split at hs
   .assumption
   .simp at hs
 have hy:F0.length<=500:=by have:=Kx N (Eg g S);rw[hj];omega
 refine arc ⟨50,[(2,.pv (gC g)),(5,.pt 80 0 0),(6,AA F0)],[(80,some ⟨1,[[.rs 72 0 N]],0⟩),(72,some ⟨1,AH (Bu g S 0),0⟩)],136⟩ ?_ ?_
 .simp
  refine C4 (VI 235 [.pv (gC g),.pv [AA S]] (Eg g S) g.size zy (λ ρ sn h n=>zz) (λ k _=>fK g S k hS zy)) ?_
  rw[<- hN,<- hj];simp[AB];exact Le.dn N 80 72 80 72 [120] rfl rfl zz zz zx zx zz rfl rfl zw (by simp[AB,CI])
 refine AC ?_;apply ak [2,5,6,7] [80,72] 144
 .simp
  rfl
 refine AI (Ag (ι:=Nat × List Int) (λ p=>⟨50,[(2,.pv (gC g)),(5,.pt 80 0 0),(6,AA p.2),(7,.I p.1)],[(80,some ⟨1,[[.rs 72 0 N]],0⟩),(72,some ⟨1,AH (Bu g S p.1),0⟩)],144⟩) (λ p=>p.1<=64/\p.2.length<=500 /\ ∀ x,x∈p.2↔EI g x/\dl g S p.1 x=p.1) (λ p=>64 - p.1) (0,F0) ⟨zz,hy,hw⟩ (Le.refl _ _) ?_)
 rintro⟨d,F⟩ ⟨hd,a8,h5⟩
 simp only at hd a8 h5 ⊢;refine AC (arc ⟨50,[(2,.pv (gC g)),(5,.pt 80 0 0),(6,AA F),(7,.I d),(22,.B (decide (0<F.length)))],[(80,some ⟨1,[[.rs 72 0 N]],0⟩),(72,some ⟨1,AH (Bu g S d),0⟩)],168⟩ ?_ ?_)
 .simp
  exact Le.keep rfl (Qg _) (by simp<;>rw[Qk]<;>simp) zz
 refine AD _ rfl (λ h=>AE ?_) λ h=>Aa (Ab ?_)
 .simp only[Qb] at h
  have b0:(d:Int)<g.size:=by
   have:=h5 F[0];have h1:=(this.1 (Qi _));exact LO hg h1.1 h1.2
  refine Bn (ι:=List Int) (λ F'=>⟨50,[(2,.pv (gC g)),(5,.pt 80 0 0),(6,AA F'),(7,.I d)],[(80,some ⟨1,[[.rs 72 0 N]],0⟩),(72,some ⟨1,AH (Bu g S (d+1)),0⟩)],144⟩) (λ F'=>F'.length<=500 /\ ∀ x,x∈F'↔EI g x/\dl g S (d+1) x=(d+1:Nat)) ?_ ?_
  .refine AI ?_
   apply ak [2,5,6,7,8] [80,72] 176
   .simp
    rfl
   rw[<- NB];refine AC (AC (Ad ?_));refine AI ?_
   let C:Nat × List Int->St:=λ p=>⟨50,[(2,.pv (gC g)),(5,.pt 80 0 0),(7,.I d),(8,.rs 16 0 p.2.length),(25,AA F),(26,.I F.length),(27,.I p.1)],[(80,some ⟨1,[[.rs 72 0 N]],0⟩),(72,some ⟨1,AH (Bq g S d (F.take p.1)),0⟩),(16,some ⟨1,AH p.2,0⟩)],200⟩
   refine Ag C (λ p:Nat × List Int=>p.1<=F.length/\(∀ t,t∈p.2 ↔ ∃ x∈F.take p.1,t∈BR g.edges x)/\p.2.length=g.edges.countP λ e=>decide (e.f∈F.take p.1)) (λ p:Nat × List Int=>F.length - p.1) (0,[]) ⟨Qh _,zz,zz⟩ ?_ ?_
   .refine Le.lst [(80,80),(72,72)] [] [(16,1)] rfl zz zz (by simp[C]) (by simp[C]) zz zz zz (by simp[C,Up]) λ p hp e' hl=>?_
    simp[C] at hp;rcases hp with rfl | rfl | rfl
    .cases hl
     exact .inl ⟨(80,80),zz,rfl,_,rfl,Av.eq zz zz⟩
    .cases hl
     exact .inl ⟨(72,72),zz,rfl,_,rfl,Av.eq (by simp[AB,NB]) zz⟩
    .cases hl
     exact .inr ⟨zz,zz,rfl⟩
   rintro⟨i,X⟩ ⟨hi,h6,h7⟩
   simp only at hi h6 h7 ⊢;have b1:X.length<=500:=by rw[h7];exact QI List.countP_le_length hv
   have hC:C (i,X)=⟨50,[(2,.pv (gC g)),(5,.pt 80 0 0),(7,.I d),(8,.rs 16 0 X.length),(25,AA F),(26,.I F.length),(27,.I i)],[(80,some ⟨1,[[.rs 72 0 N]],0⟩),(72,some ⟨1,AH (Bq g S d (F.take i)),0⟩),(16,some ⟨1,AH X,0⟩)],200⟩:=rfl;rw[hC];apply ak [2,5,7,8,25,26,27,28] [80,72,16] 208
   .simp
    rfl
   refine AC (AD _ rfl (λ h2=>AE ?_) λ h2=>Aa (Ab ?_))
   .simp only[Qb] at h2
    have hx:=(h5 F[i]).1 (Qi h2);obtain⟨k,hk⟩:∃ k:Nat,F[i]=k:=⟨F[i].toNat,by have:=hx.1.1;omega⟩
    have hz:k<g.size.toNat:=by have:=hx.1.2;omega
    have a0:dl g S d k=d:=by rw[<- hk];exact hx.2
    have h8:=Yn h2;rw[hk] at h8;refine Bn (ι:=List Int) (λ X'=>⟨50,[(2,.pv (gC g)),(5,.pt 80 0 0),(7,.I d),(8,.rs 16 0 X'.length),(25,AA F),(26,.I F.length),(27,.I i)],[(80,some ⟨1,[[.rs 72 0 N]],0⟩),(72,some ⟨1,AH (Bq g S d (F.take (i+1))),0⟩),(16,some ⟨1,AH X',0⟩)],200⟩) (λ X'=>(∀ t,t∈X' ↔ ∃ x∈F.take (i+1),t∈BR g.edges x)/\X'.length=g.edges.countP λ e=>decide (e.f∈F.take (i+1))) ?_ ?_
    .have hm:(Bq g S d (F.take i)).length=N:=by rw[Ke,hN]
     have ho:=XI (g:=g) (S:=S) (d:=d) (F:=F.take i) hz a0
     have h4:AH ((Bq g S d (F.take i)).set k d)=AH (Bq g S d (F.take (i+1))):=by
      rw[ZK hz a0]
      congr 1
      exact VQ λ x=>(h8 x).symm
     have hq:(AH (Bq g S d (F.take i))).set k [AV.I d]=AH (Bq g S d (F.take (i+1))):=by
      rw[<- h4,AH,AH,Va]
     clear h4
     have hf:(AH (Bq g S d (F.take i)))[k]? = some [AV.I (if (k:Int)∈F.take i then (d:Int) else -1)]:=by
      rw[QG,Qa zy,ho]
      rfl
     have b4:(AH (Bq g S d (F.take i))).length=N:=by simp[hm]
     generalize hO:AH (Bq g S d (F.take i))=O at *;refine AI ?_;apply ak [2,5,7,8,25,26,27,10] [80,72,16] 232
     .simp [h2,hk]
      rfl
     refine AC (arc ⟨50,[(2,.pv (gC g)),(5,.pt 80 0 0),(7,.I d),(8,.rs 16 0 X.length),(25,AA F),(26,.I F.length),(27,.I i),(10,.I k),(35,.B (decide ((k:Int)∈F.take i)))],[(80,some ⟨1,[[.rs 72 0 N]],0⟩),(72,some ⟨1,O,0⟩),(16,some ⟨1,AH X,0⟩)],272⟩ ?_ ?_)
     .simp [hf,show k<N by omega]
      refine Le.keep rfl (Qg _) ?_ zz
      by_cases a9:(k:Int)∈F.take i<;>simp[a9]
     refine AD _ rfl (λ h3=>Aa (Ab ?_)) λ h3=>AE ?_
     .simp only[Qb] at h3
      have q:∀ x,x∈F.take (i+1)↔x∈F.take i:=by
       intro x;rw[h8 x];simp
       rintro rfl
       exact h3
      refine⟨X,⟨λ t=>?_,?_⟩,?_⟩
      .rw [h6]
       simp only[q]
      .rw [h7]
       simp only[q]
      .rw [VQ q,hO]
       refine Le.ents [(80,80),(72,72),(16,16)] [] rfl zz zz zz zz zz zz λ p hp=>?_
       simp at hp;rcases hp with rfl | rfl | rfl
       .exact ⟨80,_,_,rfl,zz,rfl,Av.eq zz zz⟩
       .exact ⟨72,_,_,rfl,zz,rfl,Av.eq (by rw[<- hO];simp[AB]) zz⟩
       .exact ⟨16,_,_,rfl,zz,rfl,Av.eq zw zz⟩
     simp only[Qd] at h3;refine arc ⟨50,[(2,.pv (gC g)),(5,.pt 80 0 0),(7,.I d),(8,.rs 16 0 X.length),(25,AA F),(26,.I F.length),(27,.I i),(10,.I k)],[(80,some ⟨1,[[.rs 72 0 N]],0⟩),(72,some ⟨1,AH (Bq g S d (F.take (i+1))),0⟩),(16,some ⟨1,AH X,0⟩)],312⟩ ?_ ?_
     .simp [hf,show k<N by omega,AZ]
      exact Le.keep rfl (Qg _) zz (by simp;exact hq)
     have ha:=c8 (l:=g.edges) h3;have b5:=NP g.edges k;refine AU rfl ?_;simp;refine Cu (V9 g k zy) rfl ?_
     simp[AB]
     have ag:(λ e:Ed=>decide (e.f∈F.take (i+1)))=λ e:Ed=>decide (e.f∈F.take i++[(k:Int)]):=by
      funext e
      simp only[h8]
     refine⟨zy,zy,X++Gk (BR g.edges k),⟨λ t=>?_,?_⟩,?_⟩
     .rw [Qn,XE,h6]
      simp only[h8,Qn,Qw];constructor
      .rintro (⟨x,hx,ht⟩ | ht)
       .exact ⟨x,.inl hx,ht⟩
       .exact ⟨k,.inr rfl,ht⟩
      .rintro ⟨x,hx | rfl,ht⟩
       .exact .inl ⟨x,hx,ht⟩
       .exact .inr ht
     .rw [Qe,Mv,h7,ag,ha]
     .have e1:List.take X.length (AH X)=AH X:=Qc zz
      have e2:List.take (BR g.edges k).length (AH (Gk (BR g.edges k)))=AH (Gk (BR g.edges k)):=Qc (by rw[AH,Qs,Mv];exact Qg _)
      have e3:(X++Gk (BR g.edges k)).length=X.length+(BR g.edges k).length:=by rw[Qe,Mv]
      rw[e1,e3];refine Le.ents [(80,80),(72,72),(344,16)] [] rfl zz zz zz zz zz zz λ p hp=>?_
      simp at hp;rcases hp with rfl | rfl | rfl
      .exact ⟨80,_,_,rfl,zz,rfl,Av.eq zz zz⟩
      .exact ⟨72,_,_,rfl,zz,rfl,Av.eq zw zz⟩
      .refine ⟨344,_,_,rfl,zz,rfl,Av.eq ?_ zz⟩
       have e4:AH X++List.take (BR g.edges k).length (AH (Gk (BR g.edges k)))=AH X++AH (Gk (BR g.edges k)):=by rw[e2]
       have e5:(⟨1,AH X++List.take (BR g.edges k).length (AH (Gk (BR g.edges k))),0⟩:AX)=⟨1,AH X++AH (Gk (BR g.edges k)),0⟩:=by rw[e4]
       refine(congrArg _ e5).trans ?_;simp[AB]
    rintro X' ⟨k1,k2⟩
    have am:=wq (k:=i);refine AU rfl ?_;simp[am];refine⟨i+1,X',⟨zy,k1,k2⟩,zy,Le.ents [(80,80),(72,72),(16,16)] [] rfl zz zz (by simp[C]) zz (by simp[C]) (by simp[C]) λ p hp=>?_⟩
    simp[C] at hp;rcases hp with rfl | rfl | rfl
    .exact ⟨80,_,_,rfl,zz,rfl,Av.eq zz zz⟩
    .exact ⟨72,_,_,rfl,zz,rfl,Av.eq zw zz⟩
    .exact ⟨16,_,_,rfl,zz,rfl,Av.eq zw zz⟩
   simp only[Qd] at h2;obtain rfl:i=F.length:=zy
   rw[Qc (Qg _)] at h6 h7 ⊢;rw[bQ d F h5];obtain⟨F',hb⟩:∃ F',F'=X.filter λ e=>!D4 (Bu g S (d+1)) e:=⟨_,rfl⟩;have b2:F'.length<=X.length:=by rw[hb];exact QO _ _
   have hu:=VO g S (d+1);have hh:=Zm 238 [.pv [AA (Bu g S (d+1))]] (D4 (Bu g S (d+1))) X X.length F'.length rfl (by rw[hb]) zy (λ ρ sn h n=>zz) (λ e _=>gM (Bu g S (d+1)) e (by rw[hu];omega))
   rw[<- hb] at hh;have an:List.take N (AH (Bu g S (d+1)))=AH (Bu g S (d+1)):=Qc (by rw[AH,Qs,hu];omega)
   have aq:N<=(AH (Bu g S (d+1))).length:=by rw[AH,Qs,hu];omega
   have a1:=λ x=>X0 hg h5 h6 x;rw[<- hb] at a1;generalize hO:Bu g S (d+1)=O at *;refine AU rfl ?_;simp
   refine cY (i:=16) [80,72] zz rfl (e':=⟨1,AH X,0⟩) zw hh zz ?_ (.rs _ _ _) (by
    intro e he;simp at he;subst he
    exact Xm) ?_
   .have a2:N<=O.length:=by simpa using aq
    have a3:List.take N (List.map (λ x=>[AV.I x]) O)=List.map (λ x=>[AV.I x]) O:=an;simp[AB,a2,a3]
   simp[AB];refine⟨F',⟨zy,a1⟩,?_⟩
   rw[NB,hO];exact Le.dn N 80 72 80 72 [16] rfl rfl zz zz zx zx zz rfl rfl zw (by simp[AB,CI])
  rintro F' ⟨k1,k2⟩
  have au:=wq (k:=d);refine AU rfl ?_;simp[au];exact⟨d+1,F',⟨zy,k1,k2⟩,zy,Le.dn N 80 72 80 72 [] rfl rfl zz zz zx zx zz rfl rfl zw zz⟩
 simp only[Qd] at h;have a4:F=[]:=Qy zy
 have u:∀ k,EI g k->dl g S d k≠d:=by
  intro k hk he;have:=(h5 k).2 ⟨hk,he⟩;rw[a4] at this;simp at this
 have a5:Bu g S d=CZ g S:=by
  unfold Bu CZ;refine Ut λ i hi=>?_;simp at hi;have h9:EI g i:=⟨zy,zy⟩
  rw[SJ hg u i h9];have hr:=Et (g:=g) (S:=S) d i;have:=u i h9;rw[SJ hg u i h9] at this hr;split<;>omega
 rw[a5];refine AC (Ad ?_);refine AO ?_;rw[<- hN];exact⟨.inr rfl,AG.out [72] [] rfl zz zz zz zw⟩
def dP (g:Gr) (S:List Int) (n i:Nat) (k:Int):Int:=if 0<=dl g S n k then dl g S n k else if (g.edges.take i).any (λ e=>decide (e.t=k) && decide (dl g S n e.f=n))=true then (n:Int)+1 else -1
variable {g:Gr} {S:List Int}
theorem OR (n:Nat) (k:Int):dP g S n 0 k=dl g S n k:=by
 unfold dP;have:=Et (g:=g) (S:=S) n k;split
 .rfl
 .simp;omega
theorem WL (n:Nat) (k:Int):dP g S n g.edges.length k=dl g S (n+1) k:=by
 unfold dP;rw[Qc (Qg _),dl]
theorem Wn (n i:Nat) (k:Int):dP g S n i k=n↔dl g S n k=n:=by
 unfold dP;have:=Et (g:=g) (S:=S) n k;split
 .exact Iff.rfl
 .split<;>omega
theorem R8 (n i:Nat) (hi:i<g.edges.length) (k:Int):dP g S n (i+1) k=if dl g S n g.edges[i].f=n/\dP g S n i g.edges[i].t = -1/\k=g.edges[i].t then (n:Int)+1 else dP g S n i k:=by
 have q:∀ k,(g.edges.take (i+1)).any (λ e=>decide (e.t=k) && decide (dl g S n e.f=n))=((g.edges.take i).any (λ e=>decide (e.t=k) && decide (dl g S n e.f=n)) || (decide (g.edges[i].t=k) && decide (dl g S n g.edges[i].f=n))):=by
  intro k;rw[<- UH hi,UF,List.any_append];simp
 unfold dP;rw[q]
 by_cases h1:dl g S n g.edges[i].f=n
 .by_cases h2:k=g.edges[i].t
  .subst h2
   simp only[h1,decide_true,Bool.and_self,Bool.or_true,UQ,and_true,true_and];have:=Et (g:=g) (S:=S) n g.edges[i].t
   by_cases h3:0<=dl g S n g.edges[i].t
   .simp only[h3,UQ]
    rw[if_neg zy]
   .simp only[h3,Uu]
    split<;>simp
  .have h3:decide (g.edges[i].t=k)=false:=by simpa using λ h=>h2 h.symm
   simp only[h3,h2,Bool.false_and,Bool.or_false,and_false,Uu]
 .simp only[h1,decide_false,Bool.and_false,Bool.or_false,false_and,Uu]
def Fp (g:Gr) (S:List Int) (k:Nat):List Int:=(List.range k).map λ (i:Nat)=>dl g S 0 (i:Int)
def Bl (g:Gr) (S:List Int) (n i:Nat):List Int:=(List.range g.size.toNat).map λ (k:Nat)=>dP g S n i (k:Int)
theorem LZ (n i:Nat):(Bl g S n i).length=g.size.toNat:=by simp[Bl]
theorem bU:Bl g S 0 0=Fp g S g.size.toNat:=by unfold Bl Fp;simp only[OR]
theorem aN (n:Nat):Bl g S n g.edges.length=Bl g S (n+1) 0:=by unfold Bl;simp only[WL,OR]
theorem fQ:Bl g S g.size.toNat 0=CZ g S:=by unfold Bl CZ Aq;simp only[OR]
theorem SL (n i:Nat) {k:Nat} (hk:k<g.size.toNat):(AH (Bl g S n i))[k]? = some [AV.I (dP g S n i k)]:=by
 simp[Bl,hk]
theorem Xi (n i:Nat) (hi:i<g.edges.length) (h:¬ (dl g S n g.edges[i].f=n/\dP g S n i g.edges[i].t = -1)):Bl g S n (i+1)=Bl g S n i:=by
 unfold Bl;refine Ut λ k _=>?_;rw[R8 n i hi,if_neg]
 rintro⟨h1,h2,_⟩
 exact h ⟨h1,h2⟩
theorem Wl (n i:Nat) (hi:i<g.edges.length) {k:Nat} (hk:g.edges[i].t=k) (u:k<g.size.toNat) (h1:dl g S n g.edges[i].f=n) (h2:dP g S n i g.edges[i].t = -1):(AH (Bl g S n i)).set k [AV.I ((n:Int)+1)]=AH (Bl g S n (i+1)):=by
 have e:(Bl g S n i).set k ((n:Int)+1)=Bl g S n (i+1):=by
  apply List.ext_getElem?;intro j
  by_cases hj:j<g.size.toNat
  .have e1:(Bl g S n (i+1))[j]? = some (dP g S n (i+1) j):=by simp[Bl,hj]
   have e2:(Bl g S n i)[j]? = some (dP g S n i j):=by simp[Bl,hj]
   rw[UA,e1,e2,R8 n i hi,LZ]
   by_cases q:k=j
   .subst q
    rw[if_pos rfl,if_pos u,if_pos ⟨h1,h2,hk.symm⟩]
   .rw [if_neg q,if_neg]
    rintro⟨_,_,h3⟩
    rw[hk] at h3;omega
  .rw [QT (by rw[Ux,LZ];omega),QT (by rw[LZ];omega)]
 rw[<- e,AH,AH,Va]
theorem Wf (k:Nat):Fp g S (k+1)=Fp g S k++[dl g S 0 k]:=by
 unfold Fp;rw[List.range_succ,List.map_append];rfl
theorem Le.l1 {st st':St} {D:List Int} (i j:Nat) (sn:List Nat) (q:st'.sz=st.sz) (hh:st'.h=[(j,some ⟨1,AH D,0⟩)]) (hj:j<st'.n) (hs:∀ k∈sn,k≠i) (he:st.hp i=some ⟨1,AH D,0⟩) (ht:∀ p∈st'.t,Wk (conv [(i,j)] sn st.hp 4 (st.get p.1)) p.2):Le 0 st st' :=
 Fr q hh hj hs he zw zz ht
theorem Mt (g:Gr) (S:List Int) (hg:Ah g) (hS:S.length<=1099511627776):AK 49 [eG g,AA S] [] (.rs 0 0 g.size.toNat) [some ⟨1,AH (CZ g S),0⟩]:=by
 refine eQ.s.ai ?_;have ht:=hg.1.1;have hr:=hg.1.2.1;have hs:=hg.1.2.2.1;have he:g.gone.length<=1000000:=QI hg.gone_le zy
 obtain⟨N,hN⟩:∃ N:Nat,N=g.size.toNat:=⟨_,rfl⟩;refine ar [1,2] [] [16] 32 ?_;refine AC (Ad ?_);refine AC (AC (Ad ?_));refine AI ?_
 let C:Nat->St:=λ k=>⟨72,[(1,AA S),(2,.pv (gC g)),(5,.rs 16 0 k),(6,.I k)],[(16,some ⟨1,AH (Fp g S k),0⟩)],48⟩
 refine Ag C (λ k=>k<=N) (λ k=>N - k) 0 (Qh _) (Le.lst [] [] [(16,1)] rfl zz zz zz (by simp[C]) zz zz zz (by simp[C,Up]) (by simp[C,Fp])) ?_
 intro k hk;have hh:C k=⟨72,[(1,AA S),(2,.pv (gC g)),(5,.rs 16 0 k),(6,.I k)],[(16,some ⟨1,AH (Fp g S k),0⟩)],48⟩:=rfl;rw[hh];refine AC ?_;apply ak [1,2,5,6,13] [16] 80
 .simp
  rfl
 refine AD _ rfl (λ h=>AE ?_) λ h=>Aa (Ab ?_)
 .simp only[Qb] at h
  refine BO ⟨72,[(1,AA S),(2,.pv (gC g)),(5,.rs 16 0 (k+1)),(6,.I k)],[(16,some ⟨1,AH (Fp g S (k+1)),0⟩)],48⟩ ?_ ?_
  .rw [Wf]
   have h3:(Fp g S k).length=k:=by simp[Fp]
   generalize Fp g S k=A at *;refine AI (arc ⟨72,[(1,AA S),(2,.pv (gC g)),(5,.rs 96 0 (k+1)),(6,.I k)],[(96,some ⟨1,AH A++[[.I (-1)]],0⟩)],112⟩ ?_ ?_)
   .simp [List.replicate,h3]
    refine⟨zy,zy,?_⟩
    have e1:List.take k (AH A)=AH A:=Qc (by simp[h3])
    exact Fr (i:=96) (sn:=[]) rfl rfl zz zz rfl (by rw[e1];simp[AB]) zz zz
   refine arc ⟨72,[(1,AA S),(2,.pv (gC g)),(5,.rs 96 0 (k+1)),(6,.I k),(28,.B (Eg g S k))],[(96,some ⟨1,AH A++[[.I (-1)]],0⟩)],192⟩ ?_ ?_
   .simp
    refine CC 95 rfl ?_;refine AT (Mn S k zy) rfl ?_
    simp;refine BK (λ hb=>?_) (λ hb=>?_)
    .simp [hb]
     refine CC 95 rfl ?_;refine AT (Mn g.gone k zy) rfl ?_
     simp[hb];exact Fr (i:=96) (sn:=[]) rfl rfl zz zz rfl zw zz (by simp[Eg]<;>exact An (by simp_all))
    .simp [hb]
     exact Fr (i:=96) (sn:=[]) rfl rfl zz zz rfl zw zz (by simp[Eg]<;>exact An (by simp_all))
   refine AD _ rfl (λ h5=>?_) λ h5=>AE ?_
   .have h0:dl g S 0 k=0:=by rw[dl,if_pos h5]
    rw[h0];refine AU rfl ?_
    have q:(AH A++[[AV.I (-1)]]).set k [AV.I 0]=AH A++[[AV.I 0]]:=by
     rw[List.set_append,if_neg (by simp[h3])]
     simp[h3]
    have h8:(AH A++[[AV.I (-1)]])[k]? = some [AV.I (-1)]:=by
     rw[Qt (by simp[h3])]
     simp[h3]
    simp[h8,AZ,q];refine⟨zy,Fr (i:=96) (sn:=[]) rfl rfl zz zz rfl zw zz zz⟩
   .have h0:dl g S 0 k = -1:=by rw[dl,if_neg (by simp[h5])]
    rw[h0];exact Fr (i:=96) (sn:=[]) rfl rfl zz zz rfl zw zz zz
  have hj:=wq (k:=k);refine AU rfl ?_;simp[hj];exact⟨k+1,zy,zy,Le.l1 16 16 [] rfl rfl (by simp[C]) zz rfl (by simp[C])⟩
 simp only[Qd] at h;obtain rfl:k=N:=zy
 have hf:Fp g S k=Bl g S 0 0:=by rw[bU,hN]
 rw[hf];refine AC ?_;apply ak [2,5,7] [16] 88
 .simp
  rfl
 refine AI (Ag (ι:=Nat) (λ n=>⟨72,[(2,.pv (gC g)),(5,.rs 16 0 k),(7,.I n)],[(16,some ⟨1,AH (Bl g S n 0),0⟩)],88⟩) (λ n=>n<=k) (λ n=>k - n) 0 (Qh _) (Le.refl _ _) ?_);intro n hn;refine AC ?_;apply ak [2,5,7,35] [16] 120
 .simp
  rfl
 refine AD _ rfl (λ h=>AE ?_) λ h=>Aa (Ab ?_)
 .simp only[Qb] at h
  refine BO ⟨72,[(2,.pv (gC g)),(5,.rs 16 0 k),(7,.I n)],[(16,some ⟨1,AH (Bl g S (n+1) 0),0⟩)],88⟩ ?_ ?_
  .rw [<- aN]
   refine AI ?_;apply ak [2,5,7,8] [16] 128
   .simp
    rfl
   refine AI (Ag (ι:=Nat) (λ i=>⟨72,[(2,.pv (gC g)),(5,.rs 16 0 k),(7,.I n),(8,.I i)],[(16,some ⟨1,AH (Bl g S n i),0⟩)],128⟩) (λ i=>i<=g.edges.length) (λ i=>g.edges.length - i) 0 (Qh _) (Le.refl _ _) ?_);intro i hi;refine AC ?_;apply ak [2,5,7,8,42] [16] 168
   .simp
    rfl
   refine AD _ rfl (λ h2=>AE ?_) λ h2=>Aa (Ab ?_)
   .simp only[Qb] at h2
    refine BO ⟨72,[(2,.pv (gC g)),(5,.rs 16 0 k),(7,.I n),(8,.I i)],[(16,some ⟨1,AH (Bl g S n (i+1)),0⟩)],128⟩ ?_ ?_
    .have h1:=hg.fits g.edges[i] (Qi h2)
     obtain⟨a,ha⟩:∃ a:Nat,g.edges[i].f=a:=⟨g.edges[i].f.toNat,by have:=h1.1;omega⟩
     obtain⟨b,hb⟩:∃ b:Nat,g.edges[i].t=b:=⟨g.edges[i].t.toNat,by have:=h1.2.2.1;omega⟩
     have hl:a<g.size.toNat:=by have:=h1.2.1;omega
     have h9:b<g.size.toNat:=by have:=h1.2.2.2.1;omega
     have hd:=SL (g:=g) (S:=S) n i hl;have h6:=SL (g:=g) (S:=S) n i h9;have hu:(AH (Bl g S n i)).length=k:=by rw[AH,Qs,LZ,hN]
     have u:=Xi (S:=S) n i h2;have q:=Wl (S:=S) n i h2 hb h9;rw[ha] at u q;rw[hb] at u q;have h4:=Wn (g:=g) (S:=S) n i a;generalize hv:dP g S n i a=va at *;generalize hw:dP g S n i b=vb at *;generalize hM:AH (Bl g S n i)=M at *;have h7:=w6 (x:=(n:Int)+1);refine AI (arc ⟨72,[(2,.pv (gC g)),(5,.rs 16 0 k),(7,.I n),(8,.I i),(9,.pv (eC g.edges[i]))],[(16,some ⟨1,M,0⟩)],128⟩ ?_ ?_)
     .simp [h2]
      exact Fr (i:=16) (sn:=[208]) rfl rfl zz zz rfl (by rw[<- hM];simp[AB]) zz zz
     refine arc ⟨72,[(2,.pv (gC g)),(5,.rs 16 0 k),(7,.I n),(8,.I i),(9,.pv (eC g.edges[i])),(64,.B (decide (va=n/\vb = -1)))],[(16,some ⟨1,M,0⟩)],248⟩ ?_ ?_
     .simp [ha,hb,hd,h6,show a<k by omega,show b<k by omega]
      refine BK (λ hx=>?_) (λ hx=>?_)
      .simp [hx,ha,hb,hd,h6,show a<k by omega,show b<k by omega]
       refine Le.keep rfl (Qg _) (by simp<;>simp_all<;>rw[Qk]<;>simp) zz
      .simp [hx]
       refine Le.keep rfl (Qg _) (by simp<;>simp_all) zz
     refine AD _ rfl (λ h5=>?_) λ h5=>AE ?_
     .simp only[Qb] at h5
      have hm:=q (h4.1 h5.1) h5.2;refine AU rfl ?_;simp[ha,hb,h6,show b<k by omega,AZ,h7,hm]
      exact Le.l1 16 16 [] rfl rfl zz zz rfl zz
     .simp only[Qd] at h5
      rw[u (λ hq=>h5 ⟨h4.2 hq.1,hq.2⟩),hM];exact Fr (i:=16) (sn:=[]) rfl rfl zz zz rfl (by rw[<- hM];simp[AB]) zz zz
    have ho:=wq (k:=i);refine AU rfl ?_;simp[ho];exact⟨i+1,zy,zy,Le.l1 16 16 [] rfl rfl zz zz rfl zz⟩
   simp only[Qd] at h2;obtain rfl:i=g.edges.length:=zy
   exact Le.l1 16 16 [] rfl rfl zz zz rfl zz
  have h7:=wq (k:=n);refine AU rfl ?_;simp[h7];exact⟨n+1,zy,zy,Le.l1 16 16 [] rfl rfl zz zz rfl zz⟩
 simp only[Qd] at h;obtain rfl:n=k:=zy
 rw[hN,fQ,<- hN];refine AC (Ad ?_);exact CD [16] []
def Em (c:Int->Int->Int):List Int->Int->List Int
 | [],x=>[x]
 | y::r,x=>if c x y<0 then y::Em c r x else x::y::r
def GN (c:Int->Int->Int) (M:List Int):List Int:=M.foldl (Em c) []
def FK (c:Int->Int->Int) (M:List Int):List Int:=(GN c M).reverse
theorem MI (c:Int->Int->Int):∀ (r:List Int) (x:Int),(Em c r x).Perm (x::r)
 | [],x=>.refl _
 | y::r,x=>by
   unfold Em;split
   .exact ((MI c r x).cons y).trans (.swap _ _ _)
   .exact .refl _
theorem Z7 (c:Int->Int->Int) (M:List Int) (k:Nat) (h:k<M.length):GN c (M.take (k+1))=Em c (GN c (M.take k)) M[k]:=by
 unfold GN;rw[<- UH h,UF,U1];rfl
theorem NV (c:Int->Int->Int) (M:List Int):(GN c M).Perm M:=by
 have key:∀ (M acc:List Int),(M.foldl (Em c) acc).Perm (M++acc):=by
  intro M
  induction M with
  | nil=>intro acc;exact .refl _
  | cons x M ih =>
    intro acc;refine(ih _).trans ?_;refine((MI c acc x).append_left M).trans ?_;simp only[UW];exact List.perm_middle
 simpa [GN] using key M []
theorem SY (c:Int->Int->Int) (M:List Int):(GN c M).length=M.length:=(NV c M).length_eq
theorem Vx (c:Int->Int->Int) (x:Int):GN c [x]=[x]:=rfl
theorem Le.np1 {st st':St} {D:List Int} (sn:List Nat) (q:st'.sz=st.sz) (hn:1<=st'.n) (hh:st'.h=[(0,some ⟨1,AH D,0⟩)]) (hs:∀ k∈sn,1<=k) (he:st.hp 0=some ⟨1,AH D,0⟩) (ht:∀ p∈st'.t,Wk (conv [(0,0)] sn st.hp 4 (st.get p.1)) p.2):Le 1 st st' :=
 Le.ents [(0,0)] sn q zz zz zu (λ k hk=>⟨hs k hk,by have:=hs k hk;simp;omega⟩) hn ht (λ p hp=>by
  rw[hh] at hp;simp at hp;subst hp
  exact⟨0,_,_,rfl,zz,he,Av.eq zw zz⟩)
theorem VR {H T:List Int} {y x:Int} {h:Nat} (hh:H.length=h):(AH (H++y::x::T))[h]? = some [AV.I y]/\(AH (H++y::x::T))[h+1]? = some [AV.I x]:=by
 subst hh;constructor
 .rw [QG,Qt zy]
  simp
 .rw [QG,Qt zy]
  simp
theorem Y0 {H T:List Int} {y x:Int} {h:Nat} (hh:H.length=h):((AH (H++y::x::T)).set (h+1) [AV.I y]).set h [AV.I x]=AH (H++x::y::T):=by
 subst hh;simp[AH,List.set_append]
theorem jF (f:FuncId) (aA:List AV) (c:Int->Int->Int) (A M B:List Int) (n a b:Nat) (hn:(A++M++B).length=n) (ha:A.length=a) (hb:a+M.length=b) (hl:n<=1000000) (hs:Gg aA) (hc:∀ x∈M,∀ y∈M,AK f (AV.I x::AV.I y::aA) [] (.I (c x y)) []) :
  AK 297 [.rs 0 0 n,.I a,.I b,.fn (.func f) [] aA] [⟨1,AH (A++M++B),0⟩] (.tup []) [some ⟨1,AH (A++FK c M++B),0⟩]:=by
 have h7:∀ ρ sn h,aA.map (conv ρ sn h 2)=aA:=λ _ _ _=>hs _ _ _ 1
 have h8:∀ ρ sn h,aA.map (conv ρ sn h 3)=aA:=λ _ _ _=>hs _ _ _ 2
 have h3:∀ ρ sn h,aA.map (conv ρ sn h 4)=aA:=λ _ _ _=>hs _ _ _ 3
 refine eI.s.acalls (AW rfl) (AW rfl) (AW rfl) ?_;show AQ _ 1 _ _ ⟨53,[(0,.rs 0 0 n),(1,.I a),(2,.I b),(3,.fn (.func f) [] aA)],[(0,some ⟨1,AH (A++M++B),0⟩)],16⟩
 have a9:a+(M.length+B.length)=n:=by
  simp only[Qe] at hn;omega
 have ai:b<=n:=zy
 have hw:=wq (k:=a)
 let Lk:Nat->List Int:=λ k=>A++((GN c (M.take k)).reverse++(M.drop k++B))
 have a0:A++M++B=Lk 1:=by
  cases M with
  | nil=>simp[Lk,GN]
  | cons m M=>simp[Lk,Vx]
 rw[a0];apply ak [0,1,2,3,8] [0] 40
 .simp [hw]
  rfl
 refine AI (Ag (ι:=Nat) (λ k=>⟨53,[(0,.rs 0 0 n),(1,.I a),(2,.I b),(3,.fn (.func f) [] aA),(8,.I (a+k:Nat))],[(0,some ⟨1,AH (Lk k),0⟩)],40⟩) (λ k=>1<=k/\k<=M.length+1/\(M.length<=k->AH (Lk k)=AH (A++FK c M++B))) (λ k=>M.length+1 - k) 1 ?_ (Le.refl _ _) ?_)
 .refine ⟨Qg _,zy,λ h=>?_⟩
  simp only[Lk];rw[Qc h,Q4 h];simp[FK]
 rintro k ⟨am,an,a1⟩
 refine AC (arc ⟨53,[(0,.rs 0 0 n),(1,.I a),(2,.I b),(3,.fn (.func f) [] aA),(8,.I (a+k:Nat)),(14,.B (decide (k<M.length)))],[(0,some ⟨1,AH (Lk k),0⟩)],64⟩ ?_ ?_)
 .simp
  exact Le.keep rfl (Qg _) (by simp<;>omega) zz
 refine AD _ rfl (λ h=>AE ?_) λ h=>Aa (Ab ?_)
 .simp only[Qb] at h
  refine BO ⟨53,[(0,.rs 0 0 n),(1,.I a),(2,.I b),(3,.fn (.func f) [] aA),(8,.I (a+k:Nat))],[(0,some ⟨1,AH (Lk (k+1)),0⟩)],64⟩ ?_ ?_
  .have hx:M[k]∈M:=Qi h
   have hd:M.drop k=M[k]::M.drop (k+1):=QX h;have hf:=Z7 c M k h;generalize M[k]=x at *;obtain⟨D,hD⟩:=AL (M.drop (k+1)++B);obtain⟨R,hR⟩:=AL (GN c (M.take k))
   have a2:∀ y∈R,y∈M:=λ y hy=>by
    rw[hR] at hy;exact QQ ((NV c _).mem_iff.1 hy)
   have hm:R.length=k:=by rw[hR,SY];simp;omega
   have aq:D.length+k+1=M.length+B.length:=by rw[hD];simp;omega
   have a3:Lk k=A++R.reverse++x::D:=by simp only[Lk];rw[hd,<- hR,hD];simp
   have ho:Lk (k+1)=A++(Em c R x).reverse++D:=by simp only[Lk];rw[hf,<- hR,hD];simp
   rw[a3,ho];refine AI (arc ⟨53,[(0,.rs 0 0 n),(1,.I a),(2,.I b),(3,.fn (.func f) [] aA),(8,.I (a+k:Nat)),(9,.I (a+k:Nat))],[(0,some ⟨1,AH (A++R.reverse++x::D),0⟩)],80⟩ ?_ ?_)
   .simp
    exact BD
   refine AI ?_
   let C:List Int × List Int->St:=λ p=>⟨53,[(0,.rs 0 0 n),(1,.I a),(2,.I b),(3,.fn (.func f) [] aA),(8,.I (a+k:Nat)),(9,.I (a+p.2.length:Nat))],[(0,some ⟨1,AH (A++p.2.reverse++x::(p.1++D)),0⟩)],80⟩
   refine Ag C (λ p:List Int × List Int=>Em c R x=p.1.reverse++Em c p.2 x/\p.1.length+p.2.length=k /\ ∀ y∈p.2,y∈M) (λ p:List Int × List Int=>p.2.length) ([],R) ⟨rfl,by simpa using hm,a2⟩ ?_ ?_
   .simp only[C,hm,UJ]
    exact Le.refl _ _
   rintro⟨U,V⟩ ⟨u,h0,h1⟩
   simp only at u h0 h1
   match V,u,h0,h1 with
   | [],u,h0,h1 =>
     have hC:C (U,[])=⟨53,[(0,.rs 0 0 n),(1,.I a),(2,.I b),(3,.fn (.func f) [] aA),(8,.I (a+k:Nat)),(9,.I a)],[(0,some ⟨1,AH (A++x::(U++D)),0⟩)],80⟩:=by simp[C]
     rw[hC];refine AC (BM ⟨53,[(0,.rs 0 0 n),(1,.I a),(2,.I b),(3,.fn (.func f) [] aA),(8,.I (a+k:Nat)),(34,.B false)],[(0,some ⟨1,AH (A++x::(U++D)),0⟩)],216⟩ ?_ ?_)
     .simp
      exact⟨rfl,BD⟩
     refine AD _ rfl (λ h=>by cases h) λ h=>Aa (Ab ?_)
     have e:A++x::(U++D)=A++(Em c R x).reverse++D:=by rw[u];simp[Em]
     rw[<- e];exact Le.np1 [] rfl zz rfl zz rfl (by simp[h7,h8,h3])
   | y::V',u,h0,h1 =>
     obtain⟨H,hH⟩:=AL (A++V'.reverse);obtain⟨T,hT⟩:=AL (U++D);obtain⟨q,hq⟩:=AL (a+V'.length);obtain⟨j,hj⟩:=AL (q+1);have h4:H.length=q:=by rw[hH,hq];simp;omega
     have hr:(H++y::x::T).length=n:=by
      have e:(H++y::x::T).length=H.length+(T.length+2):=zz
      rw[e,h4,hT,Qe];simp at h0;omega
     have hg:=(VR (T:=T) (y:=y) (x:=x) h4).1;have hh:=(VR (T:=T) (y:=y) (x:=x) h4).2;have h6:=Y0 (T:=T) (y:=y) (x:=x) h4;rw[<- hj] at hh h6
     have hC:C (U,y::V')=⟨53,[(0,.rs 0 0 n),(1,.I a),(2,.I b),(3,.fn (.func f) [] aA),(8,.I (a+k:Nat)),(9,.I j)],[(0,some ⟨1,AH (H++y::x::T),0⟩)],80⟩:=by
      simp[C,hH,hT,hj,hq,UI]
     rw[hC];have a4:=hc x hx y (h1 y Qp);have ht:j<n:=by rw[<- hr,hj,<- h4];simp
     have hi:IntKind.i64.wrap ((j:Int) - 1)=(q:Int):=by rw[w6];omega
     have hu:q<n:=zy
     have a5:a<j:=zy
     have ag:(AH (H++y::x::T)).length=n:=by rw[AH,Qs,hr]
     generalize hX:AH (H++y::x::T)=X at *;have hk:∀ ρ sn h m,X.map (List.map (conv ρ sn h (m+1)))=X:=λ ρ sn h m=>by rw[<- hX];simp[AB]
     refine AC ?_;apply al [0,1,2,3,8,9,34] [0] 216
     .simp [a5,ht,hu,hg,hh,hi]
      refine AT a4 ?_ ?_
      .simp [h3]
      simp;exact⟨rfl,rfl⟩
     refine AD _ rfl (λ h5=>AE ?_) λ h5=>Aa (Ab ?_)
     .simp only[Qb] at h5
      have a6:(X.set j [AV.I y])[q]? = some [AV.I y]:=by
       rw[UA,if_neg zy]
       exact hg
      generalize hY:AH (H++x::y::T)=Y at h6;refine BO ⟨53,[(0,.rs 0 0 n),(1,.I a),(2,.I b),(3,.fn (.func f) [] aA),(8,.I (a+k:Nat)),(9,.I j)],[(0,some ⟨1,Y,0⟩)],360⟩ ?_ ?_
      .refine AI (Cn rfl ?_)
       simp[ht,hu,hg,hh,a6,hi,AZ];exact⟨rfl,Le.keep rfl (Qg _) zz (by simp;exact h6)⟩
      refine AU rfl ?_;simp[hi];refine⟨y::U,V',⟨?_,?_,?_⟩,?_,?_⟩
      .rw [u,Em,if_pos h5];simp
      .simp at h0 ⊢;omega
      .exact λ z hz=>h1 z (Qo _ hz)
      .simp
      .have a7:C (y::U,V')=⟨53,[(0,.rs 0 0 n),(1,.I a),(2,.I b),(3,.fn (.func f) [] aA),(8,.I (a+k:Nat)),(9,.I q)],[(0,some ⟨1,Y,0⟩)],80⟩:=by rw[<- hY];simp[C,hH,hT,hq]
       rw[a7];have h9:∀ ρ sn h m,Y.map (List.map (conv ρ sn h (m+1)))=Y:=λ ρ sn h m=>by rw[<- hY];simp[AB]
       exact Le.ents [(0,0)] [] rfl zz zz zz zz zz (by simp[h7,h8,h3]) λ p hp=>by
        simp at hp;subst hp;exact⟨0,_,_,rfl,zz,rfl,Av.eq (by simp only[Ak,h9]) zz⟩
     .simp only[Qd] at h5
      have e:H++y::x::T=A++(Em c R x).reverse++D:=by rw[u,Em,if_neg h5,hH,hT];simp
      rw[<- e,hX]
      exact Le.ents [(0,0)] [] rfl zz zz zz zz zz (by simp[h7,h8,h3]) λ p hp=>by
       simp at hp;subst hp;exact⟨0,_,_,rfl,zz,rfl,Av.eq (by simp only[Ak,hk]) zz⟩
  have a8:IntKind.i64.wrap (((a+k:Nat):Int)+1)=((a+(k+1):Nat):Int):=by rw[w6];omega
  refine AU rfl ?_;have hv:IntKind.i64.wrap ((a:Int)+(k:Int)+1)=((a+(k+1):Nat):Int):=by rw[<- a8];congr 1
  simp[hv];refine⟨k+1,⟨zy,zy,λ h2=>?_⟩,zy,?_⟩
  .have he:M.length=k+1:=zy
   simp only[Lk];rw[Qc zy,Q4 zy]
   simp[FK]
  .exact Le.np1 [] rfl zz rfl zz rfl (by simp[h7,h8,h3])
 simp only[Qd] at h;rw[a1 zy]
 exact⟨.inl rfl,⟨[],rfl,[],[],by simp[List.range,List.range.loop],zz,zz,zz,by simp[List.range,List.range.loop,AB]⟩⟩
theorem iJ (f:FuncId) (aA:List AV) (c:Int->Int->Int) (l:List Int) (n:Nat) (hn:l.length=n) (hl:n<20) (hs:Gg aA) (hc:∀ x∈l,∀ y∈l,AK f (AV.I x::AV.I y::aA) [] (.I (c x y)) []) :
  AK 270 [.rs 0 0 n,.I n,.fn (.func f) [] aA] [⟨1,AH l,0⟩] (.tup []) [some ⟨1,AH (FK c l),0⟩]:=by
 have h0:∀ ρ sn h,aA.map (conv ρ sn h 2)=aA:=λ _ _ _=>hs _ _ _ 1
 have u:∀ ρ sn h,aA.map (conv ρ sn h 3)=aA:=λ _ _ _=>hs _ _ _ 2
 have h1:∀ ρ sn h,aA.map (conv ρ sn h 4)=aA:=λ _ _ _=>hs _ _ _ 3
 refine gO.s.ai ?_;have q:=jF f aA c [] l [] n 0 n (by simpa using hn) rfl (by simpa using hn) zy hs hc
 simp only[UJ,QK] at q;refine AC (Ad ?_);apply ak [0,1,2,6,7,8] [0] 48
 .simp
  rfl
 refine AC (AI (Ag (ι:=Unit) (λ _=>⟨63,[(0,.rs 0 0 n),(1,.I n),(2,.fn (.func f) [] aA),(6,.I 20),(7,.I 0),(8,.I 20)],[(0,some ⟨1,AH l,0⟩)],48⟩) (λ _=>True) (λ _=>0) () trivial (Le.refl _ _) ?_));intro _ _;refine AC (arc ⟨63,[(0,.rs 0 0 n),(1,.I n),(2,.fn (.func f) [] aA),(6,.I 20),(7,.I 0),(8,.I 20),(13,.B false)],[(0,some ⟨1,AH l,0⟩)],72⟩ ?_ ?_)
 .simp
  exact Le.keep rfl (Qg _) zu zz
 refine AD _ rfl (λ h=>by cases h) λ _=>Aa (Ab ?_)
 apply ak [1,6] [0] 112
 .simp
  refine BX (i:=0) rfl (e':=⟨1,AH l,0⟩) zw q zz ?_ ?_
  .simp [u]
  simp[AB];rfl
 refine AI (Ag (ι:=Unit) (λ _=>⟨63,[(1,.I n),(6,.I 20)],[(0,some ⟨1,AH (FK c l),0⟩)],112⟩) (λ _=>True) (λ _=>0) () trivial (Le.refl _ _) ?_);intro _ _;refine AC (arc ⟨63,[(1,.I n),(6,.I 20),(30,.B false)],[(0,some ⟨1,AH (FK c l),0⟩)],136⟩ ?_ ?_)
 .simp
  exact Le.keep rfl (Qg _) zu zz
 refine AD _ rfl (λ h=>by cases h) λ _=>Aa (Ab ?_)
 exact⟨.inl rfl,⟨[],rfl,[],[],by simp[List.range,List.range.loop],zz,zz,zz,by simp[List.range,List.range.loop,AB]⟩⟩
theorem X6 (f:FuncId) (aA:List AV) (c:Int->Int->Int) (l:List Int) (n:Nat) (hn:l.length=n) (hl:n<20) (hs:Gg aA) (hc:∀ x∈l,∀ y∈l,AK f (AV.I x::AV.I y::aA) [] (.I (c x y)) []) :
  AK 203 [.rs 0 0 n,.fn (.func f) [] aA] [⟨1,AH l,0⟩] (.tup []) [some ⟨1,AH (FK c l),0⟩]:=by
 have q:∀ ρ sn h,aA.map (conv ρ sn h 2)=aA:=λ _ _ _=>hs _ _ _ 1
 have u:∀ ρ sn h,aA.map (conv ρ sn h 3)=aA:=λ _ _ _=>hs _ _ _ 2
 have h0:∀ ρ sn h,aA.map (conv ρ sn h 4)=aA:=λ _ _ _=>hs _ _ _ 3
 refine gR.s.ai ?_;refine BA (s:=?s1) rfl ?o1 ?q1
 case o1 =>
  simp;refine BX (i:=0) rfl (e':=⟨1,AH l,0⟩) zw (iJ f aA c l n hn hl hs hc) zz ?_ ?_
  .simp [q,u,h0]
  simp[AB];rfl
 exact⟨.inl rfl,⟨[],rfl,[],[],by simp[List.range,List.range.loop],zz,zz,zz,by simp[List.range,List.range.loop,AB]⟩⟩
theorem Wg (D:List Int) (k:Nat) (hk:k<D.length):AK 202 [.I k,.pv [AA D]] [] (.B (decide (0<=D.getD k 0))) []:=by
 refine gS.s.ai ?_;refine AC (Ad ?_);refine AC (BA (s:=?s1) rfl ?o1 ?q1)
 case o1=>simp[hk];rfl
 exact BG (AG.one (by simp[hk]))
theorem eH (D:List Int) (a b:Nat) (ha:a<D.length) (hb:b<D.length):AK 204 [.I a,.I b,.pv [AA D]] [] (.I (BC (D.getD a 0) (D.getD b 0))) []:=by
 refine Wv.s.ai ?_;refine AC (Ad ?_);refine AC (IC (s:=?s1) (tr:=?t1) rfl ?o1 ?r1 ?q1)
 case o1=>simp[ha,hb];refine AT (Jd ..) rfl ?_;simp;constructor<;>rfl
 case r1=>rfl
 exact BG (AG.one (by simp[ha,hb]))
variable {g:Gr} {S:List Int}
theorem gD {k:Nat} (hk:k<g.size.toNat):(CZ g S).getD k 0=Aq g S k:=by simp[CZ,List.getD,hk]
theorem Oz:(CZ g S).length=g.size.toNat:=by simp[CZ]
def Lt (g:Gr) (S:List Int) (a b:Int):Prop:=Aq g S a<Aq g S b∨Aq g S a=Aq g S b/\a<b
def cD (g:Gr) (S:List Int) (a b:Int):Int:=BC (Aq g S a) (Aq g S b)
def Bg (g:Gr) (S:List Int):Nat->List Int
 | 0=>[]
 | m+1=>Bg g S m++Cz g.size.toNat λ k=>decide (Aq g S k=m)
def Aj (g:Gr) (S:List Int):List Int:=Bg g S g.size.toNat
theorem Jh {n:Nat} {q:Int->Bool} {x:Int}:x∈Cz n q↔(0<=x/\x<n)/\q x=true:=by
 unfold Cz;simp only[QA,Qm,QS];constructor
 .rintro ⟨⟨i,hi,rfl⟩,h⟩
  exact⟨⟨zy,zy⟩,h⟩
 .rintro ⟨⟨h1,h2⟩,h⟩
  exact⟨⟨x.toNat,zy,zy⟩,h⟩
theorem Ms (n:Nat) (q:Int->Bool):(Cz n q).Pairwise (· < ·):=by
 unfold Cz;refine List.Pairwise.filter _ ?_;rw[Uw];exact List.pairwise_lt_range.imp λ h=>zy
theorem IG {m:Nat} {x:Int}:x∈Bg g S m↔(0<=x/\x<g.size.toNat)/\0<=Aq g S x/\Aq g S x<m:=by
 induction m with
 | zero=>simp[Bg]<;>omega
 | succ m ih =>
   rw[Bg,Qn,ih,Jh];simp only[Qb];constructor
   .rintro (⟨h1,h2,h3⟩ | ⟨h1,h2⟩)
    .exact ⟨h1,h2,zy⟩
    .exact ⟨h1,zy,zy⟩
   .rintro ⟨h1,h2,h3⟩
    by_cases h4:Aq g S x=m
    .exact .inr ⟨h1,h4⟩
    .exact .inl ⟨h1,h2,zy⟩
theorem PL (m:Nat):(Bg g S m).Pairwise (Lt g S):=by
 induction m with
 | zero=>exact .nil
 | succ m ih =>
   rw[Bg,UB];refine⟨ih,?_,λ a ha b hb=>?_⟩
   .refine (Ms _ _).imp_of_mem λ {a b} ha hb q=>?_
    have h1:=(Jh.1 ha).2;have h2:=(Jh.1 hb).2;simp at h1 h2;exact .inr ⟨zy,q⟩
   .have h1:=IG.1 ha
    have h2:=(Jh.1 hb).2;simp at h2;exact .inl zy
theorem T4 {a b:Int}:cD g S a b<0↔Aq g S a<Aq g S b:=by
 simp only[cD,BC]
 grind
theorem R9:∀ (r:List Int) (x:Int),r.Pairwise (λ a b=>Lt g S b a)->(∀ y∈r,y<x)->(Em (cD g S) r x).Pairwise λ a b=>Lt g S b a
 | [],x,_,_=>by simp[Em]
 | y::r,x,hp,hx=>by
   unfold Em;rw[QY] at hp;split
   .rename_i h
    rw[T4] at h;rw[QY];refine⟨λ z hz=>?_,R9 r x hp.2 λ z hz=>hx z (Qo _ hz)⟩;have:=(MI (cD g S) r x).mem_iff.1 hz;rcases Qv.1 this with rfl | hz
    .exact .inl h
    .exact hp.1 z hz
   .rename_i h
    rw[T4] at h;rw[QY,QY];have q:=hx y Qp;refine⟨λ z hz=>?_,hp.1,hp.2⟩;rcases Qv.1 hz with rfl | hz
    .unfold Lt;omega
    .have h1:=hp.1 z hz
     have h2:=hx z (Qo _ hz);unfold Lt at *;omega
theorem iA {l:List Int} (h:l.Pairwise (· < ·)):(FK (cD g S) l).Pairwise (Lt g S):=by
 have key:∀ (l acc:List Int),l.Pairwise (· < ·)->acc.Pairwise (λ a b=>Lt g S b a)->(∀ y∈acc,∀ x∈l,y<x)->(l.foldl (Em (cD g S)) acc).Pairwise λ a b=>Lt g S b a:=by
  intro l
  induction l with
  | nil=>intro acc _ h _;exact h
  | cons x l ih =>
    intro acc hl q u;rw[QY] at hl;refine ih _ hl.2 (R9 acc x q λ y hy=>u y hy x Qp) λ y hy z hz=>?_;have:=(MI (cD g S) acc x).mem_iff.1 hy;rcases Qv.1 this with rfl | hy
    .exact hl.1 z hz
    .exact u y hy z (Qo _ hz)
 unfold FK GN;rw[List.pairwise_reverse];exact key l [] h .nil zz
theorem Rr {R:Int->Int->Prop} (hR:∀ a b,R a b->¬ R b a):∀ {l1 l2:List Int},l1.Pairwise R->l2.Pairwise R->(∀ x,x∈l1↔x∈l2)->l1=l2
 | [],[],_,_,_=>rfl
 | [],b::l2,_,_,h=>absurd ((h b).2 Qp) zz
 | a::l1,[],_,_,h=>absurd ((h a).1 Qp) zz
 | a::l1,b::l2,h1,h2,h=>by
   rw[QY] at h1 h2
   have u:a=b:=by
    rcases Qv.1 ((h a).1 Qp) with e | ha
    .exact e
    .rcases Qv.1 ((h b).2 Qp) with e | hb
     .exact e.symm
     .exact absurd (h1.1 b hb) (hR _ _ (h2.1 a ha))
   subst u
   congr 1
   refine Rr hR h1.2 h2.2 λ x=>?_;constructor
   .intro hx
    rcases Qv.1 ((h x).1 (Qo _ hx)) with rfl | hx2
    .exact absurd (h1.1 x hx) (λ q=>hR _ _ q q)
    .exact hx2
   .intro hx
    rcases Qv.1 ((h x).2 (Qo _ hx)) with rfl | hx2
    .exact absurd (h2.1 x hx) (λ q=>hR _ _ q q)
    .exact hx2
theorem Z6 (hg:Ah g):FK (cD g S) (Cz g.size.toNat λ k=>decide (0<=Aq g S k))=Aj g S:=by
 refine Rr (R:=Lt g S) (λ a b h1 h2=>by unfold Lt at *;omega) (iA (Ms _ _)) (PL _) λ x=>?_
 have hp:x∈FK (cD g S) (Cz g.size.toNat λ k=>decide (0<=Aq g S k))↔x∈Cz g.size.toNat λ k=>decide (0<=Aq g S k):=by
  unfold FK;rw[List.mem_reverse];exact(NV _ _).mem_iff
 rw[hp,Jh];have hm:=IG (g:=g) (S:=S) (m:=g.size.toNat) (x:=x);unfold Aj;rw[hm];simp only[Qb];constructor
 .rintro ⟨h1,h2⟩
  refine⟨h1,h2,?_⟩;rcases VH hg (S:=S) (k:=x) ⟨h1.1,zy⟩ with h | h<;>omega
 .rintro ⟨h1,h2,_⟩
  exact⟨h1,h2⟩
end Go.Proofs.YtklclphfcibagaaGreat
