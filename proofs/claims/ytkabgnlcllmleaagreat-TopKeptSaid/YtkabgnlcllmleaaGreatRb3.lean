/- Texts of this claim,merged. -/
import Derived.Test.YtkabgnlcllmleaaGreatRb2
import Derived.Test.YtkabgnlcllmleaaGreatRows
import Derived.Test.YtkabgnlcllmleaaGreatProg
import Derived.KernelRfl
import Derived.Shelf.Sort.Plain
import Derived.Shelf.Slices.In.SortNone
set_option linter.unusedSimpArgs false
set_option linter.unusedVariables false
set_option linter.unusedSectionVars false
set_option maxRecDepth 100000
set_option maxHeartbeats 8000000
noncomputable section
namespace Go.Proofs.YtkabgnlcllmleaaGreat
open Go
variable {P:Program} {np:Nat} {α:Type}
theorem mA:∀ (ops:List CG) (n i:Nat) (st:St) (tr:List (List Nat × List Nat)) (K:α->St->List (List Nat × List Nat)->Prop),Bt P np n i ops st tr (λ s t=>∃ x,K x s t) -> ∃ x,Bt P np n i ops st tr (K x):=by
 intro ops
 induction ops with
 | nil=>intro n i st tr K h;exact h
 | cons o os ih =>
   intro n i st tr K h
   have u:∀ (op:E6) (xs:List AV) (h:Nat->Option AD) (F:AV->List Nat->List (Nat × Option AD)->(St->List (List Nat × List Nat)->Prop)->Prop),
     (∀ v rd up,F v rd up (λ s t=>∃ x,K x s t) -> ∃ x,F v rd up (K x))->aK P np (n+8*i) op xs h (λ v rd up=>F v rd up (λ s t=>∃ x,K x s t)) -> ∃ x,aK P np (n+8*i) op xs h (λ v rd up=>F v rd up (K x)):=by
    intro op xs h F hF hk;obtain⟨v,rd,up,h1,h2⟩:=NN hk;obtain⟨x,hx⟩:=hF v rd up h1;refine⟨x,VI (λ a b c e=>?_) h2⟩;obtain⟨rfl,rfl,rfl⟩:=e;exact hx
   unfold Bt at h ⊢
   cases hg:o.guard with
   | none =>
     simp only[hg] at h ⊢;exact u _ _ _ (λ v rd up K'=>Bt P np n (i+1) os ((st.put o.dst v).upd up) (tr++[(rd,up.map (·.1))]) K') (λ v rd up=>ih _ _ _ _ _) h
   | some gw =>
     obtain⟨g,want⟩:=gw;simp only[hg] at h ⊢;obtain⟨b,hb,h⟩:=h
     by_cases q:b=some want
     .rw [if_pos q] at h
      obtain⟨x,hx⟩:=u _ _ _ (λ v rd up K'=>Bt P np n (i+1) os ((st.put o.dst v).upd up) (tr++[(rd,up.map (·.1))]) K') (λ v rd up=>ih _ _ _ _ _) h
      exact⟨x,b,hb,by rw[if_pos q];exact hx⟩
     .rw [if_neg q] at h
      obtain⟨x,hx⟩:=ih _ _ _ _ _ h;exact⟨x,b,hb,by rw[if_neg q];exact hx⟩
theorem Le.trans' {a b c:St} (h1:Le np a b) (h2:Le np b c):Le np a c:=by
 intro T0 M0 w0 T M ac w ok hn;obtain⟨T',M',ok',q⟩:=h1 T0 M0 w0 T M ac w ok hn;exact h2 T0 M0 w0 T' M' ac w ok' q
theorem nU:∀ {c:Cr} {α:Type} {Q:α->Ea->St->Prop} {st:St},AY P np c (λ e s=>∃ x,Q x e s) st -> ∃ x,AY P np c (Q x) st:=by
 intro c
 induction c with
 | skip=>intro α Q st h;exact h
 | reg draw ops after =>
   intro α Q st hw
   obtain⟨x,hx⟩:=mA ops st.n 0 st [] (λ x st' tr=>(draw=true->F3 ops after tr=true)/\Q x .normal { st' with n:=st.n+8*ops.length })
    (FD _ _ _ _ _ _ _ (λ s t h=>by obtain⟨h1,x,h2⟩:=h;exact⟨x,h1,h2⟩) hw.2)
   exact⟨x,hw.1,hx⟩
 | seq a b iha ihb =>
   intro α Q st hw;refine iha (Ec (λ e s hs=>?_) hw)
   cases e with
   | normal =>
     obtain⟨st2,u,h2⟩:=hs;obtain⟨x,hx⟩:=ihb h2;exact⟨x,st2,u,hx⟩
   | exit id=>exact hs
   | ret=>exact hs
 | cond c a b iha ihb =>
   intro α Q st hw;obtain⟨t,ht,hw⟩:=hw
   cases t
   .obtain ⟨x,hx⟩:=ihb hw
    exact⟨x,false,ht,hx⟩
   .obtain ⟨x,hx⟩:=iha hw
    exact⟨x,true,ht,hx⟩
 | block id a iha =>
   intro α Q st hw;refine iha (Ec (λ e s hs=>?_) hw)
   cases e with
   | normal=>exact hs
   | exit id' =>
     simp only at hs ⊢
     by_cases hi:id'=id
     .simp only[if_pos hi] at hs ⊢;exact hs
     .simp only[if_neg hi] at hs ⊢;exact hs
   | ret=>exact hs
 | loop a iha =>
   intro α Q st hw;obtain⟨I,⟨st0,k0,u,hI⟩,hb⟩:=hw
   have key:∀ k s,I k s -> ∃ x,AY P np (.loop a) (Q x) s:=by
    intro k
    induction k using Nat.strongRecOn with
    | ind k ihk =>
      intro s hs
      have h0:AY P np a (λ e s'=>∃ y:{ y:α × Nat × (Nat->St->Prop) // ∀ k' s',y.2.2 k' s'->AY P np a (λ e st'=>match e with | .normal=>∃ st2 k2,Le np st' st2/\y.2.2 k2 st2/\k2<k' | e=>Q y.1 e st') s' },
        match e with | .normal=>∃ st2,Le np s' st2/\y.1.2.2 y.1.2.1 st2 | e=>Q y.1.1 e s') s:=by
       refine Ec (λ e s' h=>?_) (hb k s hs)
       cases e with
       | normal =>
         obtain⟨st2,k2,h1,h2,h3⟩:=h;obtain⟨x,J,⟨st3,k3,h4,h5⟩,h6⟩:=ihk k2 h3 st2 h2;exact⟨⟨(x,k3,J),h6⟩,st3,Le.trans' h1 h4,h5⟩
       | exit id=>obtain⟨x,h⟩:=h;exact⟨⟨(x,0,λ _ _=>False),λ _ _ h=>h.elim⟩,h⟩
       | ret=>obtain⟨x,h⟩:=h;exact⟨⟨(x,0,λ _ _=>False),λ _ _ h=>h.elim⟩,h⟩
      obtain⟨⟨⟨x,q,J⟩,hJ⟩,hy⟩:=iha h0;simp only at hJ hy;refine⟨x,λ k' s'=>J k' s'∨(k'=q+1/\s'=s),⟨s,q+1,Le.refl _ _,.inr ⟨rfl,rfl⟩⟩,?_⟩
      rintro k' s' (h | ⟨rfl,rfl⟩)
      .refine Ec (λ e s2 h2=>?_) (hJ k' s' h)
       cases e with
       | normal=>obtain⟨st2,k2,h1,h2,h3⟩:=h2;exact⟨st2,k2,h1,.inl h2,h3⟩
       | exit id=>exact h2
       | ret=>exact h2
      .refine Ec (λ e s2 h2=>?_) hy
       cases e with
       | normal=>obtain⟨st2,h1,h2⟩:=h2;exact⟨st2,q,h1,.inl h2,Nat.lt_succ_self q⟩
       | exit id=>exact h2
       | ret=>exact h2
   obtain⟨x,hx⟩:=key k0 st0 hI;obtain⟨J,⟨s3,k3,h4,h5⟩,h6⟩:=hx;exact⟨x,J,⟨s3,k3,Le.trans' u h4,h5⟩,h6⟩
 | exit id=>intro α Q st h;exact h
 | ret=>intro α Q st h;exact h
 | bad=>intro α Q st h;exact h.elim
def Bu {α:Type} (rs:List (Nat × Option (Bool × Nat))) (np:Nat) (F:α->AV) (H:α->List (Option AD)) (R:α->Prop) (e:Ea) (st:St):Prop:=(e = .normal∨e = .ret) /\ ∃ x,R x/\AO rs np st (F x) (H x)
theorem Bu.mk {rs:List (Nat × Option (Bool × Nat))} {F:α->AV} {H:α->List (Option AD)} {R:α->Prop} {e:Ea} {st:St} (he:e = .normal∨e = .ret) (x:α) (hx:R x) (h:AO rs np st (F x) (H x)):Bu rs np F H R e st:=⟨he,x,hx,h⟩
theorem Src.acallsX {f:FuncId} {af:B6} (s:Src P f af) (F:α->AV) (H:α->List (Option AD)) (R:α->Prop) {args:List AV} {hs:List AD} (h0:args.length<=af.nt) (q:hs.length<=16) (u:∀ x,hs.length<=(H x).length) (h:AY P hs.length af.code (Bu af.res hs.length F H R) (Fv af args hs)):∃ x,R x/\CF P f args hs (F x) (H x):=by
 obtain⟨⟨x,hx⟩,hw⟩:=nU (α:={ x:α // R x }) (Q:=λ x e st=>(e = .normal∨e = .ret)/\AO af.res hs.length st (F x.1) (H x.1)) (Ec (λ e st h=>by
  obtain⟨h1,x,h2,h3⟩:=h
  exact⟨⟨x,h2⟩,h1,h3⟩) h)
 exact⟨x,hx,s.acalls h0 q (u x) hw⟩
variable {P:Program} {Q:Ea->St->Prop} {af:List (List Nat)} {h:List (Nat × Option AD)} {n np sz:Nat} {ops:List CG} {s st st':St} {t:List (Nat × AV)}
def GJ (l:List Nat):List (Nat × Nat):=l.map λ i=>(i,i)
def Hf (live keep sn:List Nat) (n:Nat) (st:St):St :=
 ⟨st.sz,live.map (λ i=>(i,conv (GJ keep) sn st.hp 4 (st.get i))),keep.map (λ i=>(i,(st.hp i).map (AX (GJ keep) sn st.hp 4))),n⟩
def Eo (keep:List Nat) (st:St):Prop:=∀ i∈keep,∀ e,st.hp i=some e->e.ro<=e.rows.length
def E4 (np n:Nat) (ρ:List (Nat × Nat)) (sn:List Nat):Bool :=
 decide (ρ.map (·.1)).Nodup && decide (ρ.map (·.2)).Nodup && ρ.all (λ p=>decide (p.2<n) && (decide (np<=p.2) || p.1 == p.2)) && sn.all (λ i=>decide (np<=i) && !(ρ.map (·.1)).contains i) && decide (np<=n)
theorem Le.go (ρ:List (Nat × Nat)) (sn:List Nat) (h6:st'.sz=st.sz) (u:E4 np st'.n ρ sn=true) (ht:∀ p∈st'.t,Wk (conv ρ sn st.hp 4 (st.get p.1)) p.2) (hh:∀ p∈st'.h,∃ q∈ρ,q.2=p.1/\(st.hp q.1).map (AX ρ sn st.hp 4)=p.2 /\ ∀ e,p.2=some e->e.ro<=e.rows.length):Le np st st':=by
 simp only[E4,QH,Ut,Qa,UX,beq_iff_eq,UK,List.contains_eq_mem,Qb] at u;obtain⟨⟨⟨⟨h1,h2⟩,h3⟩,h4⟩,h5⟩:=u;refine Le.lst ρ sn [] h6 h1 h2 (λ p hp=>⟨(h3 p hp).1,λ h8=>?_⟩) zz (λ i hi=>h4 i hi) h5 zz (λ p hp=>.inl (ht p hp)) λ p hp e' h0=>?_
 .rcases (h3 p hp).2 with h | h
  .omega
  .exact h
 .obtain ⟨q,hq,hq2,hm,hr⟩:=hh p hp
  rw[h0] at hm
  cases hs:st.hp q.1 with
  | none=>rw[hs] at hm;cases hm
  | some e =>
    rw[hs] at hm;have h7:AX ρ sn st.hp 4 e=e':=by simpa using hm
    exact .inl ⟨q,hq,hq2,e,hs,by rw[h7];exact A7.rfl' (hr e' h0)⟩
theorem CK (ρ:List (Nat × Nat)) (sn:List Nat) (h0:st'.sz=st.sz:=by rfl) (u:E4 np st'.n ρ sn=true:=by rfl) (ht:∀ p∈st'.t,Wk (conv ρ sn st.hp 4 (st.get p.1)) p.2:=by simp) (hh:∀ p∈st'.h,∃ q∈ρ,q.2=p.1/\(st.hp q.1).map (AX ρ sn st.hp 4)=p.2 /\ ∀ e,p.2=some e->e.ro<=e.rows.length:=by simp):Le np st st':=Le.go ρ sn h0 u ht hh
theorem DU (ρ:List (Nat × Nat)) (sn:List Nat) (h0:st'.sz=st.sz:=by rfl) (u:E4 np st'.n ρ sn=true:=by rfl) (ht:∀ p∈st'.t,Wk (conv ρ sn st.hp 4 (st.get p.1)) p.2:=by simp) (hh:∀ p∈st'.h,∃ q∈ρ,q.2=p.1/\(st.hp q.1).map (AX ρ sn st.hp 4)=p.2 /\ ∀ e,p.2=some e->e.ro<=e.rows.length:=by simp[AC]):Le np st st':=Le.go ρ sn h0 u ht hh
theorem Aw (ρ:List (Nat × Nat)) (sn:List Nat) (h0:st'.sz=st.sz:=by rfl) (u:E4 np st'.n ρ sn=true:=by rfl) (ht:∀ p∈st'.t,Wk (conv ρ sn st.hp 4 (st.get p.1)) p.2:=by simp[AC]) (hh:∀ p∈st'.h,∃ q∈ρ,q.2=p.1/\(st.hp q.1).map (AX ρ sn st.hp 4)=p.2 /\ ∀ e,p.2=some e->e.ro<=e.rows.length:=by simp[AC]):Le np st st':=Le.go ρ sn h0 u ht hh
theorem AN (ρ:List (Nat × Nat)) (sn:List Nat) (ht:∀ p∈st'.t,Wk (conv ρ sn st.hp 4 (st.get p.1)) p.2) (hh:∀ p∈st'.h,∃ q∈ρ,q.2=p.1/\(st.hp q.1).map (AX ρ sn st.hp 4)=p.2 /\ ∀ e,p.2=some e->e.ro<=e.rows.length:=by simp) (h0:st'.sz=st.sz:=by rfl) (u:E4 np st'.n ρ sn=true:=by rfl):Le np st st':=Le.go ρ sn h0 u ht hh
def LD (np:Nat) (ρ:List (Nat × Nat)) (sn:List Nat) (st st':St):Prop:=Le np st st'
theorem LD.i {ρ:List (Nat × Nat)} {sn:List Nat} (h0:st'.sz=st.sz:=by rfl) (u:E4 np st'.n ρ sn=true:=by rfl) (ht:∀ p∈st'.t,Wk (conv ρ sn st.hp 4 (st.get p.1)) p.2:=by first | simp;done | simp[AC]) (hh:∀ p∈st'.h,∃ q∈ρ,q.2=p.1/\(st.hp q.1).map (AX ρ sn st.hp 4)=p.2 /\ ∀ e,p.2=some e->e.ro<=e.rows.length:=by first | simp;done | simp[AC]):LD np ρ sn st st':=Le.go ρ sn h0 u ht hh
theorem BM {b:Cr} (s:St) (ρ:List (Nat × Nat)) (sn:List Nat) (hq:AY P np b Q s) (ho:Bt P np n 0 ops ⟨sz,t,h,n⟩ [] (λ st' _=>LD np ρ sn ⟨st'.sz,st'.t,st'.h,n+8*ops.length⟩ s):=by simp;exact LD.i) (hd:(ops.all λ o=>o.dst.all (· < sz))=true:=by rfl):AY P np (.seq (.reg false ops af) b) Q ⟨sz,t,h,n⟩:=Bv s hd ho hq
theorem Le.cut (live keep sn:List Nat) (n:Nat) (q:E4 np n (GJ keep) sn=true) (hr:Eo keep st):Le np st (Hf live keep sn n st):=by
 refine Le.go (GJ keep) sn rfl q (λ p hp=>?_) λ p hp=>?_
 .obtain ⟨i,_,rfl⟩:=Ql.1 hp
  exact .refl _
 .obtain ⟨i,hi,rfl⟩:=Ql.1 hp
  refine⟨(i,i),Ql.2 ⟨i,hi,rfl⟩,rfl,rfl,λ e he=>?_⟩;simp only at he
  cases hs:st.hp i with
  | none=>rw[hs] at he;cases he
  | some e0 =>
    rw[hs] at he;have u:AX (GJ keep) sn st.hp 4 e0=e:=by simpa using he
    subst u;have:=hr i hi e0 hs
    simpa [AX] using this
theorem rx {b:Cr} (live keep sn:List Nat) (hd:((ops.all λ o=>o.dst.all (· < sz)) && E4 np (n+8*ops.length) (GJ keep) sn)=true) (ho:Bt P np n 0 ops ⟨sz,t,h,n⟩ [] λ st' _=>Eo keep st'/\Hf live keep sn (n+8*ops.length) st'=s) (hq:AY P np b Q s):AY P np (.seq (.reg false ops af) b) Q ⟨sz,t,h,n⟩:=by
 rw[QH] at hd;refine Bv s hd.1 (FD _ _ _ _ _ _ _ (λ st' _ hc=>?_) ho) hq;obtain⟨h1,rfl⟩:=hc;exact Le.cut (st:=⟨st'.sz,st'.t,st'.h,n+8*ops.length⟩) live keep sn _ hd.2 h1
theorem rs {b:Cr} (live keep sn:List Nat) (hq:AY P np b Q s) (hd:((ops.all λ o=>o.dst.all (· < sz)) && E4 np (n+8*ops.length) (GJ keep) sn)=true:=by rfl) (ho:Bt P np n 0 ops ⟨sz,t,h,n⟩ [] (λ st' _=>Eo keep st'/\Hf live keep sn (n+8*ops.length) st'=s):=by simp;rfl):AY P np (.seq (.reg false ops af) b) Q ⟨sz,t,h,n⟩:=rx live keep sn hd ho hq
def Ga (live keep:List Nat) (n:Nat) (st:St):St:=⟨st.sz,live.map (λ i=>(i,st.get i)),keep.map (λ i=>(i,st.hp i)),n⟩
theorem Le.cutk (live keep:List Nat) (n:Nat) (hn:st.n<=n):Le np st (Ga live keep n st) :=
 Le.keep rfl hn (λ p hp=>by obtain⟨i,_,rfl⟩:=Ql.1 hp;rfl) λ p hp e he=>by
  obtain⟨i,_,rfl⟩:=Ql.1 hp;exact he
theorem rk {b:Cr} (live keep:List Nat) (hd:(ops.all λ o=>o.dst.all (· < sz))=true) (ho:Bt P np n 0 ops ⟨sz,t,h,n⟩ [] λ st' _=>Ga live keep (n+8*ops.length) st'=s) (hq:AY P np b Q s):AY P np (.seq (.reg false ops af) b) Q ⟨sz,t,h,n⟩:=by
 refine Bv s hd (FD _ _ _ _ _ _ _ (λ st' _ hc=>?_) ho) hq;subst hc;exact Le.cutk (st:=⟨st'.sz,st'.t,st'.h,n+8*ops.length⟩) live keep _ (Qf _)
@[simp] theorem zN:GJ []=[]:=(rfl)
@[simp] theorem wP {i:Nat} {l:List Nat}:GJ (i::l)=(i,i)::GJ l:=(rfl)
@[simp] theorem zzu:Eo [] st=True:=by simp[Eo]
@[simp] theorem zQ {i:Nat} {l:List Nat}:Eo (i::l) st=((∀ e,st.hp i=some e->e.ro<=e.rows.length)/\Eo l st):=by simp[Eo]
@[simp] theorem zzH {live keep sn:List Nat} {m:Nat}:Hf live keep sn n ⟨sz,t,h,m⟩=⟨sz,live.map (λ i=>(i,conv (GJ keep) sn (St.mk sz t h m).hp 4 ((St.mk sz t h m).get i))),keep.map (λ i=>(i,((St.mk sz t h m).hp i).map (AX (GJ keep) sn (St.mk sz t h m).hp 4))),n⟩:=(rfl)
@[simp] theorem zV {live keep:List Nat} {m:Nat}:Ga live keep n ⟨sz,t,h,m⟩=⟨sz,live.map (λ i=>(i,(St.mk sz t h m).get i)),keep.map (λ i=>(i,(St.mk sz t h m).hp i)),n⟩:=(rfl)
variable {P:Program} {Q:Ea->St->Prop} {af:List (List Nat)} {h:List (Nat × Option AD)} {n np sz:Nat} {ops:List CG} {s st:St} {t:List (Nat × AV)}
def FH (live:List Nat) (ρ:List (Nat × Nat)) (sn:List Nat) (n:Nat) (st:St):St :=
 ⟨st.sz,live.map (λ i=>(i,conv ρ sn st.hp 4 (st.get i))),ρ.map (λ p=>(p.2,(st.hp p.1).map (AX ρ sn st.hp 4))),n⟩
def GX (ρ:List (Nat × Nat)) (st:St):Prop:=∀ p∈ρ,∀ e,st.hp p.1=some e->e.ro<=e.rows.length
theorem Le.cutr (live:List Nat) (ρ:List (Nat × Nat)) (sn:List Nat) (n:Nat) (u:E4 np n ρ sn=true) (hr:GX ρ st):Le np st (FH live ρ sn n st):=by
 refine Le.go ρ sn rfl u (λ p hp=>?_) λ p hp=>?_
 .obtain ⟨i,_,rfl⟩:=Ql.1 hp
  exact .refl _
 .obtain ⟨q,hq,rfl⟩:=Ql.1 hp
  refine⟨q,hq,rfl,rfl,λ e he=>?_⟩;simp only at he
  cases hs:st.hp q.1 with
  | none=>rw[hs] at he;cases he
  | some e0 =>
    rw[hs] at he;have h0:AX ρ sn st.hp 4 e0=e:=by simpa using he
    subst h0;have:=hr q hq e0 hs
    simpa [AX] using this
theorem ax {b:Cr} (live:List Nat) (ρ:List (Nat × Nat)) (sn:List Nat) (m:Nat) (ho:Bt P np n 0 ops ⟨sz,t,h,n⟩ [] λ st' _=>GX ρ st'/\FH live ρ sn m st'=s) (hq:AY P np b Q s) (hd:((ops.all λ o=>o.dst.all (· < sz)) && E4 np m ρ sn)=true:=by rfl):AY P np (.seq (.reg false ops af) b) Q ⟨sz,t,h,n⟩:=by
 rw[QH] at hd;refine Bv s hd.1 (FD _ _ _ _ _ _ _ (λ st' _ hc=>?_) ho) hq;obtain⟨h1,rfl⟩:=hc;exact Le.cutr (st:=⟨st'.sz,st'.t,st'.h,n+8*ops.length⟩) live ρ sn m hd.2 h1
theorem ay {b:Cr} (live:List Nat) (ρ:List (Nat × Nat)) (sn:List Nat) (m:Nat) (ho:Bt P np n 0 ops ⟨sz,t,h,n⟩ [] λ st' tr=>KG ops af tr/\GX ρ st'/\FH live ρ sn m st'=s) (hq:AY P np b Q s) (hd:((ops.all λ o=>o.dst.all (· < sz)) && E4 np m ρ sn)=true:=by rfl):AY P np (.seq (.reg true ops af) b) Q ⟨sz,t,h,n⟩:=by
 rw[QH] at hd;refine Lp s hd.1 (FD _ _ _ _ _ _ _ (λ st' _ hc=>?_) ho) hq;obtain⟨h0,h1,rfl⟩:=hc;exact⟨h0,Le.cutr (st:=⟨st'.sz,st'.t,st'.h,n+8*ops.length⟩) live ρ sn m hd.2 h1⟩
@[simp] theorem zAh:GX [] st=True:=by simp[GX]
@[simp] theorem zzD {i j:Nat} {l:List (Nat × Nat)}:GX ((i,j)::l) st=((∀ e,st.hp i=some e->e.ro<=e.rows.length)/\GX l st):=by simp[GX]
@[simp] theorem zzB {live:List Nat} {ρ:List (Nat × Nat)} {sn:List Nat} {m:Nat}:FH live ρ sn n ⟨sz,t,h,m⟩=⟨sz,live.map (λ i=>(i,conv ρ sn (St.mk sz t h m).hp 4 ((St.mk sz t h m).get i))),ρ.map (λ p=>(p.2,((St.mk sz t h m).hp p.1).map (AX ρ sn (St.mk sz t h m).hp 4))),n⟩:=(rfl)
theorem ar {b:Cr} (live:List Nat) (ρ:List (Nat × Nat)) (sn:List Nat) (m:Nat) (hq:AY P np b Q s) (hd:((ops.all λ o=>o.dst.all (· < sz)) && E4 np m ρ sn)=true:=by rfl) (ho:Bt P np n 0 ops ⟨sz,t,h,n⟩ [] λ st' _=>GX ρ st'/\FH live ρ sn m st'=s:=by simp[AC];rfl):AY P np (.seq (.reg false ops af) b) Q ⟨sz,t,h,n⟩:=ax live ρ sn m ho hq hd
theorem ak {b:Cr} (live keep:List Nat) (m:Nat) (ho:Bt P np n 0 ops ⟨sz,t,h,n⟩ [] λ st' _=>Ga live keep m st'=s) (hq:AY P np b Q s) (hd:((ops.all λ o=>o.dst.all (· < sz)) && decide (n+8*ops.length<=m))=true:=by rfl):AY P np (.seq (.reg false ops af) b) Q ⟨sz,t,h,n⟩:=by
 rw[QH,Qa] at hd;refine Bv s hd.1 (FD _ _ _ _ _ _ _ (λ st' _ hc=>?_) ho) hq;subst hc;exact Le.cutk (st:=⟨st'.sz,st'.t,st'.h,n+8*ops.length⟩) live keep m hd.2
theorem al {b:Cr} (live keep:List Nat) (m:Nat) (ho:Bt P np n 0 ops ⟨sz,t,h,n⟩ [] λ st' tr=>KG ops af tr/\Ga live keep m st'=s) (hq:AY P np b Q s) (hd:((ops.all λ o=>o.dst.all (· < sz)) && decide (n+8*ops.length<=m))=true:=by rfl):AY P np (.seq (.reg true ops af) b) Q ⟨sz,t,h,n⟩:=by
 rw[QH,Qa] at hd;refine Lp s hd.1 (FD _ _ _ _ _ _ _ (λ st' _ hc=>?_) ho) hq;obtain⟨h0,rfl⟩:=hc;exact⟨h0,Le.cutk (st:=⟨st'.sz,st'.t,st'.h,n+8*ops.length⟩) live keep m hd.2⟩
theorem Src.ai {f:FuncId} {af:B6} (s:Src P f af) {args:List AV} {hs:List AD} {res:AV} {hs':List (Option AD)} {z k:Nat} (hk:AY P k af.code (λ e st=>(e = .normal∨e = .ret)/\AO af.res k st res hs') ⟨z,t,h,16⟩) (hz:af.nt=z:=by conv=>lhs;reduce) (hi:args.zipIdx.map (λ (a,i)=>(i,a))=t/\hs.zipIdx.map (λ (e,k)=>(k,some e))=h/\hs.length=k:=by simp;exact⟨rfl,rfl,rfl⟩) (h0:args.length<=af.nt:=by exact Ar rfl) (u:hs.length<=16:=by exact Ar rfl) (q:hs.length<=hs'.length:=by simp):CF P f args hs res hs':=by
 obtain⟨h1,h2,h3⟩:=hi;subst h1 h2 h3 hz;exact s.acalls h0 u q hk
abbrev AA (l:List Int):AV:=.vs 1 false (l.map λ n=>[AV.I n])
theorem We (x:Int):AF 172 [.I x] [] (.B false) []:=by
 refine Rs.s.ai ?_;refine AB (Ay (s:=?s1) rfl ?o1 ?q1)
 case o1=>simp;rfl
 refine AB (Ay (s:=?s2) rfl ?o2 ?q2)
 case o2=>simp;rfl
 exact Bg
theorem Dw (n lo hi:Int):AF 33 [.I n,.I lo,.I hi] [] (.B (decide (lo<=n) && decide (n<=hi))) []:=by
 refine NF.s.ai ?_;refine AB (Ay (s:=?s1) rfl ?o1 ?q1)
 case o1=>simp;rfl
 by_cases h:lo<=n
 .refine AB (Ay (s:=?s2) rfl ?o2 ?q2)
  case o2=>simp[h];rfl
  exact BR (AO.one (by simp[h]))
 .refine AB (Ay (s:=?s3) rfl ?o3 ?q3)
  case o3=>simp[h];rfl
  exact BR (AO.one (by simp[h]))
def BH (x y:Int):Int:=if x<y then -1 else if x > y then 1 else 0
theorem HH (x y:Int):AF 123 [.I x,.I y] [] (.I (BH x y)) []:=by
 refine Pb.s.ai ?_;refine AB (Ay (s:=?s1) rfl ?o1 ?q1)
 case o1=>simp;rfl
 refine AB (Ay (s:=?s2) rfl ?o2 ?q2)
 case o2=>simp;refine Ah (We _) rfl ?_;simp;rfl
 refine AB (Ay (s:=?s3) rfl ?o3 ?q3)
 case o3=>simp;refine Ah (We _) rfl ?_;simp;rfl
 refine AB (AB (Ay (s:=?s4) rfl ?o4 ?q4))
 case o4=>simp;rfl
 refine AE _ rfl (λ h=>by cases h) λ _=>AG ?_
 refine AB (AB (Ay (s:=?s5) rfl ?o5 ?q5))
 case o5=>simp;rfl
 refine AE _ rfl (λ h=>by cases h) λ _=>AG ?_
 refine AB (AB (Ay (s:=?s6) rfl ?o6 ?q6))
 case o6=>simp;rfl
 refine AE _ rfl (λ h=>?_) λ h1=>AG ?_
 .refine AB (Ay (s:=?s7) rfl ?o7 ?q7)
  case o7=>simp;rfl
  exact BR (AO.one (by simp at h;simp[BH,h]))
 refine AB (AB (Ay (s:=?s8) rfl ?o8 ?q8))
 case o8=>simp;rfl
 refine AE _ rfl (λ h=>?_) λ h2=>AG ?_
 .refine AB (Ay (s:=?s9) rfl ?o9 ?q9)
  case o9=>simp;rfl
  exact BR (AO.one (by simp at h h1;simp[BH,h,Int.not_lt.2 h1]))
 refine AB (Ay (s:=?s10) rfl ?o10 ?q10)
 case o10=>simp;rfl
 exact BR (AO.one (by simp at h1 h2;simp[BH,Int.not_lt.2 h1,Int.not_lt.2 h2]))
theorem LJ (l:List Int) (hl:l.length<=140737488355328):AF 122 [AA l] [] (.I ((l.find? (· != 0)).getD 0)) []:=by
 refine Mq.s.ai ?_;refine AB (AT ?_);refine AB (AT ?_);refine AB (AB (AT ?_));refine AI (An (ι:=Nat) (λ k=>⟨18,[(3,.I 0),(6,AA l),(7,.I l.length),(8,.I k)],[],16⟩) (λ k=>k<=l.length/\l.find? (· != 0)=(l.drop k).find? (· != 0)) (λ k=>l.length - k) 0 ?_ (Le.slots rfl rfl ?_) ?_)
 .simp
 .simp
 rintro k ⟨hk,hf⟩
 refine AB (AT ?_);refine AB (AE _ rfl (λ h5=>?_) λ h5=>?_)
 .simp at h5
  rw[QO h5,List.find?_cons] at hf;refine AG (AB (AI (AB (Ay (s:=?s6) rfl ?o6 ?q6))))
  case o6=>simp[h5];rfl
  refine AB (AT ?_);refine AE _ rfl (λ h8=>?_) λ h8=>?_
  .refine AB (AT ?_)
   refine Am ?_;rw[h8] at hf;exact⟨.inr rfl,AO.one (by simp[hf])⟩
  refine AG (AT ?_);rw[h8] at hf;have hw:=w6 (x:=(k:Int)+1);refine⟨k+1,⟨h5,hf⟩,zy,Le.slots rfl rfl ?_⟩
  simp[hw]
 simp at h5;rw[QI h5] at hf;refine Ak (Al (AB (AT ?_)));exact BR (AO.one (by simp[hf]))
structure Ed where
 f:Int
 t:Int
 v:Int
 deriving DecidableEq,Inhabited
abbrev Ed.row (e:Ed):List AV:=[.I e.f,.I e.t,.I e.v]
abbrev eE (e:Ed):AV:=.agg [.I e.f,.I e.t,.I e.v]
abbrev BE (l:List Ed):AV:=.vs 3 false (l.map λ e=>[.I e.f,.I e.t,.I e.v])
def F6 (a b:Ed):Int:=([BH a.f b.f,BH a.t b.t].find? (· != 0)).getD 0
theorem RM (a b:Ed):AF 93 [eE a,eE b] [] (.I (F6 a b)) []:=by
 refine aL.s.ai ?_;refine AB (AT ?_);refine AB (Hd (s:=?s2) (tr:=?t2) rfl ?o2 ?r2 ?q2)
 case o2 =>
  simp;refine Ah (HH ..) rfl ?_;simp;refine Ah (HH ..) rfl ?_;simp;refine FZ [120] (LJ [BH a.f b.f,BH a.t b.t] zz) zz (.sc _) ?_;simp;constructor<;>rfl
 case r2=>rfl
 exact BR (AO.one (by simp;exact .refl _))
def Gc (l:List Int) (x:Int):Int:=if x∈l then (l.idxOf x:Int) else -1
theorem pS (l:List Int) (x:Int) (hl:l.length<=9223372036854775807):AF 188 [AA l,.I x] [] (.I (Gc l x)) []:=by
 refine oZ.s.ai ?_;refine AB (AT ?_);refine AB (AB (AT ?_));refine AI (An (ι:=Nat) (λ k=>⟨19,[(0,AA l),(1,.I x),(6,AA l),(7,.I l.length),(8,.I k)],[],16⟩) (λ k=>k<=l.length/\x∉l.take k) (λ k=>l.length - k) 0 ?_ (Le.slots rfl rfl ?_) ?_)
 .simp
 .simp
 rintro k ⟨hk,hn⟩
 refine AB (AT ?_);refine AB (AE _ rfl (λ h4=>?_) λ h4=>?_)
 .simp at h4
  refine AG (AB (AI (AB (AT ?_))));refine AB (Ay (s:=?s6) rfl ?o6 ?q6)
  case o6=>simp[h4];rfl
  refine AE _ rfl (λ h7=>?_) λ h7=>?_
  .refine AB (AT ?_)
   refine Am ?_;have hm:x∈l:=by simp at h7;rw[h7];exact Qi h4
   have hi:l.idxOf x=k:=by
    simp at h7;have h1:l=l.take k++x::l.drop (k+1):=by rw[h7,<- QO h4,QQ]
    rw[h1,List.idxOf_append,if_neg hn,List.idxOf_cons_self];simp;omega
   exact⟨.inr rfl,AO.one (by simp[Gc,hm,hi])⟩
  refine AG (AT ?_);have hw:=w6 (x:=(k:Int)+1);refine⟨k+1,⟨h4,?_⟩,zy,Le.slots rfl rfl ?_⟩
  .intro hm
   simp at h7;rw[Qp h4] at hm;rcases Qm.1 hm with h | h
   .exact hn h
   .exact h7 (Qv.1 h)
  .simp [hw]
 simp at h4;refine Ak (Al (AB (AT ?_)));refine Am ?_;rw[Qd h4] at hn;exact⟨.inr rfl,AO.one (by simp[Gc,hn])⟩
theorem PP (l:List Int) (x:Int) (hl:l.length<=9223372036854775807):AF 137 [AA l,.I x] [] (.B (decide (x∈l))) []:=by
 refine dY.s.ai ?_;refine AB (AT ?_);refine AB (Ay (s:=?s2) rfl ?o2 ?q2)
 case o2=>simp;refine Ah (pS l x hl) rfl ?_;simp;rfl
 refine Am ?_
 have:decide (0<=Gc l x)=decide (x∈l):=by
  unfold Gc
  by_cases h:x∈l
  .simp [h]
  .simp [h]
 exact⟨.inr rfl,AO.one (by simp[this])⟩
theorem I7 (l:List Int) (x:Int) (hl:l.length<=140737488355328):AF 137 [AA l,.I x] [] (.B (decide (x∈l))) [] :=
 PP l x zy
def Wg (l:List Int) (lo hi:Int) (i:Nat):Prop:=∀ h:i<l.length,lo<=l[i]/\l[i]<=hi/\(0<i->l[i - 1]<l[i])
def CJ (l:List Int) (lo hi:Int):Prop:=∀ i,Wg l lo hi i
open Classical in
theorem SM (l:List Int) (lo hi:Int) (hl:l.length<=9223372036854775807):AF 91 [AA l,.I lo,.I hi] [] (.B (decide (CJ l lo hi))) []:=by
 refine oQ.s.ai ?_;refine AB (AT ?_);refine AB (AB (AT ?_));refine AI (An (ι:=Nat) (λ k=>⟨38,[(0,AA l),(1,.I lo),(2,.I hi),(9,AA l),(10,.I l.length),(11,.I k)],[],16⟩) (λ k=>k<=l.length /\ ∀ i,i<k->Wg l lo hi i) (λ k=>l.length - k) 0 ?_ (Le.slots rfl rfl ?_) ?_)
 .simp
 .simp
 rintro k ⟨hk,hp⟩
 refine AB (AT ?_);refine AB (AE _ rfl (λ h4=>?_) λ h4=>?_)
 .simp at h4
  have hw:=w6 (x:=(k:Int)+1);refine AG (AB (AI (AB (Ay (s:=?s5) rfl ?o5 ?q5))))
  case o5=>simp[h4];rfl
  refine AB ?_
  by_cases a1:l[k]<lo
  .refine Ay (s:=?s21) rfl ?o21 ?q21
   case o21=>simp[a1];rfl
   refine AE _ rfl (λ _=>?_) λ h=>by cases h
   refine AB (AT ?_);refine Am ?_;have hn:¬ CJ l lo hi:=λ h=>by have:=h k h4;omega
   exact⟨.inr rfl,AO.one (by simp[hn])⟩
  by_cases a2:hi<l[k]
  .refine Ay (s:=?s22) rfl ?o22 ?q22
   case o22=>simp[a1,a2];rfl
   refine AE _ rfl (λ _=>?_) λ h=>by cases h
   refine AB (AT ?_);refine Am ?_;have hn:¬ CJ l lo hi:=λ h=>by have:=h k h4;omega
   exact⟨.inr rfl,AO.one (by simp[hn])⟩
  by_cases a3:0<k
  .have q:IntKind.i64.wrap ((k:Int) - 1)=((k - 1:Nat):Int):=by rw[w6];omega
   have h5:k - 1<l.length:=zy
   by_cases a4:l[k]<=l[k - 1]
   .refine Ay (s:=?s23) rfl ?o23 ?q23
    case o23=>simp[a1,a2,a3,a4,q,h5];rfl
    refine AE _ rfl (λ _=>?_) λ h=>by cases h
    refine AB (AT ?_);refine Am ?_;have hn:¬ CJ l lo hi:=λ h=>by have:=h k h4;have:=this.2.2 a3;omega
    exact⟨.inr rfl,AO.one (by simp[hn])⟩
   .refine Ay (s:=?s24) rfl ?o24 ?q24
    case o24=>simp[a1,a2,a3,a4,q,h5];rfl
    refine AE _ rfl (λ h=>by cases h) λ _=>AG ?_
    refine AT ?_;refine⟨k+1,⟨h4,λ i hi=>?_⟩,zy,Le.slots rfl rfl ?_⟩
    .rcases Q2.1 hi with h | rfl
     .exact hp i h
     .intro _;exact⟨zy,zy,λ _=>zy⟩
    .simp [hw]
  .refine Ay (s:=?s25) rfl ?o25 ?q25
   case o25=>simp[a1,a2,a3];rfl
   refine AE _ rfl (λ h=>by cases h) λ _=>AG ?_
   refine AT ?_;refine⟨k+1,⟨h4,λ i hi=>?_⟩,zy,Le.slots rfl rfl ?_⟩
   .rcases Q2.1 hi with h | rfl
    .exact hp i h
    .intro _;exact⟨zy,zy,λ h=>absurd h a3⟩
   .simp [hw]
 simp at h4;refine Ak (Al (AB (AT ?_)));refine Am ?_;have hy:CJ l lo hi:=λ i hi=>hp i zy hi
 exact⟨.inr rfl,AO.one (by simp[hy])⟩
open Classical in
theorem Po (l:List Int) (lo hi:Int) (hl:l.length<=140737488355328):AF 91 [AA l,.I lo,.I hi] [] (.B (decide (CJ l lo hi))) [] :=
 SM l lo hi zy
structure Gr where
 size:Int
 edges:List Ed
 gone:List Int
abbrev gC (g:Gr):List AV:=[.I g.size,BE g.edges,AA g.gone]
abbrev eG (g:Gr):AV:=.agg (gC g)
abbrev eC (e:Ed):List AV:=[.I e.f,.I e.t,.I e.v]
def CT (g:Gr) (e:Ed):Prop:=0<=e.f/\e.f<=g.size - 1/\0<=e.t/\e.t<=g.size - 1/\e.f≠e.t/\e.f∉g.gone/\e.t∉g.gone
instance (g:Gr) (e:Ed):Decidable (CT g e):=by unfold CT;infer_instance
theorem Yz (g:Gr) (e:Ed) (hs:0<=g.size) (hs':g.size<=64) (hl:g.gone.length<=140737488355328):AF 92 [eG g,eE e] [] (.B (decide (CT g e))) []:=by
 refine qT.s.ai ?_;apply ax [2,3,4] [] [16,24] 16
 .simp -implicitDefEqProofs
  rfl
 have hw:=w6 (x:=g.size - 1);refine arc ⟨42,[(4,.B (decide (CT g e)))],[],16⟩ ?_ ?_
 .simp [hw]
  repeat' first
   | (refine Cs 33 rfl ?_;refine Ah (Dw ..) rfl ?_;simp)
   | (refine Cs 137 rfl ?_;refine Ah (I7 _ _ hl) rfl ?_;simp)
   | (refine DC (λ hb=>?_) (λ hb=>?_)<;>(try rw[hb])<;>simp[hw])
  all_goals exact AZ [] (by simp;exact A0 (by simp at *;grind [CT]))
 exact Bg
def M6 (g:Gr):Prop:=0<=g.size/\g.size<=64/\g.edges.length<=500/\CJ g.gone 0 (g.size - 1)
def Ha (g:Gr) (i:Nat):Prop:=∀ h:i<g.edges.length,CT g g.edges[i]/\1<=g.edges[i].v/\g.edges[i].v<=3/\(0<i->F6 g.edges[i - 1] g.edges[i]<0)
def AH (g:Gr):Prop:=M6 g /\ ∀ i,Ha g i
open Classical in
theorem Iy (g:Gr) (hl:g.edges.length<=140737488355328) (q:g.gone.length<=140737488355328):AF 39 [eG g] [] (.I (if AH g then 0 else 14)) []:=by
 refine vX.s.ai ?_;refine ar [1] [] [16] 16 ?_;refine AB (arc ⟨58,[(1,.pv (gC g)),(23,.B (decide (¬ M6 g)))],[],16⟩ ?_ ?_)
 .simp
  repeat' first
   | (refine Cs 33 rfl ?_;refine Ah (Dw ..) rfl ?_;simp)
   | (refine Cs 91 rfl ?_;have hw:IntKind.i64.wrap (g.size - 1)=g.size - 1:=w6;rw[hw];refine Ah (Po _ _ _ q) rfl ?_;simp)
   | (refine DC (λ hb=>?_) (λ hb=>?_)<;>(try rw[hb])<;>(try simp at hb)<;>simp[hb])
  all_goals exact AZ [] (by simp;exact A0 (by (try simp at *);grind [M6]))
 refine AE _ rfl (λ h1=>?_) λ h1=>?_
 .refine AB (AT ?_)
  refine Am ?_;simp at h1;exact⟨.inr rfl,AO.one (by simp[AH,h1])⟩
 simp at h1;have hs:=h1.1;have u:=h1.2.1;refine AG (AB (AB (AT ?_)));refine AI (An (ι:=Nat) (λ k=>⟨58,[(1,.pv (gC g)),(25,BE g.edges),(26,.I g.edges.length),(27,.I k)],[],16⟩) (λ k=>k<=g.edges.length /\ ∀ i,i<k->Ha g i) (λ k=>g.edges.length - k) (0) ?_ (AZ [] zz) ?_)
 .simp
 rintro k ⟨hk,hp⟩
 refine AB (AT ?_);refine AB (AE _ rfl (λ h5=>?_) λ h5=>?_)
 .simp at h5
  have h0:=w6 (x:=(k:Int)+1);have h2:0<k->IntKind.i64.wrap ((k:Int) - 1)=((k - 1:Nat):Int):=λ h=>by rw[w6];omega
  have h3:k - 1<g.edges.length:=zy
  refine AG (AB (AI ?_));apply ax [1,3,4,25,26,27] [] [48] 16
  .simp [h5]
   rfl
  refine Bi ⟨58,[(1,.pv (gC g)),(25,BE g.edges),(26,.I g.edges.length),(27,.I k),(56,.B (decide (¬ Ha g k)))],[],16⟩ ?_ ?_
  .simp
   repeat' first
    | (refine Cs 92 rfl ?_;refine Ah (Yz g _ hs u q) rfl ?_;simp)
    | (refine Cs 33 rfl ?_;refine Ah (Dw ..) rfl ?_;simp)
    | (refine Cs 93 rfl ?_;refine Ah (RM ..) rfl ?_;simp)
    | (refine DC (λ hb=>?_) (λ hb=>?_)<;>(try rw[hb])<;>(try simp at hb)<;>simp[hb,h5,h3,h2])
   all_goals exact⟨rfl,AZ [] (by simp;exact A0 (by (try simp at *);grind [Ha]))⟩
  refine AE _ rfl (λ h6=>?_) λ h6=>?_
  .refine AB (AT ?_)
   refine Am ?_;have hn:¬ AH g:=λ h=>by simp at h6;exact h6 (h.2 k)
   exact⟨.inr rfl,AO.one (by simp[hn])⟩
  simp at h6;refine AG (AT ?_);refine⟨k+1,⟨h5,λ i hi=>?_⟩,?_,AZ [] (by simp[h0])⟩
  .rcases Q2.1 hi with h | rfl
   .exact hp i h
   .exact h6
  .omega
 simp at h5;have hy:AH g:=⟨h1,λ i hi=>hp i zy hi⟩
 refine Ak (Al (AB (AT ?_)));exact BR (AO.one (by simp[hy]))
def B9 (a b:Ed):Prop:=a.f<b.f∨a.f=b.f/\a.t<b.t
instance (a b:Ed):Decidable (B9 a b):=by unfold B9;infer_instance
theorem IB {a b:Ed}:F6 a b<0↔B9 a b:=by
 simp only[F6,BH,B9]
 grind
theorem iO {a b:Ed}:F6 a b=0↔a.f=b.f/\a.t=b.t:=by
 simp only[F6,BH]
 grind
theorem Hr (l:List Int) (hl:l.length*8<=140737488355328):AF 78 [AA l] [] (.rs 0 0 l.length) [some ⟨1,l.map λ n=>[AV.I n],0⟩]:=by
 cases l with
 | nil =>
   refine LP λ ad c=>?_;refine LK.s.ai ?_;refine AB (AT ?_);refine Bm ⟨8,[(0,.vs 1 false [])],[],40⟩ ?_ ?_
   .refine AB (AT ?_)
    refine AE _ rfl (λ h3=>?_) λ h3=>?_
    .refine arc ⟨8,[(2,.rs 40 0 0)],[(40,some ⟨1,[],0⟩)],48⟩ ?_ ?_
     .simp
      exact Le.lst [] [] [(40,1)] rfl zz zz zz zz zz zz zz (by simp[Up]) zz
     exact B3 [40] []
    exact AG (Le.slots rfl rfl (by simp;exact .mt _ _ _))
   refine AB (Ay (s:=?s5) rfl ?o5 ?q5)
   case o5=>simp[List.replicate];rfl
   exact B3 [56] []
 | cons x l =>
   refine LK.s.ai ?_;refine AB (AT ?_);refine AB (AB (AT ?_));refine AE _ rfl (λ h3=>by cases h3) λ h3=>?_
   refine AG (AB (Ay (s:=?t4) rfl ?p4 ?r4))
   case p4=>simp[List.replicate];refine⟨by simpa using hl,by simp at hl;omega,?_⟩;rfl
   exact B3 [56] []
theorem lB (l:List Ed) (hl:l.length*24<=140737488355328):AF 138 [BE l] [] (.rs 0 0 l.length) [some ⟨3,l.map λ e=>[AV.I e.f,AV.I e.t,AV.I e.v],0⟩]:=by
 cases l with
 | nil =>
   refine LP λ ad c=>?_;refine R9.s.ai ?_;refine AB (AT ?_);refine Bm ⟨8,[(0,.vs 3 false [])],[],40⟩ ?_ ?_
   .refine AB (AT ?_)
    refine AE _ rfl (λ h3=>?_) λ h3=>?_
    .refine arc ⟨8,[(2,.rs 40 0 0)],[(40,some ⟨3,[],0⟩)],48⟩ ?_ ?_
     .simp
      exact Le.lst [] [] [(40,3)] rfl zz zz zz zz zz zz zz (by simp[Up]) zz
     exact B3 [40] []
    exact AG (Le.slots rfl rfl (by simp;exact .mt _ _ _))
   refine AB (Ay (s:=?s5) rfl ?o5 ?q5)
   case o5=>simp[List.replicate];rfl
   exact B3 [56] []
 | cons x l =>
   refine R9.s.ai ?_;refine AB (AT ?_);refine AB (AB (AT ?_));refine AE _ rfl (λ h3=>by cases h3) λ h3=>?_
   refine AG (AB (Ay (s:=?t4) rfl ?p4 ?r4))
   case p4=>simp[List.replicate];refine⟨by simpa using hl,by simp at hl;omega,?_⟩;rfl
   exact B3 [56] []
def BN (l:List Ed) (e:Ed):Nat:=l.findIdx λ x=>!decide (B9 x e)
def GA (l:List Ed) (k:Nat) (f t:Int):Prop:=∃ h:k<l.length,l[k].f=f/\l[k].t=t
instance (l:List Ed) (k:Nat) (f t:Int):Decidable (GA l k f t):=by unfold GA;infer_instance
def Wa (l:List Ed) (e:Ed) (k:Nat):Prop:=∀ h:k<l.length,B9 l[k] e
theorem XB (l:List Ed) (e:Ed):BN l e<=l.length:=List.findIdx_le_length
theorem SP {l:List Ed} {e:Ed} {k:Nat} (hk:k<=l.length) (h1:∀ i,i<k->Wa l e i) (h2:∀ h:k<l.length,¬ B9 l[k] e):BN l e=k:=by
 unfold BN;rcases Ub k l.length with h | h
 .rw [List.findIdx_eq h]
  refine⟨by simpa using h2 h,λ j hj=>?_⟩
  simpa using h1 j hj zy
 .obtain rfl:k=l.length:=zy
  rw[U2];intro x hx;obtain⟨i,hi,rfl⟩:=Qt.1 hx
  simpa using h1 i hi hi
theorem Rl (g:Gr) (hl:g.edges.length*24<=140737488355328) (q:g.gone.length*8<=140737488355328):AF 88 [eG g] [] (.agg [.I g.size,.rs 0 0 g.edges.length,.rs 1 0 g.gone.length]) [some ⟨3,g.edges.map λ e=>[AV.I e.f,AV.I e.t,AV.I e.v],0⟩,some ⟨1,g.gone.map λ n=>[AV.I n],0⟩]:=by
 refine gE.s.ai ?_;have u:g.edges.length<=140737488355328:=zy
 have h0:g.gone.length<=140737488355328:=zy
 refine AB (AT ?_);refine AB (Hd (s:=?s1) (tr:=?t1) rfl ?o1 ?r1 ?q1)
 case o1=>simp;refine Di (lB _ hl) rfl ?_;simp;refine Di (Hr _ q) rfl ?_;simp[AC];constructor<;>rfl
 case r1=>rfl
 refine Am ⟨.inr rfl,?_⟩;show AO [(2,some (true,3))] 0 _ _ _;exact AO.out (vs:=[.agg [.I g.size,.rs 64 0 g.edges.length,.rs 88 0 g.gone.length]]) [64,88] [] zz zz zz zz (by simp[AC])
theorem NS {α:Type} {a b:List α} (h:a.length=b.length) (hp:∀ i,i<a.length->a[i]? = b[i]?):a=b:=by
 apply List.ext_getElem?;intro i;rcases Ub i a.length with h1 | h1
 .exact hp i h1
 .rw [Q6 h1,Q6 zy]
theorem Th {a b:Ed}:a=b↔a.f=b.f/\a.t=b.t/\a.v=b.v:=by
 cases a;cases b;simp
theorem Jm (a b:List Int) (hl:a.length<=140737488355328):AF 15 [AA a,AA b] [] (.B (decide (a=b))) []:=by
 refine cF.s.ai ?_;refine AB (AT ?_);refine AB (AB (AT ?_));refine AE _ rfl (λ h3=>?_) λ h3=>?_
 .try simp at h3
  refine AB (AT ?_);refine Am ?_;have hn:a≠b:=λ h=>h3 (by rw[h])
  exact⟨.inr rfl,AO.one (by simp[hn])⟩
 try simp at h3
 refine AG (AB (AB (AT ?_)));refine AI (An (ι:=Nat) (λ k=>⟨26,[(0,AA a),(1,AA b),(5,.I k)],[],16⟩) (λ k=>k<=a.length /\ ∀ i,i<k->a[i]? = b[i]?) (λ k=>a.length - k) (0) ?_ (AZ [] zz) ?_)
 .simp
 rintro k ⟨hk,hp⟩
 refine AB (AB (AT ?_));refine AE _ rfl (λ h7=>?_) λ h7=>?_
 .try simp at h7
  have h0:=w6 (x:=(k:Int)+1);have h1:0<k->IntKind.i64.wrap ((k:Int) - 1)=((k - 1:Nat):Int):=λ h=>by rw[w6];omega
  have h2:k - 1<a.length:=zy
  have q:k<b.length:=zy
  refine AG (AB (AI (AB (Hd (s:=?s8) (tr:=?t8) rfl ?o8 ?r8 ?q8))))
  case o8=>simp[h7,q];constructor<;>rfl
  case r8=>rfl
  refine AE _ rfl (λ h9=>?_) λ h9=>?_
  .try simp at h9
   refine AB (AT ?_);refine Am ?_;have hn:a≠b:=λ h=>h9 (by simp[h])
   exact⟨.inr rfl,AO.one (by simp[hn])⟩
  try simp at h9
  refine AG (Ay (s:=?s11) rfl ?o11 ?q11)
  case o11=>simp[h0];rfl
  refine⟨k+1,⟨h7,λ i hi=>?_⟩,zy,AZ [] zz⟩
  rcases Q2.1 hi with h | rfl
  .exact hp i h
  .simp [h7,q,h9]
 try simp at h7
 have u:∀ i,i<a.length->a[i]? = b[i]?:=λ i hi=>hp i zy
 refine Ak (Al (AB (AT ?_)));refine Am ?_;have hy:a=b:=NS zy u
 exact⟨.inr rfl,AO.one (by simp[hy])⟩
theorem RB (a b:List Int) (hl:a.length<=140737488355328):AF 40 [AA a,AA b] [] (.B (decide (a=b))) []:=by
 refine O9.s.ac ?_;show AY _ 0 _ _ ⟨26,[(0,AA a),(1,AA b)],[],16⟩;refine AB (AT ?_);refine AB (AB (AT ?_));refine AE _ rfl (λ h3=>?_) λ h3=>?_
 .try simp at h3
  refine AB (AT ?_);refine Am ?_;have hn:a≠b:=λ h=>h3 (by rw[h])
  exact⟨.inr rfl,AO.one (by simp[hn])⟩
 try simp at h3
 refine AG (AB (AB (AT ?_)));refine AI (An (ι:=Nat) (λ k=>⟨26,[(0,AA a),(1,AA b),(12,.I a.length),(13,.I k)],[],16⟩) (λ k=>k<=a.length /\ ∀ i,i<k->a[i]? = b[i]?) (λ k=>a.length - k) (0) ?_ (AZ [] zz) ?_)
 .simp
 rintro k ⟨hk,hp⟩
 refine AB (AT ?_);refine AB (AE _ rfl (λ h7=>?_) λ h7=>?_)
 .try simp at h7
  have u:=w6 (x:=(k:Int)+1);have h0:0<k->IntKind.i64.wrap ((k:Int) - 1)=((k - 1:Nat):Int):=λ h=>by rw[w6];omega
  have h1:k - 1<a.length:=zy
  have q:k<b.length:=zy
  refine AG (AB (AI (AB (Ay (s:=?s8) rfl ?o8 ?q8))))
  case o8=>simp[h7,u,h0,h1,q];rfl
  refine AB (Hd (s:=?s9) (tr:=?t9) rfl ?o9 ?r9 ?q9)
  case o9=>simp[h7,u,h0,h1,q];constructor<;>rfl
  case r9=>rfl
  refine AE _ rfl (λ h2=>?_) λ h2=>?_
  .try simp at h2
   refine AB (Ay (s:=?s11) rfl ?o11 ?q11)
   case o11=>simp[h7,u,h0,h1,q];rfl
   refine Am ?_;have hn:a≠b:=λ h=>h2 (by simp[h])
   exact⟨.inr rfl,AO.one (by simp[hn])⟩
  try simp at h2
  refine AG (Ay (s:=?s12) rfl ?o12 ?q12)
  case o12=>simp[h7,u,h0,h1,q];rfl
  refine⟨k+1,⟨h7,λ i hi=>?_⟩,zy,AZ [] (by simp[h7,u,h0,h1,q])⟩
  rcases Q2.1 hi with h | rfl
  .exact hp i h
  .simp [h7,q,h2]
 try simp at h7
 have h4:∀ i,i<a.length->a[i]? = b[i]?:=λ i hi=>hp i zy
 refine Ak (Al (AB (AT ?_)));refine Am ?_;have hy:a=b:=NS zy h4
 exact⟨.inr rfl,AO.one (by simp[hy])⟩
def HO (a b:Gr):Prop:=a.size=b.size/\a.edges=b.edges/\a.gone=b.gone
instance (a b:Gr):Decidable (HO a b):=by unfold HO;infer_instance
theorem mC (a b:Gr) (hl:a.edges.length<=140737488355328) (h0:a.gone.length<=140737488355328):AF 43 [eG a,eG b] [] (.B (decide (HO a b))) []:=by
 refine uO.ai ?_;refine arc ⟨46,[(2,.pv (gC a)),(3,.pv (gC b))],[],16⟩ ?_ ?_
 .simp
  exact AZ [16,24] zz
 refine AB (arc ⟨46,[(2,.pv (gC a)),(3,.pv (gC b)),(27,.B (decide (¬ (a.size=b.size/\a.edges.length=b.edges.length/\a.gone=b.gone))))],[],16⟩ ?_ ?_)
 .simp
  repeat' first
   | (refine Cs 15 rfl ?_;refine Ah (Jm _ _ h0) rfl ?_;simp)
   | (refine DC (λ hb=>?_) (λ hb=>?_)<;>(try rw[hb])<;>(try simp at hb)<;>simp[*])
  all_goals exact AZ [] (by simp<;>exact A0 (by (try simp at *);grind [Th]))
 refine AE _ rfl (λ h1=>?_) λ h1=>?_
 .try simp at h1
  refine AB (AT ?_);refine Am ?_;have hn:¬ HO a b:=λ h=>by obtain⟨e1,e2,e3⟩:=h;simp_all
  exact⟨.inr rfl,AO.one (by simp[hn])⟩
 try simp at h1
 refine AG (AB (AB (AT ?_)));refine AI (An (ι:=Nat) (λ k=>⟨46,[(2,.pv (gC a)),(3,.pv (gC b)),(5,.I k)],[],16⟩) (λ k=>k<=a.edges.length /\ ∀ i,i<k->a.edges[i]? = b.edges[i]?) (λ k=>a.edges.length - k) (0) ?_ (AZ [] zz) ?_)
 .simp
 rintro k ⟨hk,hp⟩
 refine AB (AB (AT ?_));refine AE _ rfl (λ h5=>?_) λ h5=>?_
 .try simp at h5
  have h2:=w6 (x:=(k:Int)+1);have h3:0<k->IntKind.i64.wrap ((k:Int) - 1)=((k - 1:Nat):Int):=λ h=>by rw[w6];omega
  have h4:k - 1<a.edges.length:=zy
  have q:k<b.edges.length:=by have:=h1.2.1;omega
  refine AG (AB (AI (Bi ⟨46,[(2,.pv (gC a)),(3,.pv (gC b)),(5,.I k),(45,.B (decide (a.edges[k]≠b.edges[k])))],[],16⟩ ?_ ?_)))
  .simp [h5,q]
   exact⟨rfl,AZ [] (by simp<;>exact A0 (by grind [Th]))⟩
  refine AE _ rfl (λ h6=>?_) λ h6=>?_
  .try simp at h6
   refine AB (AT ?_);refine Am ?_;have hn:¬ HO a b:=λ h=>h6 (by simp[h.2.1])
   exact⟨.inr rfl,AO.one (by simp[hn])⟩
  try simp at h6
  refine AG (Ay (s:=?s8) rfl ?o8 ?q8)
  case o8=>simp[h2];rfl
  refine⟨k+1,⟨h5,λ i hi=>?_⟩,zy,AZ [] zz⟩
  rcases Q2.1 hi with h | rfl
  .exact hp i h
  .simp [h5,q,h6]
 try simp at h5
 have u:∀ i,i<a.edges.length->a.edges[i]? = b.edges[i]?:=λ i hi=>hp i zy
 refine Ak (Al (AB (AT ?_)));refine Am ?_;have hy:HO a b:=⟨h1.1,NS h1.2.1 u,h1.2.2⟩;exact⟨.inr rfl,AO.one (by simp[hy])⟩
theorem eU {P:Program} {f:FuncId} {xs ys:List AV} {hs:List AD} {res:AV} {hs':List (Option AD)} (hl:xs.length=ys.length) (hw:∀ i,i<ys.length->Wk (xs.getD i .dead) (ys.getD i .dead)) (h:CF P f ys hs res hs'):CF P f xs hs res hs' :=
 ⟨h.1,h.2.1,λ T M w vs h1 h2 h3 hr=>h.2.2 T M w vs h1 h2 h3 ⟨hr.1.trans hl,λ i hi=>(hw i hi).rep (hr.2 i (hl ▸ hi))⟩⟩
section
variable {H:Type}
def Vu (x:Int):Prop:=-9223372036854775808<=x/\x<=9223372036854775807
variable {P:Program} {tI tE aD aC tG:TypeId}
theorem u5 {n:Nat} (hI:P.underlying tI=some (.int .i64)) {d:DataW H} {cs:List AV} (h:Dz P (n+1) tI d=some cs):∃ x,cs=[.I x]/\Vu x:=by
 cases d<;>simp[Dz,hI] at h
 rename_i l
 cases l<;>simp at h
 obtain⟨⟨rfl,hw⟩,rfl⟩:=h;refine⟨_,rfl,?_⟩;unfold Vu
 simpa [Lit.wf,IntKind.min,IntKind.max,IntKind.signed,IntKind.bits] using hw
theorem Vo {α:Type} {f:DataW H->Option (List AV)} (Q:α->List AV):∀ {ds:List (DataW H)} {rows:List (List AV)},(∀ d row,f d=some row -> ∃ a,row=Q a)->ds.mapM f=some rows -> ∃ l:List α,rows=l.map Q
 | [],rows,_,h=>by simp at h;subst h;exact⟨[],rfl⟩
 | d::ds,rows,hf,h=>by
   simp only[List.mapM_cons] at h
   cases h1:f d with
   | none=>simp[h1] at h
   | some row =>
     cases h2:ds.mapM f with
     | none=>simp[h1,h2] at h
     | some rows' =>
       simp[h1,h2] at h;subst h;obtain⟨a,rfl⟩:=hf d row h1;obtain⟨l,rfl⟩:=Vo Q hf h2;exact⟨a::l,rfl⟩
theorem kY {α:Type} {n:Nat} {t e:TypeId} (ht:P.underlying t=some (.slice e)) (Q:α->List AV) (hf:∀ (d:DataW H) row,Dz P n e d=some row -> ∃ a,row=Q a) {d:DataW H} {cs:List AV} (h:Dz P (n+1) t d=some cs) :
  ∃ (l:List α) (x:AV),cs=[x]/\Wk x (.vs (P.cellsOf e) false (l.map Q)):=by
 cases d<;>simp[Dz,ht] at h
 .subst h;exact⟨[],_,rfl,.nil _ _⟩
 .obtain ⟨_,rows,h,rfl⟩:=h
  obtain⟨l,rfl⟩:=Vo Q hf h;exact⟨l,_,rfl,.refl _⟩
end
theorem RV:ownKnob Tryz.prog.godebug=none:=by kernel_rfl
theorem ZW:laidOutB Tryz.prog=true:=by kernel_rfl
section
variable {H:Type} {P:Program} {tI aC:TypeId}
theorem pX {n:Nat} (hI:P.underlying tI=some (.int .i64)) (q:P.underlying aC=some (.slice tI)) (cI:P.cellsOf tI=1) {d:DataW H} {x:AV} (h:G1 P (n+2) aC d=some x):∃ l:List Int,Wk x (AA l):=by
 simp only[G1,q,Un] at h;obtain⟨cs,h1,h2⟩:=h;obtain⟨l,y,rfl,hw⟩:=kY q (λ x:Int=>[AV.I x]) (λ d row h=>by obtain⟨x,h,_⟩:=u5 hI h;exact⟨x,h⟩) h1
 rw[cI] at hw;simp at h2;subst h2;exact⟨l,hw⟩
theorem ZV {n:Nat} {a:TypeId} {ds:List (DataW H)} {xs:List AV} (h:Iw P n [a] ds=some xs):∃ (d1:DataW H) (x1:AV),ds=[d1]/\xs=[x1]/\G1 P n a d1=some x1:=by
 match ds,h with
 | [],h=>cases h
 | _::_::_,h=>simp only[Iw] at h;split at h<;>simp_all
 | [d1],h =>
   simp only[Iw] at h
   cases h1:G1 P n a d1 with
   | none=>simp[h1] at h
   | some x1 =>
     simp[h1] at h;exact⟨d1,x1,rfl,h.symm,h1⟩
end
def zBG:B6:=⟨11,[(2,none)],
 (sr [oo 1 (.box 13) [.t 0],oo 2 .mv [.c (.bool false)]]
 (.seq (.reg true [fa 3 11 1,oo 4 (.ld true 2) [.t 3],fa 5 0 1,la 6 5,oo 7 (.ld true 13) [.t 1],ca 8 62 [.t 7],oo 9 (.build [v0,ve] [(0,1),(1,1)]) [.t 6,.t 8],oo 10 (.aeq false [0,2]) [.t 4,.t 9],ma 2 10] [[],[0],[],[2],[],[4],[3,5],[1,6],[7,5,0,1,2,3,4,5,6,7]])
 .ret))⟩
def zBH:B6:=⟨87,[(4,none)],
 (sr [oo 2 (.box 13) [.t 0],oo 3 (.box 13) [.t 1],oo 4 .mv [.c (.bool false)]]
 (sr [fa 5 0 2,la 6 5,fa 7 0 3,la 8 7,oo 9 (.bin .eql) [.t 6,.t 8],ma 10 9,fg 11 1 2 10,lg 12 11 10,fg 13 1 3 10,lg 14 13 10,og 15 (.bin .eql) [.t 12,.t 14] 10,oo 16 .pick [.t 10,.t 15,.c (.bool false)],ma 17 16,fg 18 2 2 17,lg 19 18 17,fg 20 2 3 17,lg 21 20 17,og 22 (.bin .eql) [.t 19,.t 21] 17,oo 23 .pick [.t 17,.t 22,.c (.bool false)],ma 24 23,fg 25 3 2 24,lg 26 25 24,fg 27 3 3 24,lg 28 27 24,og 29 (.bin .eql) [.t 26,.t 28] 24,oo 30 .pick [.t 24,.t 29,.c (.bool false)],ma 31 30,fg 32 4 2 31,lg 33 32 31,fg 34 4 3 31,lg 35 34 31,og 36 (.bin .eql) [.t 33,.t 35] 31,oo 37 .pick [.t 31,.t 36,.c (.bool false)],ma 38 37,fg 39 5 2 38,lg 40 39 38,fg 41 5 3 38,lg 42 41 38,og 43 (.bin .eql) [.t 40,.t 42] 38,oo 44 .pick [.t 38,.t 43,.c (.bool false)],ma 45 44,fg 46 6 2 45,lg 47 46 45,fg 48 6 3 45,lg 49 48 45,og 50 (.bin .eql) [.t 47,.t 49] 45,oo 51 .pick [.t 45,.t 50,.c (.bool false)],ma 52 51,fg 53 7 2 52,lg 54 53 52,fg 55 7 3 52,lg 56 55 52,og 57 (.bin .eql) [.t 54,.t 56] 52,oo 58 .pick [.t 52,.t 57,.c (.bool false)],ma 59 58,fg 60 8 2 59,lg 61 60 59,fg 62 8 3 59,lg 63 62 59,og 64 .call [.f 40,.t 61,.t 63] 59,oo 65 .pick [.t 59,.t 64,.c (.bool false)],ma 66 65,fg 67 9 2 66,lg 68 67 66,fg 69 9 3 66,lg 70 69 66,og 71 .call [.f 114,.t 68,.t 70] 66,oo 72 .pick [.t 66,.t 71,.c (.bool false)],ma 73 72,fg 74 10 2 73,lg 75 74 73,fg 76 10 3 73,lg 77 76 73,og 78 (.bin .eql) [.t 75,.t 77] 73,oo 79 .pick [.t 73,.t 78,.c (.bool false)],ma 80 79,fg 81 11 2 80,og 82 (.ld true 2) [.t 81] 80,fg 83 11 3 80,og 84 (.ld true 2) [.t 83] 80,og 85 (.aeq false [0,2]) [.t 82,.t 84] 80,oo 86 .pick [.t 80,.t 85,.c (.bool false)],ma 4 86]
 .ret))⟩
def zBD:B6:=⟨19,[(4,none)],
 (sr [oo 3 (.box 3) [.t 1],oo 4 .mv [ki 0]]
 (.seq (.seq
 (rg [ma 6 0,oo 7 .len [.t 6],oo 8 .mv [ki 0]])
 (.block 0 (.loop
 (sr [oo 9 (.bin .lss) [.t 8,.t 7]]
 (.seq (.cond (.t 9)
 .skip
 (.exit 0))
 (.seq (.block 1 (sr [ma 10 8,ma 5 10]
 (.seq (.reg true [oo 11 (.ld true 3) [.t 3],ma 12 0,ma 13 5,oo 14 (.iad 3) [.t 12,.t 13],oo 15 (.ld true 3) [.t 14],oo 16 (.aeq false [0,0,0]) [.t 11,.t 15]] [[],[],[],[1,2],[3],[0,4]])
 (.cond (.t 16)
 (sr [ma 17 5,ma 4 17]
 .ret)
 .skip))))
 (rg [oo 18 (.bin .add) [.t 8,ki 1],ma 8 18])))))))
 (sr [oo 4 .mv [ki (-1)]]
 .ret)))⟩
def zBC:B6:=⟨26,[(4,none)],
 (sr [oo 4 .mv [.c (.bool false)]]
 (.seq (.seq
 (rg [ma 6 0,oo 7 .len [.t 6],ma 8 1,oo 9 .len [.t 8],oo 10 (.bin .neq) [.t 7,.t 9]])
 (.cond (.t 10)
 (sr [oo 4 .mv [.c (.bool false)]]
 .ret)
 .skip))
 (.seq (.seq
 (rg [ma 11 0,oo 12 .len [.t 11],oo 13 .mv [ki 0]])
 (.block 0 (.loop
 (sr [oo 14 (.bin .lss) [.t 13,.t 12]]
 (.seq (.cond (.t 14)
 .skip
 (.exit 0))
 (.seq (.block 1 (sr [ma 15 13,ma 5 15]
 (.seq (.reg true [ma 16 0,ma 17 5,oo 18 (.iad 3) [.t 16,.t 17],oo 19 (.ld true 3) [.t 18],ma 20 1,ma 21 5,oo 22 (.iad 3) [.t 20,.t 21],oo 23 (.ld true 3) [.t 22],oo 24 (.aeq true [0,0,2]) [.t 19,.t 23]] [[],[],[0,1],[2],[],[],[4,5],[6],[3,7]])
 (.cond (.t 24)
 (sr [oo 4 .mv [.c (.bool false)]]
 .ret)
 .skip))))
 (rg [oo 25 (.bin .add) [.t 13,ki 1],ma 13 25])))))))
 (sr [oo 4 .mv [.c (.bool true)]]
 .ret))))⟩
def kF:SC 3:=AM Tryz.f3
def iL:SC 5:=AM Tryz.f5
def iM:SC 7:=AM Tryz.f7
def JV:SC 8:=AM Tryz.f8
def Oe:SC 9:=AM Tryz.f9
def sX:SC 10:=AM Tryz.f10
def lD:SC 11:=AM Tryz.f11
def qL:SC 12:=AM Tryz.f12
def Wz:SC 14:=AM Tryz.f14
def nJ:SC 16:=AM Tryz.f16
def Zo:SC 17:=AM Tryz.f17
def Y9:SC 18:=AM Tryz.f18
def ZH:SC 19:=AM Tryz.f19
def uD:SC 20:=AM Tryz.f20
def iK:SC 21:=AM Tryz.f21
def Jh:SC 24:=AM Tryz.f24
def Ny:SC 26:=AM Tryz.f26
def Rk:SC 27:=AM Tryz.f27
theorem zBF:Src Tryz.prog 28 zBG:=nW Tryz.f28
def MJ:SC 29:=AM Tryz.f29
def Ow:SC 30:=AM Tryz.f30
def O1:SC 31:=AM Tryz.f31
def N7:SC 32:=AM Tryz.f32
def n6:SC 37:=AM Tryz.f37
def m7:SC 41:=AM Tryz.f41
def SH:SC 42:=AM Tryz.f42
def gO:SC 44:=AM Tryz.f44
def Wb:SC 45:=AM Tryz.f45
def VK:SC 46:=AM Tryz.f46
def VD:SC 47:=AM Tryz.f47
def Sa:SC 48:=AM Tryz.f48
def dD:SC 49:=AM Tryz.f49
def pN:SC 50:=AM Tryz.f50
def ZK:SC 51:=AM Tryz.f51
def fB:SC 52:=AM Tryz.f52
def uQ:SC 53:=AM Tryz.f53
def i7:SC 54:=AM Tryz.f54
def sO:SC 55:=AM Tryz.f55
def jP:SC 56:=AM Tryz.f56
def qG:SC 57:=AM Tryz.f57
def Zy:SC 58:=AM Tryz.f58
def NO:SC 59:=AM Tryz.f59
theorem zBI:Src Tryz.prog 60 zBH:=nW Tryz.f60
def P2:SC 61:=AM Tryz.f61
def hU:SC 62:=AM Tryz.f62
def Re:SC 63:=AM Tryz.f63
def Pc:SC 69:=AM Tryz.f69
def OB:SC 70:=AM Tryz.f70
def Rf:SC 71:=AM Tryz.f71
def OI:SC 73:=AM Tryz.f73
def Ro:SC 74:=AM Tryz.f74
def Pw:SC 75:=AM Tryz.f75
def Na:SC 76:=AM Tryz.f76
def MU:SC 77:=AM Tryz.f77
def Lv:SC 79:=AM Tryz.f79
def Pj:SC 80:=AM Tryz.f80
def OV:SC 81:=AM Tryz.f81
def Nr:SC 82:=AM Tryz.f82
def NY:SC 83:=AM Tryz.f83
theorem zBE:Src Tryz.prog 94 zBD:=nW Tryz.f94
def Vw:SC 95:=AM Tryz.f95
def Z6:SC 96:=AM Tryz.f96
def tW:SC 97:=AM Tryz.f97
def Tg:SC 98:=AM Tryz.f98
def T6:SC 99:=AM Tryz.f99
def Xi:SC 100:=AM Tryz.f100
def uL:SC 102:=AM Tryz.f102
def pV:SC 103:=AM Tryz.f103
def fX:SC 104:=AM Tryz.f104
def iJ:SC 105:=AM Tryz.f105
def mO:SC 106:=AM Tryz.f106
def cO:SC 108:=AM Tryz.f108
def j9:SC 109:=AM Tryz.f109
def qY:SC 110:=AM Tryz.f110
def iV:SC 111:=AM Tryz.f111
def c9:SC 112:=AM Tryz.f112
def gP:SC 113:=AM Tryz.f113
theorem zBB:Src Tryz.prog 114 zBC:=nW Tryz.f114
def gJ:SC 115:=AM Tryz.f115
def iS:SC 116:=AM Tryz.f116
def NR:SC 124:=AM Tryz.f124
def Xk:SC 127:=AM Tryz.f127
def OM:SC 128:=AM Tryz.f128
def Rv:SC 129:=AM Tryz.f129
def PA:SC 130:=AM Tryz.f130
def RE:SC 131:=AM Tryz.f131
def cW:SC 140:=AM Tryz.f140
def nG:SC 142:=AM Tryz.f142
def Tt:SC 143:=AM Tryz.f143
def Wn:SC 144:=AM Tryz.f144
def Sm:SC 145:=AM Tryz.f145
def SA:SC 146:=AM Tryz.f146
def YJ:SC 147:=AM Tryz.f147
def Yo:SC 148:=AM Tryz.f148
def Y8:SC 149:=AM Tryz.f149
def Wl:SC 150:=AM Tryz.f150
def pI:SC 155:=AM Tryz.f155
def kR:SC 156:=AM Tryz.f156
def rZ:SC 157:=AM Tryz.f157
def Zh:SC 158:=AM Tryz.f158
def ZN:SC 159:=AM Tryz.f159
def qO:SC 160:=AM Tryz.f160
def bQ:SC 161:=AM Tryz.f161
def nB:SC 162:=AM Tryz.f162
def sG:SC 163:=AM Tryz.f163
def dH:SC 164:=AM Tryz.f164
def k8:SC 165:=AM Tryz.f165
def fD:SC 166:=AM Tryz.f166
def SF:SC 167:=AM Tryz.f167
def cG:SC 168:=AM Tryz.f168
def jZ:SC 169:=AM Tryz.f169
def N0:SC 173:=AM Tryz.f173
def V4:SC 174:=AM Tryz.f174
def N6:SC 175:=AM Tryz.f175
def SG:SC 189:=AM Tryz.f189
def Vx:SC 190:=AM Tryz.f190
def X5:SC 191:=AM Tryz.f191
def ZF:SC 192:=AM Tryz.f192
def YE:SC 193:=AM Tryz.f193
def T4:SC 194:=AM Tryz.f194
def Y6:SC 195:=AM Tryz.f195
def kC:SC 202:=AM Tryz.f202
def kM:SC 203:=AM Tryz.f203
def rH:SC 205:=AM Tryz.f205
def mH:SC 206:=AM Tryz.f206
def eH:SC 207:=AM Tryz.f207
def sZ:SC 208:=AM Tryz.f208
def Sj:SC 209:=AM Tryz.f209
def XC:SC 210:=AM Tryz.f210
def VL:SC 216:=AM Tryz.f216
def PE:SC 217:=AM Tryz.f217
def VM:SC 232:=AM Tryz.f232
def Yt:SC 233:=AM Tryz.f233
def Xz:SC 234:=AM Tryz.f234
def XT:SC 235:=AM Tryz.f235
def So:SC 236:=AM Tryz.f236
def Tl:SC 254:=AM Tryz.f254
def uX:SC 280:=AM Tryz.f280
def wB:SC 284:=AM Tryz.f284
end Go.Proofs.YtkabgnlcllmleaaGreat
namespace Go.Proofs.YtkabgnlcllmleaaGreat
open Go
theorem DX {α β:Type} (f:α->β) (l:List α):List.take l.length (List.map f l)=List.map f l:=Qd zz
def EF:Gr:=⟨0,[],[]⟩
def Gk (g:Gr) (e:Ed):Gr:=⟨g.size,g.edges.take (BN g.edges ⟨e.f,e.t,0⟩)++e::g.edges.drop (BN g.edges ⟨e.f,e.t,0⟩),g.gone⟩
open Classical in
def De (g:Gr) (e:Ed):Gr × Int :=
 if ¬ AH g then (EF,14) else if ¬ CT g e then (EF,4) else if ¬ (1<=e.v/\e.v<=3) then (EF,2)
 else if GA g.edges (BN g.edges ⟨e.f,e.t,0⟩) e.f e.t then (EF,19) else if g.edges.length=500 then (EF,3) else (Gk g e,0)
def F2 (g:Gr) (f t:Int):Gr:=⟨g.size,g.edges.take (BN g.edges ⟨f,t,0⟩)++g.edges.drop (BN g.edges ⟨f,t,0⟩+1),g.gone⟩
open Classical in
def Ey (g:Gr) (f t:Int):Gr × Int :=
 if ¬ AH g then (EF,14) else if ¬ GA g.edges (BN g.edges ⟨f,t,0⟩) f t then (EF,19) else (F2 g f t,0)
end Go.Proofs.YtkabgnlcllmleaaGreat
namespace Go.Proofs
open Go.Shelf
def Tryz.lays189_ren:Go.Shelf.Ren:=⟨fun | 189=>84 | 125=>133 | 257=>132 | 128=>185 | 129=>186 | 294=>176 | 295=>177 | 296=>178 | 297=>179 | 298=>180 | 299=>181 | 216=>182 | 300=>183 | 301=>184 | 328=>225 | 329=>226 | 330=>227 | 331=>228 | 332=>229 | 215=>172 | 343=>252 | n=>n,fun | 28=>22 | 3=>3 | 46=>195 | 0=>0 | 51=>235 | 53=>234 | 4=>4 | 183=>250 | 182=>249 | 131=>134 | 5=>5 | 9=>9 | 218=>286 | 222=>290 | 228=>312 | 229=>229 | n=>n,fun | n=>n⟩
theorem Tryz.lays189:Go.Proofs.Lays.n189 Tryz.prog Tryz.lays189_ren:={
 mixed:=by kernel_rfl
 f125:=Tryz.func133.trans (congrArg some (by kernel_rfl))
 f128:=Tryz.func185.trans (congrArg some (by kernel_rfl))
 f129:=Tryz.func186.trans (congrArg some (by kernel_rfl))
 f189:=Tryz.func84.trans (congrArg some (by kernel_rfl))
 f215:=Tryz.func172.trans (congrArg some (by kernel_rfl))
 f216:=Tryz.func182.trans (congrArg some (by kernel_rfl))
 f257:=Tryz.func132.trans (congrArg some (by kernel_rfl))
 f294:=Tryz.func176.trans (congrArg some (by kernel_rfl))
 f295:=Tryz.func177.trans (congrArg some (by kernel_rfl))
 f296:=Tryz.func178.trans (congrArg some (by kernel_rfl))
 f297:=Tryz.func179.trans (congrArg some (by kernel_rfl))
 f298:=Tryz.func180.trans (congrArg some (by kernel_rfl))
 f299:=Tryz.func181.trans (congrArg some (by kernel_rfl))
 f300:=Tryz.func183.trans (congrArg some (by kernel_rfl))
 f301:=Tryz.func184.trans (congrArg some (by kernel_rfl))
 f328:=Tryz.func225.trans (congrArg some (by kernel_rfl))
 f329:=Tryz.func226.trans (congrArg some (by kernel_rfl))
 f330:=Tryz.func227.trans (congrArg some (by kernel_rfl))
 f331:=Tryz.func228.trans (congrArg some (by kernel_rfl))
 f332:=Tryz.func229.trans (congrArg some (by kernel_rfl))
 f343:=Tryz.func252.trans (congrArg some (by kernel_rfl))
 t0:=Tryz.underlying0
 a0:=Tryz.isAgg0
 z0:=Tryz.sizeOf0
 v0:=Tryz.zeroValue0
 t3:=Tryz.underlying3
 a3:=Tryz.isAgg3
 z3:=Tryz.sizeOf3
 v3:=Tryz.zeroValue3
 t4:=Tryz.underlying4
 a4:=Tryz.isAgg4
 z4:=Tryz.sizeOf4
 v4:=Tryz.zeroValue4
 t5:=Tryz.underlying5
 a5:=Tryz.isAgg5
 z5:=Tryz.sizeOf5
 v5:=Tryz.zeroValue5
 t9:=Tryz.underlying9
 a9:=Tryz.isAgg9
 z9:=Tryz.sizeOf9
 v9:=Tryz.zeroValue9
 t28:=Tryz.underlying22
 a28:=Tryz.isAgg22
 z28:=Tryz.sizeOf22
 v28:=Tryz.zeroValue22
 t46:=Tryz.underlying195
 a46:=Tryz.isAgg195
 z46:=Tryz.sizeOf195
 v46:=Tryz.zeroValue195
 t51:=Tryz.underlying235
 a51:=Tryz.isAgg235
 z51:=Tryz.sizeOf235
 v51:=Tryz.zeroValue235
 t53:=Tryz.underlying234
 a53:=Tryz.isAgg234
 z53:=Tryz.sizeOf234
 v53:=Tryz.zeroValue234
 t131:=Tryz.underlying134
 a131:=Tryz.isAgg134
 z131:=Tryz.sizeOf134
 v131:=Tryz.zeroValue134
 t182:=Tryz.underlying249
 a182:=Tryz.isAgg249
 z182:=Tryz.sizeOf249
 v182:=Tryz.zeroValue249
 t183:=Tryz.underlying250
 a183:=Tryz.isAgg250
 z183:=Tryz.sizeOf250
 v183:=Tryz.zeroValue250
 t218:=Tryz.underlying286
 a218:=Tryz.isAgg286
 z218:=Tryz.sizeOf286
 v218:=Tryz.zeroValue286
 t222:=Tryz.underlying290
 a222:=Tryz.isAgg290
 z222:=Tryz.sizeOf290
 v222:=Tryz.zeroValue290
 t228:=Tryz.underlying312
 a228:=Tryz.isAgg312
 z228:=Tryz.sizeOf312
 v228:=Tryz.zeroValue312
 t229:=Tryz.underlying229
 a229:=Tryz.isAgg229
 z229:=Tryz.sizeOf229
 v229:=Tryz.zeroValue229 }
end Go.Proofs
namespace Go.Proofs.YtkabgnlcllmleaaGreat
open Go
def Dm (l:List Int):List (List AV):=l.map λ n=>[AV.I n]
theorem Src.body {P:Program} {f:FuncId} {af:B6} (s:Src P f af):∃ fn c,P.funcs[f]? = some fn/\fn.body=some c/\fn.name ≠ "runtime.NumGoroutine":=by
 obtain⟨_,fn,hf,hc,hn⟩:=s;unfold Jg at hc
 cases hb:fn.body with
 | none=>rw[hb] at hc;cases hc
 | some c=>exact⟨fn,c,hf,hb,hn⟩
theorem eW (zs:List Int) (h0:zs≠[]) (hl:zs.length<4611686018427387904) :
  AF 84 [.rs 0 0 zs.length] [{ s:=1,rows:=Dm zs }] (.tup []) ([{ s:=1,rows:=Dm (zs.mergeSort λ x y=>decide (x<=y)) }].map some):=by
 refine⟨S0.s.body,zz,λ T M w vs hv am hx hy=>?_⟩
 have b2:0<zs.length:=Uv.2 h0;obtain⟨an,hr⟩:=hy;have hm:=hr 0 zz
 simp only[UR] at hm
 have aq:vs = #[vs.getD 0 undef]:=by
  apply Array.ext
  .simpa using an
  .intro i h1 h2
   have:i=0:=by simp at h2;omega
   subst this;simp[Array.getD,h1]
 rw[aq];generalize vs.getD 0 undef=v at hm
 cases hm with
 | rs _ _ _ _ cap a g hg b4 b5 hn hb =>
 obtain⟨g',a0,ent⟩:=am.ent 0 _ rfl;rw[hg] at a0;obtain rfl:=Qh a0;have au:(Dm zs).length=zs.length:=by simp[Dm]
 cases q:g.blk with
 | none =>
   have:=ent.none q;simp[Dm] at this;exact absurd this h0
 | some b =>
 obtain⟨a1,c0,t0,f0,b6,b3⟩:=hb b q;obtain⟨cells,ty,hw,av,a2,hq⟩:=ent.blk (U0 0) b q
 have ha:a=some ⟨b,g.base+0*g.s,none⟩:=by
  rcases a1 with h | h
  .omega
  .exact h
 subst ha;simp only[Nat.zero_mul,Uj] at *
 have h9:∀ i,(hi:i<zs.length)->cells[g.base+i]? = some (.int .i64 zs[i]):=by
  intro i hi;obtain⟨u,hu,_,a3⟩:=hq i 0 (by rw[au];exact hi) zx
  simp only[Nat.mul_one,Uj] at hu;rw[hu];have:((Dm zs).getD i []).getD 0 .dead = .I zs[i]:=by simp[Dm,List.getD,hi]
  rw[this] at a3
  cases a3;rfl
 have a4:b<w.heap.size:=(Q0.1 hw).1;refine(Any.slices_Sort_int Tryz.lays189 b g.base cap zs w ?_ a4 hl).mono ?_
 .intro j hj
  have hd:j<zs.length:=by simpa using hj
  constructor
  .show w.cell? _=_
   unfold World.cell?;simp only[hw];rw[h9 j hd];simp[hd]
  .unfold World.frozen?
   simp only[hw];simp
 .rintro e w' ⟨rfl,n,os,rfl⟩
  have a5:(zs.mergeSort λ x y=>decide (x<=y)).length=zs.length:=List.length_mergeSort zs;generalize (zs.mergeSort λ x y=>decide (x<=y))=ys at a5
  have hh:∀ b',b'<w.heap.size->(Go.Sort.grow (Go.Sort.putRow (Value.int .i64) (Go.Sort.ahead w n) b g.base ys.toArray) os).heap[b']? = if b'=b then some (.cells (Go.Sort.putCells (Value.int .i64) g.base ys.toArray cells) ty (0,0)) else w.heap[b']?:=by
   intro b' h7;have a6:(w.heap.modify b (Go.Sort.onCells (Go.Sort.putCells (Value.int .i64) g.base ys.toArray))).size=w.heap.size:=Array.size_modify;show ((w.heap.modify b (Go.Sort.onCells (Go.Sort.putCells (Value.int .i64) g.base ys.toArray)))++os)[b']? = _;rw[Ui (by rw[a6];exact h7),Array.getElem?_modify]
   by_cases h8:b=b'
   .subst h8
    rw[if_pos rfl,if_pos rfl,hw];rfl
   .rw [if_neg h8,if_neg (Ne.symm h8)]
  have a7:∀ o,(o<g.base∨g.base+ys.length<=o)->(Go.Sort.putCells (Value.int .i64) g.base ys.toArray cells)[o]? = cells[o]?:=by
   intro o ho;unfold Go.Sort.putCells;rw[Array.getElem?_mapIdx]
   cases hc:cells[o]? with
   | none=>rfl
   | some u =>
     simp only[Ug];rw[if_neg];simp;omega
  have hs:∀ i,(hi:i<ys.length)->(Go.Sort.putCells (Value.int .i64) g.base ys.toArray cells)[g.base+i]? = some (.int .i64 ys[i]):=by
   intro i hi;unfold Go.Sort.putCells;rw[Array.getElem?_mapIdx,h9 i zy]
   simp only[Ug];rw[if_pos zw]
   simp[hi]
  have a8:(Go.Sort.putCells (Value.int .i64) g.base ys.toArray cells).size=cells.size:=by
   unfold Go.Sort.putCells;exact Array.size_mapIdx
  have hf:w.heap.size<=(Go.Sort.grow (Go.Sort.putRow (Value.int .i64) (Go.Sort.ahead w n) b g.base ys.toArray) os).heap.size:=by
   show w.heap.size<=((w.heap.modify b _)++os).size;rw[UL,Array.size_modify];omega
  have a9:T b<=g.base:=by simpa using av
  generalize ht:(Go.Sort.grow (Go.Sort.putRow (Value.int .i64) (Go.Sort.ahead w n) b g.base ys.toArray) os)=w' at hh hf;have b0:∀ b' o,w.heap[b']? = some o->b'<w.heap.size:=λ b' o h=>(Q0.1 h).1
  have ag:Ax T w T w':=by
   refine⟨λ _=>Qf _,λ b' cs' ty' fz' h=>?_⟩;rw[hh b' (b0 _ _ h)]
   by_cases h8:b'=b
   .subst h8
    rw[hw] at h
    cases h;exact⟨_,_,if_pos rfl,a8,λ o ho=>a7 o (.inl zy)⟩
   .exact ⟨cs',fz',by rw[if_neg h8];exact h,rfl,λ _ _=>rfl⟩
  rw[OU];refine⟨_,T,M,rfl,.tup M [] #[] rfl (λ i hi=>by simp at hi),⟨λ id e he=>?_,λ id id' e e' g1 g2 b' h1 h2 h3 h4 h5 h6=>?_⟩,⟨λ b' h7=>?_,λ _ _ _=>rfl,λ _ _=>rfl,?_,?_,?_,hf,λ b' h7 b1=>?_,ag,λ k g1 b' hk ai _=>?_⟩⟩
  .have hid:id=0:=by
    cases id with
    | zero=>rfl
    | succ k=>simp[C9] at he
   subst hid;simp only[C9,List.getElem?_cons_zero,Qw] at he;subst he;refine⟨g,hg,⟨ent.s,Qk _,λ _ row hr=>?_,λ hn=>(by rw[q] at hn;cases hn),λ hz=>absurd hz (U0 0),λ _ b' h7=>?_⟩⟩
   .simp [Dm] at hr
    obtain⟨x,_,rfl⟩:=hr;rfl
   .rw [q] at h7
    obtain rfl:=Qh h7;refine⟨_,ty,by rw[hh _ a4,if_pos rfl],by simpa using a9,by simp[Dm,a8,a5];simpa [Dm] using a2,λ i j hi hj=>?_⟩
    have hi':i<ys.length:=by simpa [Dm] using hi
    have hd:j=0:=by simp at hj;omega
    subst hd;refine⟨.int .i64 ys[i],by simpa using hs i hi',rfl,?_⟩
    have:((Dm ys).getD i []).getD 0 .dead = .I ys[i]:=by simp[Dm,List.getD,hi']
    rw[this];exact .sc _ _ rfl
  .have h0:∀ id e,C9 [({ s:=1,rows:=Dm ys }:AD)] id=some e->id=0:=by
    intro id e he
    cases id with
    | zero=>rfl
    | succ k=>simp[C9] at he
   rw[h0 _ _ h1,h0 _ _ h2]
  .obtain ⟨c1,ty1,fz1,h1,h2⟩:=hv b' h7
   obtain⟨c2,fz2,h3,h4,_⟩:=ag.cell b' c1 ty1 fz1 h1;exact⟨c2,ty1,fz2,h3,zy⟩
  .rw [<- ht];rfl
  .rw [<- ht];rfl
  .rw [<- ht];rfl
  .rw [hh b' h7,if_neg]
   intro h8;exact b1 ⟨0,g,zz,hg,by rw[q,h8]⟩
  .rw [hx k hk] at ai
   cases ai
theorem Fq.refl {n:Nat} {T:Nat->Nat} {M:GM} {w:World} (q:Gy T w) (u:∀ k,n<=k->M k=none):Fq n T M w T M w :=
 ⟨q,λ _ _ _=>rfl,λ _ _=>rfl,rfl,rfl,rfl,Qf _,λ _ _ _=>rfl,⟨λ _=>Qf _,λ _ cells _ fz h=>⟨cells,fz,h,rfl,λ _ _=>rfl⟩⟩,λ k g b hk h=>by rw[u k hk] at h;cases h⟩
theorem J2 {vs:Array Value} (h:vs.size=1):vs = #[vs.getD 0 undef]:=by
 apply Array.ext
 .simpa using h
 .intro i h1 h2
  have:i=0:=by simp at h2;omega
  subst this;simp[Array.getD,h1]
theorem PY (zs:List Int) (hl:zs.length<4611686018427387904) :
  AF 84 [.rs 0 0 zs.length] [{ s:=1,rows:=Dm zs }] (.tup []) ([{ s:=1,rows:=Dm (zs.mergeSort λ x y=>decide (x<=y)) }].map some):=by
 by_cases h0:zs=[]
 .subst h0
  refine⟨S0.s.body,zz,λ T M w vs u h3 h1 h2=>?_⟩
  obtain⟨h4,hr⟩:=h2;have q:=hr 0 zz
  simp only[UR] at q;rw[J2 h4];generalize vs.getD 0 undef=v at q
  cases q with
  | rs _ _ _ _ cap a g hg h5 h6 hn hb =>
  refine(Any.slices_Sort_int_none Tryz.lays189 a cap w).mono ?_
  rintro e w' ⟨rfl,rfl⟩
  exact⟨_,T,M,rfl,.tup M [] #[] rfl (λ i hi=>by simp at hi),by rw[OU];simpa using h3,Fq.refl u h1⟩
 .exact eW zs h0 hl
def BJ (l:List Ed) (key:Int):List Int:=l.filterMap λ e=>if e.f=key then some e.t else none
theorem TI (l:List Ed) (key:Int) (k:Nat) (h:k<l.length):BJ (l.take (k+1)) key=BJ (l.take k) key++if l[k].f=key then [l[k].t] else []:=by
 unfold BJ;rw[<- U1 h,UV,List.filterMap_append]
 congr 1
 by_cases hc:l[k].f=key<;>simp[hc]
theorem Ot (l:List Ed) (key:Int):(BJ l key).length<=l.length:=List.length_filterMap_le _ _
theorem l7 (g:Gr) (key:Int) (hl:g.edges.length<=1099511627776):AF 199 [eG g,.I key] [] (.rs 0 0 (BJ g.edges key).length) [some ⟨1,((BJ g.edges key).mergeSort λ x y=>decide (x<=y)).map λ n=>[AV.I n],0⟩]:=by
 refine rN.s.ai ?_;refine AB (AT ?_);refine AB (AT ?_);refine AB (AB (AT ?_));refine AI (An (ι:=Nat) (λ k=>⟨28,[(1,.I key),(5,.rs 16 0 (BJ (g.edges.take k) key).length),(9,BE g.edges),(10,.I g.edges.length),(11,.I k)],[(16,some ⟨1,(BJ (g.edges.take k) key).map λ n=>[AV.I n],0⟩)],24⟩) (λ k=>k<=g.edges.length) (λ k=>g.edges.length - k) (0) ?_ (Le.lst [] [] [(16,1)] rfl zz zz zz zz zz zz zz (by simp[Up,BJ]) (by simp[BJ])) ?_)
 .simp
 rintro k hk
 have h1:(BJ (g.edges.take k) key).length<=k:=QR (Ot _ _) (by simp;exact Nat.min_le_left _ _)
 refine AB (AT ?_);refine AB (AE _ rfl (λ h4=>?_) λ h4=>?_)
 .try simp at h4
  have q:=w6 (x:=(k:Int)+1);have h2:0<k->IntKind.i64.wrap ((k:Int) - 1)=((k - 1:Nat):Int):=λ h=>by rw[w6];omega
  have h3:k - 1<g.edges.length:=zy
  refine AG (AB (AI (arc ⟨28,[(1,.I key),(5,.rs 16 0 (BJ (g.edges.take k) key).length),(7,.pv (eC g.edges[k])),(9,BE g.edges),(10,.I g.edges.length),(11,.I k)],[(16,some ⟨1,(BJ (g.edges.take k) key).map λ n=>[AV.I n],0⟩)],24⟩ ?_ ?_)))
  .simp [h4]
   exact Le.var1 16 [48] rfl rfl (Ar rfl) zx rfl (by simp[AC]) zz zz
  refine AB (AT ?_);refine AE _ rfl (λ h6=>?_) λ h6=>?_
  .try simp at h6
   refine Ay (s:=?s7) rfl ?o7 ?q7
   case o7 =>
    simp[List.replicate];refine⟨zy,zy,?_⟩
    rfl
   refine Ay (s:=?s8) rfl ?o8 ?q8
   case o8=>simp[q];rfl
   have hs:=TI g.edges key k h4;rw[if_pos h6] at hs;refine⟨k+1,h4,zy,Le.ren1 88 16 [] rfl rfl (Ar rfl) zx rfl (by simp[hs,AC,DX]) zz (by simp[hs])⟩
  try simp at h6
  refine AG (Ay (s:=?s9) rfl ?o9 ?q9)
  case o9=>simp[q];rfl
  have hs:=TI g.edges key k h4;rw[if_neg h6,QU] at hs;refine⟨k+1,h4,zy,Le.var1 16 [] rfl rfl (Ar rfl) zx rfl (by simp[hs,AC]) zz (by simp[hs])⟩
 try simp at h4
 have u:k=g.edges.length:=zy
 subst u;have h0:=Ot g.edges key;refine Ak (Al (AB (Ay (s:=?s10) rfl ?o10 ?q10)))
 case o10 =>
  simp;refine BZ (i:=16) rfl (e':=⟨1,Dm (BJ g.edges key),0⟩) (by simp[Dm,AC]) (PY (BJ g.edges key) zy) zz zz ?_
  simp[Dm,AC];rfl
 refine AB (AT ?_);exact B3 [16] []
@[simp] theorem yS {ρ:List (Nat × Nat)} {sn:List Nat} {h:Nat->Option AD} {n:Nat} {f:Fn} {a b:List AV}:conv ρ sn h (n+1) (.fn f a b) = .fn f (a.map (conv ρ sn h n)) (b.map (conv ρ sn h n)):=(rfl)
theorem Ta (l:List Ed) (e:Ed) (hl:l.length<=1099511627776) (hm:∀ (i j:Nat) (hi:i<l.length) (hj:j<l.length),i<=j->B9 l[j] e->B9 l[i] e):AF 282 [BE l,eE e,.fn (.func 93) [] []] [] (.tup [.I (BN l e),.B (decide (GA l (BN l e) e.f e.t))]) []:=by
 refine vK.s.ac ?_;show AY _ 0 _ _ ⟨49,[(0,BE l),(1,eE e),(2,.fn (.func 93) [] [])],[],16⟩;refine arc ⟨49,[(0,BE l),(2,.fn (.func 93) [] []),(4,.pv (eC e))],[],16⟩ ?_ ?_
 .simp
  exact AZ [16] zz
 refine AB (AT ?_);refine AB (AT ?_);refine AB (AI (An (ι:=Nat × Nat) (λ p=>⟨49,[(0,BE l),(2,.fn (.func 93) [] []),(4,.pv (eC e)),(8,.I l.length),(9,.I p.1),(10,.I p.2)],[],16⟩) (λ p=>p.1<=p.2/\p.2<=l.length/\(∀ q,q<p.1->Wa l e q) /\ ∀ q (h:q<l.length),p.2<=q->¬ B9 l[q] e) (λ p=>p.2 - p.1) ((0,l.length)) ?_ (AZ [] zz) ?_))
 .simp
  intro q h h2;omega
 rintro⟨i,j⟩ ⟨hij,u,h0,h1⟩
 simp only at hij u h0 h1;refine AB (AB (AT ?_));refine AE _ rfl (λ h4=>?_) λ h4=>?_
 .try simp at h4
  refine AG (AI ?_);have hw:=w6 (x:=(i:Int)+(j:Int));have hu:IntKind.u64.wrap ((i:Int)+(j:Int))=(i:Int)+(j:Int):=by rw[IntKind.wrap_u64];omega
  have hd:Int.fdiv ((i:Int)+(j:Int)) 2=(((i+j) / 2:Nat):Int):=by rw[QL _ zx];omega
  have h6:=w6 (x:=(((i+j) / 2:Nat):Int));refine arc ⟨49,[(0,BE l),(2,.fn (.func 93) [] []),(4,.pv (eC e)),(8,.I l.length),(9,.I i),(10,.I j),(11,.I ((i+j) / 2:Nat))],[],16⟩ ?_ ?_
  .simp [hw,hu,hd,h6,IntKind.bits,-Int.natCast_ediv,-Int.natCast_add]
   exact AZ [] (by simp[hw,hu,hd,h6])
  obtain⟨m,h8⟩:=AJ ((i+j) / 2);rw[<- h8];have h3:m<l.length:=zy
  have h9:=w6 (x:=(m:Int)+1);refine AB (Hd (s:=?s6) (tr:=?t6) rfl ?o6 ?r6 ?q6)
  case o6=>simp[h3];refine Ah (RM l[m] e) rfl ?_;simp;constructor<;>rfl
  case r6=>rfl
  refine AE _ rfl (λ h7=>?_) λ h7=>?_
  .simp only[Qa,Qb,IB] at h7
   refine AT ?_;refine⟨(m+1,j),⟨by simp only;omega,u,λ q hq h5=>?_,h1⟩,by simp only;omega,AZ [] (by simp[h9])⟩
   exact hm q m h5 h3 (by simp only at hq;omega) h7
  simp only[Qa,Qb,IB] at h7;refine AT ?_;refine⟨(i,m),⟨by simp only;omega,by simp only;omega,h0,λ q h5 hq hb=>?_⟩,by simp only;omega,AZ [] zz⟩
  exact h7 (hm m q h3 h5 hq hb)
 try simp at h4
 refine Ak (Al ?_);have ha:j=i:=zy
 subst ha;rw[SP u h0 (λ h=>h1 _ h (Qf _))];refine Bi ⟨49,[(6,.I j),(7,.B (decide (GA l j e.f e.t)))],[],16⟩ ?_ ?_
 .simp
  repeat' first
   | (refine Cs 93 rfl ?_;refine Ah (RM _ e) rfl ?_;simp)
   | (refine DC (λ hb=>?_) (λ hb=>?_)<;>(try rw[hb])<;>(try simp at hb)<;>simp[*])
  all_goals exact⟨rfl,AZ [] (by simp<;>exact A0 (by (try simp at *);grind [GA,iO]))⟩
 exact B3 [] []
def Dc (n m:Int):Int:=if m<1 then 0 else n % m
theorem cY {n m:Int} (hm:0<m):n.tmod m % m=n % m:=by
 have h:=Int.mul_tdiv_add_tmod n m
 conv=>rhs;rw[<- h]
 rw[Int.add_comm,Int.add_mul_emod_self_left]
theorem bC {n m:Int} (hm:0<m) : -m<n.tmod m/\n.tmod m<m:=⟨Int.lt_tmod_of_pos n hm,Int.tmod_lt_of_pos n hm⟩
def EK (L:List Int) (a:Nat) (n:Int):Int × Nat:=if h:a<L.length then (Dc L[a] n,a+1) else (0,a)
abbrev AK (L:List Int) (a:Nat):AD:=⟨2,[[AA L,.I a]],0⟩
theorem AO.k1 {rs:List (Nat × Option (Bool × Nat))} {st:St} {vs:List AV} {res:AV} {e:AD} (h1:EJ st rs=some vs) (hw:Wk (conv [(0,0)] [] st.hp 4 (DE vs)) res) (he:(st.hp 0).map (AX [(0,0)] [] st.hp 4)=some e):AO rs 1 st res [some e] :=
 ⟨vs,h1,[],[],zx,zz,zz,hw,by simpa using he⟩
theorem cQ (L:List Int):AF 4 [AA L] [] (.B (decide (L.length<=400))) []:=by
 refine iN.s.ai ?_;refine AB (AT ?_);refine arc ⟨6,[(2,.B (decide (L.length<=400)))],[],16⟩ ?_ ?_
 .simp
  exact AZ [] (by simp<;>exact A0 zw)
 exact Bg
theorem Wr (n m:Int) (hm:m<=9223372036854775807):AF 38 [.I n,.I m] [] (.I (Dc n m)) []:=by
 refine mM.s.ai ?_;refine AB (AT ?_);refine AB (AB (AT ?_));refine AE _ rfl (λ h3=>?_) λ h3=>?_
 .try simp at h3
  refine AB (AT ?_);exact BR (AO.one (by simp[Dc,h3]))
 try simp at h3
 have u:m≠0:=zy
 have q:¬ m<1:=zy
 obtain⟨t1,t2⟩:=bC (n:=n) (m:=m) zy
 have te:=cY (n:=n) (m:=m) zy
 refine AG (AB (Ay (s:=?s5) rfl ?o5 ?q5))
 case o5=>simp[u];rfl
 refine AB (AB (AT ?_));refine AE _ rfl (λ h7=>?_) λ h7=>?_
 .try simp at h7
  have hw:=w6 (x:=n.tmod m+m);have hr:n % m=n.tmod m+m:=by rw[<- te,<- Int.add_emod_right,Int.emod_eq_of_lt zy zy]
  refine Ay (s:=?s8) rfl ?o8 ?q8
  case o8=>simp[hw];rfl
  refine AB (AT ?_);exact BR (AO.one (by simp[Dc,q,hr]))
 try simp at h7
 have hr:n % m=n.tmod m:=by rw[<- te,Int.emod_eq_of_lt zy zy]
 refine AG (AB (AT ?_));exact BR (AO.one (by simp[Dc,q,hr]))
theorem sE (L:List Int):AF 6 [AA L] [] (.pt 0 0 0) [some (AK L 0)]:=by
 refine jK.s.ai ?_;refine AB (AT ?_);refine AB (AT ?_);exact B3 [40] []
theorem Pu (L:List Int) (a:Nat) (n:Int) (hl:L.length<=1099511627776) (ha:a<=L.length) (hn:n<=9223372036854775807):AF 13 [.pt 0 0 0,.I n] [AK L a] (.I (EK L a n).1) [some (AK L (EK L a n).2)]:=by
 refine qF.s.ai ?_;refine AB (AT ?_);refine AB (AB (Hd (s:=?s2) (tr:=?t2) rfl ?o2 ?r2 ?q2))
 case o2=>simp;constructor<;>rfl
 case r2=>rfl
 refine AE _ rfl (λ h3=>?_) λ h3=>?_
 .try simp at h3
  refine AB (AT ?_);refine Am ?_;have hr:EK L a n=(0,a):=by unfold EK;rw[dif_neg zy]
  rw[hr];exact⟨.inr rfl,AO.k1 rfl zz (by simp[AC])⟩
 try simp at h3
 have hw:=w6 (x:=(a:Int)+1);have q:=w6 (x:=(a:Int));refine AG (AB (Ay (s:=?s5) rfl ?o5 ?q5))
 case o5=>simp[hw];rfl
 refine AB (Hd (s:=?s6) (tr:=?t6) rfl ?o6 ?r6 ?q6)
 case o6=>simp[q,h3];refine Ah (Wr _ _ hn) rfl ?_;simp;constructor<;>rfl
 case r6=>rfl
 refine Am ?_;have hr:EK L a n=(Dc L[a] n,a+1):=by unfold EK;rw[dif_pos h3]
 rw[hr];exact⟨.inr rfl,AO.k1 rfl zz (by simp[AC])⟩
variable {n:Int}
theorem eD {m:Int} (hm:0<m):0<=Dc n m/\Dc n m<m:=by
 unfold Dc;rw[if_neg zy]
 exact⟨Int.emod_nonneg _ zy,Int.emod_lt_of_pos _ hm⟩
theorem NJ {L:List Int} {a:Nat} (hn:0<n):0<=(EK L a n).1/\(EK L a n).1<n:=by
 unfold EK;split
 .exact eD hn
 .exact ⟨Int.le_refl _,hn⟩
theorem N9 {L:List Int} {a:Nat} (ha:a<=L.length):(EK L a n).2<=L.length:=by
 unfold EK;split
 .simp only;omega
 .exact ha
def Ku (L:List Int) (a:Nat) (l:List Int):Int:=l.getD (EK L a l.length).1.toNat 0
theorem dJ (L:List Int) (a:Nat) (n:Int) (hl:L.length<=1099511627776) (ha:a<=L.length) (q:0<=n) (hn:n<=9223372036854775807):AF 23 [.pt 0 0 0,.I n] [AK L a] (.B (decide ((EK L a n).1=n - 1))) [some (AK L (EK L a n).2)]:=by
 refine ZP.s.ai ?_;have hw:=w6 (x:=n - 1);refine AB (AT ?_);refine AB (Ay (s:=?s2) rfl ?o2 ?q2)
 case o2 =>
  simp;refine BZ (i:=0) rfl (e':=AK L a) zz (Pu L a n hl ha hn) zz zz ?_
  simp[hw];rfl
 refine Am ?_;exact⟨.inr rfl,AO.k1 rfl (by simp<;>exact A0 rfl) zz⟩
theorem tO (L:List Int) (a:Nat) (l:List Int) (hl:L.length<=1099511627776) (ha:a<=L.length) (h0:0<l.length) (h1:l.length<=1099511627776):AF 22 [.pt 0 0 0,AA l] [AK L a] (.I (Ku L a l)) [some (AK L (EK L a l.length).2)]:=by
 refine cS.s.ai ?_
 obtain⟨q,hq,u⟩:∃ q:Nat,(EK L a l.length).1=q/\q<l.length:=by
  have:=NJ (L:=L) (a:=a) (n:=l.length) zy
  exact⟨(EK L a l.length).1.toNat,zy,zy⟩
 have ho:Ku L a l=l[q]:=by unfold Ku;rw[hq];simp[u]
 refine AB (AT ?_);refine AB (Ay (s:=?s2) rfl ?o2 ?q2)
 case o2 =>
  simp;refine BZ (i:=0) rfl (e':=AK L a) (by simp[AC]) (Pu L a l.length hl ha zy) zz zz ?_
  simp[hq,u,AC];rfl
 refine Am ?_;rw[ho];exact⟨.inr rfl,AO.k1 rfl zz (by simp[AC])⟩
def Es (R:List (List AV)):Prop:=∀ ρ sn h n,R.map (List.map (conv ρ sn h (n+1)))=R
theorem ZU (R:List (List AV)) (row:List AV) (n k:Nat) (hn:R.length=n) (hk:k<=n) (hR:Es R) (hr:Es [row]) (hl:(n+1)*24<=140737488355328) :
  AF 286 [.rs 0 0 n,.I k,.vs 3 false [row]] [⟨3,R,0⟩] (.rs 1 0 (n+1)) [none,some ⟨3,R.take k++row::R.drop k,0⟩]:=by
 have h4:∀ ρ sn h n,row.map (conv ρ sn h (n+1))=row:=λ ρ sn h n=>by simpa using hr ρ sn h n
 have q:∀ ρ sn h n,(R.take k++row::R.drop k).map (List.map (conv ρ sn h (n+1)))=R.take k++row::R.drop k:=λ ρ sn h n=>by
  have:=hR ρ sn h n;rw[QN,QA,UH,UI,this,h4]
 refine Rh λ c hc=>?_;refine iP.s.acalls (Ar rfl) (Ar rfl) (Ar rfl) ?_;show AY _ 1 _ _ ⟨95,[(0,.rk 0 0 n c),(1,.I k),(2,.vs 3 false [row])],[(0,some ⟨3,R,0⟩)],16⟩;obtain⟨n1,h5⟩:=AJ (n+1);obtain⟨k1,h6⟩:=AJ (k+1);obtain⟨d,hd⟩:=AJ (n1 - k);have u:IntKind.i64.wrap ((n:Int)+1)=(n1:Int):=by rw[w6];omega
 have h0:IntKind.i64.wrap ((k:Int)+1)=(k1:Int):=by rw[w6];omega
 have h8:IntKind.i64.wrap ((n1:Int) - (k:Int))=(d:Int):=by rw[w6];omega
 have fin:∀ (t:List (Nat × AV)) (m:Nat),AY Tryz.prog 1 .ret (λ e st=>(e = .normal∨e = .ret)/\AO [(6,none)] 1 st (.rs 1 0 (n+1)) [none,some ⟨3,R.take k++row::R.drop k,0⟩]) ⟨95,[(6,.rs 16 0 n1)],[(16,some ⟨3,R.take k++row::R.drop k,0⟩)],24⟩:=by
  intro t m;refine Am ⟨.inr rfl,?_⟩;refine AO.m1 (vs:=[.rs 16 0 n1]) 16 zy rfl (by simp[h5]) rfl ?_
  show Option.map _ (some _)=_;rw[Ug];unfold AX;simp only[q]
 refine arc ⟨95,[(0,.rk 0 0 n c),(1,.I k),(2,.vs 3 false [row])],[(0,some ⟨3,R,0⟩)],24⟩ ?_ ?_
 .simp
  exact A5
 refine arc ⟨95,[(0,.rk 0 0 n c),(1,.I k),(2,.vs 3 false [row])],[(0,some ⟨3,R,0⟩)],48⟩ ?_ ?_
 .simp [hk,hc]
  exact A5
 refine arc ⟨95,[(0,.rk 0 0 n c),(1,.I k),(2,.vs 3 false [row]),(7,.I 1)],[(0,some ⟨3,R,0⟩)],72⟩ ?_ ?_
 .simp
  exact A5
 refine AB (arc ⟨95,[(0,.rk 0 0 n c),(1,.I k),(2,.vs 3 false [row]),(7,.I 1),(16,.B false)],[(0,some ⟨3,R,0⟩)],88⟩ ?_ ?_)
 .simp
  exact A5
 refine AE _ rfl (λ h=>by cases h) λ _=>AG ?_
 refine arc ⟨95,[(0,.rk 0 0 n c),(1,.I k),(2,.vs 3 false [row]),(7,.I 1),(8,.I n)],[(0,some ⟨3,R,0⟩)],112⟩ ?_ ?_
 .simp
  exact A5
 refine AB (arc ⟨95,[(0,.rk 0 0 n c),(1,.I k),(2,.vs 3 false [row]),(7,.I 1),(8,.I n),(22,.B (decide (k=n)))],[(0,some ⟨3,R,0⟩)],136⟩ ?_ ?_)
 .simp
  exact Le.keep rfl (Qf _) (by simp<;>rw[Qg]<;>simp<;>omega) zz
 refine AE _ rfl (λ h=>?_) λ h=>AG ?_
 .
  simp at h;subst h;have hT:R.take k=R:=Qd zy
  have hD:R.drop k=[]:=QI zy
  have h9:R.drop n1=[]:=QI zy
  simp only[hT,hD] at fin q ⊢;refine Bv ⟨95,[(6,.rs 16 0 n1)],[(16,some ⟨3,R++[row],0⟩)],24⟩ rfl ?_ (fin [] 0);simp[hn,<- h5,hT,h9];refine⟨zy,zy,?_⟩
  split
  .exact Le.mv1 0 16 rfl rfl (Ar rfl) zy rfl (by simp only[AX,q]) (Qk _) zz
  .exact Le.mv1 152 16 rfl rfl (Ar rfl) zy rfl (by simp only[AX,q]) (Qk _) zz
 simp at h;have hf:k<n:=zy
 refine AB (arc ⟨95,[(0,.rk 0 0 n c),(1,.I k),(2,.vs 3 false [row]),(7,.I 1),(8,.I n),(31,.B (decide (c<n1)))],[(0,some ⟨3,R,0⟩)],184⟩ ?_ ?_)
 .simp [u]
  exact A5
 refine AE _ rfl (λ h=>?_) λ h=>AG ?_
 .
  simp at h;have hg:n - k+1=d:=zy
  refine arc ⟨95,[(0,.rk 0 0 n c),(1,.I k),(2,.vs 3 false [row]),(7,.I 1),(8,.I n),(9,.rs 248 0 n1)],[(0,some ⟨3,R,0⟩),(248,some ⟨3,R.take k++List.replicate d [.I 0,.I 0,.I 0],0⟩)],264⟩ ?_ ?_
  .have ha:k+d=n1:=zy
   simp[u,h8,ha];exact⟨zy,zy,zy,h,zy,zy,A5⟩
  refine arc ⟨95,[(0,.rk 0 0 n c),(1,.I k),(2,.vs 3 false [row]),(7,.I 1),(8,.I n),(9,.rs 248 0 n1)],[(0,some ⟨3,R,0⟩),(248,some ⟨3,R.take k++row::List.replicate (n - k) [.I 0,.I 0,.I 0],0⟩)],304⟩ ?_ ?_
  .have hm:min 1 (n1 - k)=1:=zy
   have h3:(R.take k).length=k:=zw
   have h1:(R.take k++List.replicate d [AV.I 0,AV.I 0,AV.I 0]).take k=R.take k:=by
    rw[Q3 zy,List.take_take]
    congr 1;omega
   have h2:(R.take k++List.replicate d [AV.I 0,AV.I 0,AV.I 0]).drop (k+1)=List.replicate (n - k) [AV.I 0,AV.I 0,AV.I 0]:=by
    rw[List.drop_append,h3,QI zy,List.drop_replicate]
    simp;omega
   simp[show k<=n1 by omega,hm]
   exact⟨zy,Le.keep rfl (Qf _) zz (by simp[h1,h2])⟩
  refine Bi ⟨95,[(9,.rs 248 0 n1)],[(248,some ⟨3,R.take k++row::R.drop k,0⟩)],376⟩ ?_ ?_
  .have h3:(R.take k).length=k:=zw
   have hx:List.take (n - k) (List.drop k R)=List.drop k R:=Qd zw
   have hb:(List.drop k R).length=n - k:=zw
   have hm:min (n - k) (n1 - k1)=n - k:=zy
   have h1:(R.take k++row::List.replicate (n - k) [AV.I 0,AV.I 0,AV.I 0]).take k1=R.take k++[row]:=by
    rw[List.take_append,h3,Qd zy,h6,show k+1 - k=1 by omega]
    rfl
   have h2:(R.take k++row::List.replicate (n - k) [AV.I 0,AV.I 0,AV.I 0]).drop (k1+(n - k))=[]:=QI zw
   simp[h0];refine⟨zy,zy,zy,zy,_,⟨zy,hx⟩,rfl,?_⟩
   rw[hb,hm,h1,h2,hx];exact A5
  refine Bv ⟨95,[(6,.rs 16 0 n1)],[(16,some ⟨3,R.take k++row::R.drop k,0⟩)],24⟩ rfl ?_ (fin [] 0);simp;exact Le.mv1 248 16 rfl rfl (Ar rfl) zy rfl (by simp only[AX,q]) (Qk _) zz
 simp at h;refine arc ⟨95,[(0,.rk 0 0 n1 c),(1,.I k),(2,.vs 3 false [row]),(7,.I 1),(8,.I n)],[(0,some ⟨3,R,0⟩)],232⟩ ?_ ?_
 .simp [u,h]
  exact A5
 refine AB (arc ⟨95,[(0,.rk 0 0 n1 c),(1,.I k),(2,.vs 3 false [row]),(7,.I 1),(8,.I n),(68,.B true)],[(0,some ⟨3,R,0⟩)],296⟩ ?_ ?_)
 .simp [h0,h,show k1<=n1 by omega]
  exact A5
 refine AE _ rfl (λ _=>?_) λ h=>by cases h
 have h7:min (n1 - k) (n1 - k1)=n - k:=zy
 have he:(R.drop k).take (n - k)=R.drop k:=Qd zw
 refine Bi ⟨95,[(0,.rk 0 0 n1 c),(1,.I k),(2,.vs 3 false [row]),(7,.I 1),(8,.I n)],[(0,some ⟨3,R.take k1++R.drop k,0⟩)],368⟩ ?_ ?_
 .simp [h0,h,show k1<=n1 by omega,show k<=n1 by omega,h7,hn,show k+(n - k)<=n by omega,show k1<=n by omega,he,Nat.min_eq_left (show n - k<=n1 - k by omega)]
  refine⟨rfl,Le.keep rfl (Qf _) zz zw⟩
 refine arc ⟨95,[(0,.rk 0 0 n1 c)],[(0,some ⟨3,R.take k++row::R.drop k,0⟩)],408⟩ ?_ ?_
 .have hm:min 1 (n1 - k)=1:=zy
  have h1:(R.take k1++R.drop k).take k=R.take k:=by
   rw[Q3 zw,List.take_take]
   congr 1;omega
  have h2:(R.take k1++R.drop k).drop (k+1)=R.drop k:=by
   rw[<- h6,List.drop_append_of_le_length zw]
   rw[QI zw];rfl
  simp[h,show k<=n1 by omega,hm,hn]
  exact⟨zy,Le.keep rfl (Qf _) zz (by simp[h1,h2])⟩
 refine Bv ⟨95,[(6,.rs 16 0 n1)],[(16,some ⟨3,R.take k++row::R.drop k,0⟩)],24⟩ rfl ?_ (fin [] 0);simp;exact Le.mv1 0 16 rfl rfl (Ar rfl) zy rfl (by simp only[AX,q]) (Qk _) zz
theorem dI (R:List (List AV)) (n k k1:Nat) (hn:R.length=n) (hk:k<n) (h5:k1=k+1) (hR:Es R) (hl:(n+1)*24<=140737488355328) :
  AF 283 [.rs 0 0 n,.I k,.I k1] [⟨3,R,0⟩] (.rs 0 0 (n - 1)) [some ⟨3,R.take k++R.drop k1++[[.I 0,.I 0,.I 0]],0⟩]:=by
 refine Rh λ c hc=>?_;refine dS.s.acalls (Ar rfl) (Ar rfl) (Ar rfl) ?_;show AY _ 1 _ _ ⟨33,[(0,.rk 0 0 n c),(1,.I k),(2,.I k1)],[(0,some ⟨3,R,0⟩)],16⟩;obtain⟨nm,u⟩:=AJ (n - 1);refine arc ⟨33,[(0,.rk 0 0 n c),(1,.I k),(2,.I k1)],[(0,some ⟨3,R,0⟩)],24⟩ ?_ ?_
 .simp
  exact A5
 refine arc ⟨33,[(0,.rk 0 0 n c),(1,.I k),(2,.I k1)],[(0,some ⟨3,R,0⟩)],72⟩ ?_ ?_
 .simp
  exact⟨zy,zy,zy,A5⟩
 refine AB (arc ⟨33,[(0,.rk 0 0 n c),(1,.I k),(2,.I k1),(16,.B false)],[(0,some ⟨3,R,0⟩)],96⟩ ?_ ?_)
 .simp
  exact Le.keep rfl (Qf _) zw zz
 refine AE _ rfl (λ h=>by cases h) λ _=>AG ?_
 refine arc ⟨33,[(0,.rk 0 0 n c),(1,.I k),(2,.I k1),(7,.I n)],[(0,some ⟨3,R,0⟩)],120⟩ ?_ ?_
 .simp
  exact A5
 have hx:List.take (n - k1) (List.drop k1 R)=List.drop k1 R:=Qd zw
 have h0:(List.drop k1 R).length=n - k1:=zw
 have h6:(R.take k).length=k:=zw
 refine Bi ⟨33,[(0,.rk 0 0 nm c),(7,.I n)],[(0,some ⟨3,R.take k++R.drop k1++R.drop nm,0⟩)],184⟩ ?_ ?_
 .simp
  have h4:k+(n - k1)=nm:=zy
  refine⟨zy,zy,zy,_,⟨zy,hx⟩,zy,?_⟩
  rw[h0,h4];refine⟨zy,zy,?_⟩
  rw[if_pos zy]
  exact⟨rfl,A5⟩
 have h1:(R.take k++R.drop k1++R.drop nm).take nm=R.take k++R.drop k1:=by
  rw[Q3 zw,Qd zw]
 refine arc ⟨33,[(0,.rk 0 0 nm c)],[(0,some ⟨3,R.take k++R.drop k1++[[.I 0,.I 0,.I 0]],0⟩)],232⟩ ?_ ?_
 .rw [Qq] at h1
  have h2:(R.take k++(R.drop k1++R.drop nm)).drop (nm+(n - nm))=[]:=QI zw
  have h3:n - nm=1:=zy
  simp;refine⟨zy,zy,zy,?_⟩
  rw[h1,h2,h3];exact Le.keep rfl (Qf _) zz (by simp[List.replicate])
 refine AB (AT ?_);refine Am ⟨.inr rfl,⟨[.rk 0 0 nm c],rfl,[],[],by simp[List.range,List.range.loop],zz,zz,?_,?_⟩⟩
 .simp [List.range,List.range.loop,<- u]
 .have q:∀ ρ sn h n,(R.take k++(R.drop k1++[[AV.I 0,AV.I 0,AV.I 0]])).map (List.map (conv ρ sn h (n+1)))=R.take k++R.drop k1++[[AV.I 0,AV.I 0,AV.I 0]]:=λ ρ sn h n=>by
   have:=hR ρ sn h n;rw[QN,QN,UH,UI,this];simp
  show [Option.map _ (some _)]=_;rw[Ug];unfold AX;simp only[Qq,q]
theorem Nj (l:List Ed):Es (l.map λ e=>[AV.I e.f,AV.I e.t,AV.I e.v]):=by
 intro ρ sn h n;simp[AC]
theorem AH.lt {g:Gr} (h:AH g):∀ (j i:Nat) (hi:i<g.edges.length) (hj:j<g.edges.length),i<j->B9 g.edges[i] g.edges[j]
 | 0,_,_,_,h0=>zy
 | j+1,i,hi,hj,hij=>by
   have h1:B9 g.edges[j] g.edges[j+1]:=IB.1 ((h.2 (j+1) hj).2.2.2 zy)
   rcases Ub i j with h2 | h2
   .have h3:=AH.lt h j i hi zy h2
    unfold B9 at *;omega
   .obtain rfl:i=j:=zy
    exact h1
theorem AH.mono {g:Gr} (h:AH g) (e:Ed):∀ (i j:Nat) (hi:i<g.edges.length) (hj:j<g.edges.length),i<=j->B9 g.edges[j] e->B9 g.edges[i] e:=by
 intro i j hi hj hij hb;rcases Ub i j with h2 | h2
 .have h3:=h.lt j i hi hj h2
  unfold B9 at *;omega
 .obtain rfl:i=j:=zy
  exact hb
theorem pZ (l:List Ed) (e:Ed):BN l e=BN l ⟨e.f,e.t,0⟩:=rfl
section
variable {P:Program} {np id:Nat} {h:Nat->Option AD} {K:AV->List Nat->List (Nat × Option AD)->Prop} {f:FuncId} {first aA args aB:List AV} {res:AV}
theorem Il {i j:Nat} {e e' ej:AD} {hs':List (Option AD)} (hij:j≠i) (q:np<=j) (hi:h i=some e) (hj:h j=some ej) (u:AX [(i,0)] [j] h 4 e=e') (hc:CF P f aB [e'] res hs') (h8:hs'.length<=9) (he:(first++args++aA).map (conv [(i,0)] [j] h 4)=aB) (hk:K (conv (Cb [i] id) [] (λ _=>none) 4 res) [i,j] ((hs'.zipIdx.map λ (e,k)=>((i::(List.range 8).map (id + ·)).getD k 0,e.map (AX (Cb [i] id) [] (λ _=>none) 4)))++[(j,some { ej with ro:=ej.rows.length })])):aK P np id .call (.fn (.func f) first aA::args) h K :=
 ⟨[i],[j],true,aB,[e'],res,hs',zz,by simpa using hij,by simpa using q,by rw[show [i].zipIdx=[(i,0)] from rfl,he];exact FT _,by rw[show [i].zipIdx=[(i,0)] from rfl];simpa [hi] using u,hc,by simpa using h8,.inl rfl,by simpa [Cb,hj] using hk⟩
end
open Classical in
theorem vN (g:Gr) (e:Ed) (hl:g.edges.length*24<=140737488355328) (h5:g.gone.length*8<=140737488355328):AF 285 [eG g,eE e] [] (.tup [eG (De g e).1,.I (De g e).2]) []:=by
 refine uF.s.ac ?_;show AY _ 0 _ _ ⟨51,[(0,eG g),(1,eE e)],[],16⟩;refine arc ⟨51,[(2,.pv (gC g)),(3,.pv (eC e)),(4,.pt 32 0 0)],[(32,some ⟨3,[[.I 0,.nilS,.nilS]],0⟩)],40⟩ ?_ ?_
 .simp
  exact Le.var1 32 [16,24] rfl rfl (Ar rfl) zx rfl zz zz zz
 refine AB (AB (Ay (s:=?s1) rfl ?o1 ?q1))
 case o1=>simp;refine Ah (Iy g zy zy) rfl ?_;simp;rfl
 refine AE _ rfl (λ h2=>?_) λ h2=>?_
 .have hg:¬ AH g:=by
   intro hg;simp[hg] at h2
  refine AB (AT ?_);refine Am ⟨.inr rfl,?_⟩;show AO [(4,some (true,3)),(5,none)] 0 _ _ _;refine AO.out (vs:=[.agg [.I 0,.nilS,.nilS],.I 14]) [] [] zz zz zz ?_ zz
  have hr:De g e=(EF,14):=by grind [De]
  simp[hr,EF];exact D5 (Ej (.refl _) (.nil _ _) (.nil _ _)) (.refl _)
 have hg:AH g:=by
  rcases Classical.em (AH g) with h | h
  .exact h
  .simp [h] at h2
 have ha:g.edges.length<=500:=hg.1.2.2.1;refine AG (AB (Ay (s:=?s4) rfl ?o4 ?q4))
 case o4=>simp;refine Ah (Ta g.edges e (QR hg.1.2.2.1 zy) (hg.mono e)) rfl ?_;simp[pZ];rfl
 refine AB (AI (AB (Ay (s:=?s5) rfl ?o5 ?q5)))
 case o5=>simp;refine Ah (Yz g e hg.1.1 hg.1.2.1 zy) rfl ?_;simp;rfl
 refine AE _ rfl (λ h6=>?_) λ h6=>?_
 .try simp at h6
  refine AB (AT ?_);refine Am ⟨.inr rfl,?_⟩;show AO [(4,some (true,3)),(5,none)] 0 _ _ _;refine AO.out (vs:=[.agg [.I 0,.nilS,.nilS],.I 4]) [] [] zz zz zz ?_ zz
  have hr:De g e=(EF,4):=by grind [De]
  simp[hr,EF];exact D5 (Ej (.refl _) (.nil _ _) (.nil _ _)) (.refl _)
 try simp at h6
 refine AB (Ay (s:=?s8) rfl ?o8 ?q8)
 case o8=>simp;refine Ah (Dw ..) rfl ?_;simp;rfl
 refine AE _ rfl (λ h9=>?_) λ h9=>?_
 .try simp at h9
  refine AB (AT ?_);refine Am ⟨.inr rfl,?_⟩;show AO [(4,some (true,3)),(5,none)] 0 _ _ _;refine AO.out (vs:=[.agg [.I 0,.nilS,.nilS],.I 2]) [] [] zz zz zz ?_ zz
  have hr:De g e=(EF,2):=by grind [De]
  simp[hr,EF];exact D5 (Ej (.refl _) (.nil _ _) (.nil _ _)) (.refl _)
 try simp at h9
 refine AB (AT ?_);refine AE _ rfl (λ u=>?_) λ u=>?_
 .try simp at u
  refine AB (AT ?_);refine Am ⟨.inr rfl,?_⟩;show AO [(4,some (true,3)),(5,none)] 0 _ _ _;refine AO.out (vs:=[.agg [.I 0,.nilS,.nilS],.I 19]) [] [] zz zz zz ?_ zz
  have hr:De g e=(EF,19):=by grind [De]
  simp[hr,EF];exact D5 (Ej (.refl _) (.nil _ _) (.nil _ _)) (.refl _)
 try simp at u
 refine AB (AT ?_);refine AE _ rfl (λ h0=>?_) λ h0=>?_
 .try simp at h0
  refine AB (AT ?_);refine Am ⟨.inr rfl,?_⟩;show AO [(4,some (true,3)),(5,none)] 0 _ _ _;refine AO.out (vs:=[.agg [.I 0,.nilS,.nilS],.I 3]) [] [] zz zz zz ?_ zz
  have hr:De g e=(EF,3):=by grind [De]
  simp[hr,EF];exact D5 (Ej (.refl _) (.nil _ _) (.nil _ _)) (.refl _)
 try simp at h0
 refine AG (arc ⟨51,[(3,.pv (eC e)),(4,.pt 32 0 0),(6,.I (BN g.edges ⟨e.f,e.t,0⟩)),(8,.pt 288 0 0)],[(32,some ⟨3,[[.I 0,.nilS,.nilS]],0⟩),(288,some ⟨3,[[.I g.size,.rs 280 0 g.edges.length,.rs 281 0 g.gone.length]],0⟩),(280,some ⟨3,g.edges.map λ e:Ed=>[AV.I e.f,AV.I e.t,AV.I e.v],0⟩),(281,some ⟨1,g.gone.map λ n=>[AV.I n],0⟩)],304⟩ ?_ ?_)
 .simp
  refine P1 (Rl g hl h5) rfl ?_;simp[AC];exact A5
 have h3:=XB g.edges ⟨e.f,e.t,0⟩;have hr:De g e=(Gk g e,0):=by grind [De]
 rw[hr];unfold Gk;have hk:∃ k,k=BN g.edges ⟨e.f,e.t,0⟩:=⟨_,rfl⟩;obtain⟨k,hk⟩:=hk;rw[<- hk] at h3 ⊢;obtain⟨R,hR⟩:=AJ (g.edges.map λ e:Ed=>[AV.I e.f,AV.I e.t,AV.I e.v]);rw[<- hR];have h7:R.length=g.edges.length:=by simp[hR]
 have h4:Es R:=by rw[hR];exact Nj _
 obtain⟨E,hE⟩:=AJ (g.edges.take k++e::g.edges.drop k);have h8:E.length=g.edges.length+1:=by subst hE;simp;omega
 have h1:R.take k++[AV.I e.f,AV.I e.t,AV.I e.v]::R.drop k=E.map λ e:Ed=>[AV.I e.f,AV.I e.t,AV.I e.v]:=by subst hE hR;simp[UH,UI]
 have q:=ZU R [AV.I e.f,AV.I e.t,AV.I e.v] g.edges.length k h7 h3 h4 (Nj [e]) zy
 rw[h1,<- h8] at q;rw[<- hE];refine arc ⟨51,[(4,.pt 32 0 0),(8,.pt 288 0 0)],[(32,some ⟨3,[[.I 0,.nilS,.nilS]],0⟩),(288,some ⟨3,[[.I g.size,.rs 344 0 E.length,.rs 281 0 g.gone.length]],0⟩),(344,some ⟨3,E.map λ e:Ed=>[AV.I e.f,AV.I e.t,AV.I e.v],0⟩),(281,some ⟨1,g.gone.map λ n=>[AV.I n],0⟩)],368⟩ ?_ ?_
 .simp
  refine Il (i:=280) (j:=336) zx (Qk _) rfl rfl ?_ q zz ?_ ?_
  .have:=h4 [(280,0)] [336]
   simp only[AX,this]
  .simp
  simp[AC];exact A5
 refine AB (AT ?_);refine Am ⟨.inr rfl,?_⟩;show AO [(4,some (true,3)),(5,none)] 0 _ _ _;refine AO.out (vs:=[.agg [.I g.size,.rs 344 0 E.length,.rs 281 0 g.gone.length],.I 0]) [] [344,281] zz zz zz ?_ zz
 simp[AC,DX]
variable {e:Ed}
theorem mR {l:List Ed} {i:Nat} (h:i<BN l e) (hi:i<l.length):B9 l[i] e:=by
 have:=List.not_of_lt_findIdx h
 simpa using this
theorem iB {l:List Ed} (h:BN l e<l.length):¬ B9 l[BN l e] e:=by
 have h1:l.findIdx (λ x=>!decide (B9 x e))<l.length:=h;have:=Vc (w:=h1);intro hb;have h2:decide (B9 l[l.findIdx (λ x=>!decide (B9 x e))] e)=true:=QX hb;simp only[h2] at this
 cases this
theorem jG {g:Gr} (hg:AH g) (hf:CT g e) (h1:1<=e.v) (h3:e.v<=3) (ha:¬ GA g.edges (BN g.edges ⟨e.f,e.t,0⟩) e.f e.t) (hl:g.edges.length<500):AH (Gk g e):=by
 have h8:=XB g.edges ⟨e.f,e.t,0⟩
 have hb:∀ i (hi:i<g.edges.length),i<BN g.edges ⟨e.f,e.t,0⟩->B9 g.edges[i] e:=λ i hi h=>by
  have:=mR h hi;exact this
 have hn:∀ (h:BN g.edges ⟨e.f,e.t,0⟩<g.edges.length),B9 e g.edges[BN g.edges ⟨e.f,e.t,0⟩]:=λ h=>by
  have h2:=iB h;have h4:¬ (g.edges[BN g.edges ⟨e.f,e.t,0⟩].f=e.f/\g.edges[BN g.edges ⟨e.f,e.t,0⟩].t=e.t):=λ q=>ha ⟨h,q⟩;simp only[B9] at h2 ⊢;omega
 unfold Gk;generalize BN g.edges ⟨e.f,e.t,0⟩=k at *;have u:(g.edges.take k++e::g.edges.drop k).length=g.edges.length+1:=zw
 have h5:∀ i (hi:i<(g.edges.take k++e::g.edges.drop k).length),(g.edges.take k++e::g.edges.drop k)[i]=if h:i<k then g.edges[i]' zy else if h2:i=k then e else g.edges[i - 1]' zy:=by
  intro i hi;have h7:(g.edges.take k).length=k:=zw
  by_cases h:i<k
  .rw [dif_pos h,Q5 zy,Ux]
  .rw [dif_neg h,List.getElem_append_right zy]
   by_cases h2:i=k
   .subst h2
    simp[h7]
   .rw [dif_neg h2]
    rw[List.getElem_cons];rw[dif_neg zy,List.getElem_drop]
    congr 1
    omega
 refine⟨⟨hg.1.1,hg.1.2.1,by simp only[u];omega,hg.1.2.2.2⟩,λ i hi=>?_⟩
 simp only at hi;have h6:∀ x:Ed,CT ⟨g.size,g.edges.take k++e::g.edges.drop k,g.gone⟩ x↔CT g x:=λ x=>Iff.rfl;simp only[h6,IB,h5];have hE:=λ j (hj:j<g.edges.length)=>hg.2 j hj
 by_cases h:i<k
 .simp only[dif_pos h]
  refine⟨(hE i zy).1,(hE i zy).2.1,(hE i zy).2.2.1,λ h0=>?_⟩
  rw[dif_pos zy]
  exact IB.1 ((hE i zy).2.2.2 h0)
 .simp only[dif_neg h]
  by_cases h2:i=k
  .subst h2
   simp only[dif_pos];refine⟨hf,h1,h3,λ h0=>?_⟩;rw[dif_pos zy]
   exact hb _ _ zy
  .simp only[dif_neg h2]
   refine⟨(hE (i - 1) zy).1,(hE (i - 1) zy).2.1,(hE (i - 1) zy).2.2.1,λ h0=>?_⟩
   rw[dif_neg zy]
   by_cases h4:i - 1=k
   .rw [dif_pos h4]
    subst h4;exact hn _
   .rw [dif_neg h4]
    exact hg.lt _ _ _ _ zy
theorem MR {g:Gr} (h:(De g e).2=0):AH g/\CT g e/\(1<=e.v/\e.v<=3)/\¬ GA g.edges (BN g.edges ⟨e.f,e.t,0⟩) e.f e.t/\g.edges.length<500/\(De g e).1=Gk g e/\AH (Gk g e):=by
 have key:AH g/\CT g e/\(1<=e.v/\e.v<=3)/\¬ GA g.edges (BN g.edges ⟨e.f,e.t,0⟩) e.f e.t/\g.edges.length≠500/\(De g e).1=Gk g e:=by
  unfold De at *;split at h
  .simp at h
  split at h
  .simp at h
  split at h
  .simp at h
  split at h
  .simp at h
  split at h
  .simp at h
  simp_all
 obtain⟨h1,h2,h3,h4,h5,h6⟩:=key;have h7:g.edges.length<500:=by have:=h1.1.2.2.1;omega
 exact⟨h1,h2,h3,h4,h7,h6,jG h1 h2 h3.1 h3.2 h4 h7⟩
theorem A7.eq {nl:List (Nat × Nat)} {e e':AD} (h:e=e') (hr:e'.ro<=e'.rows.length):A7 nl e e':=by
 subst h;exact A7.rfl' hr
theorem A7.row {nl:List (Nat × Nat)} {s ro:Nat} {e:AD} {r r':List AV} (h:e=⟨s,[r],ro⟩) (hr:ro<=1) (hu:E8 nl r r') (hs:s≠0:=by decide):A7 nl e ⟨s,[r'],ro⟩:=by
 subst h;refine⟨rfl,Qf _,hr,.inr ⟨hs,rfl,λ i=>?_⟩⟩
 match i with
 | 0=>exact hu
 | _+1=>exact trivial
theorem Le.ents {np:Nat} {st st':St} (ρ:List (Nat × Nat)) (sn:List Nat) (u:st'.sz=st.sz) (h0:(ρ.map (·.1)).Nodup) (h1:(ρ.map (·.2)).Nodup) (h2:∀ p∈ρ,p.2<st'.n/\(p.2<np->p.1=p.2)) (h4:∀ i∈sn,np<=i/\i∉ρ.map (·.1)) (h5:np<=st'.n) (ht:∀ p∈st'.t,Wk (conv ρ sn st.hp 4 (st.get p.1)) p.2) (hh:∀ p∈st'.h,∃ q e e',p.2=some e'/\(q,p.1)∈ρ/\st.hp q=some e/\A7 [] (AX ρ sn st.hp 4 e) e'):Le np st st' :=
 Le.lst ρ sn [] u h0 h1 h2 zz h4 h5 zz (λ p hp=>.inl (ht p hp)) λ p hp e' h6=>by
  obtain⟨q,e,e2,h1,h2,h3,h4⟩:=hh p hp;rw[h6] at h1
  cases h1;exact .inl ⟨(q,p.1),h2,rfl,e,h3,h4⟩
abbrev zG:AD:=⟨3,[[.I 0,.nilS,.nilS]],0⟩
abbrev AR (k:IntKind) (l:List Int):List (List AV):=l.map λ x=>[AV.sc (.int k x)]
abbrev Ce (l:List Int):AV:=.vs 1 false (AR .u8 l)
section
variable {P:Program} {np id:Nat} {h:Nat->Option AD} {K:AV->List Nat->List (Nat × Option AD)->Prop} {f:FuncId} {first aA args aB:List AV} {res:AV}
theorem ER (sn:List Nat) {e:AD} (hc:CF P f aB [] res [some e]) (he:(first++args++aA).map (conv [] sn h 4)=aB) (hp:Plain res) (u:GB e) (hk:K (conv (Cb [] id) [] (λ _=>none) 4 res) sn [(id,some (AX (Cb [] id) [] (λ _=>none) 4 e))]):aK P np id .call (.fn (.func f) first aA::args) h K :=
 ⟨[],sn,false,aB,[],res,[some e],zz,zz,zz,by rw[UO,he];exact FT _,rfl,hc,zz,.inr ⟨hp,λ e' q=>by simp at q;subst q;exact u⟩,by simpa [Cb] using hk⟩
theorem nL {e:AD} (hc:CF P f aB [] res [some e]) (he:DG ((first++args++aA).map (conv [] [] h 4)) aB) (hk:K (conv (Cb [] id) [] (λ _=>none) 4 res) [] [(id,some (AX (Cb [] id) [] (λ _=>none) 4 e))]):aK P np id .call (.fn (.func f) first aA::args) h K :=
 ⟨[],[],true,aB,[],res,[some e],zz,zz,zz,by rw[UO];exact he,rfl,hc,zz,.inl rfl,hk⟩
end
theorem EW {k:IntKind} {l:List Int}:GB ⟨1,AR k l,0⟩:=by
 intro row q x hx;simp only[Ql] at q;obtain⟨y,_,rfl⟩:=q;simp at hx;subst hx;exact .sc _
theorem Jr (k:IntKind) (l:List Int) (ρ sn h m):(AR k l).map (List.map (conv ρ sn h (m+1)))=AR k l:=by simp[AC]
theorem Eg (k:IntKind) (l:List Int):(AR k l).length=l.length:=zz
theorem Le.K1 {st st':St} {k:IntKind} {l:List Int} (i j:Nat) (sn:List Nat) (q:st'.sz=st.sz) (hh:st'.h=[(j,some ⟨1,AR k l,0⟩)]) (hi:j<st'.n) (hs:∀ j∈sn,j≠i) (h0:st.hp i=some ⟨1,AR k l,0⟩) (ht:∀ p∈st'.t,Wk (conv [(i,j)] sn st.hp 4 (st.get p.1)) p.2):Le 0 st st' :=
 Le.ren1 i j sn q hh hi hs h0 (by simp only[AX,Jr]) (Qk _) ht
def EB (v:Int) (k:Nat):Int:=IntKind.u8.wrap (v.fdiv (2 ^ (min (8*k) 64)))
def E5 (v:Int) (n:Nat):List Int:=(List.range n).map λ j=>EB v (7 - j)
def Ad (v:Int):List Int:=E5 v 8
theorem Jk (v:Int) (n:Nat):(E5 v n).length=n:=by simp[E5]
theorem DL (v:Int):(Ad v).length=8:=Jk v 8
theorem KQ (v:Int) (n:Nat):E5 v (n+1)=E5 v n++[EB v (7 - n)]:=by simp[E5,List.range_succ]
theorem HT (b:List Int) (v:Int) (n:Nat) (hn:n=b.length+8) (hl:b.length<=1099511627776):AF 214 [Ce b,.I v] [] (.rs 0 0 n) [some ⟨1,AR .u8 (b++Ad v),0⟩]:=by
 refine mG.s.ai ?_;refine ar [0,1] [] [] 24 ?_
 let Y:Nat->List Int:=λ j=>b++E5 v j
 have h0:∀ j,(Y j).length=b.length+j:=λ j=>by simp only[Y];rw[Qe,Jk]
 have h1:∀ j,Y (j+1)=Y j++[EB v (7 - j)]:=λ j=>by simp only[Y];rw[KQ,Qq]
 have h2:Y 0=b:=by simp[Y,E5]
 have h3:b++Ad v=Y 8:=rfl;rw[h3,hn];refine arc ⟨23,[(1,.I v),(5,.rs 32 0 (b.length+0))],[(32,some ⟨1,AR .u8 (Y 0),0⟩)],48⟩ ?_ ?_
 .simp [h2]
  repeat' apply And.intro
  all_goals first | omega | exact A5
 clear_value Y
 refine AB ?_;apply ak [1,5,6] [32] 56
 .simp
  rfl
 refine AI (An (ι:=Nat) (λ j=>⟨23,[(1,.I v),(5,.rs 32 0 (b.length+j)),(6,.I (7 - (j:Int)))],[(32,some ⟨1,AR .u8 (Y j),0⟩)],56⟩) (λ j=>j<=8) (λ j=>8 - j) 0 zy (Le.refl _ _) ?_)
 intro j hj;refine AB (arc ⟨23,[(1,.I v),(5,.rs 32 0 (b.length+j)),(6,.I (7 - (j:Int))),(10,.B (decide (j<8)))],[(32,some ⟨1,AR .u8 (Y j),0⟩)],72⟩ ?_ ?_)
 .simp
  exact Le.keep rfl (Qf _) zw zz
 refine AE _ rfl (λ h=>AG ?_) λ h=>Ak (Al ?_)
 .simp only[Qa] at h
  have h4:=h0 j;have hs:=h1 j;refine Bm ⟨23,[(1,.I v),(5,.rs 32 0 (b.length+(j+1))),(6,.I (7 - (j:Int)))],[(32,some ⟨1,AR .u8 (Y (j+1)),0⟩)],152⟩ ?_ ?_
  .rw [hs]
   generalize Y j=A at *;obtain⟨k,hk⟩:∃ k:Nat,7 - (j:Int)=k:=⟨7 - j,zy⟩
   have h5:7 - j=k:=zy
   have q:IntKind.i64.wrap (8*(k:Int))=((8*k:Nat):Int):=by rw[w6];omega
   have u:IntKind.u64.wrap ((8*k:Nat):Int)=((8*k:Nat):Int):=by rw[IntKind.wrap_u64];omega
   have hb:EB v k=IntKind.u8.wrap (v.fdiv (2 ^ (min (8*k) 64))):=rfl;rw[hk,h5];generalize EB v k=y at hb ⊢;obtain⟨s,h6⟩:=AJ (8*k);rw[<- h6] at q u hb;have h7:List.take (b.length+j) (AR .u8 A)=AR .u8 A:=Qd (by rw[Eg];omega)
   refine AI (Ab rfl ?_);simp[q,u,IntKind.bits,<- hb,h4]
   repeat' apply And.intro
   all_goals first | omega | exact Le.ren1 136 32 [] rfl rfl zz zz rfl (by simp only[AX];simp[h7,AC]) zz (by simp;exact Eh zw)
  have h8:IntKind.i64.wrap (7 - (j:Int) - 1)=7 - ((j+1:Nat):Int):=by rw[w6];omega
  refine Ab rfl ?_;simp[h8];exact⟨j+1,zy,zy,Le.K1 32 32 [] rfl rfl zz zz rfl zz⟩
 simp only[Qb] at h;obtain rfl:j=8:=zy
 refine AB (AT ?_);exact B3 [32] []
def Er (s:ByteArray):List Int:=s.data.toList.map λ b=>(b.toNat:Int)
theorem jJ (s:ByteArray):(Er s).length=s.size:=by
 show (s.data.toList.map _).length=s.data.size;simp
theorem Sh (s:ByteArray):F4 s=AR .u8 (Er s):=by
 unfold F4 Er;rw[AR,Us];rfl
def El (s:ByteArray):List Int:=Ad s.size++Er s
theorem Iu (s:ByteArray):(El s).length=s.size+8:=by rw[El,Qe,DL,jJ];omega
theorem Mz (b:List Int) (s:ByteArray) (n:Nat) (hn:n=b.length+(s.size+8)) (hl:b.length<=1099511627776) (hs:s.size<=1099511627776):AF 213 [Ce b,.sc (.string s)] [] (.rs 0 0 n) [some ⟨1,AR .u8 (b++El s),0⟩]:=by
 refine aR.s.ai ?_;refine ar [0,1] [] [] 24 ?_;have hI:=HT b s.size _ rfl hl;have e:b++El s=(b++Ad s.size)++Er s:=by rw[El,Qq]
 have q:(b++Ad s.size).length=b.length+8:=by rw[Qe,DL]
 rw[e];generalize b++Ad s.size=Y at *;have u:List.take (b.length+8) (AR .u8 Y)=AR .u8 Y:=Qd (by rw[Eg];omega)
 refine arc ⟨11,[(4,.rs 64 0 n)],[(64,some ⟨1,AR .u8 (Y++Er s),0⟩)],80⟩ ?_ ?_
 .simp
  refine Di hI rfl ?_;simp[AC,Sh,q];refine⟨_,_,_,⟨u,rfl,rfl⟩,?_⟩;simp[q]
  repeat' apply And.intro
  all_goals first | omega | exact Le.keep rfl (Qf _) zw zz
 exact B3 [64] []
def EV (l:List Int):List Int:=Ad l.length++l.flatMap Ad
theorem JG (l:List Int):(l.flatMap Ad).length=8*l.length:=by
 induction l with
 | nil=>rfl
 | cons x l ih=>rw[U3,Qe,ih,DL];simp;omega
theorem JH (l:List Int):(EV l).length=8*l.length+8:=by rw[EV,Qe,DL,JG];omega
theorem uI (b l:List Int) (n:Nat) (hn:n=b.length+(8*l.length+8)) (hl:b.length<=1000000000) (h6:l.length<=1000000):AF 215 [Ce b,AA l] [] (.rs 0 0 n) [some ⟨1,AR .u8 (b++EV l),0⟩]:=by
 refine qE.s.ac ?_;show AY _ 0 _ _ ⟨24,[(0,Ce b),(1,AA l)],[],16⟩;refine Bv ⟨24,[(0,Ce b),(1,AA l)],[],24⟩ rfl (by simp;exact AZ [] zz) ?_
 have hI:=HT b l.length _ rfl zy
 obtain⟨B,hB⟩:=AJ (b++Ad l.length);have h0:B.length=b.length+8:=by rw[hB,Qe,DL]
 rw[<- hB] at hI;have e:∀ j,b++EV (l.take j)=b++EV (l.take j):=λ _=>rfl
 let Y:Nat->List Int:=λ j=>B++(l.take j).flatMap Ad
 have q:∀ j,j<=l.length->(Y j).length=b.length+8+8*j:=λ j hj=>by
  simp only[Y];rw[Qe,JG,h0,QC]
  congr 2
  omega
 have h1:∀ j (h:j<l.length),Y (j+1)=Y j++Ad l[j]:=λ j h=>by
  simp only[Y];rw[Qp h,U6];simp
 have h2:Y 0=B:=by simp[Y]
 have h3:Y l.length=b++EV l:=by simp[Y,hB,EV]
 rw[<- h3,hn];refine arc ⟨24,[(1,AA l),(5,.rs 48 0 (b.length+8+8*0))],[(48,some ⟨1,AR .u8 (Y 0),0⟩)],64⟩ ?_ ?_
 .simp
  refine Di hI rfl ?_;simp[AC];exact Le.keep rfl (Qf _) zz (by simp[h2])
 clear_value Y
 refine AB (arc ⟨24,[(1,AA l),(5,.rs 48 0 (b.length+8+8*0)),(6,.I (0:Nat))],[(48,some ⟨1,AR .u8 (Y 0),0⟩)],72⟩ ?_ ?_)
 .simp
  exact A5
 refine AI (An (ι:=Nat) (λ j=>⟨24,[(1,AA l),(5,.rs 48 0 (b.length+8+8*j)),(6,.I j)],[(48,some ⟨1,AR .u8 (Y j),0⟩)],72⟩) (λ j=>j<=l.length) (λ j=>l.length - j) 0 zy (Le.refl _ _) ?_)
 intro j hj;refine AB (arc ⟨24,[(1,AA l),(5,.rs 48 0 (b.length+8+8*j)),(6,.I j),(14,.B (decide (j<l.length)))],[(48,some ⟨1,AR .u8 (Y j),0⟩)],104⟩ ?_ ?_)
 .simp
  exact A5
 refine AE _ rfl (λ h=>AG ?_) λ h=>Ak (Al ?_)
 .simp only[Qa] at h
  have hs:=h1 j h;have h4:=q j hj;have h7:=q (j+1) h;have u:=HT (Y j) l[j] _ rfl zy
  rw[<- hs] at u;have hg:l[j]? = some l[j]:=Qc h;refine Bm ⟨24,[(1,AA l),(5,.rs 48 0 (b.length+8+8*(j+1))),(6,.I j)],[(48,some ⟨1,AR .u8 (Y (j+1)),0⟩)],160⟩ ?_ ?_
  .generalize Y (j+1)=Z at *
   generalize Y j=A at *;refine AI (Ab rfl ?_);simp[h,hg];refine ER [48] u (by simp[AC,<- h4,DX]) (.rs _ _ _) EW ?_
   simp[AC];exact Le.K1 144 48 [] rfl rfl zz zz (by simp[AC]) (by simp;exact Eh zw)
  have h5:=wq (k:=j);refine Ab rfl ?_;simp[h5];exact⟨j+1,zy,zy,Le.K1 48 48 [] rfl rfl zz zz rfl zz⟩
 simp only[Qb] at h;obtain rfl:j=l.length:=zy
 refine AB (AT ?_);exact BR (AO.out [48] [] rfl zz zz (by simp;exact Eh zw) (by simp[AC]))
variable {a n:Int}
abbrev BU (l:List Int):AV:=.vs 1 false (AR .u32 l)
abbrev wd (x:Int):AV:=.sc (.int .u32 x)
def u2 (op:BinOp) (a b:Int):Int:=match Aq op (.int .u32 a) (.int .u32 b) with | some (.int _ n)=>n | _=>0
def sh (op:BinOp) (a n:Int):Int:=match Aq op (.int .u32 a) (.int .u64 n) with | some (.int _ n)=>n | _=>0
def nt (a:Int):Int:=match It .xor (.int .u32 a) with | some (.int _ n)=>n | _=>0
def Ct (x n:Int):Int:=u2 .or (sh .shr x n) (sh .shl x (32 - n))
section
variable {P:Program} {np id:Nat} {h:Nat->Option AD} {K:AV->List Nat->List (Nat × Option AD)->Prop}
theorem Hm (op:BinOp) (ho:op = .add∨op = .xor∨op = .and∨op = .or) {b:Int}:aK P np id (.bin op) [.sc (.int .u32 a),.sc (.int .u32 b)] h K=K (.sc (.int .u32 (u2 op a b))) [] []:=by
 refine propext ?_;rcases ho with rfl | rfl | rfl | rfl
 all_goals
  constructor
  .rintro ⟨v,hv,hk⟩
   cases hv;exact hk
  .exact λ hk=>⟨_,rfl,hk⟩
@[simp high] theorem zAq {a b:Int}:aK P np id (.bin .add) [.sc (.int .u32 a),.sc (.int .u32 b)] h K=K (.sc (.int .u32 (u2 .add a b))) [] []:=Hm _ (.inl rfl)
@[simp high] theorem zAr {a b:Int}:aK P np id (.bin .xor) [.sc (.int .u32 a),.sc (.int .u32 b)] h K=K (.sc (.int .u32 (u2 .xor a b))) [] []:=Hm _ (.inr (.inl rfl))
@[simp high] theorem yR {a b:Int}:aK P np id (.bin .and) [.sc (.int .u32 a),.sc (.int .u32 b)] h K=K (.sc (.int .u32 (u2 .and a b))) [] []:=Hm _ (.inr (.inr (.inl rfl)))
@[simp high] theorem yN {a b:Int}:aK P np id (.bin .or) [.sc (.int .u32 a),.sc (.int .u32 b)] h K=K (.sc (.int .u32 (u2 .or a b))) [] []:=Hm _ (.inr (.inr (.inr rfl)))
theorem Jo (op:BinOp) (ho:op = .shl∨op = .shr) (hn:0<=n):aK P np id (.bin op) [.sc (.int .u32 a),.sc (.int .u64 n)] h K=K (.sc (.int .u32 (sh op a n))) [] []:=by
 refine propext ?_
 have e:Aq op (.int .u32 a) (.int .u64 n)=some (.int .u32 (sh op a n)):=by
  rcases ho with rfl | rfl<;>simp[Aq,sh,hn]
 constructor
 .rintro ⟨v,hv,hk⟩
  rw[e] at hv
  cases hv;exact hk
 .exact λ hk=>⟨_,e,hk⟩
@[simp high] theorem wV {a n:Int} (hn:0<=n):aK P np id (.bin .shl) [.sc (.int .u32 a),.sc (.int .u64 n)] h K=K (.sc (.int .u32 (sh .shl a n))) [] []:=Jo _ (.inl rfl) hn
@[simp high] theorem zM {a n:Int} (hn:0<=n):aK P np id (.bin .shr) [.sc (.int .u32 a),.sc (.int .u64 n)] h K=K (.sc (.int .u32 (sh .shr a n))) [] []:=Jo _ (.inr rfl) hn
@[simp high] theorem wY {a:Int}:aK P np id (.un .xor) [.sc (.int .u32 a)] h K=K (.sc (.int .u32 (nt a))) [] []:=by
 refine propext ⟨?_,λ hk=>⟨_,rfl,hk⟩⟩
 rintro⟨v,hv,hk⟩
 cases hv;exact hk
end
theorem Gx (x n:Int) (h0:0<=n) (h1:n<=32):AF 248 [wd x,.sc (.int .u64 n)] [] (wd (Ct x n)) []:=by
 refine bP.s.ai ?_;have hw:IntKind.u64.wrap (32 - n)=32 - n:=by rw[IntKind.wrap_u64];omega
 have h2:0<=32 - n:=zy
 refine AB (AT ?_);refine arc ⟨13,[(4,wd (Ct x n))],[],96⟩ ?_ ?_
 .simp [h0,h1,hw]
  exact AZ [] (by simp[Ct])
 exact Bg
def Bc:List Int:=[1116352408,1899447441,3049323471,3921009573,961987163,1508970993,2453635748,2870763221,3624381080,310598401,607225278,1426881987,1925078388,2162078206,2614888103,3248222580,3835390401,4022224774,264347078,604807628,770255983,1249150122,1555081692,1996064986,2554220882,2821834349,2952996808,3210313671,3336571891,3584528711,113926993,338241895,666307205,773529912,1294757372,1396182291,1695183700,1986661051,2177026350,2456956037,2730485921,2820302411,3259730800,3345764771,3516065817,3600352804,4094571909,275423344,430227734,506948616,659060556,883997877,958139571,1322822218,1537002063,1747873779,1955562222,2024104815,2227730452,2361852424,2428436474,2756734187,3204031479,3329325298]
theorem Of:Bc.length=64:=rfl
theorem Zi:AF 211 [] [] (.rs 0 0 64) [some ⟨1,AR .u32 Bc,0⟩]:=by
 refine qS.s.ai ?_;refine AB (AT ?_);refine AB (AT ?_);exact BR (AO.out [24] [] rfl zz zz zz (by simp[Bc]))
abbrev gt (l:List Int) (i:Nat):Int:=l.getD i 0
theorem Ff {l:List Int} {i n:Nat} (hl:l.length=n) (h:i<n):∃ (h:i<l.length),l[i]=gt l i:=by
 have h2:i<l.length:=zy
 exact⟨h2,by simp[gt,h2]⟩
theorem FK {k:IntKind} {l:List Int} {i n:Nat} (hl:l.length=n) (h:i<n):(AR k l)[i]? = some [AV.sc (.int k (gt l i))]:=by
 have h2:i<l.length:=zy
 simp[gt,h2]
def J9 (a b c d:Int):Int:=u2 .or (u2 .or (u2 .or (sh .shl (IntKind.u32.wrap a) 24) (sh .shl (IntKind.u32.wrap b) 16)) (sh .shl (IntKind.u32.wrap c) 8)) (IntKind.u32.wrap d)
def JW (x:Int):Int:=u2 .xor (u2 .xor (Ct x 7) (Ct x 18)) (sh .shr x 3)
def I6 (x:Int):Int:=u2 .xor (u2 .xor (Ct x 17) (Ct x 19)) (sh .shr x 10)
def C8 (B:List Int):Nat->List Int
 | 0=>List.replicate 64 0
 | i+1=>(C8 B i).set i (J9 (gt B (4*i)) (gt B (4*i+1)) (gt B (4*i+2)) (gt B (4*i+3)))
def BT (B:List Int):Nat->List Int
 | 0=>C8 B 16
 | i+1=>(BT B i).set (i+16) (u2 .add (u2 .add (u2 .add (gt (BT B i) i) (JW (gt (BT B i) (i+1)))) (gt (BT B i) (i+9))) (I6 (gt (BT B i) (i+14))))
def r3 (x a b c:Int):Int:=u2 .xor (u2 .xor (Ct x a) (Ct x b)) (Ct x c)
def xF (v:List Int) (k w:Int):Int:=u2 .add (u2 .add (u2 .add (u2 .add (gt v 7) (r3 (gt v 4) 6 11 25)) (u2 .xor (u2 .and (gt v 4) (gt v 5)) (u2 .and (nt (gt v 4)) (gt v 6)))) k) w
def mF (v:List Int):Int:=u2 .xor (u2 .xor (u2 .and (gt v 0) (gt v 1)) (u2 .and (gt v 0) (gt v 2))) (u2 .and (gt v 1) (gt v 2))
def vF (H B C:List Int):Nat->List Int
 | 0=>H
 | i+1 =>
   let v:=vF H B C i
   let x:=xF v (gt C i) (gt (BT B 48) i)
   [u2 .add (u2 .add x (r3 (gt v 0) 2 13 22)) (mF v),gt v 0,gt v 1,gt v 2,u2 .add (gt v 3) x,gt v 4,gt v 5,gt v 6]
def oF (H B C:List Int):Nat->List Int
 | 0=>vF H B C 64
 | i+1=>(oF H B C i).set i (u2 .add (gt (oF H B C i) i) (gt H i))
def Gz (H B C:List Int):List Int:=oF H B C 8
theorem Lm (B:List Int):∀ i,(C8 B i).length=64
 | 0=>by simp[C8]
 | i+1=>by rw[C8,UG,Lm B i]
theorem JI (B:List Int):∀ i,(BT B i).length=64
 | 0=>Lm B 16
 | i+1=>by rw[BT,UG,JI B i]
theorem ZD {H B C:List Int} (hH:H.length=8):∀ i,(vF H B C i).length=8
 | 0=>hH
 | i+1=>rfl
theorem Px {H B C:List Int} (hH:H.length=8):∀ i,(oF H B C i).length=8
 | 0=>ZD hH 64
 | i+1=>by rw[oF,UG,Px hH i]
theorem Le.X1 {st st':St} {X:List (List AV)} (q:∀ ρ sn h m,X.map (List.map (conv ρ sn h (m+1)))=X) (i j:Nat) (sn:List Nat) (u:st'.sz=st.sz) (hh:st'.h=[(j,some ⟨1,X,0⟩)]) (hi:j<st'.n) (hs:∀ j∈sn,j≠i) (h0:st.hp i=some ⟨1,X,0⟩) (ht:∀ p∈st'.t,Wk (conv [(i,j)] sn st.hp 4 (st.get p.1)) p.2):Le 0 st st' :=
 Le.ren1 i j sn u hh hi hs h0 (by simp only[AX,q]) (Qk _) ht
theorem cR (H B C:List Int) (hH:H.length=8) (hB:B.length=64) (hC:C.length=64):AF 212 [BU H,Ce B,BU C] [] (.rs 0 0 8) [some ⟨1,AR .u32 (Gz H B C),0⟩]:=by
 refine rX.s.ai ?_;have h3:∀ (l:List Int) ρ sn h m,(AR .u32 l).map (List.map (conv ρ sn h (m+1)))=AR .u32 l:=λ l=>Jr .u32 l
 refine ar [0,1,2] [] [] 24 ?_;apply ak [0,1,2,7] [24] 40
 .simp
  rfl
 refine AB ?_;apply ak [0,1,2,7,8] [24] 48
 .simp
  rfl
 refine AI (An (ι:=Nat) (λ i=>⟨256,[(0,BU H),(1,Ce B),(2,BU C),(7,.rs 24 0 64),(8,.I i)],[(24,some ⟨1,AR .u32 (C8 B i),0⟩)],48⟩) (λ i=>i<=16) (λ i=>16 - i) 0 zy (Le.refl _ _) ?_)
 intro i hi;refine AB (arc ⟨256,[(0,BU H),(1,Ce B),(2,BU C),(7,.rs 24 0 64),(8,.I i),(21,.B (decide (i<16)))],[(24,some ⟨1,AR .u32 (C8 B i),0⟩)],64⟩ ?_ ?_)
 .simp
  exact Le.keep rfl (Qf _) (by simp<;>omega) zz
 refine AE _ rfl (λ h=>AG ?_) λ h=>Ak (Al ?_)
 .simp only[Qa] at h
  refine Bm ⟨256,[(0,BU H),(1,Ce B),(2,BU C),(7,.rs 24 0 64),(8,.I i)],[(24,some ⟨1,AR .u32 (C8 B (i+1)),0⟩)],360⟩ ?_ ?_
  .obtain ⟨p,hp⟩:=AJ (4*i)
   obtain⟨p1,hl⟩:∃ q,q=p+1:=⟨_,rfl⟩;obtain⟨p2,hn⟩:∃ q,q=p+2:=⟨_,rfl⟩;obtain⟨p3,ho⟩:∃ q,q=p+3:=⟨_,rfl⟩;have hq:IntKind.i64.wrap (4*(i:Int))=(p:Int):=by rw[w6];omega
   have hr:IntKind.i64.wrap ((p:Int)+1)=(p1:Int):=by rw[w6];omega
   have h4:IntKind.i64.wrap ((p:Int)+2)=(p2:Int):=by rw[w6];omega
   have ht:IntKind.i64.wrap ((p:Int)+3)=(p3:Int):=by rw[w6];omega
   obtain⟨l0,g0⟩:=Ff hB (show p<64 by omega)
   obtain⟨l1,g1⟩:=Ff hB (show p1<64 by omega)
   obtain⟨l2,g2⟩:=Ff hB (show p2<64 by omega)
   obtain⟨l3,g3⟩:=Ff hB (show p3<64 by omega)
   have hs:AR .u32 (C8 B (i+1))=(AR .u32 (C8 B i)).set i [wd (J9 (gt B p) (gt B p1) (gt B p2) (gt B p3))]:=by rw[C8,AR,UQ,hl,hn,ho,hp]
   obtain⟨z,hz⟩:=AJ (J9 (gt B p) (gt B p1) (gt B p2) (gt B p3));rw[<- hz] at hs;rw[hs];have hg:=FK (k:=.u32) (Lm B i) (show i<64 by omega)
   have hX:=h3 (C8 B i);generalize AR .u32 (C8 B i)=X at *;generalize gt (C8 B i) i=o at *;have h2:∀ ρ sn h m,(X.set i [wd z]).map (List.map (conv ρ sn h (m+1)))=X.set i [wd z]:=λ ρ sn h m=>by rw[UQ,hX];simp
   generalize hy:gt B p=c0 at *;generalize a0:gt B p1=c1 at *;generalize a1:gt B p2=c2 at *;generalize a3:gt B p3=c3 at *;refine AI (Cx rfl ?_);simp[hq,hr,h4,ht,l0,l1,l2,l3,g0,g1,g2,g3,h,hg,show (i:Int)<64 by omega,Ae]
   have hu:u2 .or (u2 .or (u2 .or (sh .shl (IntKind.u32.wrap c0) 24) (sh .shl (IntKind.u32.wrap c1) 16)) (sh .shl (IntKind.u32.wrap c2) 8)) (IntKind.u32.wrap c3)=z:=hz.symm;simp only[hu];exact⟨rfl,Le.X1 h2 24 24 [] rfl rfl zz zz rfl zz⟩
  have h1:=wq (k:=i);refine Ab rfl ?_;simp[h1];exact⟨i+1,zy,zy,Le.K1 24 24 [] rfl rfl zz zz rfl zz⟩
 simp only[Qb] at h;obtain rfl:i=16:=zy
 refine AB ?_;apply ak [0,2,7,9] [24] 72
 .simp [BT]
  rfl
 refine AI (An (ι:=Nat) (λ i=>⟨256,[(0,BU H),(2,BU C),(7,.rs 24 0 64),(9,.I (i+16:Nat))],[(24,some ⟨1,AR .u32 (BT B i),0⟩)],72⟩) (λ i=>i<=48) (λ i=>48 - i) 0 zy (Le.refl _ _) ?_)
 intro i hi;obtain⟨m,hm⟩:=AJ (i+16);rw[<- hm];refine AB (arc ⟨256,[(0,BU H),(2,BU C),(7,.rs 24 0 64),(9,.I m),(61,.B (decide (i<48)))],[(24,some ⟨1,AR .u32 (BT B i),0⟩)],88⟩ ?_ ?_)
 .simp
  exact Le.keep rfl (Qf _) zw zz
 refine AE _ rfl (λ h=>AG ?_) λ h=>Ak (Al ?_)
 .simp only[Qa] at h
  refine Bm ⟨256,[(0,BU H),(2,BU C),(7,.rs 24 0 64),(9,.I m)],[(24,some ⟨1,AR .u32 (BT B (i+1)),0⟩)],576⟩ ?_ ?_
  .have h5:IntKind.i64.wrap ((m:Int) - 15)=((i+1:Nat):Int):=by rw[w6];omega
   have h4:IntKind.i64.wrap ((m:Int) - 2)=((i+14:Nat):Int):=by rw[w6];omega
   have ha:IntKind.i64.wrap ((m:Int) - 16)=((i:Nat):Int):=by rw[w6];omega
   have hb:IntKind.i64.wrap ((m:Int) - 7)=((i+9:Nat):Int):=by rw[w6];omega
   have u:=JI B i;have g15:=FK (k:=.u32) u (show i+1<64 by omega)
   have g2:=FK (k:=.u32) u (show i+14<64 by omega)
   have g16:=FK (k:=.u32) u (show i<64 by omega)
   have g7:=FK (k:=.u32) u (show i+9<64 by omega)
   have gm:=FK (k:=.u32) u (show m<64 by omega)
   have hs:AR .u32 (BT B (i+1))=(AR .u32 (BT B i)).set m [wd (u2 .add (u2 .add (u2 .add (gt (BT B i) i) (JW (gt (BT B i) (i+1)))) (gt (BT B i) (i+9))) (I6 (gt (BT B i) (i+14))))]:=by rw[BT,AR,UQ,hm]
   have hX:=h3 (BT B i);generalize gt (BT B i) (i+1)=a15 at *;generalize gt (BT B i) (i+14)=a2 at *;generalize gt (BT B i) i=a16 at *;generalize gt (BT B i) (i+9)=a7 at *;generalize gt (BT B i) m=am at *;generalize AR .u32 (BT B i)=X at *;obtain⟨hv,hc⟩:∃ q,q=i+1:=⟨_,rfl⟩;obtain⟨q2,hq2⟩:∃ q,q=i+14:=⟨_,rfl⟩;obtain⟨q7,hw⟩:∃ q,q=i+9:=⟨_,rfl⟩;rw[<- hc] at h5 g15;rw[<- hq2] at h4 g2;rw[<- hw] at hb g7;obtain⟨b15,h6⟩:∃ b,b=JW a15:=⟨_,rfl⟩;obtain⟨b2,hd⟩:∃ b,b=I6 a2:=⟨_,rfl⟩;rw[<- h6,<- hd] at hs;obtain⟨z,hz⟩:=AJ (u2 .add (u2 .add (u2 .add a16 b15) a7) b2);rw[<- hz] at hs;rw[hs];have h2:∀ ρ sn h m',(X.set m [wd z]).map (List.map (conv ρ sn h (m'+1)))=X.set m [wd z]:=λ ρ sn h m'=>by rw[UQ,hX];simp
   refine AI (Bi ⟨256,[(0,BU H),(2,BU C),(7,.rs 24 0 64),(9,.I m),(10,wd b15)],[(24,some ⟨1,X,0⟩)],256⟩ ?_ ?_)
   .simp [h5,g15,show (hv:Int)<64 by omega]
    refine Ah (Gx a15 7 zx zx) rfl ?_
    simp[g15];refine Ah (Gx a15 18 zx zx) rfl ?_
    simp[g15];exact⟨rfl,Le.keep rfl (Qf _) (by simp[h6,JW]) zz⟩
   refine Bi ⟨256,[(0,BU H),(2,BU C),(7,.rs 24 0 64),(9,.I m),(10,wd b15),(11,wd b2)],[(24,some ⟨1,X,0⟩)],424⟩ ?_ ?_
   .simp [h4,g2,show (q2:Int)<64 by omega]
    refine Ah (Gx a2 17 zx zx) rfl ?_
    simp[g2];refine Ah (Gx a2 19 zx zx) rfl ?_
    simp[g2];exact⟨rfl,Le.keep rfl (Qf _) (by simp[hd,I6]) zz⟩
   refine Cx rfl ?_;simp[ha,hb,g16,g7,gm,show (q7:Int)<64 by omega,show (i:Int)<64 by omega,show (m:Int)<64 by omega,Ae,<- hz]
   exact⟨rfl,Le.X1 h2 24 24 [] rfl rfl zz zz rfl zz⟩
  have h1:IntKind.i64.wrap ((m:Int)+1)=((i+1+16:Nat):Int):=by rw[w6];omega
  refine Ab rfl ?_;simp[h1];exact⟨i+1,zy,zy,Le.K1 24 24 [] rfl rfl zz zz rfl zz⟩
 simp only[Qb] at h;obtain rfl:i=48:=zy
 obtain⟨W,hW⟩:=AJ (BT B 48);have he:W.length=64:=by rw[hW];exact JI B 48
 rw[<- hW];refine arc ⟨256,[(0,BU H),(2,BU C),(7,BU W),(12,.rs 96 0 8)],[(96,some ⟨1,AR .u32 (vF H B C 0),0⟩)],112⟩ ?_ ?_
 .simp [hH]
  have a4:List.take 64 (AR .u32 W)=AR .u32 W:=Qd (by rw[Eg];omega)
  exact Le.ren1 96 96 [24] rfl rfl zz zz rfl (by simp[vF,AC]) zz (by simp[AC,he];rw[Qd zw];exact .refl _)
 refine AB ?_;apply ak [0,2,7,12,13] [96] 120
 .simp
  rfl
 refine AI (An (ι:=Nat) (λ i=>⟨256,[(0,BU H),(2,BU C),(7,BU W),(12,.rs 96 0 8),(13,.I i)],[(96,some ⟨1,AR .u32 (vF H B C i),0⟩)],120⟩) (λ i=>i<=64) (λ i=>64 - i) 0 zy (Le.refl _ _) ?_)
 intro i hi;refine AB (arc ⟨256,[(0,BU H),(2,BU C),(7,BU W),(12,.rs 96 0 8),(13,.I i),(125,.B (decide (i<64)))],[(96,some ⟨1,AR .u32 (vF H B C i),0⟩)],136⟩ ?_ ?_)
 .simp
  exact Le.keep rfl (Qf _) (by simp<;>omega) zz
 refine AE _ rfl (λ h=>AG ?_) λ h=>Ak (Al ?_)
 .simp only[Qa] at h
  refine Bm ⟨256,[(0,BU H),(2,BU C),(7,BU W),(12,.rs 96 0 8),(13,.I i)],[(96,some ⟨1,AR .u32 (vF H B C (i+1)),0⟩)],1088⟩ ?_ ?_
  .have h0:=ZD (B:=B) (C:=C) hH i
   have hs:vF H B C (i+1)=[u2 .add (u2 .add (xF (vF H B C i) (gt C i) (gt W i)) (r3 (gt (vF H B C i) 0) 2 13 22)) (mF (vF H B C i)),gt (vF H B C i) 0,gt (vF H B C i) 1,gt (vF H B C i) 2,u2 .add (gt (vF H B C i) 3) (xF (vF H B C i) (gt C i) (gt W i)),gt (vF H B C i) 4,gt (vF H B C i) 5,gt (vF H B C i) 6]:=by rw[hW];rfl
   rw[hs];generalize vF H B C i=v at *;have g0:=FK (k:=.u32) h0 (show 0<8 by omega)
   have g1:=FK (k:=.u32) h0 (show 1<8 by omega)
   have g2:=FK (k:=.u32) h0 (show 2<8 by omega)
   have g3:=FK (k:=.u32) h0 (show 3<8 by omega)
   have g4:=FK (k:=.u32) h0 (show 4<8 by omega)
   have g5:=FK (k:=.u32) h0 (show 5<8 by omega)
   have g6:=FK (k:=.u32) h0 (show 6<8 by omega)
   have g7:=FK (k:=.u32) h0 (show 7<8 by omega)
   obtain⟨lc,gc⟩:=Ff hC h;obtain⟨lw,gw⟩:=Ff he h;have hf:xF v (gt C i) (gt W i)=u2 .add (u2 .add (u2 .add (u2 .add (gt v 7) (r3 (gt v 4) 6 11 25)) (u2 .xor (u2 .and (gt v 4) (gt v 5)) (u2 .and (nt (gt v 4)) (gt v 6)))) (gt C i)) (gt W i):=rfl;have hh:mF v=u2 .xor (u2 .xor (u2 .and (gt v 0) (gt v 1)) (u2 .and (gt v 0) (gt v 2))) (u2 .and (gt v 1) (gt v 2)):=rfl;have hX:=h3 v;generalize gt C i=ck at *;generalize gt W i=wk at *;generalize AR .u32 v=X at *;generalize gt v 0=v0 at *;generalize gt v 1=v1 at *;generalize gt v 2=v2 at *;generalize gt v 3=v3 at *;generalize gt v 4=v4 at *;generalize gt v 5=v5 at *;generalize gt v 6=v6 at *;generalize gt v 7=v7 at *;obtain⟨s,hj⟩:=AJ (r3 v4 6 11 25);obtain⟨c,hk⟩:=AJ (u2 .xor (u2 .and v4 v5) (u2 .and (nt v4) v6));obtain⟨x,h8⟩:=AJ (xF v ck wk);obtain⟨s',h7⟩:∃ s,s=r3 v0 2 13 22:=⟨_,rfl⟩;obtain⟨y,h9⟩:=AJ (mF v);rw[<- hj,<- hk,<- h8] at hf;rw[<- h9] at hh;rw[<- h8,<- h7,<- h9]
   clear h8 h9
   refine AI (Bi ⟨256,[(0,BU H),(2,BU C),(7,BU W),(12,.rs 96 0 8),(13,.I i),(14,wd s)],[(96,some ⟨1,X,0⟩)],256⟩ ?_ ?_)
   .simp [g4]
    refine Ah (Gx v4 6 zx zx) rfl ?_
    simp[g4];refine Ah (Gx v4 11 zx zx) rfl ?_
    simp[g4];refine Ah (Gx v4 25 zx zx) rfl ?_
    simp;exact⟨rfl,Le.keep rfl (Qf _) (by simp[hj,r3]) zz⟩
   refine Bi ⟨256,[(0,BU H),(2,BU C),(7,BU W),(12,.rs 96 0 8),(13,.I i),(14,wd s),(15,wd c)],[(96,some ⟨1,X,0⟩)],392⟩ ?_ ?_
   .simp [g4,g5,g6]
    exact⟨rfl,Le.keep rfl (Qf _) (by simp[hk]) zz⟩
   refine Bi ⟨256,[(0,BU H),(2,BU C),(7,BU W),(12,.rs 96 0 8),(13,.I i),(16,wd x)],[(96,some ⟨1,X,0⟩)],536⟩ ?_ ?_
   .simp [g7,lc,gc,lw,gw]
    exact⟨rfl,Le.keep rfl (Qf _) (by simp[hf]) zz⟩
   refine Bi ⟨256,[(0,BU H),(2,BU C),(7,BU W),(12,.rs 96 0 8),(13,.I i),(16,wd x),(14,wd s')],[(96,some ⟨1,X,0⟩)],656⟩ ?_ ?_
   .simp [g0]
    refine Ah (Gx v0 2 zx zx) rfl ?_
    simp[g0];refine Ah (Gx v0 13 zx zx) rfl ?_
    simp[g0];refine Ah (Gx v0 22 zx zx) rfl ?_
    simp;exact⟨rfl,Le.keep rfl (Qf _) (by simp[h7,r3]) zz⟩
   refine Bi ⟨256,[(0,BU H),(2,BU C),(7,BU W),(12,.rs 96 0 8),(13,.I i),(16,wd x),(14,wd s'),(17,wd y)],[(96,some ⟨1,X,0⟩)],848⟩ ?_ ?_
   .simp [g0,g1,g2]
    exact⟨rfl,Le.keep rfl (Qf _) (by simp[hh]) zz⟩
   refine Cx rfl ?_;simp[g0,g1,g2,g3,g4,g5,g6];exact⟨rfl,Le.ren1 1072 96 [] rfl rfl zz zz rfl zz zz zz⟩
  have h1:=wq (k:=i);refine Ab rfl ?_;simp[h1];exact⟨i+1,zy,zy,Le.K1 96 96 [] rfl rfl zz zz rfl zz⟩
 simp only[Qb] at h;obtain rfl:i=64:=zy
 refine AB ?_;apply ak [0,12,18] [96] 144
 .simp
  rfl
 refine AI (An (ι:=Nat) (λ i=>⟨256,[(0,BU H),(12,.rs 96 0 8),(18,.I i)],[(96,some ⟨1,AR .u32 (oF H B C i),0⟩)],144⟩) (λ i=>i<=8) (λ i=>8 - i) 0 zy (Le.refl _ _) ?_)
 intro i hi;refine AB (arc ⟨256,[(0,BU H),(12,.rs 96 0 8),(18,.I i),(242,.B (decide (i<8)))],[(96,some ⟨1,AR .u32 (oF H B C i),0⟩)],160⟩ ?_ ?_)
 .simp
  exact Le.keep rfl (Qf _) (by simp<;>omega) zz
 refine AE _ rfl (λ h=>AG ?_) λ h=>Ak (Al ?_)
 .simp only[Qa] at h
  refine Bm ⟨256,[(0,BU H),(12,.rs 96 0 8),(18,.I i)],[(96,some ⟨1,AR .u32 (oF H B C (i+1)),0⟩)],248⟩ ?_ ?_
  .have hx:=Px (B:=B) (C:=C) hH i
   have hg:=FK (k:=.u32) hx h;obtain⟨lh,gh⟩:=Ff hH h;obtain⟨z,hz⟩:=AJ (u2 .add (gt (oF H B C i) i) (gt H i));have hs:AR .u32 (oF H B C (i+1))=(AR .u32 (oF H B C i)).set i [wd z]:=by rw[oF,AR,UQ,hz]
   rw[hs];have hX:=h3 (oF H B C i);generalize gt (oF H B C i) i=a at *;generalize gt H i=b at *;generalize AR .u32 (oF H B C i)=X at *;have h2:∀ ρ sn h m,(X.set i [wd z]).map (List.map (conv ρ sn h (m+1)))=X.set i [wd z]:=λ ρ sn h m=>by rw[UQ,hX];simp
   refine AI (Cx rfl ?_);simp[hg,lh,gh,h,show (i:Int)<8 by omega,Ae,<- hz]
   exact⟨rfl,Le.X1 h2 96 96 [] rfl rfl zz zz rfl zz⟩
  have h1:=wq (k:=i);refine Ab rfl ?_;simp[h1];exact⟨i+1,zy,zy,Le.K1 96 96 [] rfl rfl zz zz rfl zz⟩
 simp only[Qb] at h;obtain rfl:i=8:=zy
 refine AB (AT ?_);exact BR (AO.out [96] [] rfl zz zz zz (by simp[Gz,AC]))
section
variable {P:Program} {np id:Nat} {h:Nat->Option AD} {K:AV->List Nat->List (Nat × Option AD)->Prop} {s s':Nat} {f:Bool} {rows:List (List AV)} {k l:Nat}
@[simp] theorem zX:aK P np id (.slc s true true false) [.vs s' f rows,.sc (.int .i64 (l:Int)),.sc (.int .i64 (k:Int))] h K=(l<=k/\k<=rows.length/\s'=s/\K (.vs s false ((rows.drop l).take (k - l))) [] []):=by
 rw[GU];refine propext ⟨?_,?_⟩
 .rintro ⟨l',r,m,n,h1,h2,h4,h5,h6,h7,h3,q,h8,h9⟩
  simp at h4 h1;subst h1;obtain⟨rfl,rfl⟩:l=l'/\k=r:=zy
  exact⟨h2,h3,h8,by simpa using h9⟩
 .rintro ⟨h1,h2,h3,h4⟩
  exact⟨l,k,0,rows.length,rfl,h1,zz,(λ h=>by cases h),(λ h=>by cases h),(λ h=>by cases h),h2,(λ h=>by cases h),h3,by simpa using h4⟩
end
theorem PW (l:List Int):Hj (AR .u8 l)=some (l.map λ n=>UInt8.ofNat n.toNat):=by
 induction l with
 | nil=>rfl
 | cons x l ih =>
   show (Hj (AR .u8 l)).map _=_;rw[ih];rfl
def Fm:List Int:=[1779033703,3144134277,1013904242,2773480762,1359893119,2600822924,528734635,1541459225]
def Ib (L:Nat):Nat:=(120 - (L+1) % 64) % 64
def KE (L:Nat):Int:=IntKind.u64.wrap (IntKind.u64.wrap (L:Int)*8)
def Dd (b:List Int):List Int:=b++[128]++List.replicate (Ib b.length) 0++Ad (KE b.length)
def hF (M:List Int):Nat->List Int
 | 0=>Fm
 | i+1=>Gz (hF M i) ((M.drop (64*i)).take 64) Bc
def F5 (x:Int):List Int:=[IntKind.u8.wrap (sh .shr x 24),IntKind.u8.wrap (sh .shr x 16),IntKind.u8.wrap (sh .shr x 8),IntKind.u8.wrap x]
def Cy (h:List Int):Nat->List Int
 | 0=>[]
 | i+1=>Cy h i++F5 (gt h i)
def D4 (b:List Int):ByteArray:=⟨((Cy (hF (Dd b) ((Dd b).length / 64)) 8).map λ n=>UInt8.ofNat n.toNat).toArray⟩
theorem Kd (h:List Int):∀ i,(Cy h i).length=4*i
 | 0=>rfl
 | i+1=>by rw[Cy,Qe,Kd h i];simp[F5];omega
theorem pP (b:List Int):(D4 b).size=32:=by
 show ((Cy _ 8).map _).toArray.size=32;simp[Kd]
theorem Zs {H B C:List Int} (hH:H.length=8):(Gz H B C).length=8:=Px hH 8
theorem Jj (M:List Int):∀ i,(hF M i).length=8
 | 0=>rfl
 | i+1=>Zs (Jj M i)
theorem ZX (b:List Int):(Dd b).length=b.length+1+Ib b.length+8:=by simp[Dd,DL];omega
theorem VB (b:List Int):(Dd b).length % 64=0:=by rw[ZX];unfold Ib;omega
theorem sA (b:List Int) (hl:b.length<=1073741824):AF 170 [Ce b] [] (.sc (.string (D4 b))) []:=by
 refine oE.s.ai ?_;obtain⟨L,hL⟩:=AJ (b.length);obtain⟨Z,hZ⟩:=AJ (Ib L);have a7:Z=(120 - (L+1) % 64) % 64:=hZ;have h0:∀ (k:IntKind) (l:List Int) ρ sn h m,(AR k l).map (List.map (conv ρ sn h (m+1)))=AR k l:=Jr
 refine ar [0] [] [] 24 ?_;refine arc ⟨87,[(0,Ce b),(3,.rs 24 0 8)],[(24,some ⟨1,AR .u32 Fm,0⟩)],40⟩ ?_ ?_
 .simp
  exact Le.keep rfl (Qf _) zz (by simp[Fm])
 let m:Nat->List Int:=λ z=>b++[128]++List.replicate z 0
 have hg:∀ z,(m z).length=L+1+z:=λ z=>by simp[m,hL];omega
 have hh:∀ z,m (z+1)=m z++[0]:=λ z=>by simp[m,List.replicate_succ']
 have h3:b++[128]++List.replicate (Ib b.length) 0=m Z:=by rw[hZ,hL]
 refine arc ⟨87,[(0,Ce b),(3,.rs 24 0 8),(4,.rs 64 0 (L+1+0))],[(24,some ⟨1,AR .u32 Fm,0⟩),(64,some ⟨1,AR .u8 (m 0),0⟩)],80⟩ ?_ ?_
 .simp [<- hL]
  repeat' apply And.intro
  all_goals first | omega | exact Le.keep rfl (Qf _) zz (by simp[m,hL])
 clear_value m
 refine AB (AI (An (ι:=Nat) (λ z=>⟨87,[(0,Ce b),(3,.rs 24 0 8),(4,.rs 64 0 (L+1+z))],[(24,some ⟨1,AR .u32 Fm,0⟩),(64,some ⟨1,AR .u8 (m z),0⟩)],80⟩) (λ z=>z<=Z) (λ z=>Z - z) 0 zy (Le.refl _ _) ?_))
 intro z hz;obtain⟨N,hN⟩:=AJ (L+1+z);have h4:Int.tmod (N:Int) 64=((N % 64:Nat):Int):=rfl;have u:=hg z;rw[<- hN] at u;rw[<- hN];refine AB (arc ⟨87,[(0,Ce b),(3,.rs 24 0 8),(4,.rs 64 0 N),(19,.B (decide (z<Z)))],[(24,some ⟨1,AR .u32 Fm,0⟩),(64,some ⟨1,AR .u8 (m z),0⟩)],112⟩ ?_ ?_)
 .simp [h4,-Int.natCast_emod]
  exact Le.keep rfl (Qf _) (by simp[-Int.natCast_emod];rw[Qg];simp[-Int.natCast_emod];omega) zz
 refine AE _ rfl (λ h=>AG ?_) λ h=>Ak (Al ?_)
 .simp only[Qa] at h
  have a8:N<=1073741900:=zy
  have hs:=hh z;have hX:=h0 .u8 (m (z+1));have hm:AR .u8 (m (z+1))=AR .u8 (m z)++[[.sc (.int .u8 0)]]:=by rw[hs,AR,QN];rfl
  have a9:(AR .u8 (m z)).length=N:=by rw[Eg,u]
  refine AI (Ab rfl ?_);simp[u];refine⟨zy,z+1,zy,zy,?_⟩
  refine Le.ents [(24,24),(128,64)] [] rfl zz zz zz zz zz (by simp;exact Eh zw) λ p hp=>?_
  simp only[Qu,QT,or_false] at hp;rcases hp with rfl | rfl
  .exact ⟨24,_,_,rfl,zz,rfl,A7.eq (by simp only[AX,h0]) zz⟩
  .exact ⟨128,_,_,rfl,zz,rfl,A7.eq (by
    show AX _ _ _ _ ⟨1,List.take N (AR .u8 (m z))++[[.sc (.int .u8 0)]],0⟩=_;rw[Qd zy,<- hm]
    simp only[AX,h0]) zz⟩
 simp only[Qb] at h;obtain rfl:z=Z:=zy
 obtain⟨M0,hn⟩:=AJ (m z);rw[<- hn] at u h3 ⊢;obtain⟨bt,h5⟩:=AJ (KE L);refine arc ⟨87,[(3,.rs 24 0 8),(4,.rs 64 0 N),(5,.sc (.int .u64 bt))],[(24,some ⟨1,AR .u32 Fm,0⟩),(64,some ⟨1,AR .u8 M0,0⟩)],152⟩ ?_ ?_
 .simp [<- hL]
  exact Le.keep rfl (Qf _) (by simp[h5,KE]) zz
 let q:Nat->List Int:=λ j=>M0++E5 bt j
 have h6:∀ j,(q j).length=N+j:=λ j=>by simp only[q];rw[Qe,Jk,u]
 have ho:∀ j,q (j+1)=q j++[EB bt (7 - j)]:=λ j=>by simp only[q];rw[KQ,Qq]
 have hq:q 0=M0:=by simp[q,E5]
 have h7:q 8=Dd b:=by
  simp only[q];rw[Dd,h3,h5,hL];rfl
 refine AB (arc ⟨87,[(3,.rs 24 0 8),(4,.rs 64 0 (N+0)),(5,.sc (.int .u64 bt)),(6,.I (7 - (0:Nat)))],[(24,some ⟨1,AR .u32 Fm,0⟩),(64,some ⟨1,AR .u8 (q 0),0⟩)],160⟩ ?_ ?_)
 .simp [hq]
  exact A5
 clear_value q
 refine AI (An (ι:=Nat) (λ j=>⟨87,[(3,.rs 24 0 8),(4,.rs 64 0 (N+j)),(5,.sc (.int .u64 bt)),(6,.I (7 - (j:Int)))],[(24,some ⟨1,AR .u32 Fm,0⟩),(64,some ⟨1,AR .u8 (q j),0⟩)],160⟩) (λ j=>j<=8) (λ j=>8 - j) 0 zy (Le.refl _ _) ?_)
 intro j hj;refine AB (arc ⟨87,[(3,.rs 24 0 8),(4,.rs 64 0 (N+j)),(5,.sc (.int .u64 bt)),(6,.I (7 - (j:Int))),(28,.B (decide (j<8)))],[(24,some ⟨1,AR .u32 Fm,0⟩),(64,some ⟨1,AR .u8 (q j),0⟩)],176⟩ ?_ ?_)
 .simp
  exact Le.keep rfl (Qf _) zw zz
 refine AE _ rfl (λ h=>AG ?_) λ h=>Ak (Al ?_)
 .simp only[Qa] at h
  refine Bm ⟨87,[(3,.rs 24 0 8),(4,.rs 64 0 (N+(j+1))),(5,.sc (.int .u64 bt)),(6,.I (7 - (j:Int)))],[(24,some ⟨1,AR .u32 Fm,0⟩),(64,some ⟨1,AR .u8 (q (j+1)),0⟩)],256⟩ ?_ ?_
  .have hs:=ho j
   have hr:=h6 j;rw[hs];generalize q j=Y at *;obtain⟨k,hk⟩:∃ k:Nat,7 - (j:Int)=k:=⟨7 - j,zy⟩
   have ht:7 - j=k:=zy
   have h8:IntKind.i64.wrap (8*(k:Int))=((8*k:Nat):Int):=by rw[w6];omega
   have h9:IntKind.u64.wrap ((8*k:Nat):Int)=((8*k:Nat):Int):=by rw[IntKind.wrap_u64];omega
   have hb:EB bt k=IntKind.u8.wrap (bt.fdiv (2 ^ (min (8*k) 64))):=rfl;rw[hk,ht];generalize EB bt k=y at hb ⊢;obtain⟨s,hu⟩:=AJ (8*k);rw[<- hu] at h8 h9 hb;refine AI (Ab rfl ?_);simp[h8,h9,IntKind.bits,<- hb,hr];have h1:List.take (N+j) (AR .u8 Y)=AR .u8 Y:=Qd (by rw[Eg];omega)
   refine⟨zy,?_⟩
   refine Le.ents [(24,24),(240,64)] [] rfl zz zz zz zz zz (by simp;exact Eh zw) λ p hp=>?_
   simp only[Qu,QT,or_false] at hp;rcases hp with rfl | rfl
   .exact ⟨24,_,_,rfl,zz,rfl,A7.eq (by simp only[AX,h0]) zz⟩
   .exact ⟨240,_,_,rfl,zz,rfl,A7.eq (by
     show AX _ _ _ _ ⟨1,List.take (N+j) (AR .u8 Y)++[[.sc (.int .u8 y)]],0⟩=_;rw[h1]
     simp[AX,AC]) zz⟩
  have hv:IntKind.i64.wrap (7 - (j:Int) - 1)=7 - ((j+1:Nat):Int):=by rw[w6];omega
  refine Ab rfl ?_;simp[hv];refine⟨j+1,zy,zy,?_⟩
  refine Le.ents [(24,24),(64,64)] [] rfl zz zz zz zz zz zz λ p hp=>?_
  simp only[Qu,QT,or_false] at hp;rcases hp with rfl | rfl
  .exact ⟨24,_,_,rfl,zz,rfl,A7.eq (by simp only[AX,h0]) zz⟩
  .exact ⟨64,_,_,rfl,zz,rfl,A7.eq (by simp only[AX,h0]) zz⟩
 simp only[Qb] at h;obtain rfl:j=8:=zy
 obtain⟨M,hM⟩:=AJ (Dd b);have hw:M.length=N+8:=by rw[hM,<- h7];exact h6 8
 have a6:M.length % 64=0:=by rw[hM];exact VB b
 obtain⟨nb,hx⟩:=AJ (M.length / 64);have ha:D4 b=⟨((Cy (hF M nb) 8).map λ n=>UInt8.ofNat n.toNat).toArray⟩:=by rw[hx,hM];rfl
 rw[h7,<- hM,<- hw,ha];refine arc ⟨87,[(3,BU (hF M 0)),(4,Ce M),(7,BU Bc)],[],192⟩ ?_ ?_
 .simp
  refine Di Zi rfl ?_;simp[AC];exact AZ [24,64,176] (by simp[AC,hF,Fm,Of,Qd]<;>exact .refl _)
 refine AB (ar [3,4,7,8] [] [] 200 ?_);refine AI (An (ι:=Nat) (λ i=>⟨87,[(3,BU (hF M i)),(4,Ce M),(7,BU Bc),(8,.I (64*i:Nat))],[],200⟩) (λ i=>i<=nb) (λ i=>nb - i) 0 zy (Le.refl _ _) ?_)
 intro i hi;obtain⟨c,hc⟩:=AJ (64*i);rw[<- hc];refine AB (arc ⟨87,[(3,BU (hF M i)),(4,Ce M),(7,BU Bc),(8,.I c),(44,.B (decide (i<nb)))],[],232⟩ ?_ ?_)
 .simp
  exact AZ [] (by simp<;>exact A0 (by rw[Qg];simp;omega))
 refine AE _ rfl (λ h=>AG ?_) λ h=>Ak (Al ?_)
 .simp only[Qa] at h
  have hd:=cR (hF M i) ((M.drop c).take 64) Bc (Jj M i) zw Of
  have hy:hF M (i+1)=Gz (hF M i) ((M.drop c).take 64) Bc:=by rw[hF,hc]
  rw[<- hy] at hd;have a0:=Jj M (i+1);obtain⟨c2,ag⟩:=AJ (c+64);have a1:IntKind.i64.wrap ((c:Int)+64)=(c2:Int):=by rw[w6];omega
  have he:c2 - c=64:=zy
  have hf:IntKind.i64.wrap ((c:Int)+64)=((64*(i+1):Nat):Int):=by rw[w6];omega
  refine Bm ⟨87,[(3,BU (hF M (i+1))),(4,Ce M),(7,BU Bc),(8,.I c)],[],304⟩ ?_ ?_
  .refine AI (Ab rfl ?_)
   simp[a1,he];refine⟨zy,zy,?_⟩
   refine Di hd (by simp[UI,UH]) ?_
   simp[AC];exact AZ [288] (by simp[AC,a0];exact Eh (congrArg _ (Qd zw)))
  refine Ab rfl ?_;simp[hf];exact⟨i+1,zy,zy,AZ [] zz⟩
 simp only[Qb] at h;obtain rfl:i=nb:=zy
 obtain⟨H,hH⟩:=AJ (hF M i);have a2:H.length=8:=by rw[hH];exact Jj M i
 rw[<- hH];refine ar [3,9] [] [] 240 ?_;refine AB (ar [3,9,10] [] [] 248 ?_);refine AI (An (ι:=Nat) (λ i=>⟨87,[(3,BU H),(9,.rs 16 0 (4*i)),(10,.I i)],[(16,some ⟨1,AR .u8 (Cy H i),0⟩)],248⟩) (λ i=>i<=8) (λ i=>8 - i) 0 zy (Le.lst [] [] [(16,1)] rfl zz zz zz zz zz zz zz (by simp[Up]) (by simp[Cy])) ?_)
 intro i hi;refine AB (arc ⟨87,[(3,BU H),(9,.rs 16 0 (4*i)),(10,.I i),(56,.B (decide (i<8)))],[(16,some ⟨1,AR .u8 (Cy H i),0⟩)],264⟩ ?_ ?_)
 .simp
  exact Le.keep rfl (Qf _) (by simp<;>omega) zz
 refine AE _ rfl (λ h=>AG ?_) λ h=>Ak (Al ?_)
 .simp only[Qa] at h
  refine Bm ⟨87,[(3,BU H),(9,.rs 16 0 (4*(i+1))),(10,.I i)],[(16,some ⟨1,AR .u8 (Cy H (i+1)),0⟩)],480⟩ ?_ ?_
  .obtain ⟨lh,gh⟩:=Ff a2 h
   have h2:=Kd H i;have hs:Cy H (i+1)=Cy H i++F5 (gt H i):=rfl;rw[hs];generalize gt H i=x at *;generalize Cy H i=Y at *;have h1:List.take (4*i) (AR .u8 Y)=AR .u8 Y:=Qd (by rw[Eg];omega)
   obtain⟨c,hc⟩:=AJ (4*i);rw[<- hc] at h2 h1 ⊢;refine AI (Cx rfl ?_);simp[lh,gh,h2];refine⟨zy,rfl,?_⟩
   exact Le.ren1 464 16 [] rfl rfl zz zz rfl (by simp only[AX];simp[h1,AC,F5]) zz (by simp;exact Eh zw)
  have a3:=wq (k:=i);refine Ab rfl ?_;simp[a3];exact⟨i+1,zy,zy,Le.K1 16 16 [] rfl rfl zz zz rfl zz⟩
 simp only[Qb] at h;obtain rfl:i=8:=zy
 have h2:=Kd H 8;have a4:=PW (Cy H 8);refine arc ⟨87,[(2,.sc (.string ⟨((Cy H 8).map λ n=>UInt8.ofNat n.toNat).toArray⟩))],[],288⟩ ?_ ?_
 .have h1:List.take 32 (AR .u8 (Cy H 8))=AR .u8 (Cy H 8):=Qd (by rw[Eg];omega)
  generalize Cy H 8=Y at *;generalize hR:AR .u8 Y=R at *;have a5:R.length=32:=by rw[<- hR,Eg,h2]
  simp[a5,h1,a4];exact AZ [] zz
 exact B3 [] []
structure Pn where
 a:Int
 h:Int
 d:ByteArray
abbrev L5 (p:Pn):List AV:=[.I p.a,.I p.h,.sc (.string p.d)]
abbrev Cq (l:List Pn):AV:=.vs 3 false (l.map L5)
structure AL where
 au:Int
 nu:Int
 pr:ByteArray
 ti:Int
 ki:Int
 a:Int
 b:Int
 c:Int
 li:List Int
 pi:List Pn
 bo:ByteArray
 sk:Int
 sd:ByteArray
abbrev sC (s:AL):List AV:=[.I s.au,.I s.nu,.sc (.string s.pr),.I s.ti,.I s.ki,.I s.a,.I s.b,.I s.c,AA s.li,Cq s.pi,.sc (.string s.bo),.I s.sk,.sc (.string s.sd)]
abbrev eS (s:AL):AV:=.agg (sC s)
abbrev Af (l:List AL):AV:=.vs 13 false (l.map sC)
def Cz (s:AL):Prop:=s.pr.size<=5000/\s.bo.size<=5000/\s.li.length<=100/\s.pi.length<=100 /\ ∀ p∈s.pi,p.d.size<=5000
def Ep (p:Pn):List Int:=Ad p.a++Ad p.h++El p.d
def FX (l:List Pn):List Int:=l.flatMap Ep
def H5 (s:AL):List Int:=[s.ti,s.ki,s.a,s.b,s.c]
def FG (s:AL):List Int:=Ad s.au++Ad s.nu++El s.pr
def E3 (s:AL):List Int:=FG s++(H5 s).flatMap Ad++EV s.li++Ad s.pi.length++FX s.pi++El s.bo
theorem cN (p:Pn):(Ep p).length=24+p.d.size:=by simp[Ep,DL,Iu];omega
theorem Kz:∀ (l:List Pn),(∀ p∈l,p.d.size<=5000)->(FX l).length<=5024*l.length
 | [],_=>by simp[FX]
 | p::l,h=>by
   have h1:=Kz l λ q hq=>h q (Qj _ hq);have h2:=h p Qo;unfold FX at *;rw[U3,Qe,cN,QS];omega
theorem MP (s:AL):(FG s).length=24+s.pr.size:=by simp[FG,DL,Iu];omega
theorem u7 (s:AL) (hs:Cz s):AF 171 [eS s] [] (.rs 0 0 (E3 s).length) [some ⟨1,AR .u8 (E3 s),0⟩]:=by
 refine jX.s.ac ?_;show AY _ 0 _ _ ⟨71,[(0,eS s)],[],16⟩;obtain⟨hi,hk,hl,hm,h2⟩:=hs;have h7:=MP s;refine arc ⟨71,[(1,.pv (sC s))],[],32⟩ ?_ ?_
 .simp
  exact AZ [16] zz
 have i1:=HT [] s.au _ rfl zz
 have i2:=HT ([]++Ad s.au) s.nu _ rfl (by simp[DL])
 have i3:=Mz ([]++Ad s.au++Ad s.nu) s.pr (FG s).length (by simp[MP,DL];omega) (by simp[DL]) zy
 have e3:[]++Ad s.au++Ad s.nu++El s.pr=FG s:=by simp[FG]
 rw[e3] at i3;have l1:([]++Ad s.au).length=8:=by simp[DL]
 have l2:([]++Ad s.au++Ad s.nu).length=16:=by simp[DL]
 generalize []++Ad s.au++Ad s.nu=A2 at *;generalize []++Ad s.au=A1 at *;have t1:List.take 8 (AR .u8 A1)=AR .u8 A1:=Qd (by rw[Eg];omega)
 have t2:List.take 16 (AR .u8 A2)=AR .u8 A2:=Qd (by rw[Eg];omega)
 refine Bi ⟨71,[(1,.pv (sC s)),(3,.rs 96 0 (FG s).length)],[(96,some ⟨1,AR .u8 (FG s),0⟩)],112⟩ ?_ ?_
 .simp
  refine nL i1 (by simp;exact .nil _ _) ?_
  simp[AC];refine ER [48] i2 (by simp[AC,l1,t1]) (.rs _ _ _) EW ?_
  simp[AC,l1];refine ER [72] i3 (by simp[AC,l1,l2,t2]) (.rs _ _ _) EW ?_
  simp[AC];exact⟨rfl,A5⟩
 obtain⟨F,hF⟩:=AJ (H5 s);have h8:F.length=5:=by rw[hF];rfl
 refine AB ?_
 let Y:Nat->List Int:=λ j=>FG s++(F.take j).flatMap Ad
 have u:∀ j,j<=5->(Y j).length=(FG s).length+8*j:=λ j hj=>by
  simp only[Y];rw[Qe,JG,QC];omega
 have h9:∀ j (h:j<F.length),Y (j+1)=Y j++Ad F[j]:=λ j h=>by
  simp only[Y];rw[Qp h,U6];simp
 have ha:FG s=Y 0:=by simp[Y]
 have hb:FG s++(H5 s).flatMap Ad=Y 5:=by simp[Y,<- hF,<- h8]
 obtain⟨L,hL⟩:=AJ ((FG s).length);rw[<- hL] at u h7 ⊢;rw[ha];refine arc ⟨71,[(1,.pv (sC s)),(3,.rs 96 0 (L+8*0)),(27,AA F),(28,.I 5),(29,.I (0:Nat))],[(96,some ⟨1,AR .u8 (Y 0),0⟩)],216⟩ ?_ ?_
 .simp
  exact Le.K1 96 96 [192] rfl rfl zz zz rfl (by simp[hF,H5]<;>exact .refl _)
 clear_value Y
 refine AI (An (ι:=Nat) (λ j=>⟨71,[(1,.pv (sC s)),(3,.rs 96 0 (L+8*j)),(27,AA F),(28,.I 5),(29,.I j)],[(96,some ⟨1,AR .u8 (Y j),0⟩)],216⟩) (λ j=>j<=5) (λ j=>5 - j) 0 zy (Le.refl _ _) ?_)
 intro j hj;refine arc ⟨71,[(1,.pv (sC s)),(3,.rs 96 0 (L+8*j)),(27,AA F),(28,.I 5),(29,.I j),(30,.B (decide (j<5)))],[(96,some ⟨1,AR .u8 (Y j),0⟩)],224⟩ ?_ ?_
 .simp
  exact Le.keep rfl (Qf _) (by simp<;>omega) zz
 refine AB (AE _ rfl (λ h=>AG ?_) λ h=>Ak (Al ?_))
 .simp only[Qa] at h
  have h3:j<F.length:=zy
  have hs:=h9 j h3;have q1:=u j hj;have q2:=u (j+1) h;have h4:=HT (Y j) F[j] _ rfl zy
  rw[<- hs] at h4;have hg:F[j]? = some F[j]:=Qc h3;refine Bm ⟨71,[(1,.pv (sC s)),(3,.rs 96 0 (L+8*(j+1))),(27,AA F),(28,.I 5),(29,.I j)],[(96,some ⟨1,AR .u8 (Y (j+1)),0⟩)],280⟩ ?_ ?_
  .generalize Y (j+1)=B at *
   generalize Y j=A at *;generalize F[j]=x at *;refine AI (arc ⟨71,[(1,.pv (sC s)),(3,.rs 96 0 (L+8*j)),(27,AA F),(28,.I 5),(29,.I j),(5,.I x)],[(96,some ⟨1,AR .u8 A,0⟩)],248⟩ ?_ ?_)
   .simp [hg]
    exact A5
   refine Ab rfl ?_;simp;refine ER [96] h4 (by simp[AC,<- q1,DX]) (.rs _ _ _) EW ?_
   simp[AC];exact Le.K1 264 96 [] rfl rfl zz zz (by simp[AC]) (by simp;exact Eh zw)
  have h1:=wq (k:=j);refine Ab rfl ?_;simp[h1];exact⟨j+1,zy,zy,Le.K1 96 96 [] rfl rfl zz zz rfl zz⟩
 simp only[Qb] at h;obtain rfl:j=5:=zy
 have q5:=u 5 zy
 have i4:=uI (Y 5) s.li _ rfl zy zy
 have i5:=HT (Y 5++EV s.li) s.pi.length (L+40+(8*s.li.length+8)+8) (by rw[Qe,q5,JH]) (by rw[Qe,q5,JH];omega)
 obtain⟨C,hC⟩:=AJ (Y 5++EV s.li++Ad s.pi.length);obtain⟨c,hc⟩:=AJ (L+40+(8*s.li.length+8)+8);have h5:C.length=c:=by rw[hC,Qe,Qe,q5,JH,DL,hc]
 rw[<- hC,<- hc] at i5;have lA:(Y 5++EV s.li).length=L+8*5+(8*s.li.length+8):=by rw[Qe,q5,JH]
 generalize hd:Y 5++EV s.li=A3 at *;have tA:List.take (L+8*5+(8*s.li.length+8)) (AR .u8 A3)=AR .u8 A3:=Qd (by rw[Eg];omega)
 have tY:List.take (L+8*5) (AR .u8 (Y 5))=AR .u8 (Y 5):=Qd (by rw[Eg];omega)
 have q:C++FX s.pi++El s.bo=E3 s:=by rw[hC,<- hd,<- hb];rfl
 generalize Y 5=Y5 at *;refine Bi ⟨71,[(1,.pv (sC s)),(3,.rs 280 0 c)],[(280,some ⟨1,AR .u8 C,0⟩)],296⟩ ?_ ?_
 .simp
  refine ER [96] i4 (by simp[AC,q5]<;>exact tY) (.rs _ _ _) EW ?_
  simp[AC,q5];refine ER [248] i5 (by simp[AC,lA]<;>exact tA) (.rs _ _ _) EW ?_
  simp[AC];exact⟨rfl,A5⟩
 let Z:Nat->List Int:=λ j=>C++FX (s.pi.take j)
 have h0:∀ j,j<=s.pi.length->(Z j).length<=1000000:=λ j hj=>by
  simp only[Z];have:=Kz (s.pi.take j) λ p hp=>h2 p (QM hp);rw[Qe,h5];rw[QC] at this;omega
 have he:∀ j (h:j<s.pi.length),Z (j+1)=Z j++Ep s.pi[j]:=λ j h=>by
  simp only[Z,FX];rw[Qp h,U6];simp
 have hf:C=Z 0:=by simp[Z,FX]
 have hh:C++FX s.pi=Z s.pi.length:=by simp[Z]
 rw[<- h5];rw[hf];rw[hh] at q;refine AB (arc ⟨71,[(1,.pv (sC s)),(3,.rs 280 0 (Z 0).length),(6,.I (0:Nat))],[(280,some ⟨1,AR .u8 (Z 0),0⟩)],304⟩ ?_ ?_)
 .simp
  exact A5
 clear_value Z
 refine AI (An (ι:=Nat) (λ j=>⟨71,[(1,.pv (sC s)),(3,.rs 280 0 (Z j).length),(6,.I j)],[(280,some ⟨1,AR .u8 (Z j),0⟩)],304⟩) (λ j=>j<=s.pi.length) (λ j=>s.pi.length - j) 0 zy (Le.refl _ _) ?_)
 intro j hj;refine AB (arc ⟨71,[(1,.pv (sC s)),(3,.rs 280 0 (Z j).length),(6,.I j),(49,.B (decide (j<s.pi.length)))],[(280,some ⟨1,AR .u8 (Z j),0⟩)],344⟩ ?_ ?_)
 .simp
  exact A5
 refine AE _ rfl (λ h=>AG ?_) λ h=>Ak (Al ?_)
 .simp only[Qa] at h
  have hs:=he j h;have q1:=h0 j hj;have hn:=h2 s.pi[j] (Qi h);have hg:s.pi[j]? = some s.pi[j]:=Qc h;generalize s.pi[j]=p at *;have i1:=HT (Z j) p.a _ rfl zy
  have i2:=HT (Z j++Ad p.a) p.h _ rfl (by rw[Qe,DL];omega)
  have i3:=Mz (Z j++Ad p.a++Ad p.h) p.d (Z (j+1)).length (by rw[hs];simp[Ep,DL,Iu];omega) (by simp[DL];omega) zy
  have e3:Z j++Ad p.a++Ad p.h++El p.d=Z (j+1):=by rw[hs];simp[Ep]
  rw[e3] at i3;have l1:(Z j++Ad p.a).length=(Z j).length+8:=by simp[DL]
  have l2:(Z j++Ad p.a++Ad p.h).length=(Z j).length+8+8:=by simp[DL]
  generalize Z j++Ad p.a++Ad p.h=A2 at *;generalize Z j++Ad p.a=A1 at *;refine Bm ⟨71,[(1,.pv (sC s)),(3,.rs 280 0 (Z (j+1)).length),(6,.I j)],[(280,some ⟨1,AR .u8 (Z (j+1)),0⟩)],488⟩ ?_ ?_
  .generalize Z (j+1)=B at *
   generalize Z j=A at *;obtain⟨n0,h6⟩:=AJ (A.length);rw[<- h6] at i1 l1 l2 ⊢;rw[l1] at i2;have t0:List.take n0 (AR .u8 A)=AR .u8 A:=Qd (by rw[Eg];omega)
   have t1:List.take (n0+8) (AR .u8 A1)=AR .u8 A1:=Qd (by rw[Eg];omega)
   have t2:List.take (n0+8+8) (AR .u8 A2)=AR .u8 A2:=Qd (by rw[Eg];omega)
   refine AI (arc ⟨71,[(1,.pv (sC s)),(3,.rs 280 0 n0),(6,.I j),(7,.pv (L5 p))],[(280,some ⟨1,AR .u8 A,0⟩)],400⟩ ?_ ?_)
   .simp [hg,Ae]
    exact Le.K1 280 280 [384] rfl rfl zz zz rfl zz
   refine Cx rfl ?_;simp;refine ER [280] i1 (by simp[AC,<- h6]<;>exact t0) (.rs _ _ _) EW ?_
   simp[AC];refine ER [424] i2 (by simp[AC,l1]<;>exact t1) (.rs _ _ _) EW ?_
   simp[AC];refine ER [448] i3 (by simp[AC,l2]<;>exact t2) (.rs _ _ _) EW ?_
   simp[AC];exact⟨rfl,Le.K1 472 280 [] rfl rfl zz zz (by simp[AC]) zz⟩
  have h1:=wq (k:=j);refine Ab rfl ?_;simp[h1];exact⟨j+1,zy,zy,Le.K1 280 280 [] rfl rfl zz zz rfl zz⟩
 simp only[Qb] at h;obtain rfl:j=s.pi.length:=zy
 have qn:=h0 s.pi.length (Qf _);have i6:=Mz (Z s.pi.length) s.bo (E3 s).length (by rw[<- q,Qe,Iu]) zy zy
 rw[q] at i6;generalize Z s.pi.length=A at *;have t0:List.take A.length (AR .u8 A)=AR .u8 A:=Qd (by rw[Eg];exact Qf _)
 refine arc ⟨71,[(2,.rs 368 0 (E3 s).length)],[(368,some ⟨1,AR .u8 (E3 s),0⟩)],384⟩ ?_ ?_
 .simp
  refine ER [280] i6 (by simp[AC]<;>exact t0) (.rs _ _ _) EW ?_
  simp[AC];exact A5
 exact B3 [368] []
theorem YV {s:AL} (hs:Cz s):(E3 s).length<=1000000:=by
 obtain⟨u,h0,h1,h2,q⟩:=hs;have:=Kz s.pi q;unfold E3;simp only[Qe,MP,JG,JH,DL,Iu];simp[H5];omega
def Cd (s:AL):ByteArray:=D4 (E3 s)
theorem iW (s:AL):(Cd s).size=32:=pP _
theorem tS (s:AL) (hs:Cz s):AF 117 [eS s] [] (.sc (.string (Cd s))) []:=by
 refine j6.s.ac ?_;show AY _ 0 _ _ ⟨6,[(0,eS s)],[],16⟩;have hl:=YV hs;refine arc ⟨6,[(1,.pv (sC s))],[],32⟩ ?_ ?_
 .simp
  exact AZ [16] zz
 refine arc ⟨6,[(2,.sc (.string (Cd s)))],[],64⟩ ?_ ?_
 .simp
  refine C3 (u7 s hs) ?_;simp[AC];refine FZ [40] (sA (E3 s) zy) (by simp[AC,DX]) (.sc _) ?_
  simp;exact AZ [] (by simp;exact .refl _)
 exact B3 [] []
theorem OR (x:Int):AF 118 [.I x] [] (.B (decide (0<=x/\x<64))) []:=by
 refine gK.s.ac ?_;show AY _ 0 _ _ ⟨9,[(0,.I x)],[],16⟩;refine Bv ⟨9,[(0,.I x)],[],24⟩ rfl (by simp;exact AZ [] zz) ?_
 refine arc ⟨9,[(2,.B (decide (0<=x/\x<64)))],[],80⟩ ?_ ?_
 .by_cases h:0<=x
  .simp [h]
   exact AZ [] zz
  .simp [h]
   exact AZ [] zz
 exact Bg
theorem IS (x m:Int):AF 119 [.I x,.I m] [] (.B (decide (0<=x/\x<=m))) []:=by
 refine m5.s.ac ?_;show AY _ 0 _ _ ⟨12,[(0,.I x),(1,.I m)],[],16⟩;refine Bv ⟨12,[(0,.I x),(1,.I m)],[],24⟩ rfl (by simp;exact AZ [] zz) ?_
 refine arc ⟨12,[(4,.B (decide (0<=x/\x<=m)))],[],88⟩ ?_ ?_
 .by_cases h:0<=x
  .simp [h]
   exact AZ [] zz
  .simp [h]
   exact AZ [] zz
 exact Bg
def GP (l:List Pn) (i:Nat):Prop:=∀ h:i<l.length,(0<=l[i].a/\l[i].a<64)/\(0<i->l[i - 1].a<l[i].a)/\1<=l[i].h/\l[i].h<=200/\l[i].d.size=32
def He (l:List Pn):Prop:=∀ i,GP l i
open Classical in
theorem sL (l:List Pn) (hl:l.length<=1000000):AF 121 [Cq l] [] (.B (decide (He l))) []:=by
 refine dV.s.ac ?_;show AY _ 0 _ _ ⟨50,[(0,Cq l)],[],16⟩;refine Bv ⟨50,[(0,Cq l)],[],24⟩ rfl (by simp;exact AZ [] zz) ?_
 refine AB (Bv ⟨50,[(0,Cq l),(3,.I (0:Nat))],[],32⟩ rfl (by simp;exact AZ [] zz) ?_)
 refine AI (An (ι:=Nat) (λ k=>⟨50,[(0,Cq l),(3,.I k)],[],32⟩) (λ k=>k<=l.length /\ ∀ i,i<k->GP l i) (λ k=>l.length - k) 0 ⟨Qk _,λ i hi=>zy⟩ (Le.refl _ _) ?_)
 rintro k ⟨hk,hp⟩
 refine AB (Bv ⟨50,[(0,Cq l),(3,.I k),(8,.B (decide (k<l.length)))],[],64⟩ rfl (by simp;exact AZ [] zz) ?_)
 refine AE _ rfl (λ h=>AG ?_) λ h=>Ak (Al ?_)
 .simp only[Qa] at h
  obtain⟨p,h3⟩:∃ p,l[k]=p:=⟨_,rfl⟩;have hg:l[k]? = some p:=by rw[Qc h,h3]
  have h4:=wq (k:=k)
  have h0:GP l k↔((0<=p.a/\p.a<64)/\(0<k->(l[k - 1]).a<p.a)/\1<=p.h/\p.h<=200/\p.d.size=32):=by
   unfold GP;constructor
   .intro hq
    have:=hq h
    rwa [h3] at this
   .intro hq _
    rwa [h3]
  refine EL (ι:=Unit) (λ _=>⟨50,[(0,Cq l),(3,.I k)],[],400⟩) (λ _=>GP l k) ?_ λ _ h6=>?_
  .refine AI (arc ⟨50,[(0,Cq l),(3,.I k),(4,.pv (L5 p))],[],112⟩ ?_ ?_)
   .simp [hg,Ae]
    exact AZ [96] zz
   refine Bi ⟨50,[(0,Cq l),(3,.I k),(49,.B (decide (¬ GP l k)))],[],400⟩ ?_ ?_
   .simp
    refine Ah (OR p.a) rfl ?_
    by_cases c1:0<=p.a/\p.a<64
    .cases k with
     | zero =>
       simp[c1]
       by_cases c3:p.h<1
       .simp [c3]
        exact⟨rfl,AZ [] (by simp<;>exact A0 (by simp[h0];first | omega | grind))⟩
       by_cases c4:200<p.h
       .simp [c3,c4]
        exact⟨rfl,AZ [] (by simp<;>exact A0 (by simp[h0];first | omega | grind))⟩
       by_cases c5:(p.d.size:Int)=32
       .simp [c3,c4,c5]
        exact⟨rfl,AZ [] (by simp<;>exact A0 (by simp[h0];first | omega | grind))⟩
       .simp [c3,c4,c5]
        exact⟨rfl,AZ [] (by simp<;>exact A0 (by simp[h0];first | omega | grind))⟩
     | succ j =>
       have h7:j<l.length:=zy
       obtain⟨q,hq⟩:∃ q,l[j]=q:=⟨_,rfl⟩;have h1:l[j]? = some q:=by rw[Qc h7,hq]
       have hw:IntKind.i64.wrap (((j+1:Nat):Int) - 1)=(j:Int):=by rw[w6];omega
       have u:GP l (j+1)↔((0<=p.a/\p.a<64)/\q.a<p.a/\1<=p.h/\p.h<=200/\p.d.size=32):=by
        rw[h0];simp[hq]
       clear h0
       obtain⟨J,hJ⟩:=AJ (j+1);rw[<- hJ] at hw u ⊢;have h2:0<J:=zy
       by_cases c2:p.a<=q.a
       .simp [c1,h2,hw,h1,c2]
        exact⟨rfl,AZ [] (by simp<;>exact A0 (by simp[u];first | omega | grind))⟩
       by_cases c3:p.h<1
       .simp [c1,h2,hw,h1,c2,c3]
        exact⟨rfl,AZ [] (by simp<;>exact A0 (by simp[u];first | omega | grind))⟩
       by_cases c4:200<p.h
       .simp [c1,h2,hw,h1,c2,c3,c4]
        exact⟨rfl,AZ [] (by simp<;>exact A0 (by simp[u];first | omega | grind))⟩
       by_cases c5:(p.d.size:Int)=32
       .simp [c1,h2,hw,h1,c2,c3,c4,c5]
        exact⟨rfl,AZ [] (by simp<;>exact A0 (by simp[u];first | omega | grind))⟩
       .simp [c1,h2,hw,h1,c2,c3,c4,c5]
        exact⟨rfl,AZ [] (by simp<;>exact A0 (by simp[u];first | omega | grind))⟩
    .have c1':decide (0<=p.a/\p.a<64)=false:=QJ c1
     rw[c1'];simp;exact⟨rfl,AZ [] (by simp<;>exact A0 (by simp only[h0];simp;omega))⟩
   refine AE _ rfl (λ h5=>?_) λ h5=>AG ?_
   .have h8:¬ He l:=λ hq=>(of_decide_eq_true h5) (hq k)
    rw[QJ h8];refine AB (AT ?_);exact Bg
   .exact ⟨(),Classical.not_not.1 (of_decide_eq_false h5),AZ [] zz⟩
  refine Ab rfl ?_;simp[h4];refine⟨k+1,⟨zy,λ i hi=>?_⟩,zy,AZ [] zz⟩
  rcases Q2.1 hi with h | rfl
  .exact hp i h
  .exact h6
 simp only[Qb] at h;have hy:He l:=λ i hi=>hp i zy hi
 rw[QX hy];refine AB (AT ?_);exact Bg
def K1 (s:AL):Prop:=(0<=s.a/\s.a<64)/\s.a≠s.au/\1<=s.b/\s.b<=3/\s.ti<=s.c/\s.c<=2147483648
def K2 (s:AL):Prop:=(0<=s.a/\s.a<=199)/\s.b=0/\s.c=0
def K3 (s:AL):Prop:=s.a=0/\s.b=0/\s.c=0
instance (s:AL):Decidable (K1 s):=by unfold K1;infer_instance
instance (s:AL):Decidable (K2 s):=by unfold K2;infer_instance
instance (s:AL):Decidable (K3 s):=by unfold K3;infer_instance
def FF (s:AL):Prop:=(s.ki=1->K1 s)/\(s.ki=2->K2 s)/\(s.ki=3->K3 s)
instance (s:AL):Decidable (FF s):=by unfold FF;infer_instance
def D3 (x:Int):Prop:=0<=x/\x<=1099511627776
instance (x:Int):Decidable (D3 x):=by unfold D3;infer_instance
def GG (s:AL):Prop:=(0<=s.nu/\s.nu<=199)/\D3 s.a/\D3 s.b/\D3 s.c/\(∀ x∈s.li,D3 x)/\FF s
instance (s:AL):Decidable (GG s):=by unfold GG;infer_instance
theorem eL (s:AL) (hl:s.li.length<=1000000):AF 120 [eS s] [] (.B (decide (GG s))) []:=by
 refine tM.s.ac ?_;show AY _ 0 _ _ ⟨106,[(0,eS s)],[],16⟩;refine arc ⟨106,[(1,.pv (sC s))],[],32⟩ ?_ ?_
 .simp
  exact AZ [16] zz
 obtain⟨b1,u⟩:∃ b,b=decide (0<=s.nu/\s.nu<=199):=⟨_,rfl⟩;obtain⟨b2,h0⟩:∃ b,b=decide (0<=s.a/\s.a<=1099511627776):=⟨_,rfl⟩;obtain⟨b3,h4⟩:∃ b,b=decide (0<=s.b/\s.b<=1099511627776):=⟨_,rfl⟩;obtain⟨b4,h6⟩:∃ b,b=decide (0<=s.c/\s.c<=1099511627776):=⟨_,rfl⟩;have q1:=IS s.nu 199;have q2:=IS s.a 1099511627776;have q3:=IS s.b 1099511627776;have q4:=IS s.c 1099511627776;rw[<- u] at q1;rw[<- h0] at q2;rw[<- h4] at q3;rw[<- h6] at q4;refine AB (arc ⟨106,[(1,.pv (sC s)),(25,.B (!(b1 && (b2 && (b3 && b4)))))],[],208⟩ ?_ ?_)
 .simp
  refine Ah q1 rfl ?_
  cases b1
  .simp
   exact AZ [] zz
  simp;refine Ah q2 rfl ?_
  cases b2
  .simp
   exact AZ [] zz
  simp;refine Ah q3 rfl ?_
  cases b3
  .simp
   exact AZ [] zz
  simp;refine Ah q4 rfl ?_
  cases b4
  .simp
   exact AZ [] zz
  simp;exact AZ [] zz
 refine AE _ rfl (λ h=>?_) λ h=>AG ?_
 .have h8:¬ GG s:=λ hq=>by
   obtain⟨n1,n2,n3,n4,_⟩:=hq;rw[QX n1] at u;rw[QX (show _/\_ from n2)] at h0
   rw[QX (show _/\_ from n3)] at h4
   rw[QX (show _/\_ from n4)] at h6
   subst u h0 h4 h6
   cases h
  rw[QJ h8];refine AB (AT ?_);exact Bg
 have hn:(0<=s.nu/\s.nu<=199)/\D3 s.a/\D3 s.b/\D3 s.c:=by
  simp only[U9,QH] at h;obtain⟨e1,e2,e3,e4⟩:=h;rw[e1] at u;rw[e2] at h0;rw[e3] at h4;rw[e4] at h6;exact⟨of_decide_eq_true u.symm,of_decide_eq_true h0.symm,of_decide_eq_true h4.symm,of_decide_eq_true h6.symm⟩
 clear h q1 q2 q3 q4 u h0 h4 h6
 refine AB (Bv ⟨106,[(1,.pv (sC s)),(3,.I (0:Nat))],[],216⟩ rfl (by simp;exact AZ [] zz) ?_)
 refine AI (An (ι:=Nat) (λ k=>⟨106,[(1,.pv (sC s)),(3,.I k)],[],216⟩) (λ k=>k<=s.li.length /\ ∀ x∈s.li.take k,D3 x) (λ k=>s.li.length - k) 0 ⟨Qk _,zz⟩ (Le.refl _ _) ?_)
 rintro k ⟨hk,hp⟩
 refine AB (Bv ⟨106,[(1,.pv (sC s)),(3,.I k),(30,.B (decide (k<s.li.length)))],[],256⟩ rfl (by simp;exact AZ [] zz) ?_)
 refine AE _ rfl (λ h=>AG ?_) λ h=>Ak (Al ?_)
 .simp only[Qa] at h
  obtain⟨x,hx⟩:∃ x,s.li[k]=x:=⟨_,rfl⟩;have hg:s.li[k]? = some x:=by rw[Qc h,hx]
  obtain⟨b,hb⟩:=AJ (decide (0<=x/\x<=1099511627776));have q:=IS x 1099511627776;rw[<- hb] at q;have hd:=wq (k:=k);refine EL (ι:=Unit) (λ _=>⟨106,[(1,.pv (sC s)),(3,.I k)],[],312⟩) (λ _=>D3 x) ?_ λ _ h9=>?_
  .refine AI (arc ⟨106,[(1,.pv (sC s)),(3,.I k),(39,.B (!b))],[],312⟩ ?_ ?_)
   .simp [hg]
    refine Ah q rfl ?_;simp;exact AZ [] zz
   refine AE _ rfl (λ h5=>?_) λ h5=>AG ?_
   .have h8:¬ GG s:=λ hq=>by
     have:=hq.2.2.2.2.1 x (hx ▸ Qi h);rw[QX (show _/\_ from this)] at hb
     subst hb
     cases h5
    rw[QJ h8];refine AB (AT ?_);exact Bg
   .simp only[U9] at h5
    rw[h5] at hb;exact⟨(),of_decide_eq_true hb.symm,AZ [] zz⟩
  refine Ab rfl ?_;simp[hd];refine⟨k+1,⟨zy,λ y hy=>?_⟩,zy,AZ [] zz⟩
  rw[Qp h,Qm] at hy;rcases hy with hy | hy
  .exact hp y hy
  .rw [Qv.1 hy,hx]
   exact h9
 simp only[Qb] at h;obtain rfl:k=s.li.length:=zy
 rw[Ua] at hp;have ha:GG s↔FF s:=⟨λ hq=>hq.2.2.2.2.2,λ hq=>⟨hn.1,hn.2.1,hn.2.2.1,hn.2.2.2,hp,hq⟩⟩
 have hc:decide (GG s)=decide (FF s):=by
  rw[Qg,Qa,Qa];exact ha
 rw[hc];refine EL (ι:=Unit) (λ _=>⟨106,[],[],1000⟩) (λ _=>FF s) ?_ λ _ h9=>?_
 .refine Bv ⟨106,[(1,.pv (sC s)),(41,.I s.ki)],[],272⟩ rfl (by simp;exact AZ [] zz) ?_
  refine AI (arc ⟨106,[(1,.pv (sC s)),(41,.I s.ki),(42,.B (decide (s.ki=1)))],[],288⟩ ?_ ?_)
  .simp
   exact AZ [] (by simp<;>exact A0 (by rw[Qg];simp))
  refine AE _ rfl (λ h1=>?_) λ h1=>?_
  .simp only[Qa] at h1
   have h7:decide (FF s)=decide (K1 s):=by
    rw[Qg,Qa,Qa];exact⟨λ hq=>hq.1 h1,λ hq=>⟨λ _=>hq,λ h2=>zy,λ h2=>zy⟩⟩
   rw[h7];obtain⟨b,hb⟩:=AJ (decide (0<=s.a/\s.a<64));have q:=OR s.a;rw[<- hb] at q;refine arc ⟨106,[(2,.B (decide (K1 s)))],[],552⟩ ?_ ?_
   .simp
    refine Ah q rfl ?_
    cases b
    .have e:decide (K1 s)=false:=QJ λ hq=>by rw[QX hq.1] at hb;cases hb
     simp[e];exact AZ [] zz
    .have e0:=of_decide_eq_true hb.symm
     have e:decide (K1 s)=decide (s.a≠s.au/\1<=s.b/\s.b<=3/\s.ti<=s.c/\s.c<=2147483648):=by
      rw[Qg,Qa,Qa];exact⟨λ hq=>hq.2,λ hq=>⟨e0,hq⟩⟩
     rw[e]
     by_cases c1:s.a=s.au
     .have c1':(s.a != s.au)=false:=by simp[c1]
      have e2:decide (s.a≠s.au/\1<=s.b/\s.b<=3/\s.ti<=s.c/\s.c<=2147483648)=false:=QJ λ hq=>hq.1 c1;rw[e2];simp[c1'];exact AZ [] zz
     have c1':(s.a != s.au)=true:=by simp[c1]
     have e2:decide (s.a≠s.au/\1<=s.b/\s.b<=3/\s.ti<=s.c/\s.c<=2147483648)=decide (1<=s.b/\s.b<=3/\s.ti<=s.c/\s.c<=2147483648):=by
      rw[Qg,Qa,Qa];exact⟨λ hq=>hq.2,λ hq=>⟨c1,hq⟩⟩
     rw[e2]
     clear c1 e e2
     by_cases c2:1<=s.b
     .by_cases c3:s.b<=3
      .by_cases c4:s.ti<=s.c
       .simp [c1',c2,c3,c4]
        exact AZ [] zz
       .simp [c1',c2,c3,c4]
        exact AZ [] zz
      .simp [c1',c2,c3]
       exact AZ [] zz
     .simp [c1',c2]
      exact AZ [] zz
   exact Bg
  simp only[Qb] at h1;refine arc ⟨106,[(1,.pv (sC s)),(41,.I s.ki),(76,.B (decide (s.ki=2)))],[],304⟩ ?_ ?_
  .simp
   exact AZ [] (by simp<;>exact A0 (by rw[Qg];simp))
  refine AE _ rfl (λ h2=>?_) λ h2=>?_
  .simp only[Qa] at h2
   have h7:decide (FF s)=decide (K2 s):=by
    rw[Qg,Qa,Qa];exact⟨λ hq=>hq.2.1 h2,λ hq=>⟨λ h=>zy,λ _=>hq,λ h=>zy⟩⟩
   rw[h7];obtain⟨b,hb⟩:=AJ (decide (0<=s.a/\s.a<=199));have q:=IS s.a 199;rw[<- hb] at q;refine arc ⟨106,[(2,.B (decide (K2 s)))],[],420⟩ ?_ ?_
   .simp
    refine Ah q rfl ?_
    cases b
    .have e:decide (K2 s)=false:=QJ λ hq=>by rw[QX hq.1] at hb;cases hb
     simp[e];exact AZ [] zz
    .have e0:=of_decide_eq_true hb.symm
     have e:decide (K2 s)=decide (s.b=0/\s.c=0):=by
      rw[Qg,Qa,Qa];exact⟨λ hq=>hq.2,λ hq=>⟨e0,hq⟩⟩
     rw[e]
     by_cases c2:s.b=0
     .have c2':(s.b == 0)=true:=by simp[c2]
      simp[c2'];exact AZ [] (by simp<;>exact A0 (by rw[Qg];simp[c2]))
     .have c2':(s.b == 0)=false:=by simp[c2]
      simp[c2'];exact AZ [] (by simp[c2])
   exact Bg
  simp only[Qb] at h2;refine arc ⟨106,[(1,.pv (sC s)),(41,.I s.ki),(91,.B (decide (s.ki=3)))],[],320⟩ ?_ ?_
  .simp
   exact AZ [] (by simp<;>exact A0 (by rw[Qg];simp))
  refine AE _ rfl (λ h3=>?_) λ h3=>AG ?_
  .simp only[Qa] at h3
   have h7:decide (FF s)=decide (K3 s):=by
    rw[Qg,Qa,Qa];exact⟨λ hq=>hq.2.2 h3,λ hq=>⟨λ h=>zy,λ h=>zy,λ _=>hq⟩⟩
   rw[h7];have e:decide (K3 s)=decide (s.a=0/\s.b=0/\s.c=0):=rfl;rw[e];refine arc ⟨106,[(2,.B (decide (s.a=0/\s.b=0/\s.c=0)))],[],440⟩ ?_ ?_
   .by_cases c1:s.a=0
    .have c1':(s.a == 0)=true:=by simp[c1]
     by_cases c2:s.b=0
     .have c2':(s.b == 0)=true:=by simp[c2]
      simp[c1',c2'];exact AZ [] (by simp<;>exact A0 (by rw[Qg];simp[c1,c2]))
     .have c2':(s.b == 0)=false:=by simp[c2]
      simp[c1',c2'];exact AZ [] (by simp[c2])
    .have c1':(s.a == 0)=false:=by simp[c1]
     simp[c1'];exact AZ [] (by simp[c1])
   exact Bg
  simp only[Qb] at h3;exact⟨(),⟨λ h=>absurd h h1,λ h=>absurd h h2,λ h=>absurd h h3⟩,AZ [] zz⟩
 rw[QX h9];refine AB (AT ?_);exact Bg
theorem Pq (s:AL) (h1:s.li.length<=1000000) (h2:s.pi.length<=1000000):AF 65 [eS s] [] (eS s) []:=by
 refine uY.s.ac ?_;show AY _ 0 _ _ ⟨12,[(0,eS s)],[],16⟩;refine AB (AT ?_);refine AB (Ay (s:=?s1) rfl ?o1 ?q1)
 case o1=>simp[Ae];repeat' apply And.intro
          all_goals first | omega | rfl
 refine AB (Ay (s:=?s2) rfl ?o2 ?q2)
 case o2=>simp[Ae];repeat' apply And.intro
          all_goals first | omega | rfl
 refine AB (Ay (s:=?s3) rfl ?o3 ?q3)
 case o3=>simp[Ae];rfl
 refine Am ⟨.inr rfl,?_⟩;show AO [(2,some (true,13))] 0 _ _ _;refine AO.out (vs:=[.agg [.I s.au,.I s.nu,.sc (.string s.pr),.I s.ti,.I s.ki,.I s.a,.I s.b,.I s.c,.rs 48 0 s.li.length,.rs 88 0 s.pi.length,.sc (.string s.bo),.I s.sk,.sc (.string s.sd)]]) [] [48,88] zz zz zz ?_ zz
 simp[AC,DX]
theorem uM (s:AL) (hs:Cz s):AF 67 [eS s] [] (eS { s with sk:=s.au,sd:=Cd s }) []:=by
 refine cC.s.ac ?_;show AY _ 0 _ _ ⟨12,[(0,eS s)],[],16⟩;have q:=hs.2.2.1;have u:=hs.2.2.2.1;refine AB (AT ?_);refine AB (Ay (s:=?s1) rfl ?o1 ?q1)
 case o1=>simp;refine Ah (Pq s zy zy) zz ?_;simp[Ae];rfl
 refine AB (Hd (s:=?s2) (tr:=?t2) rfl ?o2 ?r2 ?q2)
 case o2=>simp;refine Ah (tS s hs) zz ?_;simp[Ae];constructor<;>rfl
 case r2=>rfl
 refine AB (Ay (s:=?s3) rfl ?o3 ?q3)
 case o3=>simp[Ae];rfl
 refine Am ⟨.inr rfl,?_⟩;show AO [(2,some (true,13))] 0 _ _ _;refine AO.out (vs:=[eS { s with sk:=s.au,sd:=Cd s }]) [] [] zz zz zz ?_ zz
 simp
def I5 (s:AL):Prop:=s.li.length<=64/\s.pi.length<=64/\s.bo.size<=4096
def MS (s:AL):Prop:=(s.nu=0->s.pr.toList=[])/\(0<s.nu->s.pr.size=32)/\He s.pi
def IY (s:AL):Prop:=s.ki<=3->s.li.length=0/\s.pi.length=0/\s.bo.toList=[]
def Jf (s:AL):Prop:=1<=s.ki/\(s.ki<=3∨10<=s.ki)/\s.ki<=31
def JE (s:AL):Prop:=0<=s.au/\s.au<64
def Ji (s:AL):Prop:=0<=s.ti/\s.ti<=2147483648
instance (s:AL):Decidable (JE s):=by unfold JE;infer_instance
instance (s:AL):Decidable (Ji s):=by unfold Ji;infer_instance
instance (s:AL):Decidable (Jf s):=by unfold Jf;infer_instance
instance (s:AL):Decidable (I5 s):=by unfold I5;infer_instance
instance (s:AL):Decidable (IY s):=by unfold IY;infer_instance
def Bz (s:AL):Prop:=JE s/\Jf s/\Ji s/\GG s/\I5 s/\MS s/\IY s
def Dt:Bool->Bool->Bool->Bool->Bool->Bool->Bool->Int
 | false,_,_,_,_,_,_=>4
 | _,false,_,_,_,_,_=>5
 | _,_,false,_,_,_,_=>9
 | _,_,_,false,_,_,_=>2
 | _,_,_,_,false,_,_=>3
 | _,_,_,_,_,false,_=>1
 | _,_,_,_,_,_,false=>1
 | true,true,true,true,true,true,true=>0
open Classical in
theorem rA (s:AL) (h1:s.li.length<=1000000) (h2:s.pi.length<=1000000) (b1 b2 b3 b4 b5 b6 b7:Bool) (ha:b1=decide (JE s)) (u:b2=decide (Jf s)) (hb:b3=decide (Ji s)) (hc:b4=decide (GG s)) (h6:b5=decide (I5 s)) (q:b6=decide (MS s)) (h0:b7=decide (IY s)) :
  AF 68 [eS s] [] (.I (Dt b1 b2 b3 b4 b5 b6 b7)) []:=by
 refine oR.s.ac ?_;show AY _ 0 _ _ ⟨100,[(0,eS s)],[],16⟩;refine arc ⟨100,[(1,.pv (sC s))],[],32⟩ ?_ ?_
 .simp
  exact AZ [16] zz
 refine EL (ι:=Unit) (λ _=>⟨100,[],[],1000⟩) (λ _=>b1=true/\b2=true/\b3=true/\b4=true/\b5=true/\b6=true/\b7=true) ?_ ?_
 .refine AI ?_
  have k1:=OR s.au;rw[show decide (0<=s.au/\s.au<64)=b1 by rw[ha];rfl] at k1
  refine arc ⟨100,[(1,.pv (sC s)),(3,.B (!b1))],[],72⟩ ?_ ?_
  .simp
   refine Ah k1 rfl ?_;simp;exact AZ [] zz
  refine AE _ rfl (λ h=>?_) λ h=>?_
  .obtain rfl:b1=false:=by simpa using h
   refine AB (AT ?_);exact BR (AO.one (by simp[Dt]))
  obtain rfl:b1=true:=by simpa using h
  clear h k1
  refine arc ⟨100,[(1,.pv (sC s)),(8,.B (!b2))],[],224⟩ ?_ ?_
  .by_cases c1:s.ki<1
   .have e:b2=false:=by rw[u];exact QJ λ hq=>by have:=hq.1;omega
    simp[c1,e];exact AZ [] zz
   by_cases c2:3<s.ki
   .by_cases c3:s.ki<10
    .have e:b2=false:=by rw[u];exact QJ λ hq=>by have:=hq.2.1;omega
     simp[c1,c2,c3,e];exact AZ [] zz
    .have e:b2=decide (s.ki<=31):=by
      rw[u,Qg,Qa,Qa];exact⟨λ hq=>hq.2.2,λ hq=>⟨zy,.inr zy,hq⟩⟩
     simp[c1,c2,c3,e];exact AZ [] (by simp<;>exact A0 (by rw[Qg];simp))
   .have e:b2=true:=by rw[u];exact QX ⟨zy,.inl zy,zy⟩
    have c4:¬ 31<s.ki:=zy
    simp[c1,c2,c4,e];exact AZ [] zz
  refine AE _ rfl (λ h=>?_) λ h=>?_
  .obtain rfl:b2=false:=by simpa using h
   refine AB (AT ?_);exact BR (AO.one (by simp[Dt]))
  obtain rfl:b2=true:=by simpa using h
  clear h
  have k3:=IS s.ti 2147483648;rw[show decide (0<=s.ti/\s.ti<=2147483648)=b3 by rw[hb];rfl] at k3
  refine arc ⟨100,[(1,.pv (sC s)),(27,.B (!b3))],[],264⟩ ?_ ?_
  .simp
   refine Ah k3 rfl ?_;simp;exact AZ [] zz
  refine AE _ rfl (λ h=>?_) λ h=>?_
  .obtain rfl:b3=false:=by simpa using h
   refine AB (AT ?_);exact BR (AO.one (by simp[Dt]))
  obtain rfl:b3=true:=by simpa using h
  clear h k3
  have k4:=eL s h1;rw[show decide (GG s)=b4 by rw[hc]] at k4
  refine arc ⟨100,[(1,.pv (sC s)),(32,.B (!b4))],[],296⟩ ?_ ?_
  .simp
   refine Au k4 ?_;simp;exact AZ [] zz
  refine AE _ rfl (λ h=>?_) λ h=>?_
  .obtain rfl:b4=false:=by simpa using h
   refine AB (AT ?_);exact BR (AO.one (by simp[Dt]))
  obtain rfl:b4=true:=by simpa using h
  clear h k4
  refine arc ⟨100,[(1,.pv (sC s)),(36,.B (!b5))],[],432⟩ ?_ ?_
  .by_cases c1:(64:Int)<s.li.length
   .have e:b5=false:=by rw[h6];exact QJ λ hq=>by have:=hq.1;omega
    simp[c1,e];exact AZ [] zz
   by_cases c2:(64:Int)<s.pi.length
   .have e:b5=false:=by rw[h6];exact QJ λ hq=>by have:=hq.2.1;omega
    simp[c1,c2,e];exact AZ [] zz
   .have e:b5=decide (s.bo.size<=4096):=by
     rw[h6,Qg,Qa,Qa];exact⟨λ hq=>hq.2.2,λ hq=>⟨zy,zy,hq⟩⟩
    simp[c1,c2,e];exact AZ [] (by simp<;>exact A0 (by rw[Qg];simp;omega))
  refine AE _ rfl (λ h=>?_) λ h=>?_
  .obtain rfl:b5=false:=by simpa using h
   refine AB (AT ?_);exact BR (AO.one (by simp[Dt]))
  obtain rfl:b5=true:=by simpa using h
  clear h
  obtain⟨bp,h3⟩:=AJ (decide (He s.pi));have k6:=sL s.pi h2;rw[<- h3] at k6;obtain⟨pb,h7⟩:=AJ (s.pr.toList.isEmpty);have h5:pb=true↔s.pr.toList=[]:=by rw[h7];exact List.isEmpty_iff
  refine arc ⟨100,[(1,.pv (sC s)),(53,.B (!b6))],[],640⟩ ?_ ?_
  .by_cases c1:s.nu=0
   .have c1':(s.nu == 0)=true:=by simp[c1]
    have c2:¬ 0<s.nu:=zy
    cases h4:pb
    .have e:b6=false:=by rw[q];exact QJ λ hq=>by have:=h5.2 (hq.1 c1);rw[h4] at this;cases this
     simp[c1',<- h7,h4,e];exact AZ [] zz
    .have e:b6=bp:=by
      rw[q,h3,Qg,Qa,Qa];exact⟨λ hq=>hq.2.2,λ hq=>⟨λ _=>h5.1 h4,λ h=>absurd h c2,hq⟩⟩
     simp[c1',<- h7,h4,e,c2];refine Ah k6 rfl ?_;simp;exact AZ [] zz
   .have c1':(s.nu == 0)=false:=by simp[c1]
    by_cases c2:0<s.nu
    .by_cases c3:(s.pr.size:Int)=32
     .have c3':((s.pr.size:Int) != 32)=false:=by simp[c3]
      have e:b6=bp:=by
       rw[q,h3,Qg,Qa,Qa];exact⟨λ hq=>hq.2.2,λ hq=>⟨λ h=>absurd h c1,λ _=>zy,hq⟩⟩
      simp[c1',c2,c3',e];refine Ah k6 rfl ?_;simp;exact AZ [] zz
     .have c3':((s.pr.size:Int) != 32)=true:=by simp[c3]
      have e:b6=false:=by rw[q];exact QJ λ hq=>by have:=hq.2.1 c2;omega
      simp[c1',c2,c3',e];exact AZ [] zz
    .have e:b6=bp:=by
      rw[q,h3,Qg,Qa,Qa];exact⟨λ hq=>hq.2.2,λ hq=>⟨λ h=>absurd h c1,λ h=>absurd h c2,hq⟩⟩
     simp[c1',c2,e];refine Ah k6 rfl ?_;simp;exact AZ [] zz
  refine AE _ rfl (λ h=>?_) λ h=>?_
  .obtain rfl:b6=false:=by simpa using h
   refine AB (AT ?_);exact BR (AO.one (by simp[Dt]))
  obtain rfl:b6=true:=by simpa using h
  clear h k6
  obtain⟨ob,h8⟩:=AJ (s.bo.toList.isEmpty);have h9:ob=true↔s.bo.toList=[]:=by rw[h8];exact List.isEmpty_iff
  refine arc ⟨100,[(1,.pv (sC s)),(79,.B (!b7))],[],808⟩ ?_ ?_
  .by_cases c1:s.ki<=3
   .by_cases c2:(0:Int)<s.li.length
    .have e:b7=false:=by rw[h0];exact QJ λ hq=>by have:=(hq c1).1;omega
     simp only[Int.natCast_pos] at c2;simp[c1,c2,e];exact AZ [] zz
    by_cases c3:(0:Int)<s.pi.length
    .have e:b7=false:=by rw[h0];exact QJ λ hq=>by have:=(hq c1).2.1;omega
     simp only[Int.natCast_pos] at c2 c3;simp[c1,c2,c3,e];exact AZ [] zz
    .have e:b7=ob:=by
      rw[h0,Qg,Qa,h9];exact⟨λ hq=>(hq c1).2.2,λ hq _=>⟨zy,zy,hq⟩⟩
     simp only[Int.natCast_pos] at c2 c3;simp[c1,c2,c3,e,<- h8];exact AZ [] zz
   .have e:b7=true:=by rw[h0];exact QX λ hq=>absurd hq c1
    simp[c1,e];exact AZ [] zz
  refine AE _ rfl (λ h=>?_) λ h=>AG ?_
  .obtain rfl:b7=false:=by simpa using h
   refine AB (AT ?_);exact BR (AO.one (by simp[Dt]))
  obtain rfl:b7=true:=by simpa using h
  exact⟨(),⟨rfl,rfl,rfl,rfl,rfl,rfl,rfl⟩,AZ [] zz⟩
 .rintro _ ⟨rfl,rfl,rfl,rfl,rfl,rfl,rfl⟩
  refine AB (AT ?_);exact BR (AO.one (by simp[Dt]))
theorem kE {b1 b2 b3 b4 b5 b6 b7:Bool}:Dt b1 b2 b3 b4 b5 b6 b7=0↔b1=true/\b2=true/\b3=true/\b4=true/\b5=true/\b6=true/\b7=true:=by
 cases b1<;>cases b2<;>cases b3<;>cases b4<;>cases b5<;>cases b6<;>cases b7<;>simp[Dt]
open Classical in
theorem dX (s:AL) (h1:s.li.length<=1000000) (h2:s.pi.length<=1000000):∃ e:Int,(e=0↔Bz s)/\AF 68 [eS s] [] (.I e) []:=by
 refine⟨_,?_,rA s h1 h2 _ _ _ _ _ _ _ rfl rfl rfl rfl rfl rfl rfl⟩;rw[kE];simp only[Qa];rfl
structure Ko (au:Int) (i:Nat) (s:AL):Prop where
 ok:Bz s
 b:Cz s
 au_:s.au=au
 nu_:s.nu=i
 sk_:s.sk=s.au
 sd_:s.sd.toList=(Cd s).toList
structure Ju (a b:AL):Prop where
 pr_:b.pr.toList=(Cd a).toList
 ti_:a.ti<=b.ti
 ki_:a.ki≠3
def Fz (au:Int) (l:List AL):Prop:=(∀ i (h:i<l.length),Ko au i l[i]) /\ ∀ i (h:i+1<l.length),Ju l[i] l[i+1]
theorem Kw (l:List AL) (ρ sn h m):(l.map sC).map (List.map (conv ρ sn h (m+1)))=l.map sC:=by simp[AC]
theorem Le.Z1 {st st':St} {z:Nat} {X:List (List AV)} (q:∀ ρ sn h m,X.map (List.map (conv ρ sn h (m+1)))=X) (i j:Nat) (sn:List Nat) (u:st'.sz=st.sz) (hh:st'.h=[(j,some ⟨z,X,0⟩)]) (hi:j<st'.n) (hs:∀ j∈sn,j≠i) (h0:st.hp i=some ⟨z,X,0⟩) (ht:∀ p∈st'.t,Wk (conv [(i,j)] sn st.hp 4 (st.get p.1)) p.2):Le 0 st st' :=
 Le.ren1 i j sn u hh hi hs h0 (by simp only[AX,q]) (Qk _) ht
abbrev DQ:ByteArray:=⟨#[]⟩
def zS:AL:=⟨0,0,DQ,0,0,0,0,0,[],[],DQ,0,DQ⟩
abbrev zC:List AV:=[.I 0,.I 0,.sc (.string DQ),.I 0,.I 0,.I 0,.I 0,.I 0,.sc (.slice none 0 0),.sc (.slice none 0 0),.sc (.string DQ),.I 0,.sc (.string DQ)]
theorem uJ:Wk (.agg zC) (eS zS) :=
 .agg _ _ rfl λ i=>match i with
  | 0=>.refl _ | 1=>.refl _ | 2=>.refl _ | 3=>.refl _ | 4=>.refl _ | 5=>.refl _ | 6=>.refl _ | 7=>.refl _
  | 8=>.nil _ _ | 9=>.nil _ _ | 10=>.refl _ | 11=>.refl _ | 12=>.refl _ | _+13=>.refl _
structure Ac where
 fr:Int
 to:Int
 lv:Int
 nu:Int
 ti:Int
 en:Int
 re:Int
abbrev vC (v:Ac):List AV:=[.I v.fr,.I v.to,.I v.lv,.I v.nu,.I v.ti,.I v.en,.I v.re]
abbrev eV (v:Ac):AV:=.agg (vC v)
abbrev AS (l:List Ac):List (List AV):=l.map vC
abbrev BB (l:List Ac):AV:=.vs 7 false (AS l)
def Gd (aA:List AV):Prop:=∀ ρ sn h n,aA.map (conv ρ sn h (n+1))=aA
def Eb (c:Ac->Ac->Int):List Ac->Ac->List Ac
 | [],x=>[x]
 | y::r,x=>if c x y<0 then y::Eb c r x else x::y::r
def Gi (c:Ac->Ac->Int) (M:List Ac):List Ac:=M.foldl (Eb c) []
def Db (c:Ac->Ac->Int) (M:List Ac):List Ac:=(Gi c M).reverse
theorem M8 (c:Ac->Ac->Int):∀ (r:List Ac) (x:Ac),(Eb c r x).Perm (x::r)
 | [],x=>.refl _
 | y::r,x=>by
   unfold Eb;split
   .exact ((M8 c r x).cons y).trans (.swap _ _ _)
   .exact .refl _
theorem vO (c:Ac->Ac->Int) (M:List Ac) (k:Nat) (h:k<M.length):Gi c (M.take (k+1))=Eb c (Gi c (M.take k)) M[k]:=by
 unfold Gi;rw[<- U1 h,UV,UU];rfl
theorem LG (c:Ac->Ac->Int) (M:List Ac):(Gi c M).Perm M:=by
 have key:∀ (M acc:List Ac),(M.foldl (Eb c) acc).Perm (M++acc):=by
  intro M
  induction M with
  | nil=>intro acc;exact .refl _
  | cons x M ih =>
    intro acc;refine(ih _).trans ?_;refine((M8 c acc x).append_left M).trans ?_;simp only[Uc];exact List.perm_middle
 simpa [Gi] using key M []
theorem LI (c:Ac->Ac->Int) (M:List Ac):(Gi c M).length=M.length:=(LG c M).length_eq
theorem rV (c:Ac->Ac->Int) (x:Ac):Gi c [x]=[x]:=rfl
theorem Le.npV {st st':St} {D:List Ac} (sn:List Nat) (q:st'.sz=st.sz) (hn:1<=st'.n) (hh:st'.h=[(0,some ⟨7,AS D,0⟩)]) (hs:∀ k∈sn,1<=k) (he:st.hp 0=some ⟨7,AS D,0⟩) (ht:∀ p∈st'.t,Wk (conv [(0,0)] sn st.hp 4 (st.get p.1)) p.2):Le 1 st st' :=
 Le.ents [(0,0)] sn q zz zz zw (λ k hk=>⟨hs k hk,by have:=hs k hk;simp;omega⟩) hn ht (λ p hp=>by
  rw[hh] at hp;simp at hp;subst hp
  exact⟨0,_,_,rfl,zz,he,A7.eq (by simp[AC]) zz⟩)
theorem Lw {H T:List Ac} {y x:Ac} {h:Nat} (hh:H.length=h):(AS (H++y::x::T))[h]? = some (vC y)/\(AS (H++y::x::T))[h+1]? = some (vC x):=by
 subst hh;constructor
 .rw [QB,Qr zy]
  simp
 .rw [QB,Qr zy]
  simp
theorem VR {H T:List Ac} {y x:Ac} {h:Nat} (hh:H.length=h):((AS (H++y::x::T)).set (h+1) (vC y)).set h (vC x)=AS (H++x::y::T):=by
 subst hh;simp[AS]
theorem O6 (f:FuncId) (aA:List AV) (c:Ac->Ac->Int) (A M B:List Ac) (n a b:Nat) (hn:(A++M++B).length=n) (ha:A.length=a) (hb:a+M.length=b) (hl:n<=1000000) (hs:Gd aA) (hc:∀ x∈M,∀ y∈M,AF f (eV x::eV y::aA) [] (.I (c x y)) []) :
  AF 230 [.rs 0 0 n,.I a,.I b,.fn (.func f) [] aA] [⟨7,AS (A++M++B),0⟩] (.tup []) [some ⟨7,AS (A++Db c M++B),0⟩]:=by
 have h7:∀ ρ sn h,aA.map (conv ρ sn h 2)=aA:=λ _ _ _=>hs _ _ _ 1
 have h8:∀ ρ sn h,aA.map (conv ρ sn h 3)=aA:=λ _ _ _=>hs _ _ _ 2
 have h3:∀ ρ sn h,aA.map (conv ρ sn h 4)=aA:=λ _ _ _=>hs _ _ _ 3
 refine lZ.s.acalls (Ar rfl) (Ar rfl) (Ar rfl) ?_;show AY _ 1 _ _ ⟨53,[(0,.rs 0 0 n),(1,.I a),(2,.I b),(3,.fn (.func f) [] aA)],[(0,some ⟨7,AS (A++M++B),0⟩)],16⟩
 have a9:a+(M.length+B.length)=n:=by
  simp only[Qe] at hn;omega
 have ai:b<=n:=zy
 have hw:=wq (k:=a)
 let Lk:Nat->List Ac:=λ k=>A++((Gi c (M.take k)).reverse++(M.drop k++B))
 have a0:A++M++B=Lk 1:=by
  cases M with
  | nil=>simp[Lk,Gi]
  | cons m M=>simp[Lk,rV]
 rw[a0];refine arc ⟨53,[(0,.rs 0 0 n),(1,.I a),(2,.I b),(3,.fn (.func f) [] aA),(8,.I (a+1:Nat))],[(0,some ⟨7,AS (Lk 1),0⟩)],40⟩ ?_ ?_
 .simp [hw]
  exact A5
 refine AI (An (ι:=Nat) (λ k=>⟨53,[(0,.rs 0 0 n),(1,.I a),(2,.I b),(3,.fn (.func f) [] aA),(8,.I (a+k:Nat))],[(0,some ⟨7,AS (Lk k),0⟩)],40⟩) (λ k=>1<=k/\k<=M.length+1/\(M.length<=k->AS (Lk k)=AS (A++Db c M++B))) (λ k=>M.length+1 - k) 1 ?_ (Le.refl _ _) ?_)
 .refine ⟨Qf _,zy,λ h=>?_⟩
  simp only[Lk];rw[Qd h,QI h];simp[Db]
 rintro k ⟨am,an,a1⟩
 refine AB (arc ⟨53,[(0,.rs 0 0 n),(1,.I a),(2,.I b),(3,.fn (.func f) [] aA),(8,.I (a+k:Nat)),(14,.B (decide (k<M.length)))],[(0,some ⟨7,AS (Lk k),0⟩)],64⟩ ?_ ?_)
 .simp
  exact Le.keep rfl (Qf _) (by simp<;>omega) zz
 refine AE _ rfl (λ h=>AG ?_) λ h=>Ak (Al ?_)
 .simp only[Qa] at h
  refine Bm ⟨53,[(0,.rs 0 0 n),(1,.I a),(2,.I b),(3,.fn (.func f) [] aA),(8,.I (a+k:Nat))],[(0,some ⟨7,AS (Lk (k+1)),0⟩)],64⟩ ?_ ?_
  .have hx:M[k]∈M:=Qi h
   have hd:M.drop k=M[k]::M.drop (k+1):=QO h;have hf:=vO c M k h;generalize M[k]=x at *;obtain⟨D,hD⟩:=AJ (M.drop (k+1)++B);obtain⟨R,hR⟩:=AJ (Gi c (M.take k))
   have a2:∀ y∈R,y∈M:=λ y hy=>by
    rw[hR] at hy;exact QM ((LG c _).mem_iff.1 hy)
   have hm:R.length=k:=by rw[hR,LI];simp;omega
   have aq:D.length+k+1=M.length+B.length:=by rw[hD];simp;omega
   have a3:Lk k=A++R.reverse++x::D:=by simp only[Lk];rw[hd,<- hR,hD];simp
   have ho:Lk (k+1)=A++(Eb c R x).reverse++D:=by simp only[Lk];rw[hf,<- hR,hD];simp
   rw[a3,ho];refine AI (arc ⟨53,[(0,.rs 0 0 n),(1,.I a),(2,.I b),(3,.fn (.func f) [] aA),(8,.I (a+k:Nat)),(9,.I (a+k:Nat))],[(0,some ⟨7,AS (A++R.reverse++x::D),0⟩)],80⟩ ?_ ?_)
   .simp
    exact A5
   refine AI ?_
   let C:List Ac × List Ac->St:=λ p=>⟨53,[(0,.rs 0 0 n),(1,.I a),(2,.I b),(3,.fn (.func f) [] aA),(8,.I (a+k:Nat)),(9,.I (a+p.2.length:Nat))],[(0,some ⟨7,AS (A++p.2.reverse++x::(p.1++D)),0⟩)],80⟩
   refine An C (λ p:List Ac × List Ac=>Eb c R x=p.1.reverse++Eb c p.2 x/\p.1.length+p.2.length=k /\ ∀ y∈p.2,y∈M) (λ p:List Ac × List Ac=>p.2.length) ([],R) ⟨rfl,by simpa using hm,a2⟩ ?_ ?_
   .simp only[C,hm,Uq]
    exact Le.refl _ _
   rintro⟨U,V⟩ ⟨u,h0,h1⟩
   simp only at u h0 h1
   match V,u,h0,h1 with
   | [],u,h0,h1 =>
     have hC:C (U,[])=⟨53,[(0,.rs 0 0 n),(1,.I a),(2,.I b),(3,.fn (.func f) [] aA),(8,.I (a+k:Nat)),(9,.I a)],[(0,some ⟨7,AS (A++x::(U++D)),0⟩)],80⟩:=by simp[C]
     rw[hC];refine AB (Bi ⟨53,[(0,.rs 0 0 n),(1,.I a),(2,.I b),(3,.fn (.func f) [] aA),(8,.I (a+k:Nat)),(34,.B false)],[(0,some ⟨7,AS (A++x::(U++D)),0⟩)],216⟩ ?_ ?_)
     .simp
      exact⟨rfl,A5⟩
     refine AE _ rfl (λ h=>by cases h) λ h=>Ak (Al ?_)
     have e:A++x::(U++D)=A++(Eb c R x).reverse++D:=by rw[u];simp[Eb]
     rw[<- e];exact Le.npV [] rfl zz rfl zz rfl (by simp[h7,h8,h3])
   | y::V',u,h0,h1 =>
     obtain⟨H,hH⟩:=AJ (A++V'.reverse);obtain⟨T,hT⟩:=AJ (U++D);obtain⟨q,hq⟩:=AJ (a+V'.length);obtain⟨j,hj⟩:=AJ (q+1);have h4:H.length=q:=by rw[hH,hq];simp;omega
     have hr:(H++y::x::T).length=n:=by
      have e:(H++y::x::T).length=H.length+(T.length+2):=zz
      rw[e,h4,hT,Qe];simp at h0;omega
     have hg:=(Lw (T:=T) (y:=y) (x:=x) h4).1;have hh:=(Lw (T:=T) (y:=y) (x:=x) h4).2;have h6:=VR (T:=T) (y:=y) (x:=x) h4;rw[<- hj] at hh h6
     have hC:C (U,y::V')=⟨53,[(0,.rs 0 0 n),(1,.I a),(2,.I b),(3,.fn (.func f) [] aA),(8,.I (a+k:Nat)),(9,.I j)],[(0,some ⟨7,AS (H++y::x::T),0⟩)],80⟩:=by
      simp[C,hH,hT,hj,hq,Uy]
     rw[hC];have a4:=hc x hx y (h1 y Qo);have ht:j<n:=by rw[<- hr,hj,<- h4];simp
     have hi:IntKind.i64.wrap ((j:Int) - 1)=(q:Int):=by rw[w6];omega
     have hu:q<n:=zy
     have a5:a<j:=zy
     have ag:(AS (H++y::x::T)).length=n:=by rw[AS,Qs,hr]
     generalize hX:AS (H++y::x::T)=X at *;have hk:∀ ρ sn h m,X.map (List.map (conv ρ sn h (m+1)))=X:=λ ρ sn h m=>by rw[<- hX];simp[AC]
     refine AB (Bi ⟨53,[(0,.rs 0 0 n),(1,.I a),(2,.I b),(3,.fn (.func f) [] aA),(8,.I (a+k:Nat)),(9,.I j),(34,.B (decide (c x y<0)))],[(0,some ⟨7,X,0⟩)],216⟩ ?_ ?_)
     .simp [a5,ht,hu,hg,hh,hi]
      refine Ah a4 ?_ ?_
      .simp [h3]
      simp;exact⟨rfl,A5⟩
     refine AE _ rfl (λ h5=>AG ?_) λ h5=>Ak (Al ?_)
     .simp only[Qa] at h5
      have a6:(X.set j (vC y))[q]? = some (vC y):=by
       rw[UE,if_neg zy]
       exact hg
      generalize hY:AS (H++x::y::T)=Y at h6;refine Bm ⟨53,[(0,.rs 0 0 n),(1,.I a),(2,.I b),(3,.fn (.func f) [] aA),(8,.I (a+k:Nat)),(9,.I j)],[(0,some ⟨7,Y,0⟩)],360⟩ ?_ ?_
      .refine AI (Cx rfl ?_)
       simp[ht,hu,hg,hh,a6,hi,Ae];exact⟨rfl,Le.keep rfl (Qf _) zz (by simp;exact h6)⟩
      refine Ab rfl ?_;simp[hi];refine⟨y::U,V',⟨?_,?_,?_⟩,?_,?_⟩
      .rw [u,Eb,if_pos h5];simp
      .simp at h0 ⊢;omega
      .exact λ z hz=>h1 z (Qj _ hz)
      .simp
      .have a7:C (y::U,V')=⟨53,[(0,.rs 0 0 n),(1,.I a),(2,.I b),(3,.fn (.func f) [] aA),(8,.I (a+k:Nat)),(9,.I q)],[(0,some ⟨7,Y,0⟩)],80⟩:=by rw[<- hY];simp[C,hH,hT,hq]
       rw[a7];have h9:∀ ρ sn h m,Y.map (List.map (conv ρ sn h (m+1)))=Y:=λ ρ sn h m=>by rw[<- hY];simp[AC]
       exact Le.ents [(0,0)] [] rfl zz zz zz zz zz (by simp[h7,h8,h3]) λ p hp=>by
        simp at hp;subst hp;exact⟨0,_,_,rfl,zz,rfl,A7.eq (by simp only[AX,h9]) zz⟩
     .simp only[Qb] at h5
      have e:H++y::x::T=A++(Eb c R x).reverse++D:=by rw[u,Eb,if_neg h5,hH,hT];simp
      rw[<- e,hX]
      exact Le.ents [(0,0)] [] rfl zz zz zz zz zz (by simp[h7,h8,h3]) λ p hp=>by
       simp at hp;subst hp;exact⟨0,_,_,rfl,zz,rfl,A7.eq (by simp only[AX,hk]) zz⟩
  have a8:IntKind.i64.wrap (((a+k:Nat):Int)+1)=((a+(k+1):Nat):Int):=by rw[w6];omega
  refine Ab rfl ?_;have hv:IntKind.i64.wrap ((a:Int)+(k:Int)+1)=((a+(k+1):Nat):Int):=by rw[<- a8];congr 1
  simp[hv];refine⟨k+1,⟨zy,zy,λ h2=>?_⟩,zy,?_⟩
  .have he:M.length=k+1:=zy
   simp only[Lk];rw[Qd zy,QI zy]
   simp[Db]
  .exact Le.npV [] rfl zz rfl zz rfl (by simp[h7,h8,h3])
 simp only[Qb] at h;rw[a1 zy]
 exact⟨.inl rfl,⟨[],rfl,[],[],by simp[List.range,List.range.loop],zz,zz,zz,by simp[List.range,List.range.loop,AC]⟩⟩
theorem cE (f:FuncId) (aA:List AV) (c:Ac->Ac->Int) (l:List Ac) (n:Nat) (hn:l.length=n) (hl:n<20) (hs:Gd aA) (hc:∀ x∈l,∀ y∈l,AF f (eV x::eV y::aA) [] (.I (c x y)) []) :
  AF 187 [.rs 0 0 n,.I n,.fn (.func f) [] aA] [⟨7,AS l,0⟩] (.tup []) [some ⟨7,AS (Db c l),0⟩]:=by
 have u:∀ ρ sn h,aA.map (conv ρ sn h 2)=aA:=λ _ _ _=>hs _ _ _ 1
 have h0:∀ ρ sn h,aA.map (conv ρ sn h 3)=aA:=λ _ _ _=>hs _ _ _ 2
 have h1:∀ ρ sn h,aA.map (conv ρ sn h 4)=aA:=λ _ _ _=>hs _ _ _ 3
 refine YW.s.acalls (Ar rfl) (Ar rfl) (Ar rfl) ?_;show AY _ 1 _ _ ⟨63,[(0,.rs 0 0 n),(1,.I n),(2,.fn (.func f) [] aA)],[(0,some ⟨7,AS l,0⟩)],16⟩;have q:=O6 f aA c [] l [] n 0 n (by simpa using hn) rfl (by simpa using hn) zy hs hc
 simp only[Uq,QU] at q;refine AB (AT ?_);refine arc ⟨63,[(0,.rs 0 0 n),(1,.I n),(2,.fn (.func f) [] aA),(6,.I 20),(7,.I 0),(8,.I 20)],[(0,some ⟨7,AS l,0⟩)],48⟩ ?_ ?_
 .simp
  exact A5
 refine AB (AI (An (ι:=Unit) (λ _=>⟨63,[(0,.rs 0 0 n),(1,.I n),(2,.fn (.func f) [] aA),(6,.I 20),(7,.I 0),(8,.I 20)],[(0,some ⟨7,AS l,0⟩)],48⟩) (λ _=>True) (λ _=>0) () trivial (Le.refl _ _) ?_));intro _ _;refine AB (arc ⟨63,[(0,.rs 0 0 n),(1,.I n),(2,.fn (.func f) [] aA),(6,.I 20),(7,.I 0),(8,.I 20),(13,.B false)],[(0,some ⟨7,AS l,0⟩)],72⟩ ?_ ?_)
 .simp
  exact Le.keep rfl (Qf _) zw zz
 refine AE _ rfl (λ h=>by cases h) λ _=>Ak (Al ?_)
 refine arc ⟨63,[(1,.I n),(6,.I 20)],[(0,some ⟨7,AS (Db c l),0⟩)],112⟩ ?_ ?_
 .simp
  refine BZ (i:=0) rfl (e':=⟨7,AS l,0⟩) (by simp[AC]) q zz ?_ ?_
  .simp [u,h0,h1]
  simp[AC];exact A5
 refine AI (An (ι:=Unit) (λ _=>⟨63,[(1,.I n),(6,.I 20)],[(0,some ⟨7,AS (Db c l),0⟩)],112⟩) (λ _=>True) (λ _=>0) () trivial (Le.refl _ _) ?_);intro _ _;refine AB (arc ⟨63,[(1,.I n),(6,.I 20),(30,.B false)],[(0,some ⟨7,AS (Db c l),0⟩)],136⟩ ?_ ?_)
 .simp
  exact Le.keep rfl (Qf _) zw zz
 refine AE _ rfl (λ h=>by cases h) λ _=>Ak (Al ?_)
 exact⟨.inl rfl,⟨[],rfl,[],[],by simp[List.range,List.range.loop],zz,zz,zz,by simp[List.range,List.range.loop,AC]⟩⟩
theorem cL (f:FuncId) (aA:List AV) (c:Ac->Ac->Int) (l:List Ac) (n:Nat) (hn:l.length=n) (hl:n<20) (hs:Gd aA) (hc:∀ x∈l,∀ y∈l,AF f (eV x::eV y::aA) [] (.I (c x y)) []) :
  AF 135 [.rs 0 0 n,.fn (.func f) [] aA] [⟨7,AS l,0⟩] (.tup []) [some ⟨7,AS (Db c l),0⟩]:=by
 have q:∀ ρ sn h,aA.map (conv ρ sn h 2)=aA:=λ _ _ _=>hs _ _ _ 1
 have u:∀ ρ sn h,aA.map (conv ρ sn h 3)=aA:=λ _ _ _=>hs _ _ _ 2
 have h0:∀ ρ sn h,aA.map (conv ρ sn h 4)=aA:=λ _ _ _=>hs _ _ _ 3
 refine VQ.s.acalls (Ar rfl) (Ar rfl) (Ar rfl) ?_;show AY _ 1 _ _ ⟨9,[(0,.rs 0 0 n),(1,.fn (.func f) [] aA)],[(0,some ⟨7,AS l,0⟩)],16⟩;refine Ay (s:=?s1) rfl ?o1 ?q1
 case o1 =>
  simp;refine BZ (i:=0) rfl (e':=⟨7,AS l,0⟩) (by simp[AC]) (cE f aA c l n hn hl hs hc) zz ?_ ?_
  .simp [q,u,h0]
  simp[AC];rfl
 exact⟨.inl rfl,⟨[],rfl,[],[],by simp[List.range,List.range.loop],zz,zz,zz,by simp[List.range,List.range.loop,AC]⟩⟩
def Ex (v s:AL) (p:Int × Int):Prop:=s.au=v.au/\s.ki=2/\s.a=v.nu/\v.nu<s.nu/\(p.2<0∨s.nu<p.2)
instance (v s:AL) (p:Int × Int):Decidable (Ex v s p):=by unfold Ex;infer_instance
def HJ (v:AL) (p:Int × Int) (s:AL):Int × Int:=if Ex v s p then (s.ti,s.nu) else p
def C0 (l:List AL) (v:AL):Int × Int:=l.foldl (HJ v) (-1,-1)
def Gs (l:List AL) (v:AL):Int:=(C0 l v).1
theorem aV (l:List AL) (v:AL) (i:Nat) (h:i<l.length):C0 (l.take (i+1)) v=HJ v (C0 (l.take i) v) l[i]:=by
 unfold C0;rw[Qp h,UU];rfl
theorem mP (l:List AL) (v:AL) (hl:l.length<=1000000):AF 134 [Af l,eS v] [] (.I (Gs l v)) []:=by
 refine sH.s.ac ?_;show AY _ 0 _ _ ⟨55,[(0,Af l),(1,eS v)],[],16⟩;refine arc ⟨55,[(0,Af l),(3,.pv (sC v))],[],32⟩ ?_ ?_
 .simp
  exact AZ [16] zz
 refine Bv ⟨55,[(0,Af l),(3,.pv (sC v)),(5,.I (-1)),(6,.I (-1))],[],48⟩ rfl (by simp;exact AZ [] zz) ?_
 refine AB (arc ⟨55,[(3,.pv (sC v)),(5,.I (C0 (l.take 0) v).1),(6,.I (C0 (l.take 0) v).2),(9,Af l),(10,.I l.length),(11,.I (0:Nat))],[],72⟩ ?_ ?_)
 .simp
  exact AZ [] (by simp[C0])
 refine AI (An (ι:=Nat) (λ i=>⟨55,[(3,.pv (sC v)),(5,.I (C0 (l.take i) v).1),(6,.I (C0 (l.take i) v).2),(9,Af l),(10,.I l.length),(11,.I i)],[],72⟩) (λ i=>i<=l.length) (λ i=>l.length - i) 0 (Qk _) (Le.refl _ _) ?_);intro i hi;refine Bv ⟨55,[(3,.pv (sC v)),(5,.I (C0 (l.take i) v).1),(6,.I (C0 (l.take i) v).2),(9,Af l),(10,.I l.length),(11,.I i),(12,.B (decide (i<l.length)))],[],80⟩ rfl (by simp;exact AZ [] zz) ?_
 refine AB (AE _ rfl (λ h=>AG ?_) λ h=>Ak (Al ?_))
 .simp only[Qa] at h
  have q:=wq (k:=i);refine Bm ⟨55,[(3,.pv (sC v)),(5,.I (C0 (l.take (i+1)) v).1),(6,.I (C0 (l.take (i+1)) v).2),(9,Af l),(10,.I l.length),(11,.I i)],[],500⟩ ?_ ?_
  .rw [aV l v i h]
   have hg:l[i]? = some l[i]:=Qc h;generalize l[i]=s at *;generalize C0 (l.take i) v=p at *;obtain⟨pa,pn⟩:=p;obtain⟨r,hr⟩:=AJ (decide (Ex v s (pa,pn)))
   have hst:HJ v (pa,pn) s=if r=true then (s.ti,s.nu) else (pa,pn):=by
    unfold HJ;rw[hr]
    by_cases hq:Ex v s (pa,pn)
    .simp [hq]
    .simp [hq]
   rw[hst];refine AI (arc ⟨55,[(3,.pv (sC v)),(5,.I pa),(6,.I pn),(9,Af l),(10,.I l.length),(11,.I i),(8,.pv (sC s))],[],112⟩ ?_ ?_)
   .simp [hg,Ae]
    exact AZ [96] zz
   refine arc ⟨55,[(3,.pv (sC v)),(5,.I pa),(6,.I pn),(9,Af l),(10,.I l.length),(11,.I i),(8,.pv (sC s)),(48,.B r)],[],400⟩ ?_ ?_
   .by_cases c1:s.au=v.au
    .have c1':(s.au == v.au)=true:=by simp[c1]
     by_cases c2:s.ki=2
     .have c2':(s.ki == 2)=true:=by simp[c2]
      by_cases c3:s.a=v.nu
      .have c3':(s.a == v.nu)=true:=by simp[c3]
       by_cases c4:v.nu<s.nu
       .by_cases c5:pn<0
        .have e:r=true:=by rw[hr];exact QX ⟨c1,c2,c3,c4,.inl c5⟩
         simp[c1',c2',c3',c4,c5,e];exact AZ [] zz
        .have e:r=decide (s.nu<pn):=by
          rw[hr,Qg,Qa,Qa];exact⟨λ hq=>hq.2.2.2.2.resolve_left c5,λ hq=>⟨c1,c2,c3,c4,.inr hq⟩⟩
         simp[c1',c2',c3',c4,c5,e];exact AZ [] zz
       .have e:r=false:=by rw[hr];exact QJ λ hq=>c4 hq.2.2.2.1
        simp[c1',c2',c3',c4,e];exact AZ [] zz
      .have c3':(s.a == v.nu)=false:=by simp[c3]
       have e:r=false:=by rw[hr];exact QJ λ hq=>c3 hq.2.2.1
       simp[c1',c2',c3',e];exact AZ [] zz
     .have c2':(s.ki == 2)=false:=by simp[c2]
      have e:r=false:=by rw[hr];exact QJ λ hq=>c2 hq.2.1
      simp[c1',c2',e];exact AZ [] zz
    .have c1':(s.au == v.au)=false:=by simp[c1]
     have e:r=false:=by rw[hr];exact QJ λ hq=>c1 hq.1
     simp[c1',e];exact AZ [] zz
   refine AE _ rfl (λ h5=>?_) λ h5=>AG ?_
   .rw [if_pos h5]
    refine Cx rfl ?_;simp;exact⟨rfl,AZ [] zz⟩
   .rw [if_neg (by rw[h5];decide)]
    exact AZ [] zz
  refine Ab rfl ?_;simp[q];exact⟨i+1,zy,zy,AZ [] zz⟩
 simp only[Qb] at h;obtain rfl:i=l.length:=zy
 have hf:(C0 (l.take l.length) v).1=Gs l v:=by rw[Ua];rfl
 rw[hf];refine AB (AT ?_);exact Bg
def BF (a b:Ac):Int:=([BH a.fr b.fr,BH a.to b.to,BH a.nu b.nu].find? (· != 0)).getD 0
theorem W6 (a b:Ac):AF 136 [eV a,eV b] [] (.I (BF a b)) []:=by
 refine oW.s.ac ?_;show AY _ 0 _ _ ⟨22,[(0,eV a),(1,eV b)],[],16⟩;refine arc ⟨22,[(2,.pv (vC a)),(3,.pv (vC b))],[],40⟩ ?_ ?_
 .simp
  exact AZ [16,24] zz
 refine Bi ⟨22,[(4,.I (BF a b))],[],184⟩ ?_ ?_
 .simp
  refine Ah (HH a.fr b.fr) rfl ?_;simp;refine Ah (HH a.to b.to) rfl ?_;simp;refine Ah (HH a.nu b.nu) rfl ?_;simp;refine FZ [160] (LJ [BH a.fr b.fr,BH a.to b.to,BH a.nu b.nu] zz) zz (.sc _) ?_
  simp;exact⟨rfl,AZ [] (by simp;exact .refl _)⟩
 exact Bg
def Fj (l:List AL) (s:AL):Ac:=⟨s.au,s.a,s.b,s.nu,s.ti,s.c,Gs l s⟩
def BP (l m:List AL):List Ac:=(m.filter λ s=>decide (s.ki=1)).map (Fj l)
def DV (l:List AL):List Ac:=Db BF (BP l l)
theorem pE (l:List AL) (i:Nat) (h:i<l.length):BP l (l.take (i+1))=BP l (l.take i)++if l[i].ki=1 then [Fj l l[i]] else []:=by
 unfold BP;rw[Qp h,Uz,QN]
 congr 1
 by_cases hk:l[i].ki=1
 .rw [if_pos hk]
  simp[hk]
 .rw [if_neg hk]
  simp[hk]
theorem Mb (l m:List AL):(BP l m).length<=m.length:=by
 unfold BP;rw[Qs];exact QV _ _
theorem Ck (l:List Ac) (ρ sn h m):(AS l).map (List.map (conv ρ sn h (m+1)))=AS l:=by simp[AC]
def HP (l:List AL):Prop:=AF 135 [.rs 0 0 (BP l l).length,.fn (.func 136) [] []] [⟨7,AS (BP l l),0⟩] (.tup []) [some ⟨7,AS (DV l),0⟩]
theorem HP.few {l:List AL} (hn:(BP l l).length<20):HP l:=cL 136 [] BF (BP l l) _ rfl hn (λ ρ sn h n=>rfl) λ x _ y _=>W6 x y
theorem fT (l:List AL) (hl:l.length<=100000) (hn:HP l):AF 86 [Af l] [] (.rs 0 0 (DV l).length) [some ⟨7,AS (DV l),0⟩]:=by
 refine aI.s.ac ?_;show AY _ 0 _ _ ⟨38,[(0,Af l)],[],16⟩;refine Bv ⟨38,[(0,Af l)],[],24⟩ rfl (by simp;exact AZ [] zz) ?_
 refine Bv ⟨38,[(0,Af l),(3,.sc (.slice none 0 0))],[],32⟩ rfl (by simp;exact AZ [] zz) ?_
 refine AB (Bv ⟨38,[(0,Af l),(3,.sc (.slice none 0 0)),(6,Af l),(7,.I l.length),(8,.I (0:Nat))],[],56⟩ rfl (by simp;exact AZ [] zz) ?_)
 refine AI (An (ι:=Nat) (λ i=>⟨38,[(0,Af l),(3,.rs 16 0 (BP l (l.take i)).length),(6,Af l),(7,.I l.length),(8,.I i)],[(16,some ⟨7,AS (BP l (l.take i)),0⟩)],56⟩) (λ i=>i<=l.length) (λ i=>l.length - i) 0 (Qk _) (Le.lst [] [] [(16,7)] rfl zz zz zz zz zz zz zz (by simp[Up,BP]) (by simp[BP])) ?_)
 intro i hi;refine arc ⟨38,[(0,Af l),(3,.rs 16 0 (BP l (l.take i)).length),(6,Af l),(7,.I l.length),(8,.I i),(9,.B (decide (i<l.length)))],[(16,some ⟨7,AS (BP l (l.take i)),0⟩)],64⟩ ?_ ?_
 .simp
  exact A5
 refine AB (AE _ rfl (λ h=>AG ?_) λ h=>Ak (Al ?_))
 .simp only[Qa] at h
  have h3:=wq (k:=i);refine Bm ⟨38,[(0,Af l),(3,.rs 16 0 (BP l (l.take (i+1))).length),(6,Af l),(7,.I l.length),(8,.I i)],[(16,some ⟨7,AS (BP l (l.take (i+1))),0⟩)],500⟩ ?_ ?_
  .rw [pE l i h]
   have hg:l[i]? = some l[i]:=Qc h;have ha:(BP l (l.take i)).length<=100000:=QR (Mb _ _) (by rw[QC];omega)
   generalize l[i]=s at *;generalize BP l (l.take i)=R at *;obtain⟨n,h1⟩:=AJ (R.length);have u:=Ck R;have h4:(AS R).length=n:=by rw[AS,Qs,h1]
   refine AI (arc ⟨38,[(0,Af l),(3,.rs 16 0 R.length),(6,Af l),(7,.I l.length),(8,.I i),(5,.pv (sC s))],[(16,some ⟨7,AS R,0⟩)],96⟩ ?_ ?_)
   .simp [hg,Ae]
    exact Le.Z1 u 16 16 [80] rfl rfl zz zz rfl zz
   refine arc ⟨38,[(0,Af l),(3,.rs 16 0 R.length),(6,Af l),(7,.I l.length),(8,.I i),(5,.pv (sC s)),(14,.B (decide (s.ki=1)))],[(16,some ⟨7,AS R,0⟩)],120⟩ ?_ ?_
   .simp
    exact Le.keep rfl (Qf _) (by simp<;>rw[Qg]<;>simp) zz
   refine AE _ rfl (λ h5=>?_) λ h5=>AG ?_
   .simp only[Qa] at h5
    rw[if_pos h5];have h6:AS (R++[Fj l s])=AS R++[vC (Fj l s)]:=by rw[AS,QN];rfl
    have h7:(R++[Fj l s]).length=n+1:=by rw[Qe,<- h1];rfl
    rw[h6,h7,<- h1];have h0:∀ ρ sn h m,(AS R++[vC (Fj l s)]).map (List.map (conv ρ sn h (m+1)))=AS R++[vC (Fj l s)]:=λ ρ sn h m=>by rw[QN,u];simp
    have h8:vC (Fj l s)=[.I s.au,.I s.a,.I s.b,.I s.nu,.I s.ti,.I s.c,.I (Gs l s)]:=rfl;rw[h8] at h0 ⊢;generalize AS R=X at *;have h2:List.take n X=X:=Qd zy
    refine Cx rfl ?_;simp;refine Au (mP l s zy) ?_
    simp[h4,h2]
    repeat' apply And.intro
    all_goals first | omega | rfl | exact Le.Z1 h0 264 16 [] rfl rfl zz zz (by simp[h2]) zz
   .simp only[Qb] at h5
    rw[if_neg h5,QU];exact Le.keep rfl zz zz zz
  have u:=Ck (BP l (l.take (i+1)));refine Ab rfl ?_;simp[h3];exact⟨i+1,zy,zy,Le.Z1 u 16 16 [] rfl rfl zz zz rfl zz⟩
 simp only[Qb] at h;obtain rfl:i=l.length:=zy
 rw[Ua];have q:=hn;unfold HP at q;have h9:(DV l).length=(BP l l).length:=by unfold DV Db;rw[UT,LI]
 rw[h9];generalize DV l=O at *;generalize BP l l=R at *;refine arc ⟨38,[(3,.rs 16 0 R.length)],[(16,some ⟨7,AS O,0⟩)],80⟩ ?_ ?_
 .simp
  refine BZ (i:=16) rfl (e':=⟨7,AS R,0⟩) (by simp[AC]) q zz zz ?_
  simp[AC];exact A5
 refine AB (AT ?_);exact B3 [16] []
abbrev Cn (l:List Int):List (List AV):=l.map λ n=>[AV.I n]
theorem Ld (l:List Int) (ρ sn h m):(Cn l).map (List.map (conv ρ sn h (m+1)))=Cn l:=by simp[AC]
theorem Le.N1 {st st':St} {z:Nat} {X:List (List AV)} (q:∀ ρ sn h m,X.map (List.map (conv ρ sn h (m+1)))=X) (u:st'.sz=st.sz) (hn:1<=st'.n) (hh:st'.h=[(0,some ⟨z,X,0⟩)]) (he:st.hp 0=some ⟨z,X,0⟩) (ht:∀ p∈st'.t,Wk (conv [(0,0)] [] st.hp 4 (st.get p.1)) p.2):Le 1 st st' :=
 Le.ents [(0,0)] [] u zz zz zw zz hn ht (λ p hp=>by
  rw[hh] at hp;simp at hp;subst hp
  exact⟨0,_,_,rfl,zz,he,A7.eq (by simp only[AX,q]) zz⟩)
theorem dB (z:List Int) (n:Nat) (hn:z.length=n) (hl:n<=1000000) (hz:z.Pairwise (· < ·)):AF 85 [.rs 0 0 n] [⟨1,Cn z,0⟩] (.rs 0 0 n) [some ⟨1,Cn z,0⟩]:=by
 refine bK.s.ai ?_
 have h0:∀ i,(h:i+1<n) -> ∃ a b:Int,(Cn z)[i]? = some [AV.I a]/\(Cn z)[i+1]? = some [AV.I b]/\a<b:=λ i h=>by
  refine⟨z[i],z[i+1],?_,?_,QK.1 hz i (i+1) _ _ zy⟩
  .rw [Cn,QB,Qc zy];rfl
  .rw [Cn,QB,Qc zy];rfl
 have u:=Ld z;have h9:(Cn z).length=n:=by rw[Cn,Qs,hn]
 generalize Cn z=X at *;apply ak [0] [0] 24
 .simp
  rfl
 refine AB (arc ⟨61,[(0,.rs 0 0 n),(8,.B (decide (n<2)))],[(0,some ⟨1,X,0⟩)],48⟩ ?_ ?_)
 .simp
  exact Le.keep rfl (Qf _) (by simp<;>omega) zz
 refine AE _ rfl (λ h=>?_) λ h=>AG ?_
 .refine AB (AT ?_)
  exact BR (AO.k1 rfl zz (by simp[u]))
 simp only[Qb] at h;refine AB (AB (AT ?_));refine AI (An (ι:=Nat) (λ k=>⟨61,[(0,.rs 0 0 n),(3,.I (k+1:Nat))],[(0,some ⟨1,X,0⟩)],56⟩) (λ k=>k+1<=n) (λ k=>n - k) 0 zy ?_ ?_)
 .exact Le.N1 u rfl zz rfl rfl zz
 intro k hk;obtain⟨q,hq⟩:=AJ (k+1);rw[<- hq];refine AB ?_;apply ak [0,3,13] [0] 88
 .simp
  rfl
 refine AE _ rfl (λ h2=>AG ?_) λ h2=>Ak (Al ?_)
 .simp only[Qa] at h2
  obtain⟨a,b,h3,h4,h5⟩:=h0 k zy
  rw[<- hq] at h4;have h1:IntKind.i64.wrap ((q:Int) - 1)=(k:Int):=by rw[w6];omega
  have h6:IntKind.i64.wrap ((q:Int)+1)=((k+1+1:Nat):Int):=by rw[w6];omega
  have h7:(b == a)=false:=zw
  have h8:k<n:=zy
  refine Bm ⟨61,[(0,.rs 0 0 n),(3,.I q)],[(0,some ⟨1,X,0⟩)],168⟩ ?_ ?_
  .refine AI ?_
   apply al [0,3,25] [0] 168
   .simp [h1,h2,h8,h3,h4,h7]
    exact⟨rfl,rfl⟩
   refine AE _ rfl (λ h=>by cases h) λ _=>AG ?_
   exact Le.keep rfl zz zz zz
  refine Ab rfl ?_;simp[h6];exact⟨k+1,zy,zy,Le.N1 u rfl zz rfl rfl zz⟩
 refine AB (AT ?_);exact BR (AO.k1 rfl zz (by simp[u]))
def G6 (t:Int) (s:AL):Prop:=s.ki=3/\s.ti<=t
instance (t:Int) (s:AL):Decidable (G6 t s):=by unfold G6;infer_instance
def CU (l:List AL) (t:Int):List Int:=(l.filter λ s=>decide (G6 t s)).map (·.au)
theorem ZJ (l:List AL) (t:Int) (i:Nat) (h:i<l.length):CU (l.take (i+1)) t=CU (l.take i) t++if G6 t l[i] then [l[i].au] else []:=by
 unfold CU;rw[Qp h,Uz,QN]
 congr 1
 by_cases hk:G6 t l[i]
 .rw [if_pos hk]
  simp[hk]
 .rw [if_neg hk]
  simp[hk]
theorem Nw (l:List AL) (t:Int):(CU l t).length<=l.length:=by
 unfold CU;rw[Qs];exact QV _ _
theorem aM {z:List Int} (hz:z.Pairwise (· < ·)):(z.mergeSort λ x y=>decide (x<=y))=z :=
 List.mergeSort_of_pairwise (hz.imp λ h=>zw)
theorem Y4 (l:List AL) (t:Int) (hl:l.length<=100000) (hz:(CU l t).Pairwise (· < ·)):AF 34 [Af l,.I t] [] (.rs 0 0 (CU l t).length) [some ⟨1,Cn (CU l t),0⟩]:=by
 refine l9.s.ac ?_;show AY _ 0 _ _ ⟨33,[(0,Af l),(1,.I t)],[],16⟩;refine Bv ⟨33,[(0,Af l),(1,.I t)],[],24⟩ rfl (by simp;exact AZ [] zz) ?_
 refine Bv ⟨33,[(0,Af l),(1,.I t),(5,.sc (.slice none 0 0))],[],32⟩ rfl (by simp;exact AZ [] zz) ?_
 refine AB (Bv ⟨33,[(1,.I t),(5,.sc (.slice none 0 0)),(8,Af l),(9,.I l.length),(10,.I (0:Nat))],[],56⟩ rfl (by simp;exact AZ [] zz) ?_)
 refine AI (An (ι:=Nat) (λ i=>⟨33,[(1,.I t),(5,.rs 16 0 (CU (l.take i) t).length),(8,Af l),(9,.I l.length),(10,.I i)],[(16,some ⟨1,Cn (CU (l.take i) t),0⟩)],56⟩) (λ i=>i<=l.length) (λ i=>l.length - i) 0 (Qk _) (Le.lst [] [] [(16,1)] rfl zz zz zz zz zz zz zz (by simp[Up,CU]) (by simp[CU])) ?_)
 intro i hi;refine arc ⟨33,[(1,.I t),(5,.rs 16 0 (CU (l.take i) t).length),(8,Af l),(9,.I l.length),(10,.I i),(11,.B (decide (i<l.length)))],[(16,some ⟨1,Cn (CU (l.take i) t),0⟩)],64⟩ ?_ ?_
 .simp
  exact A5
 refine AB (AE _ rfl (λ h=>AG ?_) λ h=>Ak (Al ?_))
 .simp only[Qa] at h
  have h4:=wq (k:=i);refine Bm ⟨33,[(1,.I t),(5,.rs 16 0 (CU (l.take (i+1)) t).length),(8,Af l),(9,.I l.length),(10,.I i)],[(16,some ⟨1,Cn (CU (l.take (i+1)) t),0⟩)],500⟩ ?_ ?_
  .rw [ZJ l t i h]
   have hg:l[i]? = some l[i]:=Qc h;have ha:(CU (l.take i) t).length<=100000:=QR (Nw _ _) (by rw[QC];omega)
   generalize l[i]=s at *;generalize CU (l.take i) t=R at *;obtain⟨n,h0⟩:=AJ (R.length);have u:=Ld R;have h6:(Cn R).length=n:=by rw[Cn,Qs,h0]
   refine AI (arc ⟨33,[(1,.I t),(5,.rs 16 0 R.length),(8,Af l),(9,.I l.length),(10,.I i),(7,.pv (sC s))],[(16,some ⟨1,Cn R,0⟩)],96⟩ ?_ ?_)
   .simp [hg,Ae]
    exact Le.Z1 u 16 16 [80] rfl rfl zz zz rfl zz
   refine arc ⟨33,[(1,.I t),(5,.rs 16 0 R.length),(8,Af l),(9,.I l.length),(10,.I i),(7,.pv (sC s)),(22,.B (decide (G6 t s)))],[(16,some ⟨1,Cn R,0⟩)],168⟩ ?_ ?_
   .by_cases c1:s.ki=3
    .have c1':(s.ki == 3)=true:=by simp[c1]
     have e:decide (G6 t s)=decide (s.ti<=t):=by
      rw[Qg,Qa,Qa];exact⟨λ hq=>hq.2,λ hq=>⟨c1,hq⟩⟩
     simp[c1',e];exact A5
    .have c1':(s.ki == 3)=false:=by simp[c1]
     have e:decide (G6 t s)=false:=QJ λ hq=>c1 hq.1;simp[c1',e];exact A5
   refine AE _ rfl (λ h5=>?_) λ h5=>AG ?_
   .simp only[Qa] at h5
    rw[if_pos h5];have h7:Cn (R++[s.au])=Cn R++[[AV.I s.au]]:=by rw[Cn,QN];rfl
    have h8:(R++[s.au]).length=n+1:=by rw[Qe,<- h0];rfl
    rw[h7,h8,<- h0];have h2:∀ ρ sn h m,(Cn R++[[AV.I s.au]]).map (List.map (conv ρ sn h (m+1)))=Cn R++[[AV.I s.au]]:=λ ρ sn h m=>by rw[QN,u];simp
    generalize Cn R=X at *;have h3:List.take n X=X:=Qd zy
    refine Ab rfl ?_;simp[h6,h3]
    repeat' apply And.intro
    all_goals first | omega | exact Le.Z1 h2 200 16 [] rfl rfl zz zz (by simp[h3]) zz
   .simp only[Qb] at h5
    rw[if_neg h5,QU];exact Le.keep rfl zz zz zz
  have u:=Ld (CU (l.take (i+1)) t);refine Ab rfl ?_;simp[h4];exact⟨i+1,zy,zy,Le.Z1 u 16 16 [] rfl rfl zz zz rfl zz⟩
 simp only[Qb] at h;obtain rfl:i=l.length:=zy
 rw[Ua];have hb:=Nw l t;generalize CU l t=R at *;have q:=PY R zy
 rw[aM hz] at q;have h1:=dB R R.length rfl zy hz
 have h9:Dm R=Cn R:=rfl;rw[h9] at q;refine arc ⟨33,[(5,.rs 16 0 R.length)],[(16,some ⟨1,Cn R,0⟩)],80⟩ ?_ ?_
 .simp
  refine BZ (i:=16) rfl (e':=⟨1,Cn R,0⟩) (by simp[AC]) q zz zz ?_
  simp[AC];exact A5
 refine arc ⟨33,[(4,.rs 16 0 R.length)],[(16,some ⟨1,Cn R,0⟩)],104⟩ ?_ ?_
 .simp
  refine BZ (i:=16) rfl (e':=⟨1,Cn R,0⟩) (by simp[AC]) h1 zz zz ?_
  simp[AC];exact A5
 exact B3 [16] []
def GZ (v:Ac) (g:List Int) (t:Int):Prop:=v.ti<=t/\t<v.en/\(v.re<0∨t<v.re)/\v.fr∉g/\v.to∉g
instance (v:Ac) (g:List Int) (t:Int):Decidable (GZ v g t):=by unfold GZ;infer_instance
theorem fC (v:Ac) (g:List Int) (t:Int) (hl:g.length<=1000000):AF 87 [eV v,AA g,.I t] [] (.B (decide (GZ v g t))) []:=by
 refine uS.s.ac ?_;show AY _ 0 _ _ ⟨42,[(0,eV v),(1,AA g),(2,.I t)],[],16⟩;refine arc ⟨42,[(1,AA g),(2,.I t),(3,.pv (vC v))],[],32⟩ ?_ ?_
 .simp
  exact AZ [16] zz
 obtain⟨r,hr⟩:=AJ (decide (GZ v g t));rw[<- hr];obtain⟨b1,u⟩:∃ b,b=decide (v.fr∈g):=⟨_,rfl⟩;obtain⟨b2,h0⟩:∃ b,b=decide (v.to∈g):=⟨_,rfl⟩;have k1:=I7 g v.fr zy
 have k2:=I7 g v.to zy
 rw[<- u] at k1;rw[<- h0] at k2;refine arc ⟨42,[(6,.B r)],[],400⟩ ?_ ?_
 .by_cases c1:v.ti<=t
  .by_cases c2:t<v.en
   .by_cases c3:v.re<0∨t<v.re
    .have q:r=(!b1 && !b2):=by
      rw[hr,u,h0,Qg];simp[GZ,c1,c2,c3]
     rcases Classical.em (v.re<0) with c4 | c4
     .simp [c1,c2,c4]
      refine Ah k1 rfl ?_
      cases b1
      .simp
       refine Ah k2 rfl ?_;simp;exact AZ [] (by simp[q])
      .simp
       exact AZ [] (by simp[q])
     .have c5:t<v.re:=c3.resolve_left c4
      simp[c1,c2,c4,c5];refine Ah k1 rfl ?_
      cases b1
      .simp
       refine Ah k2 rfl ?_;simp;exact AZ [] (by simp[q])
      .simp
       exact AZ [] (by simp[q])
    .have e:r=false:=by rw[hr];exact QJ λ hq=>c3 hq.2.2.1
     have c4:¬ v.re<0:=λ h=>c3 (.inl h);have c5:¬ t<v.re:=λ h=>c3 (.inr h);simp[c1,c2,c4,c5,e];exact AZ [] zz
   .have e:r=false:=by rw[hr];exact QJ λ hq=>c2 hq.2.1
    simp[c1,c2,e];exact AZ [] zz
  .have e:r=false:=by rw[hr];exact QJ λ hq=>c1 hq.1
   simp[c1,e];exact AZ [] zz
 exact Bg
end Go.Proofs.YtkabgnlcllmleaaGreat
