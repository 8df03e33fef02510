/- Texts of this claim,merged. -/
import Derived.Test.YtkngdgplbojdlaaGreatRx4
import Derived.ChangeArms
import Derived.Carry
import Derived.OpenShut
import Derived.WalkKit
import Derived.ProofKit
import Derived.Test.YtkngdgplbojdlaaGreatRx1
set_option linter.unusedSimpArgs false
set_option linter.unusedVariables false
set_option linter.unusedSectionVars false
namespace Go.Proofs.YtkngdgplbojdlaaGreat
open Go
def Up (nl : List (Nat × Nat)) (x y : AV) : Prop:=Wk x y∨(x = .nilS /\ ∃ id s,y = .rs id 0 0/\(id,s)∈nl)
def UpL (nl : List (Nat × Nat)) : List AV->List AV->Prop
 | [],[]=>True
 | x::xs,y::ys=>Up nl x y/\UpL nl xs ys
 | _,_=>False
theorem UpL.length {nl : List (Nat × Nat)} : ∀ {xs ys : List AV},UpL nl xs ys->xs.length=ys.length
 | [],[],_=>rfl
 | _::_,_::_,h=>by simp [UpL.length h.2]
 | [],_::_,h=>False.elim h
 | _::_,[],h=>False.elim h
theorem UpL.get {nl : List (Nat × Nat)} : ∀ {xs ys : List AV},UpL nl xs ys -> ∀ i : Nat,i<xs.length->Up nl (xs.getD i .dead) (ys.getD i .dead)
 | x::xs,y::ys,h,0,_=>h.1
 | x::xs,y::ys,h,i+1,hi=>by simpa using UpL.get h.2 i (by simpa using hi)
 | [],[],_,i,hi=>absurd hi (by simp)
 | [],_::_,h,_,_=>False.elim h
 | _::_,[],h,_,_=>False.elim h
def zaN (nl : List (Nat × Nat)) (e e' : Ent) : Prop :=
 e'.s=e.s/\e.ro<=e'.ro/\e'.ro<=e'.rows.length/\(e'.rows=e.rows∨(e.s≠0/\e.rows.length=e'.rows.length /\ ∀ i,UpL nl (e.rows.getD i []) (e'.rows.getD i [])))
theorem Le.mk {np : Nat} {st st' : St} (ρ : List (Nat × Nat)) (sn : List Nat) (nl : List (Nat × Nat)) (hsz : st'.sz=st.sz)
  (h0 : (ρ.map (·.1)).Nodup) (h1 : (ρ.map (·.2)).Nodup) (h2 : ∀ p∈ρ,p.2<st'.n/\(p.2<np->p.1=p.2)) (h3 : ∀ p∈nl,np<=p.1/\p.1<st'.n/\p.1∉ρ.map (·.2)/\p.2≠0) (h4 : ∀ i∈sn,np<=i/\i∉ρ.map (·.1)) (h5 : np<=st'.n) (h6 : (nl.map (·.1)).Nodup)
  (ht : ∀ i,Up nl (conv ρ sn st.hp 4 (st.get i)) (st'.get i))
  (hh : ∀ id' e',st'.hp id'=some e'->(∃ id e,(id,id')∈ρ/\st.hp id=some e/\zaN nl (zay ρ sn st.hp 4 e) e')∨((id',e'.s)∈nl/\e'.rows=[]/\e'.ro=0)) : Le np st st':=by
 intro T0 M0 w0 T M a w ok hn;obtain ⟨T1,hT1,htok1,hsnap,hsame⟩:=zoP ok.hs ok.after.tok sn
 let M' : GM:=λ j=>if j<np then M j else match lkp nl j with
  | some s=>some ⟨none,0,s⟩
  | none=>match lkp (ρ.map λ p=>(p.2,p.1)) j with
    | some i=>M i
    | none=>none
 have hlow : ∀ j,j<np->M' j=M j:=λ j hj=>if_pos hj
 have hnil : ∀ j s,(j,s)∈nl->M' j=some ⟨none,0,s⟩:=by
  intro j s hjs;have hnp:=(h3 _ hjs).1
  have hl : lkp nl j=some s:=by
   cases hl : lkp nl j with
   | none=>exact absurd hjs (zj5 hl s)
   | some s' =>
     have:=zb7 hl
     have key : ∀ (l : List (Nat × Nat)),(l.map (·.1)).Nodup->(j,s)∈l->(j,s')∈l->s=s':=by
      intro l
      induction l with
      | nil=>intro _ h; simp at h
      | cons p l ih =>
        intro hnd ha hb;simp only [List.map_cons,List.nodup_cons,List.mem_map,not_exists,not_and] at hnd;rcases List.mem_cons.1 ha with ha | ha <;> rcases List.mem_cons.1 hb with hb | hb
        .rw [<- ha] at hb; cases hb; rfl
        .exact absurd (by rw [<- ha]) (hnd.1 _ hb)
        .exact absurd (by rw [<- hb]) (hnd.1 _ ha)
        .exact ih hnd.2 ha hb
     rw [key nl h6 hjs this]
  show (if j<np then M j else _)=_
  rw [if_neg (by omega),hl]
 have hmap : ∀ i j,(i,j)∈ρ->M' j=M i:=by
  intro i j hij
  by_cases hj : j<np
  .have h:=(h2 _ hij).2 hj
   simp only at h;rw [hlow j hj,h]
  .have hnl : lkp nl j=none:=by
    cases hl : lkp nl j with
    | none=>rfl
    | some s=>exact absurd (List.mem_map.2 ⟨_,hij,rfl⟩) (h3 _ (zb7 hl)).2.2.1
   have hinv : lkp (ρ.map λ p=>(p.2,p.1)) j=some i:=by
    cases hl : lkp (ρ.map λ p=>(p.2,p.1)) j with
    | none=>exact absurd (List.mem_map.2 ⟨_,hij,rfl⟩) (zj5 hl i)
    | some i' =>
      have:=zb7 hl;simp only [List.mem_map,Prod.mk.injEq] at this;obtain ⟨⟨p1,p2⟩,hp,rfl,rfl⟩:=this
      have key : ∀ (l : List (Nat × Nat)),(l.map (·.2)).Nodup->(p1,p2)∈l->(i,p2)∈l->p1=i:=by
       intro l
       induction l with
       | nil=>intro _ h; simp at h
       | cons p l ih =>
         intro hnd ha hb;simp only [List.map_cons,List.nodup_cons,List.mem_map,not_exists,not_and] at hnd;rcases List.mem_cons.1 ha with ha | ha <;> rcases List.mem_cons.1 hb with hb | hb
         .rw [<- ha] at hb; cases hb; rfl
         .exact absurd (by rw [<- ha]) (hnd.1 _ hb)
         .exact absurd (by rw [<- hb]) (hnd.1 _ ha)
         .exact ih hnd.2 ha hb
      rw [key ρ h1 hp hij]
   show (if j<np then M j else _)=_
   rw [if_neg hj,hnl,hinv]
 have hM'some : ∀ j g,M' j=some g->j<np∨(∃ s,(j,s)∈nl/\g=⟨none,0,s⟩) ∨ ∃ i,(i,j)∈ρ/\M i=some g:=by
  intro j g hg
  by_cases hj : j<np
  .exact .inl hj
  .right
   have hg' : (if j<np then M j else match lkp nl j with
    | some s=>some ⟨none,0,s⟩
    | none=>match lkp (ρ.map λ p=>(p.2,p.1)) j with
      | some i=>M i
      | none=>none)=some g:=hg
   rw [if_neg hj] at hg'
   cases hl : lkp nl j with
   | some s =>
     rw [hl] at hg';exact .inl ⟨s,zb7 hl,(Option.some.inj hg').symm⟩
   | none =>
     rw [hl] at hg'
     cases hr : lkp (ρ.map λ p=>(p.2,p.1)) j with
     | none=>rw [hr] at hg'; cases hg'
     | some i =>
       rw [hr] at hg';have:=zb7 hr;simp only [List.mem_map,Prod.mk.injEq] at this;obtain ⟨⟨p1,p2⟩,hp,rfl,rfl⟩:=this;exact .inr ⟨_,hp,hg'⟩
 have hcv:=λ x v hr=>zjU (Mc:=M') (x:=x) (v:=v) ok.hs sn hT1 hsnap 4 ρ (λ id k hl=>hmap id k (zb7 hl)) hr
 have hup : ∀ x y v,Up nl x y->Rep T1 w M' x v->Rep T1 w M' y v:=by
  rintro x y v (h | ⟨rfl,id,s,rfl,hin⟩) hr
  .exact h.rep hr
  .cases hr
   exact .rs _ _ 0 0 0 none _ (hnil id s hin) (h3 _ hin).2.2.2 (Nat.le_refl _) (λ _=>⟨rfl,rfl⟩) λ b hb=>by cases hb
 have hT1keep : ∀ id e g b,id∉sn->st.hp id=some e->M id=some g->g.blk=some b->T1 b=T b:=by
  intro id e g b h1 h2 h3 h4;refine hsame b λ i hi e' g' h5 h6 h7=>?_;have:=ok.hs.inj id i e e' g g' b h2 h5 h3 h6 h4 h7;subst this;exact h1 hi
 refine ⟨T1,M',⟨ok.sz.trans hsz.symm,ok.df,λ i=>hup _ _ _ (ht i) (hcv _ _ (ok.tm i)),⟨λ id' e' he'=>?_,λ i i' e1 e2 g g' b q1 q2 q3 q4 q5 q6=>?_⟩,λ j g hg=>?_,?_⟩,h5⟩
 .rcases hh id' e' he' with ⟨id,e,hin,he,u1,u2,u3,u4⟩ | ⟨hin,hr,hro⟩
  .obtain ⟨g,hg,ent⟩:=ok.hs.ent id e he
   have hsn' : id∉sn:=λ hi=>(h4 id hi).2 (List.mem_map.2 ⟨_,hin,rfl⟩)
   have hlen : e'.rows.length=e.rows.length:=by
    rcases u4 with u4 | ⟨_,v1,_⟩
    .rw [u4]; simp [zay]
    .rw [<- v1]; simp [zay]
   have hrow0 : ∀ i,(zay ρ sn st.hp 4 e).rows.getD i []=(e.rows.getD i []).map (conv ρ sn st.hp 4):=λ i=>by
    simp only [zay,List.getD,List.getElem?_map]
    cases e.rows[i]? <;> rfl
   have hwid' : e.s≠0 -> ∀ r∈e'.rows,r.length=e.s:=λ hz r hr=>by
    rcases u4 with u4 | ⟨_,v1,v3⟩
    .rw [u4] at hr
     simp only [zay,List.mem_map] at hr;obtain ⟨r0,hr0,rfl⟩:=hr;rw [List.length_map];exact ent.wide hz r0 hr0
    .obtain ⟨i,hi,rfl⟩:=List.mem_iff_getElem.1 hr
     have h1:=(v3 i).length;rw [hrow0,List.length_map] at h1;have e1 : e'.rows.getD i []=e'.rows[i]:=by simp [List.getD,hi]
     have hi' : i<e.rows.length:=by omega
     have e2 : e.rows.getD i []=e.rows[i]:=by simp [List.getD,hi']
     rw [e1,e2] at h1;rw [<- h1];exact ent.wide hz _ (List.getElem_mem hi')
   have hcell : e.s≠0 -> ∀ i j,i<e.rows.length->j<e.s->Up nl (conv ρ sn st.hp 4 ((e.rows.getD i []).getD j .dead)) ((e'.rows.getD i []).getD j .dead):=by
    intro hz i j hi hj
    have e1 : ((zay ρ sn st.hp 4 e).rows.getD i []).getD j .dead=conv ρ sn st.hp 4 ((e.rows.getD i []).getD j .dead):=by
     rw [hrow0,zbn _ (zc7 _ _ _ _)]
    rcases u4 with u4 | ⟨_,v1,v3⟩
    .rw [u4,e1]; exact .inl (.refl _)
    .rw [<- e1]
     refine (v3 i).get j ?_;rw [hrow0,List.length_map];have e2 : e.rows.getD i []=e.rows[i]:=by simp [List.getD,hi]
     rw [e2,ent.wide hz _ (List.getElem_mem hi)];exact hj
   have hes : e'.s=e.s:=u1;refine ⟨g,(hmap id id' hin).trans hg,ent.s.trans (by rw [u1]; rfl),u3,λ hz r hr=>?_,λ hn=>?_,λ hz=>?_,λ hz b hbk=>?_⟩
   .rw [hes]
    exact hwid' (hes ▸ hz) r hr
   .have:=ent.none hn
    rw [this] at hlen;exact List.eq_nil_of_length_eq_zero (by simpa using hlen)
   .obtain ⟨b,es,clock,hbb,q1,q2,q3,q4⟩:=ent.mp (hes ▸ hz)
    have hrows : e'.rows=(zay ρ sn st.hp 4 e).rows:=by
     rcases u4 with u4 | ⟨v0,_⟩
     .exact u4
     .exact absurd (hes ▸ hz) v0
    refine ⟨b,es,clock,hbb,q1,by rw [hT1keep id e g b hsn' he hg hbb]; exact q2,q3,?_⟩
    rw [hrows];exact q4.map (λ _=>rfl) λ row _ x _ v hr=>hcv x v hr
   .obtain ⟨cells,ty,p1,p2,p3,p4⟩:=ent.blk (hes ▸ hz) b hbk
    refine ⟨cells,ty,p1,?_,by rw [hlen,hes]; exact p3,λ i j hi hj=>?_⟩
    .rw [hT1keep id e g b hsn' he hg hbk,hes]
     have : e.ro*e.s<=e'.ro*e.s:=Nat.mul_le_mul_right _ u2;omega
    .rw [hlen] at hi
     rw [hes] at hj ⊢;obtain ⟨u,hu,ho,hru⟩:=p4 i j hi hj;exact ⟨u,hu,ho,hup _ _ _ (hcell (hes ▸ hz) i j hi hj) (hcv _ _ hru)⟩
  .refine ⟨_,hnil _ _ hin,rfl,by rw [hro]; exact Nat.zero_le _,(λ _=>by rw [hr]; simp),(λ _=>hr),(λ hz=>absurd hz (h3 _ hin).2.2.2),λ _ b hb=>by cases hb⟩
 .have hold : ∀ i e1 g b,st'.hp i=some e1->M' i=some g->g.blk=some b -> ∃ id e,(id,i)∈ρ/\st.hp id=some e/\M id=some g:=by
   intro i e1 g b p1 p2 p3;rcases hh i e1 p1 with ⟨id,e,hin,he,_⟩ | ⟨hin,_⟩
   .exact ⟨id,e,hin,he,(hmap id i hin).symm.trans p2⟩
   .rw [hnil _ _ hin] at p2
    obtain rfl:=Option.some.inj p2
    cases p3
  obtain ⟨i1,ea,r1,r2,r3⟩:=hold i e1 g b q1 q3 q5;obtain ⟨i2,eb,s1,s2,s3⟩:=hold i' e2 g' b q2 q4 q6;have:=ok.hs.inj i1 i2 ea eb g g' b r2 s2 r3 s3 q5 q6;subst this
  .
   have key : ∀ (l : List (Nat × Nat)),(l.map (·.1)).Nodup->(i1,i)∈l->(i1,i')∈l->i=i':=by
    intro l
    induction l with
    | nil=>intro _ h; simp at h
    | cons p l ih =>
      intro hnd ha hb;simp only [List.map_cons,List.nodup_cons,List.mem_map,not_exists,not_and] at hnd;rcases List.mem_cons.1 ha with ha | ha <;> rcases List.mem_cons.1 hb with hb | hb
      .rw [<- ha] at hb; cases hb; rfl
      .exact absurd (by rw [<- ha]) (hnd.1 _ hb)
      .exact absurd (by rw [<- hb]) (hnd.1 _ ha)
      .exact ih hnd.2 ha hb
   exact key ρ h0 r1 s1
 .rcases hM'some j g hg with h | ⟨s,h,_⟩ | ⟨i,h,_⟩
  .show j<st'.n; omega
  .exact (h3 _ h).2.1
  .exact (h2 _ h).1
 .refine ok.after.step htok1 (λ b hb hnp=>?_) (λ k hk=>hlow k hk) rfl rfl rfl (Nat.le_refl _) (λ _ _ _=>rfl) ⟨hT1,λ b cells ty fz h=>⟨cells,fz,h,rfl,λ _ _=>rfl⟩⟩ λ k g b hk hg hbb=>?_
  .refine hsame b λ i hi e g q1 q2 q3=>?_
   exact (ok.after.blk q2 q3).elim hnp (by omega)
  .rcases hM'some k g hg with h | ⟨s,h,rfl⟩ | ⟨i,h,hgi⟩
   .omega
   .cases hbb
   .rcases Nat.lt_or_ge i np with hlt | hge
    .exact .inl ⟨i,g,hlt,(ok.after.same i hlt).symm.trans hgi,hbb⟩
    .exact ok.after.new i g b hge hgi hbb
theorem Le.refl (np : Nat) (st : St) : Le np st st:=λ _ _ _ T M _ _ ok hn=>⟨T,M,ok,hn⟩
theorem zvk {P : Program} {np id : Nat} {op : AOp} {xs : List AV} {h : Nat->Option Ent} {K1 K2 : AV->List Nat->List (Nat × Option Ent)->Prop} (hk : ∀ a b c,K1 a b c->K2 a b c) : aK P np id op xs h K1->aK P np id op xs h K2:=by
 by_cases happ : ∃ s b x y,op = .app s b/\xs=[x,y]/\¬ ∃ i o l c,x=AV.rk i o l c
 .obtain ⟨s,b,x,y,rfl,rfl,hx⟩:=happ
  simp only [zom hx]
  rintro ⟨a,b,c,d,e,f,hk'⟩
  exact ⟨a,b,c,d,e,f,hk _ _ _ hk'⟩
 unfold aK;split <;> intro hx
 all_goals first
  | (exfalso; exact happ ⟨_,_,_,_,rfl,rfl,λ ⟨_,_,_,_,e⟩=>by subst e; simp_all⟩)
  | exact hx
  | exact hk _ _ _ hx
  | skip
 all_goals try (obtain ⟨a1,hx⟩:=hx; first | exact ⟨a1,hk _ _ _ hx⟩ | skip)
 all_goals try (obtain ⟨a2,hx⟩:=hx; first | exact ⟨a1,a2,hk _ _ _ hx⟩ | skip)
 all_goals try (obtain ⟨a3,hx⟩:=hx; first | exact ⟨a1,a2,a3,hk _ _ _ hx⟩ | skip)
 all_goals try (obtain ⟨a4,hx⟩:=hx; first | exact ⟨a1,a2,a3,a4,hk _ _ _ hx⟩ | skip)
 all_goals try (obtain ⟨a5,hx⟩:=hx; first | exact ⟨a1,a2,a3,a4,a5,hk _ _ _ hx⟩ | skip)
 all_goals try (obtain ⟨a6,hx⟩:=hx; first | exact ⟨a1,a2,a3,a4,a5,a6,hk _ _ _ hx⟩ | skip)
 all_goals try (obtain ⟨a7,hx⟩:=hx; first | exact ⟨a1,a2,a3,a4,a5,a6,a7,hk _ _ _ hx⟩ | skip)
 all_goals try (obtain ⟨a8,hx⟩:=hx; first | exact ⟨a1,a2,a3,a4,a5,a6,a7,a8,hk _ _ _ hx⟩ | skip)
 all_goals try exact ⟨a1,a2,a3,a4,a5,a6,a7,a8,hx.1,hk _ _ _ hx.2⟩
 .obtain ⟨h1,h2,hx⟩:=hx
  refine ⟨a1,a2,a3,a4,a5,a6,a7,a8,h1,h2,?_⟩;split at hx
  .exact ⟨hx.1,hx.2.1,hx.2.2.1,hk _ _ _ hx.2.2.2⟩
  .exact ⟨hx.1,hx.2.1,hx.2.2.1,hk _ _ _ hx.2.2.2⟩
  .exact ⟨hx.1,hx.2.1,hx.2.2.1,hx.2.2.2.1,hk _ _ _ hx.2.2.2.2⟩
  .exact ⟨hx.1,hx.2.1,hk _ _ _ hx.2.2⟩
  .exact hx
 .obtain ⟨h1,h2,h3,h4,h5,h6,h7,hx⟩:=hx
  exact ⟨a1,a2,a3,a4,a5,a6,a7,a8,h1,h2,h3,h4,h5,h6,h7,hk _ _ _ hx⟩
 rotate_left
 .obtain ⟨h1,h2,h3,h4,h5,h6,h7,h8,h9,hx⟩:=hx
  exact ⟨a1,a2,a3,a4,a5,a6,a7,a8,h1,h2,h3,h4,h5,h6,h7,h8,h9,hk _ _ _ hx⟩
 .obtain ⟨h1,hx⟩:=hx
  refine ⟨a1,a2,a3,a4,a5,a6,a7,a8,h1,?_⟩;split at hx <;> rename_i hc
  .rw [if_pos hc]; exact hk _ _ _ hx
  .rw [if_neg hc]; exact hk _ _ _ hx
theorem zcX {P : Program} {np : Nat} : ∀ (ops : List zb0) (n i : Nat) (st : St) (tr : List (List Nat × List Nat)) (K K' : St->List (List Nat × List Nat)->Prop),(∀ s t,K s t->K' s t)->zbp P np n i ops st tr K->zbp P np n i ops st tr K':=by
 intro ops
 induction ops with
 | nil=>intro n i st tr K K' hK h; exact hK _ _ h
 | cons o os ih =>
   intro n i st tr K K' hK h
   have hgo : ∀ (op : AOp) (xs : List AV) (h : Nat->Option Ent) (K1 K2 : AV->List Nat->List (Nat × Option Ent)->Prop),(∀ a b c,K1 a b c->K2 a b c)->aK P np (n+8*i) op xs h K1->aK P np (n+8*i) op xs h K2:=by
    intro op xs h K1 K2 hk hx;exact zvk hk hx
   unfold zbp at h ⊢
   cases hg : o.guard with
   | none =>
     simp only [hg] at h ⊢;exact hgo _ _ _ _ _ (λ v rd up hh=>ih _ _ _ _ _ _ hK hh) h
   | some gw =>
     obtain ⟨g,want⟩:=gw;simp only [hg] at h ⊢;obtain ⟨b,hb,h⟩:=h;refine ⟨b,hb,?_⟩
     by_cases hbw : b=some want
     .rw [if_pos hbw] at h ⊢
      exact hgo _ _ _ _ _ (λ v rd up hh=>ih _ _ _ _ _ _ hK hh) h
     .rw [if_neg hbw] at h ⊢
      exact ih _ _ _ _ _ _ hK h
theorem zcM {P : Program} {np : Nat} : ∀ {c : zfj} {Q Q' : zdH->St->Prop} {st : St},(∀ e s,Q e s->Q' e s)->awp P np c Q st->awp P np c Q' st:=by
 intro c
 induction c with
 | skip=>intro Q Q' st h; exact h _ _
 | reg draw ops after =>
   intro Q Q' st h hw;refine ⟨hw.1,?_⟩;exact zcX _ _ _ _ _ _ _ (λ s t h2=>⟨h2.1,h _ _ h2.2⟩) hw.2
 | seq a b iha ihb =>
   intro Q Q' st h hw;refine iha (λ e s hs=>?_) hw
   cases e with
   | normal=>obtain ⟨st2,hle,h2⟩:=hs; exact ⟨st2,hle,ihb h h2⟩
   | exit id=>exact h _ _ hs
   | ret=>exact h _ _ hs
 | cond c a b iha ihb =>
   intro Q Q' st h hw;obtain ⟨t,ht,hw⟩:=hw;refine ⟨t,ht,?_⟩
   cases t
   .exact ihb h hw
   .exact iha h hw
 | block id a iha =>
   intro Q Q' st h hw;refine iha (λ e s hs=>?_) hw
   cases e with
   | normal=>exact h _ _ hs
   | exit id' =>
     simp only at hs ⊢
     by_cases hi : id'=id
     .rw [if_pos hi] at hs ⊢; exact h _ _ hs
     .rw [if_neg hi] at hs ⊢; exact h _ _ hs
   | ret=>exact h _ _ hs
 | loop a iha =>
   intro Q Q' st h hw;obtain ⟨I,hI,hb⟩:=hw;refine ⟨I,hI,λ k s hk=>iha (λ e s hs=>?_) (hb k s hk)⟩
   cases e with
   | normal=>exact hs
   | exit id=>exact h _ _ hs
   | ret=>exact h _ _ hs
 | exit id=>intro Q Q' st h; exact h _ _
 | ret=>intro Q Q' st h; exact h _ _
 | bad=>intro Q Q' st _ h; exact h
theorem zab {P : Program} {np : Nat} {a b : zfj} {Q : zdH->St->Prop} {st : St}
  (h : awp P np a (λ e st'=>match e with | .normal=>awp P np b Q st' | e=>Q e st') st) : awp P np (.seq a b) Q st:=by
 show awp P np a _ st;refine zcM (λ e s hs=>?_) h
 cases e with
 | normal=>exact ⟨s,Le.refl _ _,hs⟩
 | exit id=>exact hs
 | ret=>exact hs
theorem zas {P : Program} {np : Nat} {a : zfj} {Q : zdH->St->Prop} {st : St} {ι : Type} (C : ι->St) (I : ι->Prop) (m : ι->Nat) (i0 : ι) (h0 : I i0) (hle : Le np st (C i0))
  (hb : ∀ i,I i->awp P np a (λ e st'=>match e with | .normal=>∃ j,I j/\m j<m i/\Le np st' (C j) | e=>Q e st') (C i)) : awp P np (.loop a) Q st:=by
 refine ⟨λ k s=>∃ i,I i/\m i=k/\s=C i,⟨_,_,hle,i0,h0,rfl,rfl⟩,?_⟩
 rintro k s ⟨i,hi,rfl,rfl⟩
 refine zcM (λ e s hs=>?_) (hb i hi)
 cases e with
 | normal=>obtain ⟨j,hj,hm,hl⟩:=hs; exact ⟨_,_,hl,⟨j,hj,rfl,rfl⟩,hm⟩
 | exit id=>exact hs
 | ret=>exact hs
theorem Le.lst {np : Nat} {st st' : St} (ρ : List (Nat × Nat)) (sn : List Nat) (nl : List (Nat × Nat)) (hsz : st'.sz=st.sz)
  (h0 : (ρ.map (·.1)).Nodup) (h1 : (ρ.map (·.2)).Nodup) (h2 : ∀ p∈ρ,p.2<st'.n/\(p.2<np->p.1=p.2)) (h3 : ∀ p∈nl,np<=p.1/\p.1<st'.n/\p.1∉ρ.map (·.2)/\p.2≠0) (h4 : ∀ i∈sn,np<=i/\i∉ρ.map (·.1)) (h5 : np<=st'.n) (h6 : (nl.map (·.1)).Nodup)
  (ht : ∀ p∈st'.t,Up nl (conv ρ sn st.hp 4 (st.get p.1)) p.2)
  (hh : ∀ p∈st'.h,∀ e',p.2=some e'->(∃ q∈ρ,q.2=p.1 /\ ∃ e,st.hp q.1=some e/\zaN nl (zay ρ sn st.hp 4 e) e')∨((p.1,e'.s)∈nl/\e'.rows=[]/\e'.ro=0)) : Le np st st':=by
 refine Le.mk ρ sn nl hsz h0 h1 h2 h3 h4 h5 h6 (λ i=>?_) λ id' e' he'=>?_
 .unfold St.get at *
  cases hl : lkp st'.t i with
  | none=>exact .inl (.dead _)
  | some v=>exact ht _ (zb7 hl)
 .unfold St.hp at he'
  cases hl : lkp st'.h id' with
  | none=>rw [hl] at he'; cases he'
  | some v =>
    rw [hl] at he';rcases hh _ (zb7 hl) e' he' with ⟨q,hq,hq2,e,he,h⟩ | h
    .obtain ⟨q1,q2⟩:=q
     simp only at hq2;subst hq2;exact .inl ⟨q1,e,hq,he,h⟩
    .exact .inr h
theorem Le.slots {st st' : St} (hsz : st'.sz=st.sz) (hh : st'.h=[]) (ht : ∀ p∈st'.t,Wk (conv [] [] st.hp 4 (st.get p.1)) p.2) : Le 0 st st' :=
 Le.lst [] [] [] hsz (by simp) (by simp) (by simp) (by simp) (by simp) (Nat.zero_le _) (by simp) (λ p hp=>.inl (ht p hp)) (by simp [hh])
def Src (P : Program) (f : FuncId) (af : AFun) : Prop:=P.follows .mixedOrders=true /\ ∃ fn,P.funcs[f]? = some fn/\zu4 P fn=some af/\fn.name ≠ "runtime.NumGoroutine"
theorem Src.acalls {P : Program} {f : FuncId} {af : AFun} (s : Src P f af) {args : List AV} {hs : List Ent} {res : AV} {hs' : List (Option Ent)}
  (hnt : args.length<=af.nt) (hn16 : hs.length<=16) (hlen' : hs.length<=hs'.length) (h : awp P hs.length af.code (λ e st=>(e = .normal∨e = .ret)/\zao af.res hs.length st res hs') (zgX af args hs)) : zaj P f args hs res hs':=by
 obtain ⟨hm,fn,hf,hc,hn⟩:=s;exact zuv hm hf hc hn hnt hn16 hlen' h
theorem zao.one {t : Nat} {st : St} {res : AV} (h : Wk (conv [] [] st.hp 4 (st.get t)) res) : zao [(t,none)] 0 st res [] :=
 ⟨[st.get t],rfl,[],[],by simp,by simp,by simp,h,rfl⟩
theorem Src.ac {P : Program} {f : FuncId} {af : AFun} (s : Src P f af) {args : List AV} {hs : List Ent} {res : AV} {hs' : List (Option Ent)}
  (h : awp P hs.length af.code (λ e st=>(e = .normal∨e = .ret)/\zao af.res hs.length st res hs') (zgX af args hs)) (hnt : args.length<=af.nt:=by exact nbz rfl) (hn16 : hs.length<=16:=by exact nbz rfl) (hlen' : hs.length<=hs'.length:=by first | exact Nat.le_refl _ | exact Nat.zero_le _) : zaj P f args hs res hs':=s.acalls hnt hn16 hlen' h
theorem zav {P : Program} {np : Nat} {ops : List zb0} {Q : zdH->St->Prop} {sz n : Nat} {t : List (Nat × AV)} {h : List (Nat × Option Ent)} {af : List (List Nat)}
  (hd : (ops.all λ o=>o.dst.all (· < sz))=true) (ho : zbp P np n 0 ops ⟨sz,t,h,n⟩ [] λ st' _=>Q .normal ⟨st'.sz,st'.t,st'.h,n+8*ops.length⟩) : awp P np (.reg false ops af) Q ⟨sz,t,h,n⟩:=by
 refine ⟨hd,?_⟩
 have : (λ (st' : St) (tr : List (List Nat × List Nat))=>Q .normal ⟨st'.sz,st'.t,st'.h,n+8*ops.length⟩)=λ st' tr=>(false=true->zeL ops af tr=true)/\Q .normal { st' with n:=(⟨sz,t,h,n⟩ : St).n+8*ops.length }:=by
  funext st' tr
  simp
 rw [<- this];exact ho
theorem zar {P : Program} {np : Nat} {ops : List zb0} {Q : zdH->St->Prop} {sz n : Nat} {t : List (Nat × AV)} {h : List (Nat × Option Ent)} {af : List (List Nat)} (s : St)
  (hd : (ops.all λ o=>o.dst.all (· < sz))=true) (ho : zbp P np n 0 ops ⟨sz,t,h,n⟩ [] λ st' _=>(⟨st'.sz,st'.t,st'.h,n+8*ops.length⟩ : St)=s) (hq : Q .normal s) : awp P np (.reg false ops af) Q ⟨sz,t,h,n⟩:=by
 refine zav hd (zcX _ _ _ _ _ (λ st' _=>(⟨st'.sz,st'.t,st'.h,n+8*ops.length⟩ : St)=s) _ (λ st' _ h=>?_) ho);subst h;exact hq
theorem zan {P : Program} {np : Nat} {ops : List zb0} {Q : zdH->St->Prop} {sz n : Nat} {t : List (Nat × AV)} {h : List (Nat × Option Ent)} {af : List (List Nat)} {s : St}
  (hq : Q .normal s) (hd : (ops.all λ o=>o.dst.all (· < sz))=true:=by rfl) (ho : zbp P np n 0 ops ⟨sz,t,h,n⟩ [] (λ st' _=>(⟨st'.sz,st'.t,st'.h,n+8*ops.length⟩ : St)=s):=by simp; rfl) : awp P np (.reg false ops af) Q ⟨sz,t,h,n⟩:=zar s hd ho hq
theorem zcP {P : Program} {np : Nat} {ops : List zb0} {Q : zdH->St->Prop} {sz n : Nat} {t : List (Nat × AV)} {h : List (Nat × Option Ent)} {af : List (List Nat)}
  (hd : (ops.all λ o=>o.dst.all (· < sz))=true) (ho : zbp P np n 0 ops ⟨sz,t,h,n⟩ [] λ st' tr=>zeL ops af tr=true/\Q .normal ⟨st'.sz,st'.t,st'.h,n+8*ops.length⟩) : awp P np (.reg true ops af) Q ⟨sz,t,h,n⟩:=by
 refine ⟨hd,?_⟩
 have : (λ (st' : St) (tr : List (List Nat × List Nat))=>zeL ops af tr=true/\Q .normal ⟨st'.sz,st'.t,st'.h,n+8*ops.length⟩)=λ st' tr=>(true=true->zeL ops af tr=true)/\Q .normal { st' with n:=(⟨sz,t,h,n⟩ : St).n+8*ops.length }:=by
  funext st' tr
  simp
 rw [<- this];exact ho
theorem zad {P : Program} {np : Nat} {c : Opd} {a b : zfj} {Q : zdH->St->Prop} {st : St} (t : Bool) (hc : c.ev st.get = .sc (.bool t)) (h1 : t=true->awp P np a Q st) (h2 : t=false->awp P np b Q st) : awp P np (.cond c a b) Q st:=by
 refine ⟨t,hc,?_⟩
 cases t
 .exact h2 rfl
 .exact h1 rfl
theorem zgu {P : Program} {np : Nat} {ops : List zb0} {Q : zdH->St->Prop} {sz n : Nat} {t : List (Nat × AV)} {h : List (Nat × Option Ent)} {af : List (List Nat)} {s : St} {tr : List (List Nat × List Nat)}
  (hd : (ops.all λ o=>o.dst.all (· < sz))=true) (ho : zbp P np n 0 ops ⟨sz,t,h,n⟩ [] λ st' tr'=>(⟨st'.sz,st'.t,st'.h,n+8*ops.length⟩ : St)=s/\tr'=tr) (hr : zeL ops af tr=true) (hq : Q .normal s) : awp P np (.reg true ops af) Q ⟨sz,t,h,n⟩:=by
 refine zcP hd (zcX _ _ _ _ _ (λ st' tr'=>(⟨st'.sz,st'.t,st'.h,n+8*ops.length⟩ : St)=s/\tr'=tr) _ (λ st' tr' h=>?_) ho);obtain ⟨rfl,rfl⟩:=h;exact ⟨hr,hq⟩
theorem zae {P : Program} {np : Nat} {Q : zdH->St->Prop} {st : St} (h : Q .normal st) : awp P np .skip Q st:=h
theorem zai {P : Program} {np : Nat} {Q : zdH->St->Prop} {st : St} (h : Q .ret st) : awp P np .ret Q st:=h
theorem zaq {P : Program} {np id : Nat} {Q : zdH->St->Prop} {st : St} (h : Q (.exit id) st) : awp P np (.exit id) Q st:=h
theorem hit {i : Nat} {a b : Prop} (h : a) : if i=i then a else b:=by rw [if_pos rfl]; exact h
theorem zaf {P : Program} {np id : Nat} {a : zfj} {Q : zdH->St->Prop} {st : St} (h : awp P np a (λ e st'=>match e with | .exit id'=>if id'=id then Q .normal st' else Q (.exit id') st' | e=>Q e st') st) : awp P np (.block id a) Q st:=h
theorem zaO {P : Program} {np : Nat} {a b : zfj} {Q : zdH->St->Prop} {st : St} {ι : Type} (C : ι->St) (I : ι->Prop)
  (ha : awp P np a (λ e st'=>match e with | .normal=>∃ j,I j/\Le np st' (C j) | e=>Q e st') st) (hb : ∀ j,I j->awp P np b Q (C j)) : awp P np (.seq a b) Q st:=by
 show awp P np a _ st;refine zcM (λ e s hs=>?_) ha
 cases e with
 | normal=>obtain ⟨j,hj,hl⟩:=hs; exact ⟨C j,hl,hb j hj⟩
 | exit id=>exact hs
 | ret=>exact hs
section
variable {P : Program} {np id : Nat} {h : Nat->Option Ent} {K : AV->List Nat->List (Nat × Option Ent)->Prop}
@[simp] theorem k_mv {x : AV} : aK P np id .mv [x] h K=K x [] []:=(rfl)
@[simp] theorem zBo {t : Bool} {a b : AV} : aK P np id .pick [.sc (.bool t),a,b] h K=K (if t then a else b) [] []:=by
 refine propext ⟨?_,λ hk=>⟨t,rfl,hk⟩⟩
 rintro ⟨t',ht,hk⟩
 cases ht;exact hk
@[simp] theorem zAS {z : List Value} : aK P np id (.alloc z) [] h K=K (.pt id 0 0) [] [(id,some { s:=z.length,rows:=[z.map .sc] })]:=(rfl)
@[simp] theorem zBW {s : Nat} {x : AV} : aK P np id (.box s) [x] h K = ∃ cs,cellsOf x=some cs/\cs.length=s/\K (.pt id 0 0) [] [(id,some { s:=s,rows:=[cs] })]:=(rfl)
@[simp] theorem zBe {z ps xs} : aK P np id (.build z ps) xs h K = ∃ cs,zoV (z.map .sc) ps xs=some cs/\K (.agg cs) [] []:=(rfl)
@[simp] theorem zCr {s len z ps xs} : aK P np id (.bsl s len z ps) xs h K = ∃ rows,zhf s (List.replicate len (z.map .sc)) ps xs=some rows/\z.length=s/\K (.rs id 0 len) [] [(id,some { s:=s,rows:=rows })]:=(rfl)
@[simp] theorem zB8 {s : Nat} {x : AV} : aK P np id (.ld true s) [x] h K = ∃ cs,zd2 h x=some cs/\s<=cs.length/\K (.agg (cs.take s)) (zb1 x) []:=(rfl)
@[simp] theorem zCi {s : Nat} {x : AV} : aK P np id (.ld false s) [x] h K = ∃ cs,zd2 h x=some cs/\s<=cs.length/\K (cs.headD .dead) (zb1 x) []:=(rfl)
@[simp] theorem k_st {s i k j : Nat} {x : AV} : aK P np id (.st s) [.pt i k j,x] h K = ∃ e row cs,h i=some e/\e.rows[k]? = some row/\e.ro<=k/\cellsOf x=some cs/\cs.length=s/\j+s<=row.length /\
   K .dead [i] [(i,some { e with rows:=e.rows.set k (zat row j cs) })]:=(rfl)
@[simp] theorem zAQ {i k j : Nat} : aK P np id .nil [.pt i k j] h K=K (.pt i k j) [] []:=propext ⟨λ h=>h.2,λ h=>⟨trivial,h⟩⟩
@[simp] theorem zAZ {cs : List AV} : aK P np id .nil [.pv cs] h K=K (.pv cs) [] []:=propext ⟨λ h=>h.2,λ h=>⟨trivial,h⟩⟩
@[simp] theorem zCc {op : BinOp} {a b : Value} : aK P np id (.bin op) [.sc a,.sc b] h K = ∃ v,binV op a b=some v/\K (.sc v) [] []:=(rfl)
@[simp] theorem zBU {neg a b : Bool} : aK P np id (.beq neg) [.sc (.bool a),.sc (.bool b)] h K=K (.sc (.bool ((a == b) != neg))) [] []:=(rfl)
def aeqK (o : Option Bool) (neg : Bool) (K : AV->List Nat->List (Nat × Option Ent)->Prop) : Prop:=∃ b,o=some b/\K (.sc (.bool (b != neg))) [] []
@[simp] theorem zCf {neg : Bool} {ks : List Nat} {xs ys : List AV} : aK P np id (.aeq neg ks) [.agg xs,.agg ys] h K=aeqK (eqs ks xs ys) neg K:=(rfl)
@[simp] theorem zzJ {b neg : Bool} : aeqK (some b) neg K=K (.sc (.bool (b != neg))) [] []:=by simp [aeqK]
@[simp] theorem zA9 {neg : Bool} {s : Nat} {f : Bool} {row : List AV} {rows : List (List AV)} : aK P np id (.snil neg) [.vs s f (row::rows)] h K=K (.sc (.bool neg)) [] []:=(rfl)
@[simp] theorem zBd {neg : Bool} {a : Option Addr} {l c : Nat} : aK P np id (.snil neg) [.sc (.slice a l c)] h K=K (.sc (.bool (a.isNone != neg))) [] []:=(rfl)
@[simp] theorem zBY {s i off len : Nat} {z : List Value} : aK P np id (.clr s z) [.rs i off len] h K = ∃ e,h i=some e/\e.s=s/\z.length=s/\e.ro<=off/\off+len<=e.rows.length /\
   K .dead [i] [(i,some { e with rows:=e.rows.take off++List.replicate len (z.map .sc)++e.rows.drop (off+len) })]:=(rfl)
@[simp] theorem k_un {op : UnOp} {a : Value} : aK P np id (.un op) [.sc a] h K = ∃ v,unV op a=some v/\K (.sc v) [] []:=(rfl)
@[simp] theorem zBZ {k k' : IntKind} {n : Int} : aK P np id (.cvt k) [.sc (.int k' n)] h K=K (.sc (.int k (k.wrap n))) [] []:=(rfl)
@[simp] theorem zB9 {x : AV} : aK P np id .b2s [x] h K = ∃ rows bs,zbG 1 h x=some rows/\zd9 rows=some bs/\K (.sc (.string ⟨bs.toArray⟩)) (zb1 x) []:=(rfl)
@[simp] theorem zBT {t : TypeId} {x : AV} : aK P np id (.mki t) [x] h K=K (.ifc t x) [] []:=(rfl)
@[simp] theorem zzq {t : TypeId} {x : AV} : aK P np id .nil [.ifc t x] h K=K (.ifc t x) [] []:=propext ⟨λ h=>h.2,λ h=>⟨trivial,h⟩⟩
@[simp] theorem zCa {f : FuncId} {xs : List AV} : aK P np id (.mkf f) xs h K=K (.fn (.func f) [] xs) [] []:=(rfl)
@[simp] theorem zB3 {f : FuncId} {xs : List AV} : aK P np id (.mkb f) xs h K=K (.fn (.func f) xs []) [] []:=(rfl)
@[simp] theorem zCl {s bytes z k k' l c} : aK P np id (.mks s bytes z) [.sc (.int k l),.sc (.int k' c)] h K=(0<=l/\l<=c/\c*bytes<=140737488355328/\c<=140737488355328/\z.length=s /\
   K (.rs id 0 l.toNat) [] [(id,some { s:=s,rows:=List.replicate l.toNat (z.map .sc) })]):=(rfl)
theorem zmd {s : Nat} {lo hi mx : Bool} {x : AV} {bs : List AV} : aK P np id (.slc s lo hi mx) (x::bs) h K = ∃ l r m : Nat,∃ n,lenOf x=some n/\l<=r /\
        bs=(if lo then [AV.I l] else [])++(if hi then [AV.I r] else [])++(if mx then [AV.I m] else [])/\(lo=false->l=0)/\(hi=false->r=n)/\(mx=true->hi=true) /\
        match x with
        | .vs s' f rows=>r<=n/\(mx=true->m=r)/\s'=s/\K (.vs s (mx || (f && !hi)) ((rows.drop l).take (r - l))) [] []
        | .rs i off _=>r<=n/\mx=false/\(∃ e,h i=some e/\e.s=s)/\K (.rs i (off+l) (r - l)) [i] []
        | .rk i off _ c=>r<=m/\m<=c/\(mx=false->m=c)/\(∃ e,h i=some e/\e.s=s)/\K (.rk i (off+l) (r - l) (m - l)) [i] []
        | .sc (.slice none 0 0)=>r<=n/\(mx=true->m=r)/\K .nilS [] []
        | _=>False:=(rfl)
@[simp] theorem zB5 {i off len c : Nat} : aK P np id .cap [.rk i off len c] h K=K (AV.I c) [] []:=(rfl)
@[simp] theorem zBs {s bytes i off len c : Nat} {y : AV} : aK P np id (.app s bytes) [.rk i off len c,y] h K = ∃ new e,zbG s h y=some new/\h i=some e/\e.s=s/\off+len<=e.rows.length/\e.ro<=off+len/\(len+new.length)*bytes<=140737488355328/\len+new.length<=140737488355328 /\
   if len+new.length<=c then K (.rk i off (len+new.length) c) (i::zb1 y) [(i,some { e with rows:=e.rows.take (off+len)++new++e.rows.drop (off+len+new.length) })]
   else K (.rs id 0 (len+new.length)) (i::zb1 y) [(id,some { s:=s,rows:=(e.rows.drop off).take len++new,ro:=0 })]:=(rfl)
@[simp] theorem zBw {s i off len c : Nat} {y : AV} : aK P np id (.cpy s) [.rk i off len c,y] h K = ∃ e new m,h i=some e/\e.s=s/\e.ro<=off/\off<=e.rows.length/\lenOf y=some m/\zbG s h (cutN (min m len) y)=some new /\
   K (AV.I (min m len : Nat)) (i::zb1 y) [(i,some { e with rows:=e.rows.take off++new++e.rows.drop (off+min m len) })]:=(rfl)
@[simp] theorem zBB {s i off len c : Nat} {z : List Value} : aK P np id (.clr s z) [.rk i off len c] h K = ∃ e,h i=some e/\e.s=s/\z.length=s/\e.ro<=off/\off+len<=e.rows.length /\
   K .dead [i] [(i,some { e with rows:=e.rows.take off++List.replicate len (z.map .sc)++e.rows.drop (off+len) })]:=(rfl)
@[simp] theorem zBu : aK P np id .cap [.sc (.slice none 0 0)] h K=K (AV.I 0) [] []:=(rfl)
@[simp] theorem zBK {s bytes : Nat} {z : List Value} {k : IntKind} {n : Int} : aK P np id (.apz s bytes z) [.sc (.slice none 0 0),.sc (.int k n)] h K=(z.length=s/\0<n/\n.toNat*bytes<=140737488355328/\n.toNat<=140737488355328 /\
   K (.rs id 0 n.toNat) [] [(id,some { s:=s,rows:=List.replicate n.toNat (z.map .sc),ro:=0 })]):=(rfl)
@[simp] theorem zB1 {s bytes i off len c : Nat} {z : List Value} {k : IntKind} {n : Int} : aK P np id (.apz s bytes z) [.rk i off len c,.sc (.int k n)] h K = ∃ e,h i=some e/\e.s=s/\z.length=s/\off+len<=e.rows.length/\0<n/\c<len+n.toNat/\(len+n.toNat)*bytes<=140737488355328/\len+n.toNat<=140737488355328 /\
   K (.rs id 0 (len+n.toNat)) [i] [(id,some { s:=s,rows:=(e.rows.drop off).take len++List.replicate n.toNat (z.map .sc),ro:=0 })]:=(rfl)
@[simp] theorem zB6 {s s' i off len c : Nat} {f : Bool} {rows : List (List AV)} : aK P np id (.ovl s) [.vs s' f rows,.rk i off len c] h K = ∃ e,h i=some e/\s'=s/\e.s=s/\e.ro<=off/\K (.sc (.bool false)) [i] []:=(rfl)
@[simp] theorem zA2 {n s : Nat} {f : Bool} {rows : List (List AV)} : cutN n (.vs s f rows) = .vs s false (rows.take n):=(rfl)
@[simp] theorem zBk {n id off len : Nat} : cutN n (.rs id off len) = .rs id off (min n len):=(rfl)
@[simp] theorem zA7 {n id off len c : Nat} : cutN n (.rk id off len c) = .rk id off (min n len) c:=(rfl)
@[simp] theorem zBS {off : Nat} {cs : List AV} : aK P np id (.fad off) [.pv cs] h K=(off<=cs.length/\K (.pv (cs.drop off)) [] []):=(rfl)
@[simp] theorem zBQ {off i k j : Nat} : aK P np id (.fad off) [.pt i k j] h K=K (.pt i k (j+off)) [] []:=(rfl)
@[simp] theorem zBm {off s : Nat} {cs : List AV} : aK P np id (.fld true off s) [.agg cs] h K=(off+s<=cs.length/\K (.agg ((cs.drop off).take s)) [] []):=(rfl)
@[simp] theorem zBM {off s : Nat} {cs : List AV} : aK P np id (.fld false off s) [.agg cs] h K=(off+s<=cs.length/\K (cs.getD off .dead) [] []):=(rfl)
@[simp] theorem zBD {s s' : Nat} {f : Bool} {rows : List (List AV)} {k : IntKind} {n : Int} : aK P np id (.iad s) [.vs s' f rows,.sc (.int k n)] h K=(s'=s/\0<=n /\ ∃ row,rows[n.toNat]? = some row/\K (.pv row) [] []):=(rfl)
@[simp] theorem zBO {s i off len : Nat} {k : IntKind} {n : Int} : aK P np id (.iad s) [.rs i off len,.sc (.int k n)] h K=(0<=n/\n<len/\(∃ e,h i=some e/\e.s=s)/\K (.pt i (off+n.toNat) 0) [i] []):=(rfl)
@[simp] theorem zBE {l s i k j : Nat} {kd : IntKind} {n : Int} : aK P np id (.iaa l s) [.pt i k j,.sc (.int kd n)] h K=(0<=n/\n<l/\K (.pt i k (j+n.toNat*s)) [] []):=(rfl)
@[simp] theorem zBp {l s : Nat} {cs : List AV} {kd : IntKind} {n : Int} : aK P np id (.iaa l s) [.pv cs,.sc (.int kd n)] h K=(0<=n/\n<l/\l*s<=cs.length/\K (.pv (cs.drop (n.toNat*s))) [] []):=(rfl)
@[simp] theorem zB7 {b : ByteArray} {k : IntKind} {n : Int} : aK P np id .ixs [.sc (.string b),.sc (.int k n)] h K=(0<=n /\ ∃ c,b.data.toList[n.toNat]? = some c/\K (.sc (.int .u8 c.toNat)) [] []):=(rfl)
@[simp] theorem zCd {l : Nat} {cs : List AV} {k : IntKind} {n : Int} : aK P np id (.ixv l) [.agg cs,.sc (.int k n)] h K=(0<=n/\n<l/\l<=cs.length/\K (cs.getD n.toNat .dead) [] []):=(rfl)
@[simp] theorem zCb {i : Nat} {vs : List AV} : aK P np id (.ext i) [.tup vs] h K = ∃ v,vs[i]? = some v/\K v [] []:=(rfl)
theorem zyH {s bytes : Nat} {x y : AV} (hx : ¬ ∃ i o l c,x = .rk i o l c) : aK P np id (.app s bytes) [x,y] h K=(∃ new old,zbG s h y=some new/\zcj s h new x=some old/\(old.1.length+new.length)*bytes<=140737488355328 /\
   old.1.length+new.length<=140737488355328 /\
   K (.rs id 0 (old.1.length+new.length)) (zb1 x++zb1 y) ((id,some { s:=s,rows:=old.1++new,ro:=old.2.1 })::old.2.2)):=zom hx
@[simp] theorem zBy {s bytes : Nat} {y : AV} : aK P np id (.app s bytes) [.nilS,y] h K = ∃ new,zbG s h y=some new/\new.length*bytes<=140737488355328/\new.length<=140737488355328/\K (.rs id 0 new.length) (zb1 y) [(id,some { s:=s,rows:=new,ro:=0 })]:=by
 rw [zyH (by simp)]
 refine propext ⟨?_,?_⟩
 .rintro ⟨new,old,h1,h2,h3,h4,h5⟩
  cases h2;exact ⟨new,h1,by simpa using h3,by simpa using h4,by simpa [zb1] using h5⟩
 .rintro ⟨new,h1,h3,h4,h5⟩
  exact ⟨new,_,h1,rfl,by simpa using h3,by simpa using h4,by simpa [zb1] using h5⟩
@[simp] theorem zBJ {s bytes i off len : Nat} {y : AV} : aK P np id (.app s bytes) [.rs i off len,y] h K = ∃ new e,zbG s h y=some new/\h i=some e/\e.s=s/\off+len<=e.rows.length/\e.ro<=off+len/\(len+new.length)*bytes<=140737488355328/\len+new.length<=140737488355328 /\
  K (.rs id 0 (len+new.length)) (i::zb1 y) [(id,some { s:=s,rows:=(e.rows.drop off).take len++new,ro:=e.ro - off }),(i,none)]:=by
 rw [zyH (by simp)]
 refine propext ⟨?_,?_⟩
 .rintro ⟨new,old,h1,h2,h3,h4,h5⟩
  simp only [zcj,Option.bind_eq_some_iff] at h2;obtain ⟨e,he,h2⟩:=h2;split at h2
  case isFalse=>cases h2
  rename_i hc
  cases h2;have hl : ((e.rows.drop off).take len).length=len:=by simp; omega
  simp only [hl] at h3 h4 h5;exact ⟨new,e,h1,he,hc.1,hc.2.1,hc.2.2,h3,h4,by simpa [zb1] using h5⟩
 .rintro ⟨new,e,h1,he,c1,c2,c3,h3,h4,h5⟩
  have hl : ((e.rows.drop off).take len).length=len:=by simp; omega
  refine ⟨new,((e.rows.drop off).take len,e.ro - off,[(i,none)]),h1,by simp [zcj,he,c1,c2,c3],by simpa only [hl] using h3,by simpa only [hl] using h4,?_⟩
  simpa [zb1,hl] using h5
@[simp] theorem zBq {s bytes : Nat} {rows : List (List AV)} {y : AV} : aK P np id (.app s bytes) [.vs s true rows,y] h K = ∃ new,zbG s h y=some new/\(rows=[]∨new≠[])/\(rows.length+new.length)*bytes<=140737488355328/\rows.length+new.length<=140737488355328 /\
  K (.rs id 0 (rows.length+new.length)) (zb1 y) [(id,some { s:=s,rows:=rows++new,ro:=0 })]:=by
 rw [zyH (by simp)]
 refine propext ⟨?_,?_⟩
 .rintro ⟨new,old,h1,h2,h3,h4,h5⟩
  simp only [zcj] at h2;split at h2
  case isFalse=>cases h2
  rename_i hc
  cases h2;exact ⟨new,h1,hc.2,h3,h4,by simpa [zb1] using h5⟩
 .rintro ⟨new,h1,hc,h3,h4,h5⟩
  exact ⟨new,(rows,0,[]),h1,by show (if s=s/\_ then _ else _)=_; rw [if_pos ⟨rfl,hc⟩],h3,h4,by simpa [zb1] using h5⟩
@[simp] theorem zBx {x : AV} {b : ByteArray} : aK P np id .apps [x,.sc (.string b)] h K=(∃ old,zcj 1 h (zeD b) x=some old/\old.1.length+b.size<=140737488355328 /\
   K (.rs id 0 (old.1.length+b.size)) (zb1 x) ((id,some { s:=1,rows:=old.1++zeD b,ro:=old.2.1 })::old.2.2)):=(rfl)
@[simp] theorem zB2 {x : AV} : aK P np id .len [x] h K = ∃ n : Nat,lenOf x=some n/\K (AV.I n) [] []:=(rfl)
@[simp] theorem zBz {b : ByteArray} : aK P np id .lens [.sc (.string b)] h K=K (AV.I b.size) [] []:=(rfl)
@[simp] theorem zB0 {s i off len : Nat} {y : AV} : aK P np id (.cpy s) [.rs i off len,y] h K = ∃ e new,h i=some e/\e.s=s/\e.ro<=off/\off+len<=e.rows.length/\zbG s h y=some new /\
   K (AV.I (min new.length len : Nat)) (i::zb1 y) [(i,some { e with rows:=e.rows.take off++new.take (min new.length len)++e.rows.drop (off+min new.length len) })]:=(rfl)
@[simp] theorem zCq : aK P np id .mkm [] h K=K (.mp id) [] [(id,some { s:=0,rows:=[] })]:=(rfl)
@[simp] theorem zBr {z : Value} {i : Nat} {n : Int} : aK P np id (.mlk z false) [.mp i,.sc (.int .i64 n)] h K = ∃ e,h i=some e/\e.s=0/\K ((zfh n e.rows).getD (toAV z)) [i] []:=(rfl)
@[simp] theorem zBn {z : Value} {i : Nat} {n : Int} : aK P np id (.mlk z true) [.mp i,.sc (.int .i64 n)] h K = ∃ e,h i=some e/\e.s=0/\K (.tup [(zfh n e.rows).getD (toAV z),.sc (.bool (zfh n e.rows).isSome)]) [i] []:=(rfl)
@[simp] theorem zCh {i : Nat} {n : Int} {x : AV} : aK P np id .mup [.mp i,.sc (.int .i64 n),x] h K = ∃ e,h i=some e/\e.s=0/\K .dead [i] [(i,some { e with rows:=mset n x e.rows })]:=(rfl)
@[simp] theorem zB4 {i : Nat} {n : Int} : aK P np id .mdl [.mp i,.sc (.int .i64 n)] h K = ∃ e,h i=some e/\e.s=0/\K (.tup []) [i] [(i,some { e with rows:=mdel n e.rows,ro:=0 })]:=(rfl)
@[simp] theorem zBX {k k' : IntKind} {a b : Int} : aK P np id .mx2 [.sc (.int k a),.sc (.int k' b)] h K=K (.sc (.int k (if a<b then b else a))) [] []:=(rfl)
@[simp] theorem zCp {k k' : IntKind} {a b : Int} : aK P np id .mn2 [.sc (.int k a),.sc (.int k' b)] h K=K (.sc (.int k (if b<a then b else a))) [] []:=(rfl)
end
section
variable {P : Program} {np n i : Nat} {os : List zb0} {st : St} {tr : List (List Nat × List Nat)} {K : St->List (List Nat × List Nat)->Prop}
@[simp] theorem zBV : zbp P np n i [] st tr K=K st tr:=(rfl)
@[simp] theorem zzW {d : Option Nat} {op : AOp} {xs : List Opd} : zbp P np n i (⟨d,op,xs,none⟩::os) st tr K=aK P np (n+8*i) op (xs.map (·.ev st.get)) st.hp λ v rd up=>zbp P np n (i+1) os ((st.put d v).upd up) (tr++[(rd,up.map (·.1))]) K:=(rfl)
def gOp (P : Program) (np n i : Nat) (b : Option (Option Bool)) (want : Bool) (d : Option Nat) (op : AOp) (xs : List Opd) (os : List zb0) (st : St) (tr : List (List Nat × List Nat)) (K : St->List (List Nat × List Nat)->Prop) : Prop :=
 ∃ c,b=some c/\if c=some want then aK P np (n+8*i) op (xs.map (·.ev st.get)) st.hp λ v rd up=>zbp P np n (i+1) os ((st.put d v).upd up) (tr++[(rd,up.map (·.1))]) K else zbp P np n (i+1) os (st.put d (.tup [])) (tr++[([],[])]) K
section
variable {d : Option Nat} {op : AOp} {xs : List Opd} {os : List zb0}
@[simp] theorem o_g {g : Nat} {want : Bool} : zbp P np n i (⟨d,op,xs,some (g,want)⟩::os) st tr K=gOp P np n i (gdV (st.get g)) want d op xs os st tr K:=(rfl)
@[simp] theorem o_tt : gOp P np n i (some (some true)) true d op xs os st tr K=aK P np (n+8*i) op (xs.map (·.ev st.get)) st.hp λ v rd up=>zbp P np n (i+1) os ((st.put d v).upd up) (tr++[(rd,up.map (·.1))]) K:=by simp [gOp]
@[simp] theorem o_ff : gOp P np n i (some (some false)) false d op xs os st tr K=aK P np (n+8*i) op (xs.map (·.ev st.get)) st.hp λ v rd up=>zbp P np n (i+1) os ((st.put d v).upd up) (tr++[(rd,up.map (·.1))]) K:=by simp [gOp]
@[simp] theorem o_tf : gOp P np n i (some (some true)) false d op xs os st tr K=zbp P np n (i+1) os (st.put d (.tup [])) (tr++[([],[])]) K:=by simp [gOp]
@[simp] theorem o_ft : gOp P np n i (some (some false)) true d op xs os st tr K=zbp P np n (i+1) os (st.put d (.tup [])) (tr++[([],[])]) K:=by simp [gOp]
@[simp] theorem o_no {want : Bool} : gOp P np n i (some none) want d op xs os st tr K=zbp P np n (i+1) os (st.put d (.tup [])) (tr++[([],[])]) K:=by simp [gOp]
theorem zem {b w : Bool} (h1 : b=true->gOp P np n i (some (some true)) w d op xs os st tr K) (h2 : b=false->gOp P np n i (some (some false)) w d op xs os st tr K) : gOp P np n i (some (some b)) w d op xs os st tr K:=by
 cases b
 .exact h2 rfl
 .exact h1 rfl
@[simp] theorem zCk {b : Bool} : gdV (.sc (.bool b))=some (some b):=(rfl)
@[simp] theorem zCm : gdV (.tup [])=some none:=(rfl)
end
@[simp] theorem zCe {sz n : Nat} {h : List (Nat × Option Ent)} {i : Nat} : (⟨sz,[],h,n⟩ : St).get i = .dead:=(rfl)
@[simp] theorem zBv {sz n : Nat} {t : List (Nat × AV)} {h : List (Nat × Option Ent)} {i j : Nat} {v : AV} : (⟨sz,(j,v)::t,h,n⟩ : St).get i=if j=i then v else (⟨sz,t,h,n⟩ : St).get i:=by
 show (if j=i then some v else lkp t i).getD .dead=if j=i then v else (lkp t i).getD .dead
 split <;> rfl
@[simp] theorem zCj {sz n : Nat} {t : List (Nat × AV)} {i : Nat} : (⟨sz,t,[],n⟩ : St).hp i=none:=(rfl)
@[simp] theorem zte {sz n : Nat} {t : List (Nat × AV)} {h : List (Nat × Option Ent)} {i j : Nat} {v : Option Ent} : (⟨sz,t,(j,v)::h,n⟩ : St).hp i=if j=i then v else (⟨sz,t,h,n⟩ : St).hp i:=by
 show (if j=i then some v else lkp h i).getD none=if j=i then v else (lkp h i).getD none
 split <;> rfl
@[simp] theorem zBN {sz n d : Nat} {t : List (Nat × AV)} {h : List (Nat × Option Ent)} {v : AV} : (⟨sz,t,h,n⟩ : St).put (some d) v=⟨sz,(d,v)::t,h,n⟩:=(rfl)
@[simp] theorem zBR {v : AV} : st.put none v=st:=(rfl)
@[simp] theorem zCn {sz n : Nat} {t : List (Nat × AV)} {h : List (Nat × Option Ent)} : (⟨sz,t,h,n⟩ : St).upd []=⟨sz,t,h,n⟩:=(rfl)
@[simp] theorem zCo {sz n : Nat} {t : List (Nat × AV)} {h us : List (Nat × Option Ent)} : (⟨sz,t,h,n⟩ : St).upd us=⟨sz,t,us++h,n⟩:=(rfl)
@[simp] theorem e_t {g : Nat->AV} {i : Nat} : Opd.ev g (.t i)=g i:=(rfl)
@[simp] theorem e_i {g : Nat->AV} {k : IntKind} {n : Int} : Opd.ev g (.c (.int k n)) = .sc (.int k n):=(rfl)
@[simp] theorem e_b {g : Nat->AV} {b : Bool} : Opd.ev g (.c (.bool b)) = .sc (.bool b):=(rfl)
@[simp] theorem e_f {g : Nat->AV} {f : FuncId} : Opd.ev g (.f f) = .fn (.func f) [] []:=(rfl)
end
theorem zdy : ∀ (xs : List AV),WkL xs xs
 | []=>trivial
 | x::xs=>⟨.refl x,zdy xs⟩
theorem zAR {P : Program} {np id : Nat} {h : Nat->Option Ent} {K : AV->List Nat->List (Nat × Option Ent)->Prop} {f : FuncId} {first capt args args' : List AV} {res : AV} (hc : zaj P f args' [] res [])
  (hw : WkL ((first++args++capt).map (conv [] [] h 4)) args') (hk : K (conv (((List.range 8).map (id + ·)).zipIdx.map λ (a,b)=>(b,a)) [] (λ _=>none) 4 res) [] []) : aK P np id .call (.fn (.func f) first capt::args) h K :=
 ⟨[],[],true,args',[],res,[],by simp,by simp,by simp,hw,rfl,hc,by simp,.inl rfl,hk⟩
theorem zf4 {P : Program} {np id : Nat} {h : Nat->Option Ent} {K : AV->List Nat->List (Nat × Option Ent)->Prop} {f : FuncId} {first capt args : List AV} (f0 : Nat) (hf : Nat.beq f f0=true) (hk : aK P np id .call (.fn (.func f0) first capt::args) h K) : aK P np id .call (.fn (.func f) first capt::args) h K:=by
 have e : f=f0:=Nat.eq_of_beq_eq_true hf;rw [e];exact hk
theorem zap {P : Program} {np id : Nat} {h : Nat->Option Ent} {K : AV->List Nat->List (Nat × Option Ent)->Prop} {f : FuncId} {first capt args args' : List AV} {res : AV} (hc : zaj P f args' [] res [])
  (he : (first++args++capt).map (conv [] [] h 4)=args') (hk : K (conv (((List.range 8).map (id + ·)).zipIdx.map λ (a,b)=>(b,a)) [] (λ _=>none) 4 res) [] []) : aK P np id .call (.fn (.func f) first capt::args) h K :=
 zAR hc (by rw [he]; exact zdy _) hk
theorem zi1 {P : Program} {np id : Nat} {h : Nat->Option Ent} {K : AV->List Nat->List (Nat × Option Ent)->Prop} {f : FuncId} {first capt args args' : List AV} {res : AV} (sn : List Nat) (hc : zaj P f args' [] res [])
  (he : (first++args++capt).map (conv [] sn h 4)=args') (hp : Plain res) (hk : K (conv (((List.range 8).map (id + ·)).zipIdx.map λ (a,b)=>(b,a)) [] (λ _=>none) 4 res) sn []) : aK P np id .call (.fn (.func f) first capt::args) h K :=
 ⟨[],sn,false,args',[],res,[],by simp,by simp,by simp,by rw [List.zipIdx_nil,he]; exact zdy _,rfl,hc,by simp,.inr ⟨hp,by simp⟩,hk⟩
@[simp] theorem zA0 : WkL [] []=True:=(rfl)
@[simp] theorem zAG {x y : AV} {xs ys : List AV} : WkL (x::xs) (y::ys)=(Wk x y/\WkL xs ys):=(rfl)
attribute [simp] Wk.nil Wk.dead Wk.full
theorem w64 {x : Int} (h1 : -9223372036854775808<=x) (h2 : x<9223372036854775808) : IntKind.i64.wrap x=x:=by rw [IntKind.wrap_i64]; omega
theorem w6 {x : Int} (h1 : -9223372036854775808<=x:=by omega) (h2 : x<9223372036854775808:=by omega) : IntKind.i64.wrap x=x:=w64 h1 h2
attribute [simp] binV unV Wk.refl zat eqs
section
variable {s s' id i j off len n : Nat} {f : Bool} {rows new : List (List AV)} {cs xs ys : List AV} {h : Nat->Option Ent} {ρ : List (Nat × Nat)} {sn : List Nat} {v : Value}
@[simp] theorem zAC : lenOf (.vs s f rows)=some rows.length:=(rfl)
@[simp] theorem zAE : lenOf (.rs id off len)=some len:=(rfl)
@[simp] theorem zAH {c : Nat} : lenOf (.rk id off len c)=some len:=(rfl)
@[simp] theorem zAB {c : Nat} : zb1 (.rk id off len c)=[id]:=(rfl)
@[simp] theorem zyV {c : Nat} : cellsOf (.rk id off len c)=some [.rk id off len c]:=(rfl)
@[simp] theorem zAv {c : Nat} : zbG s h (.rk id off len c)=(h id).bind λ e=>if e.s=s/\off+len<=e.rows.length then some ((e.rows.drop off).take len) else none:=(rfl)
@[simp] theorem zzD : lenOf .nilS=some 0:=(rfl)
@[simp] theorem zyT : zd2 h (.pv cs)=some cs:=(rfl)
@[simp] theorem zyO : zd2 h (.pt id i j)=(h id).bind λ e=>(e.rows[i]?).map (·.drop j):=(rfl)
@[simp] theorem zyy : cellsOf (.agg cs)=some cs:=(rfl)
@[simp] theorem zyW : cellsOf (.vs s f rows)=some [.vs s f rows]:=(rfl)
@[simp] theorem zyP : cellsOf (.rs id off len)=some [.rs id off len]:=(rfl)
@[simp] theorem zyR : cellsOf (.pt id i j)=some [.pt id i j]:=(rfl)
@[simp] theorem zyQ : cellsOf (.pv cs)=some [.pv cs]:=(rfl)
@[simp] theorem zyw {k : IntKind} {n : Int} : cellsOf (.sc (.int k n))=some [.sc (.int k n)]:=(rfl)
@[simp] theorem zxo {b : Bool} : cellsOf (.sc (.bool b))=some [.sc (.bool b)]:=(rfl)
@[simp] theorem zwk {b : ByteArray} : cellsOf (.sc (.string b))=some [.sc (.string b)]:=(rfl)
@[simp] theorem zxV : cellsOf .nilS=some [.nilS]:=(rfl)
@[simp] theorem zyS {g : Fn} : cellsOf (.fn g xs ys)=some [.fn g xs ys]:=(rfl)
@[simp] theorem zAP : zb1 (.vs s f rows)=[]:=(rfl)
@[simp] theorem zAI : zb1 (.rs id off len)=[id]:=(rfl)
@[simp] theorem zAL : zb1 (.pt id i j)=[id]:=(rfl)
@[simp] theorem zAF : zb1 (.pv cs)=[]:=(rfl)
@[simp] theorem zAO : zb1 (.sc v)=[]:=(rfl)
@[simp] theorem zzN : zbG s h (.vs s f rows)=some rows:=if_pos rfl
@[simp] theorem zAa : zbG s h (.rs id off len)=(h id).bind λ e=>if e.s=s/\off+len<=e.rows.length then some ((e.rows.drop off).take len) else none:=(rfl)
@[simp] theorem zyY : zbG s h .nilS=some []:=(rfl)
@[simp] theorem zyL : zcj s h new .nilS=some ([],0,[]):=(rfl)
@[simp] theorem zyU : zcj s h new (.rs id off len)=(h id).bind λ e=>if e.s=s/\off+len<=e.rows.length/\e.ro<=off+len then some ((e.rows.drop off).take len,e.ro - off,[(id,none)]) else none:=(rfl)
@[simp] theorem zAA {k : IntKind} {n : Int} : toAV (.int k n) = .sc (.int k n):=(rfl)
@[simp] theorem zzF {b : Bool} : toAV (.bool b) = .sc (.bool b):=(rfl)
@[simp] theorem zyc {b : ByteArray} : toAV (.string b) = .sc (.string b):=(rfl)
@[simp] theorem zyX {a : Option Addr} {l c : Nat} : toAV (.slice a l c) = .sc (.slice a l c):=(rfl)
@[simp] theorem zBa : conv ρ sn h (n+1) (.vs s f rows) = .vs s f rows:=(rfl)
@[simp] theorem zBb : conv ρ sn h (n+1) (.sc v) = .sc v:=(rfl)
@[simp] theorem zA4 : conv ρ sn h (n+1) (.pv cs) = .pv cs:=(rfl)
@[simp] theorem zBA {α : Type} {i : Nat} : lkp ([] : List (Nat × α)) i=none:=(rfl)
@[simp] theorem zBF {α : Type} {i j : Nat} {a : α} {l : List (Nat × α)} : lkp ((j,a)::l) i=if j=i then some a else lkp l i:=(rfl)
@[simp] theorem zAV : conv ρ sn h (n+1) (.rs id off len)=(match lkp ρ id with
   | some k=>.rs k off len
   | none =>
     if id∈sn then
      match h id with
      | some e=>if off+len<=e.rows.length then .vs e.s false (((e.rows.drop off).take len).map (·.map (conv [] sn h n))) else .dead
      | none=>.dead
     else .dead):=(rfl)
@[simp] theorem zA5 {c : Nat} : conv ρ sn h (n+1) (.rk id off len c)=(match lkp ρ id with
   | some k=>.rs k off len
   | none =>
     if id∈sn then
      match h id with
      | some e=>if off+len<=e.rows.length then .vs e.s false (((e.rows.drop off).take len).map (·.map (conv [] sn h n))) else .dead
      | none=>.dead
     else .dead):=(rfl)
@[simp] theorem zA3 : conv ρ sn h (n+1) (.pt id i j)=(match lkp ρ id with
   | some k=>.pt k i j
   | none =>
     if id∈sn then
      match h id with
      | some e=>match e.rows[i]? with | some row=>if j<=row.length then .pv ((row.drop j).map (conv [] sn h n)) else .dead | none=>.dead
      | none=>.dead
     else .dead):=(rfl)
@[simp] theorem zBj {i : Nat} : conv ρ sn h (n+1) (.mp i)=(match lkp ρ i with
 | some k=>.mp k
 | none=>.dead):=(rfl)
@[simp] theorem zAN : conv ρ sn h (n+1) (.agg cs) = .agg (cs.map (conv ρ sn h n)):=(rfl)
@[simp] theorem zAz : conv ρ sn h (n+1) (.tup cs) = .tup (cs.map (conv ρ sn h n)):=(rfl)
end
def Ord (ops : List zb0) (af : List (List Nat)) (tr : List (List Nat × List Nat)) : Prop:=zeL ops af tr=true
theorem zaa {P : Program} {np : Nat} {ops : List zb0} {Q : zdH->St->Prop} {sz n : Nat} {t : List (Nat × AV)} {h : List (Nat × Option Ent)} {af : List (List Nat)} {b : zfj} (s : St)
  (hd : (ops.all λ o=>o.dst.all (· < sz))=true) (ho : zbp P np n 0 ops ⟨sz,t,h,n⟩ [] λ st' _=>Le np ⟨st'.sz,st'.t,st'.h,n+8*ops.length⟩ s) (hq : awp P np b Q s) : awp P np (.seq (.reg false ops af) b) Q ⟨sz,t,h,n⟩:=by
 show awp P np (.reg false ops af) (λ e st'=>match e with | .normal=>∃ st2,Le np st' st2/\awp P np b Q st2 | e=>Q e st') _
 exact zav hd (zcX _ _ _ _ _ _ _ (λ st' _ h=>⟨s,h,hq⟩) ho)
theorem zaC {P : Program} {np : Nat} {ops : List zb0} {Q : zdH->St->Prop} {sz n : Nat} {t : List (Nat × AV)} {h : List (Nat × Option Ent)} {af : List (List Nat)} {b : zfj} (s : St)
  (hd : (ops.all λ o=>o.dst.all (· < sz))=true) (ho : zbp P np n 0 ops ⟨sz,t,h,n⟩ [] λ st' tr=>Ord ops af tr/\Le np ⟨st'.sz,st'.t,st'.h,n+8*ops.length⟩ s) (hq : awp P np b Q s) : awp P np (.seq (.reg true ops af) b) Q ⟨sz,t,h,n⟩:=by
 show awp P np (.reg true ops af) (λ e st'=>match e with | .normal=>∃ st2,Le np st' st2/\awp P np b Q st2 | e=>Q e st') _
 exact zcP hd (zcX _ _ _ _ _ _ _ (λ st' _ h=>⟨h.1,s,h.2,hq⟩) ho)
theorem Le.snap {st st' : St} (sn : List Nat) (hsz : st'.sz=st.sz) (hh : st'.h=[]) (ht : ∀ p∈st'.t,Wk (conv [] sn st.hp 4 (st.get p.1)) p.2) : Le 0 st st' :=
 Le.lst [] sn [] hsz (by simp) (by simp) (by simp) (by simp) (by simp) (Nat.zero_le _) (by simp) (λ p hp=>.inl (ht p hp)) (by simp [hh])
attribute [simp] zoV zhf zgy zjI resV zay Nat.succ_eq_add_one
@[simp] theorem e_n {g : Nat->AV} {a : Option Addr} {l c : Nat} : Opd.ev g (.c (.slice a l c)) = .sc (.slice a l c):=(rfl)
@[simp] theorem zCg {g : Nat->AV} {b : ByteArray} : Opd.ev g (.c (.string b)) = .sc (.string b):=(rfl)
theorem zao.out {rs : List (Nat × Option (Bool × Nat))} {st : St} {vs : List AV} {res : AV} {hs' : List (Option Ent)} (ex sn : List Nat) (h1 : zgy st rs=some vs) (h2 : ex.Nodup) (h3 : ∀ i∈sn,i∉ex)
  (hw : Wk (conv ex.zipIdx sn st.hp 4 (resV vs)) res) (he : ex.map (λ i=>(st.hp i).map (zay ex.zipIdx sn st.hp 4))=hs') : zao rs 0 st res hs':=by
 refine ⟨vs,h1,ex,sn,by simpa using h2,by simp,λ i hi=>⟨h3 i hi,Nat.zero_le _⟩,?_,?_⟩
 .simpa using hw
 .simpa using he
theorem wkT2 {a b a' b' : AV} (h1 : Wk a a') (h2 : Wk b b') : Wk (.tup [a,b]) (.tup [a',b']) :=
 .tup _ _ rfl λ i=>match i with | 0=>h1 | 1=>h2 | _+2=>.refl _
theorem wkB {a b : Bool} (h : a=b) : Wk (.B a) (.B b):=by subst h; exact .refl _
theorem zqD {P : Program} {f : FuncId} {s : Nat} {b : Bool} {hs : List Ent} {res : AV} {hs' : List (Option Ent)} (h : ∀ a c,zaj P f [.sc (.slice a 0 c)] hs res hs') : zaj P f [.vs s b []] hs res hs':=by
 refine ⟨(h none 0).1,(h none 0).2.1,λ T M w vs h1 h2 h3 hr=>?_⟩;have hr0:=hr.2 0 (by simp)
 have hv : ∃ a c,vs.getD 0 undef = .slice a 0 c:=by
  generalize vs.getD 0 undef=v at hr0
  cases hr0;exact ⟨_,_,rfl⟩
 obtain ⟨a,c,hv⟩:=hv;refine (h a c).2.2 T M w vs h1 h2 h3 ⟨hr.1,λ i hi=>?_⟩;have : i=0:=by simpa using hi
 subst this;rw [hv];exact .sc _ _ rfl
theorem ziP (hs : List Ent) : zna (hs.map some)=hpOf hs:=by
 funext k
 simp only [zna,hpOf,List.getElem?_map]
 cases hs[k]? <;> rfl
def swp (ids : List Nat) (id : Nat) : List (Nat × Nat):=(ids++(List.range 8).map (id + ·)).zipIdx.map λ (a,b)=>(b,a)
@[simp] theorem swp0 {id : Nat} : swp [] id=[(0,id),(1,id+1),(2,id+2),(3,id+3),(4,id+4),(5,id+5),(6,id+6),(7,id+7)]:=(rfl)
@[simp] theorem swp1 {a id : Nat} : swp [a] id=[(0,a),(1,id),(2,id+1),(3,id+2),(4,id+3),(5,id+4),(6,id+5),(7,id+6),(8,id+7)]:=(rfl)
@[simp] theorem swp2 {a b id : Nat} : swp [a,b] id=[(0,a),(1,b),(2,id),(3,id+1),(4,id+2),(5,id+3),(6,id+4),(7,id+5),(8,id+6),(9,id+7)]:=(rfl)
section
variable {P : Program} {np id : Nat} {h : Nat->Option Ent} {K : AV->List Nat->List (Nat × Option Ent)->Prop} {s s' : Nat} {f : Bool} {rows : List (List AV)} {k l : Nat}
@[simp] theorem zBC : aK P np id (.slc s false true false) [.vs s' f rows,.sc (.int .i64 (k : Int))] h K=(k<=rows.length/\s'=s/\K (.vs s false (rows.take k)) [] []):=by
 rw [zmd];refine propext ⟨?_,?_⟩
 .rintro ⟨l,r,m,n,h1,h2,h4,h5,h6,h7,h3,h10,h8,h9⟩
  obtain rfl:=h5 rfl;simp at h4 h1;subst h1;have : k=r:=by omega
  subst this;exact ⟨h3,h8,by simpa using h9⟩
 .rintro ⟨h1,h2,h3⟩
  exact ⟨0,k,0,rows.length,rfl,Nat.zero_le _,by simp,λ _=>rfl,(λ h=>by cases h),(λ h=>by cases h),h1,(λ h=>by cases h),h2,by simpa using h3⟩
@[simp] theorem zBH : aK P np id (.slc s true false false) [.vs s' f rows,.sc (.int .i64 (k : Int))] h K=(k<=rows.length/\s'=s/\K (.vs s f (rows.drop k)) [] []):=by
 rw [zmd];refine propext ⟨?_,?_⟩
 .rintro ⟨l,r,m,n,h1,h2,h4,h5,h6,h7,h3,h10,h8,h9⟩
  obtain rfl:=h6 rfl;simp at h4 h1;subst h1;have : k=l:=by omega
  subst this;refine ⟨h2,h8,?_⟩;have e : (rows.drop k).take (rows.length - k)=rows.drop k:=List.take_of_length_le (by simp)
  simpa [e] using h9
 .rintro ⟨h1,h2,h3⟩
  have e : (rows.drop k).take (rows.length - k)=rows.drop k:=List.take_of_length_le (by simp)
  exact ⟨k,rows.length,0,rows.length,rfl,h1,by simp,(λ h=>by cases h),λ _=>rfl,(λ h=>by cases h),Nat.le_refl _,(λ h=>by cases h),h2,by simpa [e] using h3⟩
end
section
variable {P : Program} {np id : Nat} {h : Nat->Option Ent} {K : AV->List Nat->List (Nat × Option Ent)->Prop} {f : FuncId} {first capt args args' : List AV} {res : AV}
theorem zbz {e : Ent} (hc : zaj P f args' [] res [some e]) (he : (first++args++capt).map (conv [] [] h 4)=args')
  (hk : K (conv (swp [] id) [] (λ _=>none) 4 res) [] [(id,some (zay (swp [] id) [] (λ _=>none) 4 e))]) : aK P np id .call (.fn (.func f) first capt::args) h K :=
 ⟨[],[],true,args',[],res,[some e],by simp,by simp,by simp,by rw [List.zipIdx_nil,he]; exact zdy _,rfl,hc,by simp,.inl rfl,hk⟩
theorem zql {e e2 : Ent} (hc : zaj P f args' [] res [some e,some e2]) (he : (first++args++capt).map (conv [] [] h 4)=args')
  (hk : K (conv (swp [] id) [] (λ _=>none) 4 res) [] [(id,some (zay (swp [] id) [] (λ _=>none) 4 e)),(id+1,some (zay (swp [] id) [] (λ _=>none) 4 e2))]) : aK P np id .call (.fn (.func f) first capt::args) h K :=
 ⟨[],[],true,args',[],res,[some e,some e2],by simp,by simp,by simp,by rw [List.zipIdx_nil,he]; exact zdy _,rfl,hc,by simp,.inl rfl,hk⟩
theorem zcz {i : Nat} {e e' : Ent} {hs' : List (Option Ent)} (hi : h i=some e) (hee : zay [(i,0)] [] h 4 e=e') (hc : zaj P f args' [e'] res hs') (h8 : hs'.length<=9) (he : (first++args++capt).map (conv [(i,0)] [] h 4)=args')
  (hk : K (conv (swp [i] id) [] (λ _=>none) 4 res) [i] (hs'.zipIdx.map λ (e,k)=>((i::(List.range 8).map (id + ·)).getD k 0,e.map (zay (swp [i] id) [] (λ _=>none) 4)))) : aK P np id .call (.fn (.func f) first capt::args) h K :=
 ⟨[i],[],true,args',[e'],res,hs',by simp,by simp,by simp,by rw [show [i].zipIdx=[(i,0)] from rfl,he]; exact zdy _,by rw [show [i].zipIdx=[(i,0)] from rfl]; simpa [hi] using hee,hc,by simpa using h8,.inl rfl,by simpa [swp] using hk⟩
end
theorem zaN.rfl' {nl : List (Nat × Nat)} {e : Ent} (h : e.ro<=e.rows.length) : zaN nl e e:=⟨rfl,Nat.le_refl _,h,.inl rfl⟩
theorem Le.var1 {st st' : St} (i : Nat) (sn : List Nat) {e0 e : Ent} (hsz : st'.sz=st.sz) (hh : st'.h=[(i,some e)]) (hi : i<st'.n) (hs : ∀ j∈sn,j≠i) (h0 : st.hp i=some e0) (he : zay [(i,i)] sn st.hp 4 e0=e) (hr : e.ro<=e.rows.length)
  (ht : ∀ p∈st'.t,Wk (conv [(i,i)] sn st.hp 4 (st.get p.1)) p.2) : Le 0 st st' :=
 Le.lst [(i,i)] sn [] hsz (by simp) (by simp) (by simp [hi]) (by simp) (λ j hj=>⟨Nat.zero_le _,by simpa using hs j hj⟩) (Nat.zero_le _) (by simp) (λ p hp=>.inl (ht p hp)) (λ p hp e' he'=>by
  rw [hh] at hp;simp at hp;subst hp
  cases he'
  exact .inl ⟨(i,i),by simp,rfl,e0,h0,by rw [he]; exact zaN.rfl' hr⟩)
theorem Le.ren1 {st st' : St} (i j : Nat) (sn : List Nat) {e0 e : Ent} (hsz : st'.sz=st.sz) (hh : st'.h=[(j,some e)]) (hi : j<st'.n) (hs : ∀ j∈sn,j≠i) (h0 : st.hp i=some e0) (he : zay [(i,j)] sn st.hp 4 e0=e) (hr : e.ro<=e.rows.length)
  (ht : ∀ p∈st'.t,Wk (conv [(i,j)] sn st.hp 4 (st.get p.1)) p.2) : Le 0 st st' :=
 Le.lst [(i,j)] sn [] hsz (by simp) (by simp) (by simp [hi]) (by simp) (λ j hj=>⟨Nat.zero_le _,by simpa using hs j hj⟩) (Nat.zero_le _) (by simp) (λ p hp=>.inl (ht p hp)) (λ p hp e' he'=>by
  rw [hh] at hp;simp at hp;subst hp
  cases he'
  exact .inl ⟨(i,j),by simp,rfl,e0,h0,by rw [he]; exact zaN.rfl' hr⟩)
theorem wkA3 {a b c a' b' c' : AV} (h1 : Wk a a') (h2 : Wk b b') (h3 : Wk c c') : Wk (.agg [a,b,c]) (.agg [a',b',c']) :=
 .agg _ _ rfl λ i=>match i with | 0=>h1 | 1=>h2 | 2=>h3 | _+3=>.refl _
section
variable {H : Type} {P : Program}
def avs (P : Program) : Nat->TypeId->DataW H->Option (List AV)
 | 0,_,_=>none
 | n+1,t,d =>
   match P.underlying t,d with
   | some .bool,.lit (.bool b)=>some [.sc (.bool b)]
   | some (.int k),.lit (.int k' x)=>if k'=k/\(Lit.int k' x).wf=true then some [.sc (.int k' x)] else none
   | some .string,.lit (.string l)=>some [.sc (.string ⟨l.toArray⟩)]
   | some (.slice _),.nil=>some [.nilS]
   | some (.slice e),.slice es _=>if es.length<=9223372036854775807 then (es.mapM (avs P n e)).map λ rows=>[.vs (P.cellsOf e) false rows] else none
   | some (.struct fs),.agg ds=>if ds.length=fs.size then ((fs.toList.zip ds).mapM λ (x : Field × DataW H)=>avs P n x.1.type x.2).map List.flatten else none
   | some (.array m e),.agg ds=>if ds.length=m then (ds.mapM (avs P n e)).map List.flatten else none
   | _,_=>none
def plFs (P : Program) (p : TypeId->Bool) : Nat->List Field->Option Nat
 | o,[]=>some o
 | o,f::fs=>if f.offset=o/\p f.type=true then plFs P p (o+P.cellsOf f.type) fs else none
def plT (P : Program) : Nat->TypeId->Bool
 | 0,_=>false
 | n+1,t =>
   match P.underlying t with
   | some .bool=>true
   | some (.int _)=>true
   | some .string=>true
   | some (.slice e)=>decide (0<P.cellsOf e) && plT P n e
   | some (.struct fs)=>plFs P (plT P n) 0 fs.toList == some (P.cellsOf t)
   | some (.array m e)=>plT P n e && decide (m*P.cellsOf e=P.cellsOf t)
   | _=>false
def TF (w : World) (b : Nat) : Nat:=match w.heap[b]? with | some (.cells cells _ _)=>cells.size | _=>0
theorem zAr (w : World) : TOk (TF w) w:=by
 intro b hb;unfold TF at hb ⊢;split at hb
 .rename_i cells ty fz h
  exact ⟨cells,ty,fz,h,Nat.le_refl _⟩
 .exact absurd hb (Nat.lt_irrefl _)
def RepS (w : World) (xs : List AV) (cs : List Value) : Prop :=
 xs.length=cs.length /\ ∀ i,i<xs.length->(cs.getD i undef).oneCell'=true/\Rep (TF w) w (λ _=>none) (xs.getD i .dead) (cs.getD i undef)
theorem RepS.one {w : World} {x : AV} {v : Value} (h1 : v.oneCell'=true) (h : Rep (TF w) w (λ _=>none) x v) : RepS w [x] [v]:=by
 refine ⟨rfl,λ i hi=>?_⟩;obtain rfl : i=0:=by simpa using hi
 exact ⟨h1,h⟩
theorem RepS.append {w : World} {xs ys : List AV} {cs ds : List Value} (h1 : RepS w xs cs) (h2 : RepS w ys ds) : RepS w (xs++ys) (cs++ds):=by
 refine ⟨by simp [h1.1,h2.1],λ i hi=>?_⟩
 rcases Nat.lt_or_ge i xs.length with h | h
 .have:=h1.2 i h
  simpa [List.getD,List.getElem?_append_left h,List.getElem?_append_left (show i<cs.length from h1.1 ▸ h)] using this
 .have h3 : i - xs.length<ys.length:=by simp at hi; omega
  have:=h2.2 (i - xs.length) h3
  simpa [List.getD,List.getElem?_append_right h,List.getElem?_append_right (show cs.length<=i from h1.1 ▸ h),<- h1.1] using this
theorem zpW {α β : Type} {f : α->Option β} : ∀ {l : List α},(∀ a∈l,∃ b,f a=some b) -> ∃ bs,l.mapM f=some bs/\bs.length=l.length /\ ∀ (i : Nat) a,l[i]? = some a -> ∃ b,bs[i]? = some b/\f a=some b
 | [],_=>⟨[],rfl,rfl,by simp⟩
 | a::l,h=>by
   obtain ⟨b,hb⟩:=h a List.mem_cons_self;obtain ⟨bs,h1,h2,h3⟩:=zpW (l:=l) λ x hx=>h x (List.mem_cons_of_mem _ hx);refine ⟨b::bs,by rw [List.mapM_cons,hb,h1]; rfl,by simp [h2],λ i x hi=>?_⟩
   cases i with
   | zero=>simp at hi; subst hi; exact ⟨b,rfl,hb⟩
   | succ i=>simpa using h3 i x (by simpa using hi)
variable {enc : TypeId × Value->H} {w : World} {sp : Nat->Bool} {held : Bool}
theorem zuB : ∀ (n : Nat) (t : TypeId),plT P n t=true -> ∀ (m : Nat) (cs : List Value) (x : DataW H × List MemPlace),DataW.trod enc P w 0 sp held m t cs=some x -> ∃ xs,avs P n t x.1=some xs/\RepS w xs cs
 | 0,_,h,_,_,_,_=>by cases h
 | n+1,t,h,0,cs,x,hx=>by simp [DataW.trod] at hx
 | n+1,t,h,m+1,cs,x,hx=>by
   simp only [plT] at h
   cases hu : P.underlying t with
   | none=>rw [hu] at h; cases h
   | some td =>
     rw [hu] at h
     cases td <;> simp only at h <;> (try (cases h; done))
     case slice e =>
      simp only [Bool.and_eq_true,decide_eq_true_eq] at h;rcases DataW.trod_slice hu hx with ⟨rfl,rfl⟩ | ⟨a,len,cap,elems,rest,k,_,rfl,rfl,_,hl,hmx,hlen,hel,_,_⟩
      .exact ⟨[.nilS],by simp [avs,hu],.one rfl (.sc _ _ rfl)⟩
      .obtain ⟨bs,h1,h2,h3⟩:=zpW (f:=avs P n e) (l:=elems.map (·.1)) (λ d hd=>by
        obtain ⟨y,hy,rfl⟩:=List.mem_map.1 hd;obtain ⟨i,hi,rfl⟩:=List.mem_iff_getElem.1 hy;have:=hel i (by omega)
        rw [List.getElem?_eq_getElem hi] at this
        cases hc : w.cells? 0 (a.add (i*P.cellsOf e)) (P.cellsOf e) with
        | none=>rw [hc] at this; cases this
        | some rc =>
          rw [hc] at this;obtain ⟨xs,hx1,_⟩:=zuB n e h.2 _ _ _ this
          exact ⟨xs,hx1⟩)
       have hrow : ∀ i,i<len -> ∃ row rc,bs[i]? = some row/\w.cells? 0 (a.add (i*P.cellsOf e)) (P.cellsOf e)=some rc/\RepS w row rc:=by
        intro i hi;have hi' : i<elems.length:=by omega
        have:=hel i hi;rw [List.getElem?_eq_getElem hi'] at this
        cases hc : w.cells? 0 (a.add (i*P.cellsOf e)) (P.cellsOf e) with
        | none=>rw [hc] at this; cases this
        | some rc =>
          rw [hc] at this;obtain ⟨xs,hx1,hx2⟩:=zuB n e h.2 _ _ _ this;obtain ⟨row,hr1,h4⟩:=h3 i elems[i].1 (by simp [hi'])
          rw [hx1] at h4;obtain rfl:=Option.some.inj h4;exact ⟨_,rc,hr1,rfl,hx2⟩
       have hbl : bs.length=len:=by simpa [hlen] using h2
       have hmx' : elems.length<=9223372036854775807:=by
        have e : maxLen=9223372036854775807:=by decide
        omega
       refine ⟨[.vs (P.cellsOf e) false bs],by simp [avs,hu,h1,hmx'],.one rfl ?_⟩
       rw [<- hbl]
       have hcell : ∀ i j,i<len->j<P.cellsOf e -> ∃ v,w.cell? (a.add (i*P.cellsOf e+j))=some v/\v.oneCell'=true/\Rep (TF w) w (λ _=>none) ((bs.getD i []).getD j .dead) v:=by
        intro i j hi hj;obtain ⟨row,rc,q1,q2,q3⟩:=hrow i hi;obtain ⟨_,q4,q5⟩:=World.cells?_some q2;have q6:=q5 j hj;have q7:=q3.2 j (by rw [q3.1,q4]; exact hj)
        have e1 : bs.getD i []=row:=by simp [List.getD,q1]
        have e2 : rc[j]? = some (rc.getD j undef):=by
         have : j<rc.length:=by omega
         simp [List.getD,this]
        have e3 : (a.add (i*P.cellsOf e)).add j=a.add (i*P.cellsOf e+j):=by
         unfold Addr.add
         by_cases c1 : i*P.cellsOf e=0 <;> by_cases c2 : j=0 <;> simp [c1,c2] <;> omega
        rw [e3] at q6;exact ⟨_,by rw [q6,e2],q7.1,by rw [e1]; exact q7.2⟩
       refine .vs _ _ _ _ (some a) cap (λ i j=>(w.cell? (a.add (i*P.cellsOf e+j))).getD undef) (λ h=>by cases h) (by omega) (λ row hr=>?_) (λ hne=>?_) (λ i j hi hj=>?_) λ i j hi hj=>?_
       .obtain ⟨i,hi,rfl⟩:=List.mem_iff_getElem.1 hr
        obtain ⟨row,rc,q1,q2,q3⟩:=hrow i (by omega)
        obtain ⟨_,q4,_⟩:=World.cells?_some q2;rw [List.getElem?_eq_getElem hi] at q1;obtain rfl:=Option.some.inj q1;rw [q3.1,q4]
       .have hpos : 0<len:=by
         rw [<- hbl]
         cases bs with
         | nil=>exact absurd rfl hne
         | cons _ _=>simp
        obtain ⟨v0,hv0,_⟩:=hcell 0 0 hpos h.1;obtain ⟨b,off,spot⟩:=a;have hspot : spot=none:=by simpa [Addr.add] using World.cell?_spot hv0
        subst hspot;have hadd : ∀ k,(⟨b,off,none⟩ : Addr).add k=⟨b,off+k,none⟩:=λ k=>by unfold Addr.add; split <;> simp_all
        cases hb : w.heap[b]? with
        | none=>rw [hadd] at hv0; simp [World.cell?,hb] at hv0
        | some o =>
          cases o with
          | cells cells ty fz =>
            have hc : ∀ i j,i<len->j<P.cellsOf e -> ∃ v,cells[off+i*P.cellsOf e+j]? = some v/\w.cell? ((⟨b,off,none⟩ : Addr).add (i*P.cellsOf e+j))=some v:=by
             intro i j hi hj;obtain ⟨v,hv,_⟩:=hcell i j hi hj;refine ⟨v,?_,hv⟩;rw [hadd] at hv
             simpa [World.cell?,hb,Nat.add_assoc] using hv
            refine ⟨b,off,cells,ty,fz,rfl,hb,?_,λ i j hi hj=>?_⟩
            .obtain ⟨v,hv,_⟩:=hc (len - 1) (P.cellsOf e - 1) (by omega) (by omega)
             have:=(Array.getElem?_eq_some_iff.1 hv).1
             have e5 : bs.length*P.cellsOf e=(len - 1)*P.cellsOf e+P.cellsOf e:=by
              rw [hbl];obtain ⟨q,rfl⟩ : ∃ q,len=q+1:=⟨len - 1,by omega⟩
              simp [Nat.add_mul]
             have e6 : TF w b=cells.size:=by simp [TF,hb]
             omega
            .obtain ⟨v,hv,hv2⟩:=hc i j (by omega) hj
             rw [hv,hv2]; rfl
          | _=>rw [hadd] at hv0; simp [World.cell?,hb] at hv0
       .obtain ⟨v,hv,ho,_⟩:=hcell i j (by omega) hj
        rw [hv]; exact ho
       .obtain ⟨v,hv,_,hr⟩:=hcell i j (by omega) hj
        rw [hv]; exact hr
     case struct fs =>
      simp only [beq_iff_eq] at h;obtain ⟨ys,k,_,rfl,hcl,hyl,hel⟩:=DataW.trod_struct hu hx
      have key : ∀ (fl : List Field) (o e : Nat) (zs : List (DataW H × List MemPlace)),plFs P (plT P n) o fl=some e->zs.length=fl.length ->
        (∀ (i : Nat) f,fl[i]? = some f->DataW.trod enc P w 0 sp held k f.type ((cs.drop f.offset).take (P.cellsOf f.type))=zs[i]?) ->
        ∃ l,((fl.zip (zs.map (·.1))).mapM λ (x : Field × DataW H)=>avs P n x.1.type x.2)=some l/\RepS w l.flatten ((cs.drop o).take (e - o))/\o<=e:=by
       intro fl
       induction fl with
       | nil =>
         intro o e zs h1 h2 _;simp only [plFs,Option.some.injEq] at h1;subst h1;exact ⟨[],rfl,by simp [RepS],Nat.le_refl _⟩
       | cons f fl ih =>
         intro o e zs h1 h2 h3
         cases zs with
         | nil=>simp at h2
         | cons z zs =>
           simp only [plFs] at h1;split at h1
           case isFalse=>cases h1
           rename_i hc;obtain ⟨rfl,hp⟩:=hc;have hz:=h3 0 f rfl;simp only [List.getElem?_cons_zero] at hz;obtain ⟨row,r1,r2⟩:=zuB n f.type hp _ _ _ hz;obtain ⟨l,l1,l2,l3⟩:=ih _ e zs h1 (by simpa using h2) λ i g hg=>by simpa using h3 (i+1) g (by simpa using hg)
           refine ⟨row::l,by simp [List.mapM_cons,r1,l1],?_,by omega⟩
           have e1 : (cs.drop f.offset).take (e - f.offset)=(cs.drop f.offset).take (P.cellsOf f.type)++(cs.drop (f.offset+P.cellsOf f.type)).take (e - (f.offset+P.cellsOf f.type)):=by
            rw [show e - f.offset=P.cellsOf f.type+(e - (f.offset+P.cellsOf f.type)) by omega,List.take_add,List.drop_drop]
           rw [e1,List.flatten_cons];exact r2.append l2
      obtain ⟨l,l1,l2,_⟩:=key fs.toList 0 _ ys h (by simpa using hyl) (λ i f hf=>hel i f (by simpa using hf))
      refine ⟨l.flatten,by simp [avs,hu,l1,hyl],?_⟩
      rw [List.drop_zero,Nat.sub_zero,<- hcl,List.take_length] at l2;exact l2
     case array q e =>
      simp only [Bool.and_eq_true,decide_eq_true_eq] at h;rw [DataW.trod_step] at hx;unfold DataW.trodStep at hx;simp only [hu] at hx;split at hx
      case isFalse=>cases hx
      rename_i hcl;simp only [Option.map_eq_some_iff] at hx;obtain ⟨zs,hzs,rfl⟩:=hx
      have key : ∀ (m' k : Nat) (zs : List (DataW H × List MemPlace)),((List.range' k m').mapM λ i=>DataW.trod enc P w 0 sp held m e ((cs.drop (i*P.cellsOf e)).take (P.cellsOf e)))=some zs ->
        ∃ l,(zs.map (·.1)).mapM (avs P n e)=some l/\RepS w l.flatten ((cs.drop (k*P.cellsOf e)).take (m'*P.cellsOf e))/\zs.length=m':=by
       intro m'
       induction m' with
       | zero =>
         intro k zs h1;simp at h1;subst h1;exact ⟨[],rfl,by simp [RepS],rfl⟩
       | succ m' ih =>
         intro k zs h1;rw [List.range'_succ,List.mapM_cons] at h1
         cases hz : DataW.trod enc P w 0 sp held m e ((cs.drop (k*P.cellsOf e)).take (P.cellsOf e)) with
         | none=>rw [hz] at h1; simp at h1
         | some z =>
           rw [hz] at h1
           cases hr : ((List.range' (k+1) m').mapM λ i=>DataW.trod enc P w 0 sp held m e ((cs.drop (i*P.cellsOf e)).take (P.cellsOf e))) with
           | none=>rw [hr] at h1; simp at h1
           | some zs' =>
             rw [hr] at h1;simp at h1;subst h1;obtain ⟨row,r1,r2⟩:=zuB n e h.1 _ _ _ hz;obtain ⟨l,l1,l2,l3⟩:=ih (k+1) zs' hr;refine ⟨row::l,by simp [List.mapM_cons,r1,l1],?_,by simp [l3]⟩
             have e1 : (cs.drop (k*P.cellsOf e)).take ((m'+1)*P.cellsOf e)=(cs.drop (k*P.cellsOf e)).take (P.cellsOf e)++(cs.drop ((k+1)*P.cellsOf e)).take (m'*P.cellsOf e):=by
              rw [show (m'+1)*P.cellsOf e=P.cellsOf e+m'*P.cellsOf e by rw [Nat.add_mul,Nat.one_mul,Nat.add_comm],List.take_add,List.drop_drop,show k*P.cellsOf e+P.cellsOf e=(k+1)*P.cellsOf e by rw [Nat.add_mul,Nat.one_mul]]
             rw [e1,List.flatten_cons];exact r2.append l2
      obtain ⟨l,l1,l2,l3⟩:=key q 0 zs (by rw [<- List.range_eq_range']; exact hzs)
      refine ⟨l.flatten,by simp [avs,hu,l1,l3],?_⟩
      rw [Nat.zero_mul,List.drop_zero,h.2,<- hcl,List.take_length] at l2;exact l2
     all_goals
      rw [DataW.trod_step] at hx;unfold DataW.trodStep at hx;simp only [hu] at hx
     case bool =>
      rcases cs with _ | ⟨c,_ | ⟨c2,cs⟩⟩ <;> (try (simp at hx; done))
      cases c <;> simp at hx
      subst hx;exact ⟨_,by simp [avs,hu],.one rfl (.sc _ _ rfl)⟩
     case int k =>
      rcases cs with _ | ⟨c,_ | ⟨c2,cs⟩⟩ <;> (try (simp at hx; done))
      cases c <;> simp at hx
      obtain ⟨⟨rfl,hwf⟩,rfl⟩:=hx;exact ⟨_,by simp [avs,hu,hwf],.one rfl (.sc _ _ rfl)⟩
     case string =>
      rcases cs with _ | ⟨c,_ | ⟨c2,cs⟩⟩ <;> (try (simp at hx; done))
      cases c <;> simp at hx
      obtain ⟨_,rfl⟩:=hx;rename_i s _;exact ⟨[.sc (.string s)],by simp [avs,hu],.one rfl (.sc _ _ rfl)⟩
end
end Go.Proofs.YtkngdgplbojdlaaGreat
namespace Go.Proofs.YtkngdgplbojdlaaGreat
open Go Go.ChangeShapes Go.WideShapes Go.ChangeAt Go.RowKit
section
variable {H : Type} {P : Program}
def ziU (P : Program) (n : Nat) (t : TypeId) (d : DataW H) : Option AV :=
 match P.underlying t with
 | some (.struct _)=>(avs P n t d).map .agg
 | some (.array _ _)=>(avs P n t d).map .agg
 | _=>(avs P n t d).bind fun | [x]=>some x | _=>none
variable {enc : TypeId × Value->H} {W : World} {sp : Nat->Bool} {held : Bool}
theorem zx3 {n : Nat} {t : TypeId} (hp : plT P n t=true) {r : Go.Reach} {base : Nat} {v : Value} {d : DataW H} {p : List MemPlace} (hval : Value.okWide P W r base t v) (h : DataW.Trod enc P W 0 sp held t v d p) :
  ∃ x,ziU P n t d=some x/\Rep (TF W) W (λ _=>none) x v:=by
 obtain ⟨m,hm⟩:=h;obtain ⟨xs,h1,h2⟩:=zuB n t hp m _ _ hm;simp only at h1
 cases n with
 | zero=>cases hp
 | succ n =>
   simp only [plT] at hp
   cases hu : P.underlying t with
   | none=>rw [hu] at hp; cases hp
   | some td =>
     rw [hu] at hp
     have one : (∀ cs,v ≠ .agg cs)->(∀ fs,td ≠ .struct fs)->(∀ m e,td ≠ .array m e) -> ∃ x,ziU P (n+1) t d=some x/\Rep (TF W) W (λ _=>none) x v:=by
      intro hv ht hta
      have hc : v.cells = #[v]:=by
       cases v <;> first | rfl | exact absurd rfl (hv _)
      rw [hc] at h2;obtain ⟨hl,h3⟩:=h2
      match xs,hl with
      | [x],_ =>
        refine ⟨x,?_,?_⟩
        .simp only [ziU,hu]
         cases td <;> first | exact absurd rfl (ht _) | exact absurd rfl (hta _ _) | simp [h1]
        .simpa using (h3 0 (by simp)).2
     cases td <;> simp only at hp <;> (try (cases hp; done))
     case struct fs =>
      simp only [Value.okWide,hu] at hval;obtain ⟨cs,rfl,_,_⟩:=hval;refine ⟨.agg xs,by simp [ziU,hu,h1],?_⟩
      simp only [Value.cells] at h2;refine .agg _ _ _ (by simpa using h2.1.symm) (λ i hi=>?_) λ i hi=>?_
      .have:=(h2.2 i hi).1
       simpa [List.getD,Array.getD_eq_getD_getElem?] using this
      .have:=(h2.2 i hi).2
       simpa [List.getD,Array.getD_eq_getD_getElem?] using this
     case array m e =>
      simp only [Value.okWide,hu] at hval;obtain ⟨cs,rfl,_,_⟩:=hval;refine ⟨.agg xs,by simp [ziU,hu,h1],?_⟩
      simp only [Value.cells] at h2;refine .agg _ _ _ (by simpa using h2.1.symm) (λ i hi=>?_) λ i hi=>?_
      .have:=(h2.2 i hi).1
       simpa [List.getD,Array.getD_eq_getD_getElem?] using this
      .have:=(h2.2 i hi).2
       simpa [List.getD,Array.getD_eq_getD_getElem?] using this
     all_goals
      refine one (λ cs hc=>?_) (λ fs hf=>by cases hf) (λ m e hf=>by cases hf)
      subst hc;simp [Value.okWide,hu,Cell.okWide,Cell.ok] at hval
def zj2 (P : Program) (n : Nat) : List TypeId->List (DataW H)->Option (List AV)
 | [],[]=>some []
 | t::ts,d::ds=>match ziU P n t d,zj2 P n ts ds with
   | some x,some xs=>some (x::xs)
   | _,_=>none
 | _,_=>none
theorem zsP {n : Nat} {r : Go.Reach} {base : Nat} : ∀ {ts : List TypeId} {vs : List Value} {ds : List (DataW H)} {p : List MemPlace},(∀ t∈ts,plT P n t=true)->(∀ (j : Nat) t v,ts[j]? = some t->vs[j]? = some v->Value.okWide P W r base t v) ->
  DataW.TrodAll enc P W 0 sp held ts vs ds p -> ∃ xs,zj2 P n ts ds=some xs/\xs.length=vs.length /\ ∀ i,i<xs.length->Rep (TF W) W (λ _=>none) (xs.getD i .dead) (vs.getD i undef)
 | [],[],[],_,_,_,_=>⟨[],rfl,rfl,λ i hi=>absurd hi (by simp)⟩
 | t::ts,v::vs,d::ds,_,hp,hv,⟨p,q,h1,h2,_⟩=>by
   obtain ⟨x,x1,x2⟩:=zx3 (hp t List.mem_cons_self) (hv 0 t v rfl rfl) h1;obtain ⟨xs,y1,y2,y3⟩:=zsP (λ t ht=>hp t (List.mem_cons_of_mem _ ht)) (λ j t v h3 h4=>hv (j+1) t v (by simpa using h3) (by simpa using h4)) h2
   refine ⟨x::xs,by simp [zj2,x1,y1],by simp [y2],λ i hi=>?_⟩
   cases i with
   | zero=>simpa using x2
   | succ i=>simpa using y3 i (by simpa using hi)
theorem zlb (hl : laidOutB P=true) {W' : World} (hb : Below W.heap.size W W') : ∀ {ts : List TypeId} {vs : List Value} {ds : List (DataW H)} {p : List MemPlace},(∀ t∈ts,P.readableRec t=true/\t<P.types.size)->(∀ x∈p,x.block<W.heap.size) ->
  DataW.TrodAll enc P W 0 (λ _=>true) true ts vs ds p->DataW.TrodAll enc P W' 0 (λ b=>decide (b<W.heap.size)) true ts vs ds p
 | [],[],[],_,_,_,h=>h
 | t::ts,v::vs,d::ds,_,hp,hlt,⟨p,q,h1,h2,e⟩ =>
   ⟨p,q,Below.trod hl (hp t List.mem_cons_self).1 (hp t List.mem_cons_self).2 h1 hb (λ x hx=>hlt x (by rw [e]; exact List.mem_append_left _ hx)),
    zlb hl hb (λ t ht=>hp t (List.mem_cons_of_mem _ ht)) (λ x hx=>hlt x (by rw [e]; exact List.mem_append_right _ hx)) h2,e⟩
def zBi (P : Program) (n : Nat) (ts : List TypeId) : Bool:=ts.all λ t=>P.readableRec t && decide (t<P.types.size) && plT P n t
theorem zt9 {f : Func} {fi : FuncId} {s : ChangeSpec} {n : Nat} {tb : TypeId} (hl : laidOutB P=true) {ts : List TypeId} (hts : f.params.toList=ts) (hok : zBi P n ts=true)
  (hres : f.resultTypes = #[tb]) (htb : P.underlying tb=some .bool) (hvars : s.vars=[]) {r : Go.Reach} {base : Nat} {args : Array Value} {ds gs : List (DataW H)} {before : List MemPlace}
  (hval : ∀ (j : Nat) t v,f.params[j]? = some t->args[j]? = some v->Value.okWide P W r base t v)
  (hW : DataW.Whole enc P f.params.toList s.vars false W args.toList ds gs before) (hs1 : (s.fn H (ds++[])).results=[.lit (.bool true)]) (hs2 : (s.fn H (ds++[])).args=ds) (hs3 : (s.fn H (ds++[])).vars=[])
  (hc : ∀ xs,zj2 P n ts ds=some xs->zaj P fi xs [] (.B true) []) :
  Calls P fi args W λ e W'=>∃ v,e = .returned v/\s.post enc P f false true false false W args v W':=by
 have hok' : ∀ t∈ts,(P.readableRec t=true/\t<P.types.size)/\plT P n t=true:=by
  intro t ht;have:=List.all_eq_true.1 hok t ht
  simpa only [Bool.and_eq_true,decide_eq_true_eq] using this
 have hr : ∀ t∈f.params.toList,P.readableRec t=true/\t<P.types.size:=λ t ht=>(hok' t (hts ▸ ht)).1;have hp : ∀ t∈f.params.toList,plT P n t=true:=λ t ht=>(hok' t (hts ▸ ht)).2;subst hts;have hW':=hW;obtain ⟨p,q,hA,hV,rfl,hfz,hnd⟩:=hW;rw [hvars] at hV;obtain ⟨rfl,rfl⟩:=trodVars_none hV;have hlt : ∀ x∈p,x.block<W.heap.size:=λ x hx=>by simpa using hW'.lt x (by simpa using hx)
 obtain ⟨xs,x1,x2,x3⟩:=zsP hp (λ j t v h1 h2=>hval j t v (by simpa using h1) (by simpa using h2)) hA
 have hR : RepL (TF W) W (λ _=>none) xs args:=⟨by simpa using x2.symm,λ i hi=>by simpa [List.getD,Array.getD_eq_getD_getElem?] using x3 i hi⟩
 refine ((hc xs x1).2.2 (TF W) (λ _=>none) W args (zAr W) ⟨λ id e he=>by simp [hpOf] at he,λ id id' e e' g g' b h1=>by simp [hpOf] at h1⟩ (λ _ _=>rfl) hR).mono ?_
 rintro e W' ⟨v,T',M',rfl,hv,_,haf⟩
 have hv' : v = .bool true:=by cases hv; rfl
 subst hv';have hB : Below W.heap.size W W':=⟨haf.os,haf.tape,haf.output,haf.size,λ k hk=>haf.keep k hk (by rintro ⟨_,_,h,_⟩; exact absurd h (Nat.not_lt_zero _))⟩
 refine ⟨_,rfl,ds,[],p++[],[],p,[],hW',?_,?_,?_,hB.frame _,λ h=>by cases h⟩
 .rw [hres,hs1]
  exact trodAll_mk1 (shut_bool htb _)
 .rw [hs2]
  exact zlb hl hB hr hlt hA
 .rw [hvars,hs3]
  rfl
end
abbrev oo (d : Nat) (op : AOp) (xs : List Opd) : zb0:=⟨some d,op,xs,none⟩
abbrev og (d : Nat) (op : AOp) (xs : List Opd) (g : Nat) : zb0:=⟨some d,op,xs,some (g,true)⟩
abbrev oh (d : Nat) (op : AOp) (xs : List Opd) (g : Nat) : zb0:=⟨some d,op,xs,some (g,false)⟩
abbrev ou (op : AOp) (xs : List Opd) : zb0:=⟨none,op,xs,none⟩
abbrev vi (n : Int) : Value:=.int .i64 n
abbrev v0 : Value:=.int .i64 0
abbrev ve : Value:=.string ⟨#[]⟩
abbrev vn : Value:=.slice none 0 0
abbrev ki (n : Int) : Opd:=.c (.int .i64 n)
abbrev kn : Opd:=.c (.slice none 0 0)
abbrev ma (d s : Nat) : zb0:=⟨some d,.mv,[.t s],none⟩
abbrev mg (d s g : Nat) : zb0:=⟨some d,.mv,[.t s],some (g,true)⟩
abbrev mh (d s g : Nat) : zb0:=⟨some d,.mv,[.t s],some (g,false)⟩
abbrev fa (d k s : Nat) : zb0:=⟨some d,.fad k,[.t s],none⟩
abbrev fg (d k s g : Nat) : zb0:=⟨some d,.fad k,[.t s],some (g,true)⟩
abbrev fh (d k s g : Nat) : zb0:=⟨some d,.fad k,[.t s],some (g,false)⟩
abbrev la (d s : Nat) : zb0:=⟨some d,.ld false 1,[.t s],none⟩
abbrev lg (d s g : Nat) : zb0:=⟨some d,.ld false 1,[.t s],some (g,true)⟩
abbrev lh (d s g : Nat) : zb0:=⟨some d,.ld false 1,[.t s],some (g,false)⟩
abbrev ca (d : Nat) (f : FuncId) (xs : List Opd) : zb0:=⟨some d,.call,.f f::xs,none⟩
abbrev sr (l : List zb0) (c : zfj) : zfj:=.seq (.reg false l []) c
abbrev rg (l : List zb0) : zfj:=.reg false l []
end Go.Proofs.YtkngdgplbojdlaaGreat
namespace Go.Proofs.YtkngdgplbojdlaaGreat
abbrev zfZ : Nat:=4
abbrev zjk : Nat:=8
abbrev zgm : Nat:=9
abbrev zkT : Nat:=10
abbrev zdQ : Nat:=11
abbrev zeX : Nat:=12
abbrev zaz : Nat:=13
abbrev zdI : Nat:=14
abbrev zer : Nat:=16
abbrev zio : Nat:=17
abbrev zdu : Nat:=19
abbrev zg7 : Nat:=20
abbrev zfG : Nat:=21
abbrev zjD : Nat:=22
abbrev zjy : Nat:=23
abbrev zdl : Nat:=24
abbrev ziJ : Nat:=25
abbrev zbs : Nat:=26
abbrev zkC : Nat:=28
abbrev ze9 : Nat:=29
abbrev zih : Nat:=30
abbrev zg4 : Nat:=31
abbrev zjp : Nat:=32
abbrev zdG : Nat:=33
abbrev zhA : Nat:=34
abbrev zgV : Nat:=35
abbrev zd0 : Nat:=36
abbrev zaF : Nat:=37
abbrev zbV : Nat:=38
abbrev zcU : Nat:=39
abbrev zbq : Nat:=40
abbrev zbt : Nat:=41
abbrev zeU : Nat:=42
abbrev zbT : Nat:=43
abbrev zcg : Nat:=44
abbrev zbj : Nat:=45
abbrev zd5 : Nat:=46
abbrev zeh : Nat:=47
abbrev zbU : Nat:=50
abbrev zam : Nat:=51
abbrev zdT : Nat:=52
abbrev zho : Nat:=53
abbrev za3 : Nat:=54
abbrev zbr : Nat:=55
abbrev zfq : Nat:=56
abbrev zeT : Nat:=57
abbrev zby : Nat:=58
abbrev zfT : Nat:=59
abbrev zdY : Nat:=60
abbrev zdW : Nat:=61
abbrev zfE : Nat:=62
abbrev zgN : Nat:=63
abbrev ziO : Nat:=65
abbrev ziC : Nat:=66
abbrev zmm : Nat:=67
abbrev zgt : Nat:=68
abbrev zia : Nat:=69
abbrev zhq : Nat:=70
abbrev zh8 : Nat:=71
abbrev zev : Nat:=72
abbrev zeE : Nat:=73
abbrev zhj : Nat:=74
abbrev zez : Nat:=75
abbrev zaI : Nat:=76
abbrev zcf : Nat:=77
abbrev zbx : Nat:=78
abbrev zcw : Nat:=79
abbrev zdi : Nat:=80
abbrev zeP : Nat:=81
abbrev zbd : Nat:=82
abbrev zcx : Nat:=83
abbrev zeS : Nat:=84
abbrev zcB : Nat:=85
abbrev zdb : Nat:=86
abbrev zet : Nat:=87
abbrev zbv : Nat:=88
abbrev za4 : Nat:=89
abbrev zbY : Nat:=90
abbrev zgI : Nat:=91
abbrev zhl : Nat:=92
abbrev zes : Nat:=93
abbrev zaW : Nat:=94
abbrev zel : Nat:=95
abbrev zhU : Nat:=96
abbrev zgD : Nat:=97
abbrev zhQ : Nat:=98
abbrev zfK : Nat:=99
abbrev zha : Nat:=100
abbrev zgr : Nat:=107
abbrev zcc : Nat:=108
abbrev za0 : Nat:=109
abbrev zbc : Nat:=110
abbrev zdZ : Nat:=111
abbrev zeR : Nat:=112
abbrev zcF : Nat:=113
abbrev zcd : Nat:=114
abbrev zgG : Nat:=115
abbrev zep : Nat:=116
abbrev zgl : Nat:=117
abbrev zic : Nat:=118
abbrev zeK : Nat:=119
abbrev zds : Nat:=120
abbrev zgF : Nat:=121
abbrev zcZ : Nat:=122
abbrev zgQ : Nat:=123
abbrev zbR : Nat:=124
abbrev zaV : Nat:=125
abbrev zaL : Nat:=126
abbrev za1 : Nat:=127
abbrev zaD : Nat:=128
abbrev zdO : Nat:=129
abbrev zaX : Nat:=130
abbrev zaH : Nat:=131
abbrev za5 : Nat:=132
abbrev zbJ : Nat:=133
abbrev zbk : Nat:=134
abbrev zdB : Nat:=135
abbrev zdd : Nat:=136
abbrev zdk : Nat:=137
abbrev zf1 : Nat:=138
abbrev ziI : Nat:=139
abbrev zhC : Nat:=140
abbrev zen : Nat:=141
abbrev zfN : Nat:=144
abbrev zdL : Nat:=145
abbrev zlv : Nat:=154
abbrev zb4 : Nat:=155
abbrev zec : Nat:=156
abbrev zhE : Nat:=157
abbrev zcR : Nat:=158
abbrev zaP : Nat:=159
abbrev zg9 : Nat:=160
abbrev zhc : Nat:=161
abbrev zde : Nat:=162
abbrev zcS : Nat:=163
abbrev zci : Nat:=164
abbrev zdX : Nat:=165
abbrev zb6 : Nat:=166
abbrev zaU : Nat:=167
abbrev zdP : Nat:=168
abbrev zaK : Nat:=169
abbrev zaS : Nat:=170
abbrev zdA : Nat:=171
abbrev zcO : Nat:=172
abbrev zcT : Nat:=173
abbrev zmc : Nat:=174
abbrev zdK : Nat:=175
abbrev za2 : Nat:=176
abbrev zcV : Nat:=177
abbrev zdF : Nat:=178
abbrev zh0 : Nat:=185
abbrev zd8 : Nat:=186
abbrev zcu : Nat:=187
abbrev zaZ : Nat:=188
abbrev zf7 : Nat:=189
abbrev zeG : Nat:=190
abbrev zfe : Nat:=191
abbrev zeN : Nat:=192
abbrev zdn : Nat:=193
abbrev zkr : Nat:=194
abbrev zeq : Nat:=195
abbrev zfC : Nat:=196
abbrev zbN : Nat:=197
abbrev zbP : Nat:=198
abbrev zhp : Nat:=199
abbrev zdr : Nat:=200
abbrev za8 : Nat:=201
abbrev zdz : Nat:=204
abbrev zaY : Nat:=208
abbrev zb2 : Nat:=209
abbrev zii : Nat:=210
abbrev zk4 : Nat:=211
abbrev za6 : Nat:=212
abbrev zfo : Nat:=213
abbrev zd4 : Nat:=214
abbrev zgB : Nat:=219
abbrev zd3 : Nat:=220
abbrev znm : Nat:=221
abbrev zbZ : Nat:=222
abbrev zaR : Nat:=223
abbrev zdx : Nat:=224
abbrev zdc : Nat:=227
abbrev zcW : Nat:=228
abbrev za9 : Nat:=229
abbrev zdE : Nat:=230
abbrev zc9 : Nat:=231
abbrev zdq : Nat:=232
abbrev zdh : Nat:=233
abbrev zcE : Nat:=234
abbrev zc6 : Nat:=235
abbrev zdD : Nat:=236
end Go.Proofs.YtkngdgplbojdlaaGreat
