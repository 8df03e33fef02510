/- Texts of this claim,merged. -/
import Derived.Test.YtklclphfcibagaaGreatRy4
import Derived.ChangeArms
import Derived.Carry
import Derived.OpenShut
import Derived.WalkKit
import Derived.ProofKit
import Derived.Test.YtklclphfcibagaaGreatRy1
set_option linter.unusedSimpArgs false
set_option linter.unusedVariables false
set_option linter.unusedSectionVars false
namespace Go.Proofs.YtklclphfcibagaaGreat
open Go
def Up (nl : List (Nat × Nat)) (x y : AV) : Prop:=Wk x y ∨ (x = .nilS ∧ ∃ id s,y = .rs id 0 0 ∧ (id,s) ∈ nl)
def UpL (nl : List (Nat × Nat)) : List AV → List AV → Prop
 | [],[]=>True
 | x :: xs,y :: ys=>Up nl x y ∧ UpL nl xs ys
 | _,_=>False
theorem UpL.length {nl : List (Nat × Nat)} : ∀ {xs ys : List AV},UpL nl xs ys → xs.length = ys.length
 | [],[],_=>rfl
 | _ :: _,_ :: _,h=>by simp [UpL.length h.2]
 | [],_ :: _,h=>False.elim h
 | _ :: _,[],h=>False.elim h
theorem UpL.get {nl : List (Nat × Nat)} : ∀ {xs ys : List AV},UpL nl xs ys → ∀ i : Nat,i < xs.length → Up nl (xs.getD i .dead) (ys.getD i .dead)
 | x :: xs,y :: ys,h,0,_=>h.1
 | x :: xs,y :: ys,h,i + 1,hi=>by simpa using UpL.get h.2 i (by simpa using hi)
 | [],[],_,i,hi=>absurd hi (by simp)
 | [],_ :: _,h,_,_=>False.elim h
 | _ :: _,[],h,_,_=>False.elim h
def zba (nl : List (Nat × Nat)) (e e' : Ent) : Prop :=
 e'.s = e.s ∧ e.ro ≤ e'.ro ∧ e'.ro ≤ e'.rows.length ∧ (e'.rows = e.rows ∨ (e.s ≠ 0 ∧ e.rows.length = e'.rows.length ∧ ∀ i,UpL nl (e.rows.getD i []) (e'.rows.getD i [])))
theorem Le.mk {np : Nat} {st st' : St} (ρ : List (Nat × Nat)) (sn : List Nat) (nl : List (Nat × Nat)) (hsz : st'.sz = st.sz)
  (h0 : (ρ.map (·.1)).Nodup) (h1 : (ρ.map (·.2)).Nodup) (h2 : ∀ p ∈ ρ,p.2 < st'.n ∧ (p.2 < np → p.1 = p.2)) (h3 : ∀ p ∈ nl,np ≤ p.1 ∧ p.1 < st'.n ∧ p.1 ∉ ρ.map (·.2) ∧ p.2 ≠ 0) (h4 : ∀ i ∈ sn,np ≤ i ∧ i ∉ ρ.map (·.1)) (h5 : np ≤ st'.n) (h6 : (nl.map (·.1)).Nodup)
  (ht : ∀ i,Up nl (conv ρ sn st.hp 4 (st.get i)) (st'.get i))
  (hh : ∀ id' e',st'.hp id' = some e' → (∃ id e,(id,id') ∈ ρ ∧ st.hp id = some e ∧ zba nl (zaw ρ sn st.hp 4 e) e') ∨ ((id',e'.s) ∈ nl ∧ e'.rows = [] ∧ e'.ro = 0)) : Le np st st':=by
 intro T0 M0 w0 T M a w ok hn
 obtain ⟨T1,hT1,htok1,hsnap,hsame⟩:=zmW ok.hs ok.after.tok sn
 let M' : GM:=fun j=>if j < np then M j else match lkp nl j with
  | some s=>some ⟨none,0,s⟩
  | none=>match lkp (ρ.map fun p=>(p.2,p.1)) j with
    | some i=>M i
    | none=>none
 have hlow : ∀ j,j < np → M' j = M j:=fun j hj=>if_pos hj
 have hnil : ∀ j s,(j,s) ∈ nl → M' j = some ⟨none,0,s⟩:=by
  intro j s hjs
  have hnp:=(h3 _ hjs).1
  have hl : lkp nl j = some s:=by
   cases hl : lkp nl j with
   | none=>exact absurd hjs (zh7 hl s)
   | some s' =>
     have:=zbK hl
     have key : ∀ (l : List (Nat × Nat)),(l.map (·.1)).Nodup → (j,s) ∈ l → (j,s') ∈ l → s = s':=by
      intro l
      induction l with
      | nil=>intro _ h; simp at h
      | cons p l ih =>
        intro hnd ha hb
        simp only [List.map_cons,List.nodup_cons,List.mem_map,not_exists,not_and] at hnd
        rcases List.mem_cons.1 ha with ha | ha <;> rcases List.mem_cons.1 hb with hb | hb
        ·rw [← ha] at hb; cases hb; rfl
        ·exact absurd (by rw [← ha]) (hnd.1 _ hb)
        ·exact absurd (by rw [← hb]) (hnd.1 _ ha)
        ·exact ih hnd.2 ha hb
     rw [key nl h6 hjs this]
  show (if j < np then M j else _) = _
  rw [if_neg (by omega),hl]
 have hmap : ∀ i j,(i,j) ∈ ρ → M' j = M i:=by
  intro i j hij
  by_cases hj : j < np
  ·have h:=(h2 _ hij).2 hj
   simp only at h
   rw [hlow j hj,h]
  ·have hnl : lkp nl j = none:=by
    cases hl : lkp nl j with
    | none=>rfl
    | some s=>exact absurd (List.mem_map.2 ⟨_,hij,rfl⟩) (h3 _ (zbK hl)).2.2.1
   have hinv : lkp (ρ.map fun p=>(p.2,p.1)) j = some i:=by
    cases hl : lkp (ρ.map fun p=>(p.2,p.1)) j with
    | none=>exact absurd (List.mem_map.2 ⟨_,hij,rfl⟩) (zh7 hl i)
    | some i' =>
      have:=zbK hl
      simp only [List.mem_map,Prod.mk.injEq] at this
      obtain ⟨⟨p1,p2⟩,hp,rfl,rfl⟩:=this
      have key : ∀ (l : List (Nat × Nat)),(l.map (·.2)).Nodup → (p1,p2) ∈ l → (i,p2) ∈ l → p1 = i:=by
       intro l
       induction l with
       | nil=>intro _ h; simp at h
       | cons p l ih =>
         intro hnd ha hb
         simp only [List.map_cons,List.nodup_cons,List.mem_map,not_exists,not_and] at hnd
         rcases List.mem_cons.1 ha with ha | ha <;> rcases List.mem_cons.1 hb with hb | hb
         ·rw [← ha] at hb; cases hb; rfl
         ·exact absurd (by rw [← ha]) (hnd.1 _ hb)
         ·exact absurd (by rw [← hb]) (hnd.1 _ ha)
         ·exact ih hnd.2 ha hb
      rw [key ρ h1 hp hij]
   show (if j < np then M j else _) = _
   rw [if_neg hj,hnl,hinv]
 have hM'some : ∀ j g,M' j = some g → j < np ∨ (∃ s,(j,s) ∈ nl ∧ g = ⟨none,0,s⟩) ∨ ∃ i,(i,j) ∈ ρ ∧ M i = some g:=by
  intro j g hg
  by_cases hj : j < np
  ·exact .inl hj
  ·right
   have hg' : (if j < np then M j else match lkp nl j with
    | some s=>some ⟨none,0,s⟩
    | none=>match lkp (ρ.map fun p=>(p.2,p.1)) j with
      | some i=>M i
      | none=>none) = some g:=hg
   rw [if_neg hj] at hg'
   cases hl : lkp nl j with
   | some s =>
     rw [hl] at hg'
     exact .inl ⟨s,zbK hl,(Option.some.inj hg').symm⟩
   | none =>
     rw [hl] at hg'
     cases hr : lkp (ρ.map fun p=>(p.2,p.1)) j with
     | none=>rw [hr] at hg'; cases hg'
     | some i =>
       rw [hr] at hg'
       have:=zbK hr
       simp only [List.mem_map,Prod.mk.injEq] at this
       obtain ⟨⟨p1,p2⟩,hp,rfl,rfl⟩:=this
       exact .inr ⟨_,hp,hg'⟩
 have hcv:=fun x v hr=>zik (Mc:=M') (x:=x) (v:=v) ok.hs sn hT1 hsnap 4 ρ (fun id k hl=>hmap id k (zbK hl)) hr
 have hup : ∀ x y v,Up nl x y → Rep T1 w M' x v → Rep T1 w M' y v:=by
  rintro x y v (h | ⟨rfl,id,s,rfl,hin⟩) hr
  ·exact h.rep hr
  ·cases hr
   exact .rs _ _ 0 0 0 none _ (hnil id s hin) (h3 _ hin).2.2.2 (Nat.le_refl _) (fun _=>⟨rfl,rfl⟩) fun b hb=>by cases hb
 have hT1keep : ∀ id e g b,id ∉ sn → st.hp id = some e → M id = some g → g.blk = some b → T1 b = T b:=by
  intro id e g b h1 h2 h3 h4
  refine hsame b fun i hi e' g' h5 h6 h7=>?_
  have:=ok.hs.inj id i e e' g g' b h2 h5 h3 h6 h4 h7
  subst this
  exact h1 hi
 refine ⟨T1,M',⟨ok.sz.trans hsz.symm,ok.df,fun i=>hup _ _ _ (ht i) (hcv _ _ (ok.tm i)),⟨fun id' e' he'=>?_,fun i i' e1 e2 g g' b q1 q2 q3 q4 q5 q6=>?_⟩,fun j g hg=>?_,?_⟩,h5⟩
 ·rcases hh id' e' he' with ⟨id,e,hin,he,u1,u2,u3,u4⟩ | ⟨hin,hr,hro⟩
  ·obtain ⟨g,hg,ent⟩:=ok.hs.ent id e he
   have hsn' : id ∉ sn:=fun hi=>(h4 id hi).2 (List.mem_map.2 ⟨_,hin,rfl⟩)
   have hlen : e'.rows.length = e.rows.length:=by
    rcases u4 with u4 | ⟨_,v1,_⟩
    ·rw [u4]; simp [zaw]
    ·rw [← v1]; simp [zaw]
   have hrow0 : ∀ i,(zaw ρ sn st.hp 4 e).rows.getD i [] = (e.rows.getD i []).map (conv ρ sn st.hp 4):=fun i=>by
    simp only [zaw,List.getD,List.getElem?_map]
    cases e.rows[i]? <;> rfl
   have hwid' : e.s ≠ 0 → ∀ r ∈ e'.rows,r.length = e.s:=fun hz r hr=>by
    rcases u4 with u4 | ⟨_,v1,v3⟩
    ·rw [u4] at hr
     simp only [zaw,List.mem_map] at hr
     obtain ⟨r0,hr0,rfl⟩:=hr
     rw [List.length_map]
     exact ent.wide hz r0 hr0
    ·obtain ⟨i,hi,rfl⟩:=List.mem_iff_getElem.1 hr
     have h1:=(v3 i).length
     rw [hrow0,List.length_map] at h1
     have e1 : e'.rows.getD i [] = e'.rows[i]:=by simp [List.getD,hi]
     have hi' : i < e.rows.length:=by omega
     have e2 : e.rows.getD i [] = e.rows[i]:=by simp [List.getD,hi']
     rw [e1,e2] at h1
     rw [← h1]
     exact ent.wide hz _ (List.getElem_mem hi')
   have hcell : e.s ≠ 0 → ∀ i j,i < e.rows.length → j < e.s → Up nl (conv ρ sn st.hp 4 ((e.rows.getD i []).getD j .dead)) ((e'.rows.getD i []).getD j .dead):=by
    intro hz i j hi hj
    have e1 : ((zaw ρ sn st.hp 4 e).rows.getD i []).getD j .dead = conv ρ sn st.hp 4 ((e.rows.getD i []).getD j .dead):=by
     rw [hrow0,zbg _ (zcn _ _ _ _)]
    rcases u4 with u4 | ⟨_,v1,v3⟩
    ·rw [u4,e1]; exact .inl (.refl _)
    ·rw [← e1]
     refine (v3 i).get j ?_
     rw [hrow0,List.length_map]
     have e2 : e.rows.getD i [] = e.rows[i]:=by simp [List.getD,hi]
     rw [e2,ent.wide hz _ (List.getElem_mem hi)]
     exact hj
   have hes : e'.s = e.s:=u1
   refine ⟨g,(hmap id id' hin).trans hg,ent.s.trans (by rw [u1]; rfl),u3,fun hz r hr=>?_,fun hn=>?_,fun hz=>?_,fun hz b hbk=>?_⟩
   ·rw [hes]
    exact hwid' (hes ▸ hz) r hr
   ·have:=ent.none hn
    rw [this] at hlen
    exact List.eq_nil_of_length_eq_zero (by simpa using hlen)
   ·obtain ⟨b,es,clock,hbb,q1,q2,q3,q4⟩:=ent.mp (hes ▸ hz)
    have hrows : e'.rows = (zaw ρ sn st.hp 4 e).rows:=by
     rcases u4 with u4 | ⟨v0,_⟩
     ·exact u4
     ·exact absurd (hes ▸ hz) v0
    refine ⟨b,es,clock,hbb,q1,by rw [hT1keep id e g b hsn' he hg hbb]; exact q2,q3,?_⟩
    rw [hrows]
    exact q4.map (fun _=>rfl) fun row _ x _ v hr=>hcv x v hr
   ·obtain ⟨cells,ty,p1,p2,p3,p4⟩:=ent.blk (hes ▸ hz) b hbk
    refine ⟨cells,ty,p1,?_,by rw [hlen,hes]; exact p3,fun i j hi hj=>?_⟩
    ·rw [hT1keep id e g b hsn' he hg hbk,hes]
     have : e.ro * e.s ≤ e'.ro * e.s:=Nat.mul_le_mul_right _ u2
     omega
    ·rw [hlen] at hi
     rw [hes] at hj ⊢
     obtain ⟨u,hu,ho,hru⟩:=p4 i j hi hj
     exact ⟨u,hu,ho,hup _ _ _ (hcell (hes ▸ hz) i j hi hj) (hcv _ _ hru)⟩
  ·refine ⟨_,hnil _ _ hin,rfl,by rw [hro]; exact Nat.zero_le _,(fun _=>by rw [hr]; simp),(fun _=>hr),(fun hz=>absurd hz (h3 _ hin).2.2.2),fun _ b hb=>by cases hb⟩
 ·have hold : ∀ i e1 g b,st'.hp i = some e1 → M' i = some g → g.blk = some b → ∃ id e,(id,i) ∈ ρ ∧ st.hp id = some e ∧ M id = some g:=by
   intro i e1 g b p1 p2 p3
   rcases hh i e1 p1 with ⟨id,e,hin,he,_⟩ | ⟨hin,_⟩
   ·exact ⟨id,e,hin,he,(hmap id i hin).symm.trans p2⟩
   ·rw [hnil _ _ hin] at p2
    obtain rfl:=Option.some.inj p2
    cases p3
  obtain ⟨i1,ea,r1,r2,r3⟩:=hold i e1 g b q1 q3 q5
  obtain ⟨i2,eb,s1,s2,s3⟩:=hold i' e2 g' b q2 q4 q6
  have:=ok.hs.inj i1 i2 ea eb g g' b r2 s2 r3 s3 q5 q6
  subst this
  ·
   have key : ∀ (l : List (Nat × Nat)),(l.map (·.1)).Nodup → (i1,i) ∈ l → (i1,i') ∈ l → i = i':=by
    intro l
    induction l with
    | nil=>intro _ h; simp at h
    | cons p l ih =>
      intro hnd ha hb
      simp only [List.map_cons,List.nodup_cons,List.mem_map,not_exists,not_and] at hnd
      rcases List.mem_cons.1 ha with ha | ha <;> rcases List.mem_cons.1 hb with hb | hb
      ·rw [← ha] at hb; cases hb; rfl
      ·exact absurd (by rw [← ha]) (hnd.1 _ hb)
      ·exact absurd (by rw [← hb]) (hnd.1 _ ha)
      ·exact ih hnd.2 ha hb
   exact key ρ h0 r1 s1
 ·rcases hM'some j g hg with h | ⟨s,h,_⟩ | ⟨i,h,_⟩
  ·show j < st'.n; omega
  ·exact (h3 _ h).2.1
  ·exact (h2 _ h).1
 ·refine ok.after.step htok1 (fun b hb hnp=>?_) (fun k hk=>hlow k hk) rfl rfl rfl (Nat.le_refl _) (fun _ _ _=>rfl) ⟨hT1,fun b cells ty fz h=>⟨cells,fz,h,rfl,fun _ _=>rfl⟩⟩ fun k g b hk hg hbb=>?_
  ·refine hsame b fun i hi e g q1 q2 q3=>?_
   exact (ok.after.blk q2 q3).elim hnp (by omega)
  ·rcases hM'some k g hg with h | ⟨s,h,rfl⟩ | ⟨i,h,hgi⟩
   ·omega
   ·cases hbb
   ·rcases Nat.lt_or_ge i np with hlt | hge
    ·exact .inl ⟨i,g,hlt,(ok.after.same i hlt).symm.trans hgi,hbb⟩
    ·exact ok.after.new i g b hge hgi hbb
theorem Le.refl (np : Nat) (st : St) : Le np st st:=fun _ _ _ T M _ _ ok hn=>⟨T,M,ok,hn⟩
theorem zrX {P : Program} {np id : Nat} {op : AOp} {xs : List AV} {h : Nat → Option Ent} {K1 K2 : AV → List Nat → List (Nat × Option Ent) → Prop} (hk : ∀ a b c,K1 a b c → K2 a b c) : aK P np id op xs h K1 → aK P np id op xs h K2:=by
 by_cases happ : ∃ s b x y,op = .app s b ∧ xs = [x,y] ∧ ¬ ∃ i o l c,x = AV.rk i o l c
 ·obtain ⟨s,b,x,y,rfl,rfl,hx⟩:=happ
  simp only [zl3 hx]
  rintro ⟨a,b,c,d,e,f,hk'⟩
  exact ⟨a,b,c,d,e,f,hk _ _ _ hk'⟩
 unfold aK
 split <;> intro hx
 all_goals first
  | (exfalso; exact happ ⟨_,_,_,_,rfl,rfl,fun ⟨_,_,_,_,e⟩=>by subst e; simp_all⟩)
  | exact hx
  | exact hk _ _ _ hx
  | skip
 all_goals try (obtain ⟨a1,hx⟩:=hx; first | exact ⟨a1,hk _ _ _ hx⟩ | skip)
 all_goals try (obtain ⟨a2,hx⟩:=hx; first | exact ⟨a1,a2,hk _ _ _ hx⟩ | skip)
 all_goals try (obtain ⟨a3,hx⟩:=hx; first | exact ⟨a1,a2,a3,hk _ _ _ hx⟩ | skip)
 all_goals try (obtain ⟨a4,hx⟩:=hx; first | exact ⟨a1,a2,a3,a4,hk _ _ _ hx⟩ | skip)
 all_goals try (obtain ⟨a5,hx⟩:=hx; first | exact ⟨a1,a2,a3,a4,a5,hk _ _ _ hx⟩ | skip)
 all_goals try (obtain ⟨a6,hx⟩:=hx; first | exact ⟨a1,a2,a3,a4,a5,a6,hk _ _ _ hx⟩ | skip)
 all_goals try (obtain ⟨a7,hx⟩:=hx; first | exact ⟨a1,a2,a3,a4,a5,a6,a7,hk _ _ _ hx⟩ | skip)
 all_goals try (obtain ⟨a8,hx⟩:=hx; first | exact ⟨a1,a2,a3,a4,a5,a6,a7,a8,hk _ _ _ hx⟩ | skip)
 all_goals try exact ⟨a1,a2,a3,a4,a5,a6,a7,a8,hx.1,hk _ _ _ hx.2⟩
 ·obtain ⟨h1,h2,hx⟩:=hx
  refine ⟨a1,a2,a3,a4,a5,a6,a7,a8,h1,h2,?_⟩
  split at hx
  ·exact ⟨hx.1,hx.2.1,hx.2.2.1,hk _ _ _ hx.2.2.2⟩
  ·exact ⟨hx.1,hx.2.1,hx.2.2.1,hk _ _ _ hx.2.2.2⟩
  ·exact ⟨hx.1,hx.2.1,hx.2.2.1,hx.2.2.2.1,hk _ _ _ hx.2.2.2.2⟩
  ·exact ⟨hx.1,hx.2.1,hk _ _ _ hx.2.2⟩
  ·exact hx
 ·obtain ⟨h1,h2,h3,h4,h5,h6,h7,hx⟩:=hx
  exact ⟨a1,a2,a3,a4,a5,a6,a7,a8,h1,h2,h3,h4,h5,h6,h7,hk _ _ _ hx⟩
 rotate_left
 ·obtain ⟨h1,h2,h3,h4,h5,h6,h7,h8,h9,hx⟩:=hx
  exact ⟨a1,a2,a3,a4,a5,a6,a7,a8,h1,h2,h3,h4,h5,h6,h7,h8,h9,hk _ _ _ hx⟩
 ·obtain ⟨h1,hx⟩:=hx
  refine ⟨a1,a2,a3,a4,a5,a6,a7,a8,h1,?_⟩
  split at hx <;> rename_i hc
  ·rw [if_pos hc]; exact hk _ _ _ hx
  ·rw [if_neg hc]; exact hk _ _ _ hx
theorem zch {P : Program} {np : Nat} : ∀ (ops : List zbI) (n i : Nat) (st : St) (tr : List (List Nat × List Nat)) (K K' : St → List (List Nat × List Nat) → Prop),(∀ s t,K s t → K' s t) → zbh P np n i ops st tr K → zbh P np n i ops st tr K':=by
 intro ops
 induction ops with
 | nil=>intro n i st tr K K' hK h; exact hK _ _ h
 | cons o os ih =>
   intro n i st tr K K' hK h
   have hgo : ∀ (op : AOp) (xs : List AV) (h : Nat → Option Ent) (K1 K2 : AV → List Nat → List (Nat × Option Ent) → Prop),(∀ a b c,K1 a b c → K2 a b c) → aK P np (n + 8 * i) op xs h K1 → aK P np (n + 8 * i) op xs h K2:=by
    intro op xs h K1 K2 hk hx
    exact zrX hk hx
   unfold zbh at h ⊢
   cases hg : o.guard with
   | none =>
     simp only [hg] at h ⊢
     exact hgo _ _ _ _ _ (fun v rd up hh=>ih _ _ _ _ _ _ hK hh) h
   | some gw =>
     obtain ⟨g,want⟩:=gw
     simp only [hg] at h ⊢
     obtain ⟨b,hb,h⟩:=h
     refine ⟨b,hb,?_⟩
     by_cases hbw : b = some want
     ·rw [if_pos hbw] at h ⊢
      exact hgo _ _ _ _ _ (fun v rd up hh=>ih _ _ _ _ _ _ hK hh) h
     ·rw [if_neg hbw] at h ⊢
      exact ih _ _ _ _ _ _ hK h
theorem zb2 {P : Program} {np : Nat} : ∀ {c : zdu} {Q Q' : zcP → St → Prop} {st : St},(∀ e s,Q e s → Q' e s) → awp P np c Q st → awp P np c Q' st:=by
 intro c
 induction c with
 | skip=>intro Q Q' st h; exact h _ _
 | reg draw ops after =>
   intro Q Q' st h hw
   refine ⟨hw.1,?_⟩
   exact zch _ _ _ _ _ _ _ (fun s t h2=>⟨h2.1,h _ _ h2.2⟩) hw.2
 | seq a b iha ihb =>
   intro Q Q' st h hw
   refine iha (fun e s hs=>?_) hw
   cases e with
   | normal=>obtain ⟨st2,hle,h2⟩:=hs; exact ⟨st2,hle,ihb h h2⟩
   | exit id=>exact h _ _ hs
   | ret=>exact h _ _ hs
 | cond c a b iha ihb =>
   intro Q Q' st h hw
   obtain ⟨t,ht,hw⟩:=hw
   refine ⟨t,ht,?_⟩
   cases t
   ·exact ihb h hw
   ·exact iha h hw
 | block id a iha =>
   intro Q Q' st h hw
   refine iha (fun e s hs=>?_) hw
   cases e with
   | normal=>exact h _ _ hs
   | exit id' =>
     simp only at hs ⊢
     by_cases hi : id' = id
     ·rw [if_pos hi] at hs ⊢; exact h _ _ hs
     ·rw [if_neg hi] at hs ⊢; exact h _ _ hs
   | ret=>exact h _ _ hs
 | loop a iha =>
   intro Q Q' st h hw
   obtain ⟨I,hI,hb⟩:=hw
   refine ⟨I,hI,fun k s hk=>iha (fun e s hs=>?_) (hb k s hk)⟩
   cases e with
   | normal=>exact hs
   | exit id=>exact h _ _ hs
   | ret=>exact h _ _ hs
 | exit id=>intro Q Q' st h; exact h _ _
 | ret=>intro Q Q' st h; exact h _ _
 | bad=>intro Q Q' st _ h; exact h
theorem zac {P : Program} {np : Nat} {a b : zdu} {Q : zcP → St → Prop} {st : St}
  (h : awp P np a (fun e st'=>match e with | .normal=>awp P np b Q st' | e=>Q e st') st) : awp P np (.seq a b) Q st:=by
 show awp P np a _ st
 refine zb2 (fun e s hs=>?_) h
 cases e with
 | normal=>exact ⟨s,Le.refl _ _,hs⟩
 | exit id=>exact hs
 | ret=>exact hs
theorem zaI {P : Program} {np : Nat} {a : zdu} {Q : zcP → St → Prop} {st : St} {ι : Type} (C : ι → St) (I : ι → Prop) (m : ι → Nat) (i0 : ι) (h0 : I i0) (hle : Le np st (C i0))
  (hb : ∀ i,I i → awp P np a (fun e st'=>match e with | .normal=>∃ j,I j ∧ m j < m i ∧ Le np st' (C j) | e=>Q e st') (C i)) : awp P np (.loop a) Q st:=by
 refine ⟨fun k s=>∃ i,I i ∧ m i = k ∧ s = C i,⟨_,_,hle,i0,h0,rfl,rfl⟩,?_⟩
 rintro k s ⟨i,hi,rfl,rfl⟩
 refine zb2 (fun e s hs=>?_) (hb i hi)
 cases e with
 | normal=>obtain ⟨j,hj,hm,hl⟩:=hs; exact ⟨_,_,hl,⟨j,hj,rfl,rfl⟩,hm⟩
 | exit id=>exact hs
 | ret=>exact hs
theorem Le.lst {np : Nat} {st st' : St} (ρ : List (Nat × Nat)) (sn : List Nat) (nl : List (Nat × Nat)) (hsz : st'.sz = st.sz)
  (h0 : (ρ.map (·.1)).Nodup) (h1 : (ρ.map (·.2)).Nodup) (h2 : ∀ p ∈ ρ,p.2 < st'.n ∧ (p.2 < np → p.1 = p.2)) (h3 : ∀ p ∈ nl,np ≤ p.1 ∧ p.1 < st'.n ∧ p.1 ∉ ρ.map (·.2) ∧ p.2 ≠ 0) (h4 : ∀ i ∈ sn,np ≤ i ∧ i ∉ ρ.map (·.1)) (h5 : np ≤ st'.n) (h6 : (nl.map (·.1)).Nodup)
  (ht : ∀ p ∈ st'.t,Up nl (conv ρ sn st.hp 4 (st.get p.1)) p.2)
  (hh : ∀ p ∈ st'.h,∀ e',p.2 = some e' → (∃ q ∈ ρ,q.2 = p.1 ∧ ∃ e,st.hp q.1 = some e ∧ zba nl (zaw ρ sn st.hp 4 e) e') ∨ ((p.1,e'.s) ∈ nl ∧ e'.rows = [] ∧ e'.ro = 0)) : Le np st st':=by
 refine Le.mk ρ sn nl hsz h0 h1 h2 h3 h4 h5 h6 (fun i=>?_) fun id' e' he'=>?_
 ·unfold St.get at *
  cases hl : lkp st'.t i with
  | none=>exact .inl (.dead _)
  | some v=>exact ht _ (zbK hl)
 ·unfold St.hp at he'
  cases hl : lkp st'.h id' with
  | none=>rw [hl] at he'; cases he'
  | some v =>
    rw [hl] at he'
    rcases hh _ (zbK hl) e' he' with ⟨q,hq,hq2,e,he,h⟩ | h
    ·obtain ⟨q1,q2⟩:=q
     simp only at hq2
     subst hq2
     exact .inl ⟨q1,e,hq,he,h⟩
    ·exact .inr h
theorem Le.slots {st st' : St} (hsz : st'.sz = st.sz) (hh : st'.h = []) (ht : ∀ p ∈ st'.t,Wk (conv [] [] st.hp 4 (st.get p.1)) p.2) : Le 0 st st' :=
 Le.lst [] [] [] hsz (by simp) (by simp) (by simp) (by simp) (by simp) (Nat.zero_le _) (by simp) (fun p hp=>.inl (ht p hp)) (by simp [hh])
def Src (P : Program) (f : FuncId) (af : AFun) : Prop:=P.follows .mixedOrders = true ∧ ∃ fn,P.funcs[f]? = some fn ∧ zss P fn = some af ∧ fn.name ≠ "runtime.NumGoroutine"
theorem Src.acalls {P : Program} {f : FuncId} {af : AFun} (s : Src P f af) {args : List AV} {hs : List Ent} {res : AV} {hs' : List (Option Ent)}
  (hnt : args.length ≤ af.nt) (hn16 : hs.length ≤ 16) (hlen' : hs.length ≤ hs'.length) (h : awp P hs.length af.code (fun e st=>(e = .normal ∨ e = .ret) ∧ zat af.res hs.length st res hs') (zfj af args hs)) : zao P f args hs res hs':=by
 obtain ⟨hm,fn,hf,hc,hn⟩:=s
 exact zrB hm hf hc hn hnt hn16 hlen' h
theorem zat.one {t : Nat} {st : St} {res : AV} (h : Wk (conv [] [] st.hp 4 (st.get t)) res) : zat [(t,none)] 0 st res [] :=
 ⟨[st.get t],rfl,[],[],by simp,by simp,by simp,h,rfl⟩
theorem Src.ac {P : Program} {f : FuncId} {af : AFun} (s : Src P f af) {args : List AV} {hs : List Ent} {res : AV} {hs' : List (Option Ent)}
  (h : awp P hs.length af.code (fun e st=>(e = .normal ∨ e = .ret) ∧ zat af.res hs.length st res hs') (zfj af args hs)) (hnt : args.length ≤ af.nt:=by exact nbz rfl) (hn16 : hs.length ≤ 16:=by exact nbz rfl) (hlen' : hs.length ≤ hs'.length:=by first | exact Nat.le_refl _ | exact Nat.zero_le _) : zao P f args hs res hs':=s.acalls hnt hn16 hlen' h
theorem zaV {P : Program} {np : Nat} {ops : List zbI} {Q : zcP → St → Prop} {sz n : Nat} {t : List (Nat × AV)} {h : List (Nat × Option Ent)} {af : List (List Nat)}
  (hd : (ops.all fun o=>o.dst.all (· < sz)) = true) (ho : zbh P np n 0 ops ⟨sz,t,h,n⟩ [] fun st' _=>Q .normal ⟨st'.sz,st'.t,st'.h,n + 8 * ops.length⟩) : awp P np (.reg false ops af) Q ⟨sz,t,h,n⟩:=by
 refine ⟨hd,?_⟩
 have : (fun (st' : St) (tr : List (List Nat × List Nat))=>Q .normal ⟨st'.sz,st'.t,st'.h,n + 8 * ops.length⟩) = fun st' tr=>(false = true → zdE ops af tr = true) ∧ Q .normal { st' with n:=(⟨sz,t,h,n⟩ : St).n + 8 * ops.length }:=by
  funext st' tr
  simp
 rw [← this]
 exact ho
theorem zax {P : Program} {np : Nat} {ops : List zbI} {Q : zcP → St → Prop} {sz n : Nat} {t : List (Nat × AV)} {h : List (Nat × Option Ent)} {af : List (List Nat)} (s : St)
  (hd : (ops.all fun o=>o.dst.all (· < sz)) = true) (ho : zbh P np n 0 ops ⟨sz,t,h,n⟩ [] fun st' _=>(⟨st'.sz,st'.t,st'.h,n + 8 * ops.length⟩ : St) = s) (hq : Q .normal s) : awp P np (.reg false ops af) Q ⟨sz,t,h,n⟩:=by
 refine zaV hd (zch _ _ _ _ _ (fun st' _=>(⟨st'.sz,st'.t,st'.h,n + 8 * ops.length⟩ : St) = s) _ (fun st' _ h=>?_) ho)
 subst h
 exact hq
theorem zau {P : Program} {np : Nat} {ops : List zbI} {Q : zcP → St → Prop} {sz n : Nat} {t : List (Nat × AV)} {h : List (Nat × Option Ent)} {af : List (List Nat)} {s : St}
  (hq : Q .normal s) (hd : (ops.all fun o=>o.dst.all (· < sz)) = true:=by rfl) (ho : zbh P np n 0 ops ⟨sz,t,h,n⟩ [] (fun st' _=>(⟨st'.sz,st'.t,st'.h,n + 8 * ops.length⟩ : St) = s):=by simp; rfl) : awp P np (.reg false ops af) Q ⟨sz,t,h,n⟩:=zax s hd ho hq
theorem zdp {P : Program} {np : Nat} {ops : List zbI} {Q : zcP → St → Prop} {sz n : Nat} {t : List (Nat × AV)} {h : List (Nat × Option Ent)} {af : List (List Nat)}
  (hd : (ops.all fun o=>o.dst.all (· < sz)) = true) (ho : zbh P np n 0 ops ⟨sz,t,h,n⟩ [] fun st' tr=>zdE ops af tr = true ∧ Q .normal ⟨st'.sz,st'.t,st'.h,n + 8 * ops.length⟩) : awp P np (.reg true ops af) Q ⟨sz,t,h,n⟩:=by
 refine ⟨hd,?_⟩
 have : (fun (st' : St) (tr : List (List Nat × List Nat))=>zdE ops af tr = true ∧ Q .normal ⟨st'.sz,st'.t,st'.h,n + 8 * ops.length⟩) = fun st' tr=>(true = true → zdE ops af tr = true) ∧ Q .normal { st' with n:=(⟨sz,t,h,n⟩ : St).n + 8 * ops.length }:=by
  funext st' tr
  simp
 rw [← this]
 exact ho
theorem zak {P : Program} {np : Nat} {c : Opd} {a b : zdu} {Q : zcP → St → Prop} {st : St} (t : Bool) (hc : c.ev st.get = .sc (.bool t)) (h1 : t = true → awp P np a Q st) (h2 : t = false → awp P np b Q st) : awp P np (.cond c a b) Q st:=by
 refine ⟨t,hc,?_⟩
 cases t
 ·exact h2 rfl
 ·exact h1 rfl
theorem zm9 {P : Program} {np : Nat} {ops : List zbI} {Q : zcP → St → Prop} {sz n : Nat} {t : List (Nat × AV)} {h : List (Nat × Option Ent)} {af : List (List Nat)} {s : St} {tr : List (List Nat × List Nat)}
  (hd : (ops.all fun o=>o.dst.all (· < sz)) = true) (ho : zbh P np n 0 ops ⟨sz,t,h,n⟩ [] fun st' tr'=>(⟨st'.sz,st'.t,st'.h,n + 8 * ops.length⟩ : St) = s ∧ tr' = tr) (hr : zdE ops af tr = true) (hq : Q .normal s) : awp P np (.reg true ops af) Q ⟨sz,t,h,n⟩:=by
 refine zdp hd (zch _ _ _ _ _ (fun st' tr'=>(⟨st'.sz,st'.t,st'.h,n + 8 * ops.length⟩ : St) = s ∧ tr' = tr) _ (fun st' tr' h=>?_) ho)
 obtain ⟨rfl,rfl⟩:=h
 exact ⟨hr,hq⟩
theorem zal {P : Program} {np : Nat} {Q : zcP → St → Prop} {st : St} (h : Q .normal st) : awp P np .skip Q st:=h
theorem zan {P : Program} {np : Nat} {Q : zcP → St → Prop} {st : St} (h : Q .ret st) : awp P np .ret Q st:=h
theorem zaD {P : Program} {np id : Nat} {Q : zcP → St → Prop} {st : St} (h : Q (.exit id) st) : awp P np (.exit id) Q st:=h
theorem hit {i : Nat} {a b : Prop} (h : a) : if i = i then a else b:=by rw [if_pos rfl]; exact h
theorem zai {P : Program} {np id : Nat} {a : zdu} {Q : zcP → St → Prop} {st : St} (h : awp P np a (fun e st'=>match e with | .exit id'=>if id' = id then Q .normal st' else Q (.exit id') st' | e=>Q e st') st) : awp P np (.block id a) Q st:=h
theorem zbM {P : Program} {np : Nat} {a b : zdu} {Q : zcP → St → Prop} {st : St} {ι : Type} (C : ι → St) (I : ι → Prop)
  (ha : awp P np a (fun e st'=>match e with | .normal=>∃ j,I j ∧ Le np st' (C j) | e=>Q e st') st) (hb : ∀ j,I j → awp P np b Q (C j)) : awp P np (.seq a b) Q st:=by
 show awp P np a _ st
 refine zb2 (fun e s hs=>?_) ha
 cases e with
 | normal=>obtain ⟨j,hj,hl⟩:=hs; exact ⟨C j,hl,hb j hj⟩
 | exit id=>exact hs
 | ret=>exact hs
section
variable {P : Program} {np id : Nat} {h : Nat → Option Ent} {K : AV → List Nat → List (Nat × Option Ent) → Prop}
@[simp] theorem k_mv {x : AV} : aK P np id .mv [x] h K = K x [] []:=(rfl)
@[simp] theorem zCv {t : Bool} {a b : AV} : aK P np id .pick [.sc (.bool t),a,b] h K = K (if t then a else b) [] []:=by
 refine propext ⟨?_,fun hk=>⟨t,rfl,hk⟩⟩
 rintro ⟨t',ht,hk⟩
 cases ht
 exact hk
@[simp] theorem zBV {z : List Value} : aK P np id (.alloc z) [] h K = K (.pt id 0 0) [] [(id,some { s:=z.length,rows:=[z.map .sc] })]:=(rfl)
@[simp] theorem zDd {s : Nat} {x : AV} : aK P np id (.box s) [x] h K = ∃ cs,cellsOf x = some cs ∧ cs.length = s ∧ K (.pt id 0 0) [] [(id,some { s:=s,rows:=[cs] })]:=(rfl)
@[simp] theorem zBL {z ps xs} : aK P np id (.build z ps) xs h K = ∃ cs,znE (z.map .sc) ps xs = some cs ∧ K (.agg cs) [] []:=(rfl)
@[simp] theorem zDp {s len z ps xs} : aK P np id (.bsl s len z ps) xs h K = ∃ rows,ziR s (List.replicate len (z.map .sc)) ps xs = some rows ∧ z.length = s ∧ K (.rs id 0 len) [] [(id,some { s:=s,rows:=rows })]:=(rfl)
@[simp] theorem zCS {s : Nat} {x : AV} : aK P np id (.ld true s) [x] h K = ∃ cs,zc2 h x = some cs ∧ s ≤ cs.length ∧ K (.agg (cs.take s)) (zbH x) []:=(rfl)
@[simp] theorem zC1 {s : Nat} {x : AV} : aK P np id (.ld false s) [x] h K = ∃ cs,zc2 h x = some cs ∧ s ≤ cs.length ∧ K (cs.headD .dead) (zbH x) []:=(rfl)
@[simp] theorem k_st {s i k j : Nat} {x : AV} : aK P np id (.st s) [.pt i k j,x] h K = ∃ e row cs,h i = some e ∧ e.rows[k]? = some row ∧ e.ro ≤ k ∧ cellsOf x = some cs ∧ cs.length = s ∧ j + s ≤ row.length ∧
   K .dead [i] [(i,some { e with rows:=e.rows.set k (zbR row j cs) })]:=(rfl)
@[simp] theorem zBv {i k j : Nat} : aK P np id .nil [.pt i k j] h K = K (.pt i k j) [] []:=propext ⟨fun h=>h.2,fun h=>⟨trivial,h⟩⟩
@[simp] theorem zAn {cs : List AV} : aK P np id .nil [.pv cs] h K = K (.pv cs) [] []:=propext ⟨fun h=>h.2,fun h=>⟨trivial,h⟩⟩
@[simp] theorem zC6 {op : BinOp} {a b : Value} : aK P np id (.bin op) [.sc a,.sc b] h K = ∃ v,binV op a b = some v ∧ K (.sc v) [] []:=(rfl)
@[simp] theorem zDj {neg a b : Bool} : aK P np id (.beq neg) [.sc (.bool a),.sc (.bool b)] h K = K (.sc (.bool ((a == b) != neg))) [] []:=(rfl)
def aeqK (o : Option Bool) (neg : Bool) (K : AV → List Nat → List (Nat × Option Ent) → Prop) : Prop:=∃ b,o = some b ∧ K (.sc (.bool (b != neg))) [] []
@[simp] theorem zDh {neg : Bool} {ks : List Nat} {xs ys : List AV} : aK P np id (.aeq neg ks) [.agg xs,.agg ys] h K = aeqK (eqs ks xs ys) neg K:=(rfl)
@[simp] theorem zxW {b neg : Bool} : aeqK (some b) neg K = K (.sc (.bool (b != neg))) [] []:=by simp [aeqK]
@[simp] theorem zzq {neg : Bool} {s : Nat} {f : Bool} {row : List AV} {rows : List (List AV)} : aK P np id (.snil neg) [.vs s f (row :: rows)] h K = K (.sc (.bool neg)) [] []:=(rfl)
@[simp] theorem zAj {neg : Bool} {a : Option Addr} {l c : Nat} : aK P np id (.snil neg) [.sc (.slice a l c)] h K = K (.sc (.bool (a.isNone != neg))) [] []:=(rfl)
@[simp] theorem zDg {s i off len : Nat} {z : List Value} : aK P np id (.clr s z) [.rs i off len] h K = ∃ e,h i = some e ∧ e.s = s ∧ z.length = s ∧ e.ro ≤ off ∧ off + len ≤ e.rows.length ∧
   K .dead [i] [(i,some { e with rows:=e.rows.take off ++ List.replicate len (z.map .sc) ++ e.rows.drop (off + len) })]:=(rfl)
@[simp] theorem k_un {op : UnOp} {a : Value} : aK P np id (.un op) [.sc a] h K = ∃ v,unV op a = some v ∧ K (.sc v) [] []:=(rfl)
@[simp] theorem zDb {k k' : IntKind} {n : Int} : aK P np id (.cvt k) [.sc (.int k' n)] h K = K (.sc (.int k (k.wrap n))) [] []:=(rfl)
@[simp] theorem zDe {x : AV} : aK P np id .b2s [x] h K = ∃ rows bs,zbt 1 h x = some rows ∧ zci rows = some bs ∧ K (.sc (.string ⟨bs.toArray⟩)) (zbH x) []:=(rfl)
@[simp] theorem zC8 {t : TypeId} {x : AV} : aK P np id (.mki t) [x] h K = K (.ifc t x) [] []:=(rfl)
@[simp] theorem zxC {t : TypeId} {x : AV} : aK P np id .nil [.ifc t x] h K = K (.ifc t x) [] []:=propext ⟨fun h=>h.2,fun h=>⟨trivial,h⟩⟩
@[simp] theorem zDq {f : FuncId} {xs : List AV} : aK P np id (.mkf f) xs h K = K (.fn (.func f) [] xs) [] []:=(rfl)
@[simp] theorem zC2 {f : FuncId} {xs : List AV} : aK P np id (.mkb f) xs h K = K (.fn (.func f) xs []) [] []:=(rfl)
@[simp] theorem zDi {s bytes z k k' l c} : aK P np id (.mks s bytes z) [.sc (.int k l),.sc (.int k' c)] h K = (0 ≤ l ∧ l ≤ c ∧ c * bytes ≤ 140737488355328 ∧ c ≤ 140737488355328 ∧ z.length = s ∧
   K (.rs id 0 l.toNat) [] [(id,some { s:=s,rows:=List.replicate l.toNat (z.map .sc) })]):=(rfl)
theorem zjR {s : Nat} {lo hi mx : Bool} {x : AV} {bs : List AV} : aK P np id (.slc s lo hi mx) (x :: bs) h K = ∃ l r m : Nat,∃ n,lenOf x = some n ∧ l ≤ r ∧
        bs = (if lo then [AV.I l] else []) ++ (if hi then [AV.I r] else []) ++ (if mx then [AV.I m] else []) ∧ (lo = false → l = 0) ∧ (hi = false → r = n) ∧ (mx = true → hi = true) ∧
        match x with
        | .vs s' f rows=>r ≤ n ∧ (mx = true → m = r) ∧ s' = s ∧ K (.vs s (mx || (f && !hi)) ((rows.drop l).take (r - l))) [] []
        | .rs i off _=>r ≤ n ∧ mx = false ∧ (∃ e,h i = some e ∧ e.s = s) ∧ K (.rs i (off + l) (r - l)) [i] []
        | .rk i off _ c=>r ≤ m ∧ m ≤ c ∧ (mx = false → m = c) ∧ (∃ e,h i = some e ∧ e.s = s) ∧ K (.rk i (off + l) (r - l) (m - l)) [i] []
        | .sc (.slice none 0 0)=>r ≤ n ∧ (mx = true → m = r) ∧ K .nilS [] []
        | _=>False:=(rfl)
@[simp] theorem zC9 {i off len c : Nat} : aK P np id .cap [.rk i off len c] h K = K (AV.I c) [] []:=(rfl)
@[simp] theorem zCD {s bytes i off len c : Nat} {y : AV} : aK P np id (.app s bytes) [.rk i off len c,y] h K = ∃ new e,zbt s h y = some new ∧ h i = some e ∧ e.s = s ∧ off + len ≤ e.rows.length ∧ e.ro ≤ off + len ∧ (len + new.length) * bytes ≤ 140737488355328 ∧ len + new.length ≤ 140737488355328 ∧
   if len + new.length ≤ c then K (.rk i off (len + new.length) c) (i :: zbH y) [(i,some { e with rows:=e.rows.take (off + len) ++ new ++ e.rows.drop (off + len + new.length) })]
   else K (.rs id 0 (len + new.length)) (i :: zbH y) [(id,some { s:=s,rows:=(e.rows.drop off).take len ++ new,ro:=0 })]:=(rfl)
@[simp] theorem zCu {s i off len c : Nat} {y : AV} : aK P np id (.cpy s) [.rk i off len c,y] h K = ∃ e new m,h i = some e ∧ e.s = s ∧ e.ro ≤ off ∧ off ≤ e.rows.length ∧ lenOf y = some m ∧ zbt s h (cutN (min m len) y) = some new ∧
   K (AV.I (min m len : Nat)) (i :: zbH y) [(i,some { e with rows:=e.rows.take off ++ new ++ e.rows.drop (off + min m len) })]:=(rfl)
@[simp] theorem zCx {s i off len c : Nat} {z : List Value} : aK P np id (.clr s z) [.rk i off len c] h K = ∃ e,h i = some e ∧ e.s = s ∧ z.length = s ∧ e.ro ≤ off ∧ off + len ≤ e.rows.length ∧
   K .dead [i] [(i,some { e with rows:=e.rows.take off ++ List.replicate len (z.map .sc) ++ e.rows.drop (off + len) })]:=(rfl)
@[simp] theorem zCq : aK P np id .cap [.sc (.slice none 0 0)] h K = K (AV.I 0) [] []:=(rfl)
@[simp] theorem zCO {s bytes : Nat} {z : List Value} {k : IntKind} {n : Int} : aK P np id (.apz s bytes z) [.sc (.slice none 0 0),.sc (.int k n)] h K = (z.length = s ∧ 0 < n ∧ n.toNat * bytes ≤ 140737488355328 ∧ n.toNat ≤ 140737488355328 ∧
   K (.rs id 0 n.toNat) [] [(id,some { s:=s,rows:=List.replicate n.toNat (z.map .sc),ro:=0 })]):=(rfl)
@[simp] theorem zC0 {s bytes i off len c : Nat} {z : List Value} {k : IntKind} {n : Int} : aK P np id (.apz s bytes z) [.rk i off len c,.sc (.int k n)] h K = ∃ e,h i = some e ∧ e.s = s ∧ z.length = s ∧ off + len ≤ e.rows.length ∧ 0 < n ∧ c < len + n.toNat ∧ (len + n.toNat) * bytes ≤ 140737488355328 ∧ len + n.toNat ≤ 140737488355328 ∧
   K (.rs id 0 (len + n.toNat)) [i] [(id,some { s:=s,rows:=(e.rows.drop off).take len ++ List.replicate n.toNat (z.map .sc),ro:=0 })]:=(rfl)
@[simp] theorem zC4 {s s' i off len c : Nat} {f : Bool} {rows : List (List AV)} : aK P np id (.ovl s) [.vs s' f rows,.rk i off len c] h K = ∃ e,h i = some e ∧ s' = s ∧ e.s = s ∧ e.ro ≤ off ∧ K (.sc (.bool false)) [i] []:=(rfl)
@[simp] theorem zBm {n s : Nat} {f : Bool} {rows : List (List AV)} : cutN n (.vs s f rows) = .vs s false (rows.take n):=(rfl)
@[simp] theorem zz4 {n id off len : Nat} : cutN n (.rs id off len) = .rs id off (min n len):=(rfl)
@[simp] theorem zAe {n id off len c : Nat} : cutN n (.rk id off len c) = .rk id off (min n len) c:=(rfl)
@[simp] theorem zCG {off : Nat} {cs : List AV} : aK P np id (.fad off) [.pv cs] h K = (off ≤ cs.length ∧ K (.pv (cs.drop off)) [] []):=(rfl)
@[simp] theorem zCL {off i k j : Nat} : aK P np id (.fad off) [.pt i k j] h K = K (.pt i k (j + off)) [] []:=(rfl)
@[simp] theorem zCp {off s : Nat} {cs : List AV} : aK P np id (.fld true off s) [.agg cs] h K = (off + s ≤ cs.length ∧ K (.agg ((cs.drop off).take s)) [] []):=(rfl)
@[simp] theorem zCM {off s : Nat} {cs : List AV} : aK P np id (.fld false off s) [.agg cs] h K = (off + s ≤ cs.length ∧ K (cs.getD off .dead) [] []):=(rfl)
@[simp] theorem zCC {s s' : Nat} {f : Bool} {rows : List (List AV)} {k : IntKind} {n : Int} : aK P np id (.iad s) [.vs s' f rows,.sc (.int k n)] h K = (s' = s ∧ 0 ≤ n ∧ ∃ row,rows[n.toNat]? = some row ∧ K (.pv row) [] []):=(rfl)
@[simp] theorem zCQ {s i off len : Nat} {k : IntKind} {n : Int} : aK P np id (.iad s) [.rs i off len,.sc (.int k n)] h K = (0 ≤ n ∧ n < len ∧ (∃ e,h i = some e ∧ e.s = s) ∧ K (.pt i (off + n.toNat) 0) [i] []):=(rfl)
@[simp] theorem zCm {l s i k j : Nat} {kd : IntKind} {n : Int} : aK P np id (.iaa l s) [.pt i k j,.sc (.int kd n)] h K = (0 ≤ n ∧ n < l ∧ K (.pt i k (j + n.toNat * s)) [] []):=(rfl)
@[simp] theorem zCg {l s : Nat} {cs : List AV} {kd : IntKind} {n : Int} : aK P np id (.iaa l s) [.pv cs,.sc (.int kd n)] h K = (0 ≤ n ∧ n < l ∧ l * s ≤ cs.length ∧ K (.pv (cs.drop (n.toNat * s))) [] []):=(rfl)
@[simp] theorem zCY {b : ByteArray} {k : IntKind} {n : Int} : aK P np id .ixs [.sc (.string b),.sc (.int k n)] h K = (0 ≤ n ∧ ∃ c,b.data.toList[n.toNat]? = some c ∧ K (.sc (.int .u8 c.toNat)) [] []):=(rfl)
@[simp] theorem zDr {l : Nat} {cs : List AV} {k : IntKind} {n : Int} : aK P np id (.ixv l) [.agg cs,.sc (.int k n)] h K = (0 ≤ n ∧ n < l ∧ l ≤ cs.length ∧ K (cs.getD n.toNat .dead) [] []):=(rfl)
@[simp] theorem zCX {i : Nat} {vs : List AV} : aK P np id (.ext i) [.tup vs] h K = ∃ v,vs[i]? = some v ∧ K v [] []:=(rfl)
theorem zwe {s bytes : Nat} {x y : AV} (hx : ¬ ∃ i o l c,x = .rk i o l c) : aK P np id (.app s bytes) [x,y] h K = (∃ new old,zbt s h y = some new ∧ zbN s h new x = some old ∧ (old.1.length + new.length) * bytes ≤ 140737488355328 ∧
   old.1.length + new.length ≤ 140737488355328 ∧
   K (.rs id 0 (old.1.length + new.length)) (zbH x ++ zbH y) ((id,some { s:=s,rows:=old.1 ++ new,ro:=old.2.1 }) :: old.2.2)):=zl3 hx
@[simp] theorem zCn {s bytes : Nat} {y : AV} : aK P np id (.app s bytes) [.nilS,y] h K = ∃ new,zbt s h y = some new ∧ new.length * bytes ≤ 140737488355328 ∧ new.length ≤ 140737488355328 ∧ K (.rs id 0 new.length) (zbH y) [(id,some { s:=s,rows:=new,ro:=0 })]:=by
 rw [zwe (by simp)]
 refine propext ⟨?_,?_⟩
 ·rintro ⟨new,old,h1,h2,h3,h4,h5⟩
  cases h2
  exact ⟨new,h1,by simpa using h3,by simpa using h4,by simpa [zbH] using h5⟩
 ·rintro ⟨new,h1,h3,h4,h5⟩
  exact ⟨new,_,h1,rfl,by simpa using h3,by simpa using h4,by simpa [zbH] using h5⟩
@[simp] theorem zCJ {s bytes i off len : Nat} {y : AV} : aK P np id (.app s bytes) [.rs i off len,y] h K = ∃ new e,zbt s h y = some new ∧ h i = some e ∧ e.s = s ∧ off + len ≤ e.rows.length ∧ e.ro ≤ off + len ∧ (len + new.length) * bytes ≤ 140737488355328 ∧ len + new.length ≤ 140737488355328 ∧
  K (.rs id 0 (len + new.length)) (i :: zbH y) [(id,some { s:=s,rows:=(e.rows.drop off).take len ++ new,ro:=e.ro - off }),(i,none)]:=by
 rw [zwe (by simp)]
 refine propext ⟨?_,?_⟩
 ·rintro ⟨new,old,h1,h2,h3,h4,h5⟩
  simp only [zbN,Option.bind_eq_some_iff] at h2
  obtain ⟨e,he,h2⟩:=h2
  split at h2
  case isFalse=>cases h2
  rename_i hc
  cases h2
  have hl : ((e.rows.drop off).take len).length = len:=by simp; omega
  simp only [hl] at h3 h4 h5
  exact ⟨new,e,h1,he,hc.1,hc.2.1,hc.2.2,h3,h4,by simpa [zbH] using h5⟩
 ·rintro ⟨new,e,h1,he,c1,c2,c3,h3,h4,h5⟩
  have hl : ((e.rows.drop off).take len).length = len:=by simp; omega
  refine ⟨new,((e.rows.drop off).take len,e.ro - off,[(i,none)]),h1,by simp [zbN,he,c1,c2,c3],by simpa only [hl] using h3,by simpa only [hl] using h4,?_⟩
  simpa [zbH,hl] using h5
@[simp] theorem zCr {s bytes : Nat} {rows : List (List AV)} {y : AV} : aK P np id (.app s bytes) [.vs s true rows,y] h K = ∃ new,zbt s h y = some new ∧ (rows = [] ∨ new ≠ []) ∧ (rows.length + new.length) * bytes ≤ 140737488355328 ∧ rows.length + new.length ≤ 140737488355328 ∧
  K (.rs id 0 (rows.length + new.length)) (zbH y) [(id,some { s:=s,rows:=rows ++ new,ro:=0 })]:=by
 rw [zwe (by simp)]
 refine propext ⟨?_,?_⟩
 ·rintro ⟨new,old,h1,h2,h3,h4,h5⟩
  simp only [zbN] at h2
  split at h2
  case isFalse=>cases h2
  rename_i hc
  cases h2
  exact ⟨new,h1,hc.2,h3,h4,by simpa [zbH] using h5⟩
 ·rintro ⟨new,h1,hc,h3,h4,h5⟩
  exact ⟨new,(rows,0,[]),h1,by show (if s = s ∧ _ then _ else _) = _; rw [if_pos ⟨rfl,hc⟩],h3,h4,by simpa [zbH] using h5⟩
@[simp] theorem zCf {x : AV} {b : ByteArray} : aK P np id .apps [x,.sc (.string b)] h K = (∃ old,zbN 1 h (zdl b) x = some old ∧ old.1.length + b.size ≤ 140737488355328 ∧
   K (.rs id 0 (old.1.length + b.size)) (zbH x) ((id,some { s:=1,rows:=old.1 ++ zdl b,ro:=old.2.1 }) :: old.2.2)):=(rfl)
@[simp] theorem zDf {x : AV} : aK P np id .len [x] h K = ∃ n : Nat,lenOf x = some n ∧ K (AV.I n) [] []:=(rfl)
@[simp] theorem zCB {b : ByteArray} : aK P np id .lens [.sc (.string b)] h K = K (AV.I b.size) [] []:=(rfl)
@[simp] theorem zCV {s i off len : Nat} {y : AV} : aK P np id (.cpy s) [.rs i off len,y] h K = ∃ e new,h i = some e ∧ e.s = s ∧ e.ro ≤ off ∧ off + len ≤ e.rows.length ∧ zbt s h y = some new ∧
   K (AV.I (min new.length len : Nat)) (i :: zbH y) [(i,some { e with rows:=e.rows.take off ++ new.take (min new.length len) ++ e.rows.drop (off + min new.length len) })]:=(rfl)
@[simp] theorem zDn : aK P np id .mkm [] h K = K (.mp id) [] [(id,some { s:=0,rows:=[] })]:=(rfl)
@[simp] theorem zCF {z : Value} {i : Nat} {n : Int} : aK P np id (.mlk z false) [.mp i,.sc (.int .i64 n)] h K = ∃ e,h i = some e ∧ e.s = 0 ∧ K ((zdX n e.rows).getD (toAV z)) [i] []:=(rfl)
@[simp] theorem zCH {z : Value} {i : Nat} {n : Int} : aK P np id (.mlk z true) [.mp i,.sc (.int .i64 n)] h K = ∃ e,h i = some e ∧ e.s = 0 ∧ K (.tup [(zdX n e.rows).getD (toAV z),.sc (.bool (zdX n e.rows).isSome)]) [i] []:=(rfl)
@[simp] theorem zDm {i : Nat} {n : Int} {x : AV} : aK P np id .mup [.mp i,.sc (.int .i64 n),x] h K = ∃ e,h i = some e ∧ e.s = 0 ∧ K .dead [i] [(i,some { e with rows:=mset n x e.rows })]:=(rfl)
@[simp] theorem zCW {i : Nat} {n : Int} : aK P np id .mdl [.mp i,.sc (.int .i64 n)] h K = ∃ e,h i = some e ∧ e.s = 0 ∧ K (.tup []) [i] [(i,some { e with rows:=mdel n e.rows,ro:=0 })]:=(rfl)
@[simp] theorem zC5 {k k' : IntKind} {a b : Int} : aK P np id .mx2 [.sc (.int k a),.sc (.int k' b)] h K = K (.sc (.int k (if a < b then b else a))) [] []:=(rfl)
@[simp] theorem zCU {k k' : IntKind} {a b : Int} : aK P np id .mn2 [.sc (.int k a),.sc (.int k' b)] h K = K (.sc (.int k (if b < a then b else a))) [] []:=(rfl)
end
section
variable {P : Program} {np n i : Nat} {os : List zbI} {st : St} {tr : List (List Nat × List Nat)} {K : St → List (List Nat × List Nat) → Prop}
@[simp] theorem zCR : zbh P np n i [] st tr K = K st tr:=(rfl)
@[simp] theorem zCh {d : Option Nat} {op : AOp} {xs : List Opd} : zbh P np n i (⟨d,op,xs,none⟩ :: os) st tr K = aK P np (n + 8 * i) op (xs.map (·.ev st.get)) st.hp fun v rd up=>zbh P np n (i + 1) os ((st.put d v).upd up) (tr ++ [(rd,up.map (·.1))]) K:=(rfl)
def gOp (P : Program) (np n i : Nat) (b : Option (Option Bool)) (want : Bool) (d : Option Nat) (op : AOp) (xs : List Opd) (os : List zbI) (st : St) (tr : List (List Nat × List Nat)) (K : St → List (List Nat × List Nat) → Prop) : Prop :=
 ∃ c,b = some c ∧ if c = some want then aK P np (n + 8 * i) op (xs.map (·.ev st.get)) st.hp fun v rd up=>zbh P np n (i + 1) os ((st.put d v).upd up) (tr ++ [(rd,up.map (·.1))]) K else zbh P np n (i + 1) os (st.put d (.tup [])) (tr ++ [([],[])]) K
section
variable {d : Option Nat} {op : AOp} {xs : List Opd} {os : List zbI}
@[simp] theorem o_g {g : Nat} {want : Bool} : zbh P np n i (⟨d,op,xs,some (g,want)⟩ :: os) st tr K = gOp P np n i (gdV (st.get g)) want d op xs os st tr K:=(rfl)
@[simp] theorem o_tt : gOp P np n i (some (some true)) true d op xs os st tr K = aK P np (n + 8 * i) op (xs.map (·.ev st.get)) st.hp fun v rd up=>zbh P np n (i + 1) os ((st.put d v).upd up) (tr ++ [(rd,up.map (·.1))]) K:=by simp [gOp]
@[simp] theorem o_ff : gOp P np n i (some (some false)) false d op xs os st tr K = aK P np (n + 8 * i) op (xs.map (·.ev st.get)) st.hp fun v rd up=>zbh P np n (i + 1) os ((st.put d v).upd up) (tr ++ [(rd,up.map (·.1))]) K:=by simp [gOp]
@[simp] theorem o_tf : gOp P np n i (some (some true)) false d op xs os st tr K = zbh P np n (i + 1) os (st.put d (.tup [])) (tr ++ [([],[])]) K:=by simp [gOp]
@[simp] theorem o_ft : gOp P np n i (some (some false)) true d op xs os st tr K = zbh P np n (i + 1) os (st.put d (.tup [])) (tr ++ [([],[])]) K:=by simp [gOp]
@[simp] theorem o_no {want : Bool} : gOp P np n i (some none) want d op xs os st tr K = zbh P np n (i + 1) os (st.put d (.tup [])) (tr ++ [([],[])]) K:=by simp [gOp]
theorem zol {b w : Bool} (h1 : b = true → gOp P np n i (some (some true)) w d op xs os st tr K) (h2 : b = false → gOp P np n i (some (some false)) w d op xs os st tr K) : gOp P np n i (some (some b)) w d op xs os st tr K:=by
 cases b
 ·exact h2 rfl
 ·exact h1 rfl
@[simp] theorem zDo {b : Bool} : gdV (.sc (.bool b)) = some (some b):=(rfl)
@[simp] theorem zDl : gdV (.tup []) = some none:=(rfl)
end
@[simp] theorem zC3 {sz n : Nat} {h : List (Nat × Option Ent)} {i : Nat} : (⟨sz,[],h,n⟩ : St).get i = .dead:=(rfl)
@[simp] theorem zCP {sz n : Nat} {t : List (Nat × AV)} {h : List (Nat × Option Ent)} {i j : Nat} {v : AV} : (⟨sz,(j,v) :: t,h,n⟩ : St).get i = if j = i then v else (⟨sz,t,h,n⟩ : St).get i:=by
 show (if j = i then some v else lkp t i).getD .dead = if j = i then v else (lkp t i).getD .dead
 split <;> rfl
@[simp] theorem zCZ {sz n : Nat} {t : List (Nat × AV)} {i : Nat} : (⟨sz,t,[],n⟩ : St).hp i = none:=(rfl)
@[simp] theorem zqn {sz n : Nat} {t : List (Nat × AV)} {h : List (Nat × Option Ent)} {i j : Nat} {v : Option Ent} : (⟨sz,t,(j,v) :: h,n⟩ : St).hp i = if j = i then v else (⟨sz,t,h,n⟩ : St).hp i:=by
 show (if j = i then some v else lkp h i).getD none = if j = i then v else (lkp h i).getD none
 split <;> rfl
@[simp] theorem zCK {sz n d : Nat} {t : List (Nat × AV)} {h : List (Nat × Option Ent)} {v : AV} : (⟨sz,t,h,n⟩ : St).put (some d) v = ⟨sz,(d,v) :: t,h,n⟩:=(rfl)
@[simp] theorem zCA {v : AV} : st.put none v = st:=(rfl)
@[simp] theorem zCT {sz n : Nat} {t : List (Nat × AV)} {h : List (Nat × Option Ent)} : (⟨sz,t,h,n⟩ : St).upd [] = ⟨sz,t,h,n⟩:=(rfl)
@[simp] theorem zDk {sz n : Nat} {t : List (Nat × AV)} {h us : List (Nat × Option Ent)} : (⟨sz,t,h,n⟩ : St).upd us = ⟨sz,t,us ++ h,n⟩:=(rfl)
@[simp] theorem e_t {g : Nat → AV} {i : Nat} : Opd.ev g (.t i) = g i:=(rfl)
@[simp] theorem e_i {g : Nat → AV} {k : IntKind} {n : Int} : Opd.ev g (.c (.int k n)) = .sc (.int k n):=(rfl)
@[simp] theorem e_b {g : Nat → AV} {b : Bool} : Opd.ev g (.c (.bool b)) = .sc (.bool b):=(rfl)
@[simp] theorem e_f {g : Nat → AV} {f : FuncId} : Opd.ev g (.f f) = .fn (.func f) [] []:=(rfl)
end
theorem zcY : ∀ (xs : List AV),WkL xs xs
 | []=>trivial
 | x :: xs=>⟨.refl x,zcY xs⟩
theorem zBt {P : Program} {np id : Nat} {h : Nat → Option Ent} {K : AV → List Nat → List (Nat × Option Ent) → Prop} {f : FuncId} {first capt args args' : List AV} {res : AV} (hc : zao P f args' [] res [])
  (hw : WkL ((first ++ args ++ capt).map (conv [] [] h 4)) args') (hk : K (conv (((List.range 8).map (id + ·)).zipIdx.map fun (a,b)=>(b,a)) [] (fun _=>none) 4 res) [] []) : aK P np id .call (.fn (.func f) first capt :: args) h K :=
 ⟨[],[],true,args',[],res,[],by simp,by simp,by simp,hw,rfl,hc,by simp,.inl rfl,hk⟩
theorem zhP {P : Program} {np id : Nat} {h : Nat → Option Ent} {K : AV → List Nat → List (Nat × Option Ent) → Prop} {f : FuncId} {first capt args : List AV} (f0 : Nat) (hf : Nat.beq f f0 = true) (hk : aK P np id .call (.fn (.func f0) first capt :: args) h K) : aK P np id .call (.fn (.func f) first capt :: args) h K:=by
 have e : f = f0:=Nat.eq_of_beq_eq_true hf
 rw [e]
 exact hk
theorem zaJ {P : Program} {np id : Nat} {h : Nat → Option Ent} {K : AV → List Nat → List (Nat × Option Ent) → Prop} {f : FuncId} {first capt args args' : List AV} {res : AV} (hc : zao P f args' [] res [])
  (he : (first ++ args ++ capt).map (conv [] [] h 4) = args') (hk : K (conv (((List.range 8).map (id + ·)).zipIdx.map fun (a,b)=>(b,a)) [] (fun _=>none) 4 res) [] []) : aK P np id .call (.fn (.func f) first capt :: args) h K :=
 zBt hc (by rw [he]; exact zcY _) hk
theorem zl7 {P : Program} {np id : Nat} {h : Nat → Option Ent} {K : AV → List Nat → List (Nat × Option Ent) → Prop} {f : FuncId} {first capt args args' : List AV} {res : AV} (sn : List Nat) (hc : zao P f args' [] res [])
  (he : (first ++ args ++ capt).map (conv [] sn h 4) = args') (hp : Plain res) (hk : K (conv (((List.range 8).map (id + ·)).zipIdx.map fun (a,b)=>(b,a)) [] (fun _=>none) 4 res) sn []) : aK P np id .call (.fn (.func f) first capt :: args) h K :=
 ⟨[],sn,false,args',[],res,[],by simp,by simp,by simp,by rw [List.zipIdx_nil,he]; exact zcY _,rfl,hc,by simp,.inr ⟨hp,by simp⟩,hk⟩
@[simp] theorem zzl : WkL [] [] = True:=(rfl)
@[simp] theorem zyQ {x y : AV} {xs ys : List AV} : WkL (x :: xs) (y :: ys) = (Wk x y ∧ WkL xs ys):=(rfl)
attribute [simp] Wk.nil Wk.dead Wk.full
theorem w64 {x : Int} (h1 : -9223372036854775808 ≤ x) (h2 : x < 9223372036854775808) : IntKind.i64.wrap x = x:=by rw [IntKind.wrap_i64]; omega
theorem w6 {x : Int} (h1 : -9223372036854775808 ≤ x:=by omega) (h2 : x < 9223372036854775808:=by omega) : IntKind.i64.wrap x = x:=w64 h1 h2
attribute [simp] binV unV Wk.refl zbR eqs
section
variable {s s' id i j off len n : Nat} {f : Bool} {rows new : List (List AV)} {cs xs ys : List AV} {h : Nat → Option Ent} {ρ : List (Nat × Nat)} {sn : List Nat} {v : Value}
@[simp] theorem zyO : lenOf (.vs s f rows) = some rows.length:=(rfl)
@[simp] theorem zyG : lenOf (.rs id off len) = some len:=(rfl)
@[simp] theorem zyM {c : Nat} : lenOf (.rk id off len c) = some len:=(rfl)
@[simp] theorem zyS {c : Nat} : zbH (.rk id off len c) = [id]:=(rfl)
@[simp] theorem zwS {c : Nat} : cellsOf (.rk id off len c) = some [.rk id off len c]:=(rfl)
@[simp] theorem zyw {c : Nat} : zbt s h (.rk id off len c) = (h id).bind fun e=>if e.s = s ∧ off + len ≤ e.rows.length then some ((e.rows.drop off).take len) else none:=(rfl)
@[simp] theorem zxD : lenOf .nilS = some 0:=(rfl)
@[simp] theorem zwK : zc2 h (.pv cs) = some cs:=(rfl)
@[simp] theorem zwR : zc2 h (.pt id i j) = (h id).bind fun e=>(e.rows[i]?).map (·.drop j):=(rfl)
@[simp] theorem zws : cellsOf (.agg cs) = some cs:=(rfl)
@[simp] theorem zwM : cellsOf (.vs s f rows) = some [.vs s f rows]:=(rfl)
@[simp] theorem zwN : cellsOf (.rs id off len) = some [.rs id off len]:=(rfl)
@[simp] theorem zwT : cellsOf (.pt id i j) = some [.pt id i j]:=(rfl)
@[simp] theorem zwP : cellsOf (.pv cs) = some [.pv cs]:=(rfl)
@[simp] theorem zwI {k : IntKind} {n : Int} : cellsOf (.sc (.int k n)) = some [.sc (.int k n)]:=(rfl)
@[simp] theorem zvL {b : Bool} : cellsOf (.sc (.bool b)) = some [.sc (.bool b)]:=(rfl)
@[simp] theorem ztb {b : ByteArray} : cellsOf (.sc (.string b)) = some [.sc (.string b)]:=(rfl)
@[simp] theorem zv8 : cellsOf .nilS = some [.nilS]:=(rfl)
@[simp] theorem zwO {g : Fn} : cellsOf (.fn g xs ys) = some [.fn g xs ys]:=(rfl)
@[simp] theorem zyC : zbH (.vs s f rows) = []:=(rfl)
@[simp] theorem zyP : zbH (.rs id off len) = [id]:=(rfl)
@[simp] theorem zyI : zbH (.pt id i j) = [id]:=(rfl)
@[simp] theorem zyK : zbH (.pv cs) = []:=(rfl)
@[simp] theorem zyR : zbH (.sc v) = []:=(rfl)
@[simp] theorem zw3 : zbt s h (.vs s f rows) = some rows:=if_pos rfl
@[simp] theorem zxr : zbt s h (.rs id off len) = (h id).bind fun e=>if e.s = s ∧ off + len ≤ e.rows.length then some ((e.rows.drop off).take len) else none:=(rfl)
@[simp] theorem zwL : zbt s h .nilS = some []:=(rfl)
@[simp] theorem zwk : zbN s h new .nilS = some ([],0,[]):=(rfl)
@[simp] theorem zwV : zbN s h new (.rs id off len) = (h id).bind fun e=>if e.s = s ∧ off + len ≤ e.rows.length ∧ e.ro ≤ off + len then some ((e.rows.drop off).take len,e.ro - off,[(id,none)]) else none:=(rfl)
@[simp] theorem zyT {k : IntKind} {n : Int} : toAV (.int k n) = .sc (.int k n):=(rfl)
@[simp] theorem zxw {b : Bool} : toAV (.bool b) = .sc (.bool b):=(rfl)
@[simp] theorem zv9 {b : ByteArray} : toAV (.string b) = .sc (.string b):=(rfl)
@[simp] theorem zwQ {a : Option Addr} {l c : Nat} : toAV (.slice a l c) = .sc (.slice a l c):=(rfl)
@[simp] theorem zBQ : conv ρ sn h (n + 1) (.vs s f rows) = .vs s f rows:=(rfl)
@[simp] theorem zz8 : conv ρ sn h (n + 1) (.sc v) = .sc v:=(rfl)
@[simp] theorem zBu : conv ρ sn h (n + 1) (.pv cs) = .pv cs:=(rfl)
@[simp] theorem zCk {α : Type} {i : Nat} : lkp ([] : List (Nat × α)) i = none:=(rfl)
@[simp] theorem zCt {α : Type} {i j : Nat} {a : α} {l : List (Nat × α)} : lkp ((j,a) :: l) i = if j = i then some a else lkp l i:=(rfl)
@[simp] theorem zBi : conv ρ sn h (n + 1) (.rs id off len) = (match lkp ρ id with
   | some k=>.rs k off len
   | none =>
     if id ∈ sn then
      match h id with
      | some e=>if off + len ≤ e.rows.length then .vs e.s false (((e.rows.drop off).take len).map (·.map (conv [] sn h n))) else .dead
      | none=>.dead
     else .dead):=(rfl)
@[simp] theorem zyV {c : Nat} : conv ρ sn h (n + 1) (.rk id off len c) = (match lkp ρ id with
   | some k=>.rs k off len
   | none =>
     if id ∈ sn then
      match h id with
      | some e=>if off + len ≤ e.rows.length then .vs e.s false (((e.rows.drop off).take len).map (·.map (conv [] sn h n))) else .dead
      | none=>.dead
     else .dead):=(rfl)
@[simp] theorem zBl : conv ρ sn h (n + 1) (.pt id i j) = (match lkp ρ id with
   | some k=>.pt k i j
   | none =>
     if id ∈ sn then
      match h id with
      | some e=>match e.rows[i]? with | some row=>if j ≤ row.length then .pv ((row.drop j).map (conv [] sn h n)) else .dead | none=>.dead
      | none=>.dead
     else .dead):=(rfl)
@[simp] theorem zAW {i : Nat} : conv ρ sn h (n + 1) (.mp i) = (match lkp ρ i with
 | some k=>.mp k
 | none=>.dead):=(rfl)
@[simp] theorem zyF : conv ρ sn h (n + 1) (.agg cs) = .agg (cs.map (conv ρ sn h n)):=(rfl)
@[simp] theorem zyE : conv ρ sn h (n + 1) (.tup cs) = .tup (cs.map (conv ρ sn h n)):=(rfl)
end
def Ord (ops : List zbI) (af : List (List Nat)) (tr : List (List Nat × List Nat)) : Prop:=zdE ops af tr = true
theorem zad {P : Program} {np : Nat} {ops : List zbI} {Q : zcP → St → Prop} {sz n : Nat} {t : List (Nat × AV)} {h : List (Nat × Option Ent)} {af : List (List Nat)} {b : zdu} (s : St)
  (hd : (ops.all fun o=>o.dst.all (· < sz)) = true) (ho : zbh P np n 0 ops ⟨sz,t,h,n⟩ [] fun st' _=>Le np ⟨st'.sz,st'.t,st'.h,n + 8 * ops.length⟩ s) (hq : awp P np b Q s) : awp P np (.seq (.reg false ops af) b) Q ⟨sz,t,h,n⟩:=by
 show awp P np (.reg false ops af) (fun e st'=>match e with | .normal=>∃ st2,Le np st' st2 ∧ awp P np b Q st2 | e=>Q e st') _
 exact zaV hd (zch _ _ _ _ _ _ _ (fun st' _ h=>⟨s,h,hq⟩) ho)
theorem za7 {P : Program} {np : Nat} {ops : List zbI} {Q : zcP → St → Prop} {sz n : Nat} {t : List (Nat × AV)} {h : List (Nat × Option Ent)} {af : List (List Nat)} {b : zdu} (s : St)
  (hd : (ops.all fun o=>o.dst.all (· < sz)) = true) (ho : zbh P np n 0 ops ⟨sz,t,h,n⟩ [] fun st' tr=>Ord ops af tr ∧ Le np ⟨st'.sz,st'.t,st'.h,n + 8 * ops.length⟩ s) (hq : awp P np b Q s) : awp P np (.seq (.reg true ops af) b) Q ⟨sz,t,h,n⟩:=by
 show awp P np (.reg true ops af) (fun e st'=>match e with | .normal=>∃ st2,Le np st' st2 ∧ awp P np b Q st2 | e=>Q e st') _
 exact zdp hd (zch _ _ _ _ _ _ _ (fun st' _ h=>⟨h.1,s,h.2,hq⟩) ho)
theorem Le.snap {st st' : St} (sn : List Nat) (hsz : st'.sz = st.sz) (hh : st'.h = []) (ht : ∀ p ∈ st'.t,Wk (conv [] sn st.hp 4 (st.get p.1)) p.2) : Le 0 st st' :=
 Le.lst [] sn [] hsz (by simp) (by simp) (by simp) (by simp) (by simp) (Nat.zero_le _) (by simp) (fun p hp=>.inl (ht p hp)) (by simp [hh])
attribute [simp] znE ziR ze0 zib resV zaw Nat.succ_eq_add_one
@[simp] theorem e_n {g : Nat → AV} {a : Option Addr} {l c : Nat} : Opd.ev g (.c (.slice a l c)) = .sc (.slice a l c):=(rfl)
@[simp] theorem zC7 {g : Nat → AV} {b : ByteArray} : Opd.ev g (.c (.string b)) = .sc (.string b):=(rfl)
theorem zat.out {rs : List (Nat × Option (Bool × Nat))} {st : St} {vs : List AV} {res : AV} {hs' : List (Option Ent)} (ex sn : List Nat) (h1 : ze0 st rs = some vs) (h2 : ex.Nodup) (h3 : ∀ i ∈ sn,i ∉ ex)
  (hw : Wk (conv ex.zipIdx sn st.hp 4 (resV vs)) res) (he : ex.map (fun i=>(st.hp i).map (zaw ex.zipIdx sn st.hp 4)) = hs') : zat rs 0 st res hs':=by
 refine ⟨vs,h1,ex,sn,by simpa using h2,by simp,fun i hi=>⟨h3 i hi,Nat.zero_le _⟩,?_,?_⟩
 ·simpa using hw
 ·simpa using he
theorem wkB {a b : Bool} (h : a = b) : Wk (.B a) (.B b):=by subst h; exact .refl _
theorem wkE {a b : AV} (h : a = b) : Wk a b:=by subst h; exact .refl _
theorem znF {P : Program} {f : FuncId} {s : Nat} {b : Bool} {hs : List Ent} {res : AV} {hs' : List (Option Ent)} (h : ∀ a c,zao P f [.sc (.slice a 0 c)] hs res hs') : zao P f [.vs s b []] hs res hs':=by
 refine ⟨(h none 0).1,(h none 0).2.1,fun T M w vs h1 h2 h3 hr=>?_⟩
 have hr0:=hr.2 0 (by simp)
 have hv : ∃ a c,vs.getD 0 undef = .slice a 0 c:=by
  generalize vs.getD 0 undef = v at hr0
  cases hr0
  exact ⟨_,_,rfl⟩
 obtain ⟨a,c,hv⟩:=hv
 refine (h a c).2.2 T M w vs h1 h2 h3 ⟨hr.1,fun i hi=>?_⟩
 have : i = 0:=by simpa using hi
 subst this
 rw [hv]
 exact .sc _ _ rfl
theorem zim (hs : List Ent) : zj8 (hs.map some) = hpOf hs:=by
 funext k
 simp only [zj8,hpOf,List.getElem?_map]
 cases hs[k]? <;> rfl
def swp (ids : List Nat) (id : Nat) : List (Nat × Nat):=(ids ++ (List.range 8).map (id + ·)).zipIdx.map fun (a,b)=>(b,a)
@[simp] theorem swp0 {id : Nat} : swp [] id = [(0,id),(1,id + 1),(2,id + 2),(3,id + 3),(4,id + 4),(5,id + 5),(6,id + 6),(7,id + 7)]:=(rfl)
@[simp] theorem swp1 {a id : Nat} : swp [a] id = [(0,a),(1,id),(2,id + 1),(3,id + 2),(4,id + 3),(5,id + 4),(6,id + 5),(7,id + 6),(8,id + 7)]:=(rfl)
@[simp] theorem swp2 {a b id : Nat} : swp [a,b] id = [(0,a),(1,b),(2,id),(3,id + 1),(4,id + 2),(5,id + 3),(6,id + 4),(7,id + 5),(8,id + 6),(9,id + 7)]:=(rfl)
section
variable {P : Program} {np id : Nat} {h : Nat → Option Ent} {K : AV → List Nat → List (Nat × Option Ent) → Prop} {s s' : Nat} {f : Bool} {rows : List (List AV)} {k l : Nat}
@[simp] theorem zCz : aK P np id (.slc s false true false) [.vs s' f rows,.sc (.int .i64 (k : Int))] h K = (k ≤ rows.length ∧ s' = s ∧ K (.vs s false (rows.take k)) [] []):=by
 rw [zjR]
 refine propext ⟨?_,?_⟩
 ·rintro ⟨l,r,m,n,h1,h2,h4,h5,h6,h7,h3,h10,h8,h9⟩
  obtain rfl:=h5 rfl
  simp at h4 h1
  subst h1
  have : k = r:=by omega
  subst this
  exact ⟨h3,h8,by simpa using h9⟩
 ·rintro ⟨h1,h2,h3⟩
  exact ⟨0,k,0,rows.length,rfl,Nat.zero_le _,by simp,fun _=>rfl,(fun h=>by cases h),(fun h=>by cases h),h1,(fun h=>by cases h),h2,by simpa using h3⟩
@[simp] theorem zCj : aK P np id (.slc s true false false) [.vs s' f rows,.sc (.int .i64 (k : Int))] h K = (k ≤ rows.length ∧ s' = s ∧ K (.vs s f (rows.drop k)) [] []):=by
 rw [zjR]
 refine propext ⟨?_,?_⟩
 ·rintro ⟨l,r,m,n,h1,h2,h4,h5,h6,h7,h3,h10,h8,h9⟩
  obtain rfl:=h6 rfl
  simp at h4 h1
  subst h1
  have : k = l:=by omega
  subst this
  refine ⟨h2,h8,?_⟩
  have e : (rows.drop k).take (rows.length - k) = rows.drop k:=List.take_of_length_le (by simp)
  simpa [e] using h9
 ·rintro ⟨h1,h2,h3⟩
  have e : (rows.drop k).take (rows.length - k) = rows.drop k:=List.take_of_length_le (by simp)
  exact ⟨k,rows.length,0,rows.length,rfl,h1,by simp,(fun h=>by cases h),fun _=>rfl,(fun h=>by cases h),Nat.le_refl _,(fun h=>by cases h),h2,by simpa [e] using h3⟩
end
section
variable {P : Program} {np id : Nat} {h : Nat → Option Ent} {K : AV → List Nat → List (Nat × Option Ent) → Prop} {f : FuncId} {first capt args args' : List AV} {res : AV}
theorem zcD {e : Ent} (hc : zao P f args' [] res [some e]) (he : (first ++ args ++ capt).map (conv [] [] h 4) = args')
  (hk : K (conv (swp [] id) [] (fun _=>none) 4 res) [] [(id,some (zaw (swp [] id) [] (fun _=>none) 4 e))]) : aK P np id .call (.fn (.func f) first capt :: args) h K :=
 ⟨[],[],true,args',[],res,[some e],by simp,by simp,by simp,by rw [List.zipIdx_nil,he]; exact zcY _,rfl,hc,by simp,.inl rfl,hk⟩
theorem zx1 {e e2 : Ent} (hc : zao P f args' [] res [some e,some e2]) (he : (first ++ args ++ capt).map (conv [] [] h 4) = args')
  (hk : K (conv (swp [] id) [] (fun _=>none) 4 res) [] [(id,some (zaw (swp [] id) [] (fun _=>none) 4 e)),(id + 1,some (zaw (swp [] id) [] (fun _=>none) 4 e2))]) : aK P np id .call (.fn (.func f) first capt :: args) h K :=
 ⟨[],[],true,args',[],res,[some e,some e2],by simp,by simp,by simp,by rw [List.zipIdx_nil,he]; exact zcY _,rfl,hc,by simp,.inl rfl,hk⟩
theorem zh1 {i : Nat} {e e' : Ent} {hs' : List (Option Ent)} (hi : h i = some e) (hee : zaw [(i,0)] [] h 4 e = e') (hc : zao P f args' [e'] res hs') (h8 : hs'.length ≤ 9) (he : (first ++ args ++ capt).map (conv [(i,0)] [] h 4) = args')
  (hk : K (conv (swp [i] id) [] (fun _=>none) 4 res) [i] (hs'.zipIdx.map fun (e,k)=>((i :: (List.range 8).map (id + ·)).getD k 0,e.map (zaw (swp [i] id) [] (fun _=>none) 4)))) : aK P np id .call (.fn (.func f) first capt :: args) h K :=
 ⟨[i],[],true,args',[e'],res,hs',by simp,by simp,by simp,by rw [show [i].zipIdx = [(i,0)] from rfl,he]; exact zcY _,by rw [show [i].zipIdx = [(i,0)] from rfl]; simpa [hi] using hee,hc,by simpa using h8,.inl rfl,by simpa [swp] using hk⟩
end
theorem zba.rfl' {nl : List (Nat × Nat)} {e : Ent} (h : e.ro ≤ e.rows.length) : zba nl e e:=⟨rfl,Nat.le_refl _,h,.inl rfl⟩
theorem Le.var1 {st st' : St} (i : Nat) (sn : List Nat) {e0 e : Ent} (hsz : st'.sz = st.sz) (hh : st'.h = [(i,some e)]) (hi : i < st'.n) (hs : ∀ j ∈ sn,j ≠ i) (h0 : st.hp i = some e0) (he : zaw [(i,i)] sn st.hp 4 e0 = e) (hr : e.ro ≤ e.rows.length)
  (ht : ∀ p ∈ st'.t,Wk (conv [(i,i)] sn st.hp 4 (st.get p.1)) p.2) : Le 0 st st' :=
 Le.lst [(i,i)] sn [] hsz (by simp) (by simp) (by simp [hi]) (by simp) (fun j hj=>⟨Nat.zero_le _,by simpa using hs j hj⟩) (Nat.zero_le _) (by simp) (fun p hp=>.inl (ht p hp)) (fun p hp e' he'=>by
  rw [hh] at hp
  simp at hp
  subst hp
  cases he'
  exact .inl ⟨(i,i),by simp,rfl,e0,h0,by rw [he]; exact zba.rfl' hr⟩)
theorem Le.ren1 {st st' : St} (i j : Nat) (sn : List Nat) {e0 e : Ent} (hsz : st'.sz = st.sz) (hh : st'.h = [(j,some e)]) (hi : j < st'.n) (hs : ∀ j ∈ sn,j ≠ i) (h0 : st.hp i = some e0) (he : zaw [(i,j)] sn st.hp 4 e0 = e) (hr : e.ro ≤ e.rows.length)
  (ht : ∀ p ∈ st'.t,Wk (conv [(i,j)] sn st.hp 4 (st.get p.1)) p.2) : Le 0 st st' :=
 Le.lst [(i,j)] sn [] hsz (by simp) (by simp) (by simp [hi]) (by simp) (fun j hj=>⟨Nat.zero_le _,by simpa using hs j hj⟩) (Nat.zero_le _) (by simp) (fun p hp=>.inl (ht p hp)) (fun p hp e' he'=>by
  rw [hh] at hp
  simp at hp
  subst hp
  cases he'
  exact .inl ⟨(i,j),by simp,rfl,e0,h0,by rw [he]; exact zba.rfl' hr⟩)
theorem wkA3 {a b c a' b' c' : AV} (h1 : Wk a a') (h2 : Wk b b') (h3 : Wk c c') : Wk (.agg [a,b,c]) (.agg [a',b',c']) :=
 .agg _ _ rfl fun i=>match i with | 0=>h1 | 1=>h2 | 2=>h3 | _ + 3=>.refl _
section
variable {H : Type} {P : Program}
def avs (P : Program) : Nat → TypeId → DataW H → Option (List AV)
 | 0,_,_=>none
 | n + 1,t,d =>
   match P.underlying t,d with
   | some .bool,.lit (.bool b)=>some [.sc (.bool b)]
   | some (.int k),.lit (.int k' x)=>if k' = k ∧ (Lit.int k' x).wf = true then some [.sc (.int k' x)] else none
   | some .string,.lit (.string l)=>some [.sc (.string ⟨l.toArray⟩)]
   | some (.slice _),.nil=>some [.nilS]
   | some (.slice e),.slice es _=>if es.length ≤ 9223372036854775807 then (es.mapM (avs P n e)).map fun rows=>[.vs (P.cellsOf e) false rows] else none
   | some (.struct fs),.agg ds=>if ds.length = fs.size then ((fs.toList.zip ds).mapM fun (x : Field × DataW H)=>avs P n x.1.type x.2).map List.flatten else none
   | some (.array m e),.agg ds=>if ds.length = m then (ds.mapM (avs P n e)).map List.flatten else none
   | _,_=>none
def plFs (P : Program) (p : TypeId → Bool) : Nat → List Field → Option Nat
 | o,[]=>some o
 | o,f :: fs=>if f.offset = o ∧ p f.type = true then plFs P p (o + P.cellsOf f.type) fs else none
def plT (P : Program) : Nat → TypeId → Bool
 | 0,_=>false
 | n + 1,t =>
   match P.underlying t with
   | some .bool=>true
   | some (.int _)=>true
   | some .string=>true
   | some (.slice e)=>decide (0 < P.cellsOf e) && plT P n e
   | some (.struct fs)=>plFs P (plT P n) 0 fs.toList == some (P.cellsOf t)
   | some (.array m e)=>plT P n e && decide (m * P.cellsOf e = P.cellsOf t)
   | _=>false
def TF (w : World) (b : Nat) : Nat:=match w.heap[b]? with | some (.cells cells _ _)=>cells.size | _=>0
theorem zya (w : World) : TOk (TF w) w:=by
 intro b hb
 unfold TF at hb ⊢
 split at hb
 ·rename_i cells ty fz h
  exact ⟨cells,ty,fz,h,Nat.le_refl _⟩
 ·exact absurd hb (Nat.lt_irrefl _)
def RepS (w : World) (xs : List AV) (cs : List Value) : Prop :=
 xs.length = cs.length ∧ ∀ i,i < xs.length → (cs.getD i undef).oneCell' = true ∧ Rep (TF w) w (fun _=>none) (xs.getD i .dead) (cs.getD i undef)
theorem RepS.one {w : World} {x : AV} {v : Value} (h1 : v.oneCell' = true) (h : Rep (TF w) w (fun _=>none) x v) : RepS w [x] [v]:=by
 refine ⟨rfl,fun i hi=>?_⟩
 obtain rfl : i = 0:=by simpa using hi
 exact ⟨h1,h⟩
theorem RepS.append {w : World} {xs ys : List AV} {cs ds : List Value} (h1 : RepS w xs cs) (h2 : RepS w ys ds) : RepS w (xs ++ ys) (cs ++ ds):=by
 refine ⟨by simp [h1.1,h2.1],fun i hi=>?_⟩
 rcases Nat.lt_or_ge i xs.length with h | h
 ·have:=h1.2 i h
  simpa [List.getD,List.getElem?_append_left h,List.getElem?_append_left (show i < cs.length from h1.1 ▸ h)] using this
 ·have h3 : i - xs.length < ys.length:=by simp at hi; omega
  have:=h2.2 (i - xs.length) h3
  simpa [List.getD,List.getElem?_append_right h,List.getElem?_append_right (show cs.length ≤ i from h1.1 ▸ h),← h1.1] using this
theorem zot {α β : Type} {f : α → Option β} : ∀ {l : List α},(∀ a ∈ l,∃ b,f a = some b) → ∃ bs,l.mapM f = some bs ∧ bs.length = l.length ∧ ∀ (i : Nat) a,l[i]? = some a → ∃ b,bs[i]? = some b ∧ f a = some b
 | [],_=>⟨[],rfl,rfl,by simp⟩
 | a :: l,h=>by
   obtain ⟨b,hb⟩:=h a List.mem_cons_self
   obtain ⟨bs,h1,h2,h3⟩:=zot (l:=l) fun x hx=>h x (List.mem_cons_of_mem _ hx)
   refine ⟨b :: bs,by rw [List.mapM_cons,hb,h1]; rfl,by simp [h2],fun i x hi=>?_⟩
   cases i with
   | zero=>simp at hi; subst hi; exact ⟨b,rfl,hb⟩
   | succ i=>simpa using h3 i x (by simpa using hi)
variable {enc : TypeId × Value → H} {w : World} {sp : Nat → Bool} {held : Bool}
theorem zsg : ∀ (n : Nat) (t : TypeId),plT P n t = true → ∀ (m : Nat) (cs : List Value) (x : DataW H × List MemPlace),DataW.trod enc P w 0 sp held m t cs = some x → ∃ xs,avs P n t x.1 = some xs ∧ RepS w xs cs
 | 0,_,h,_,_,_,_=>by cases h
 | n + 1,t,h,0,cs,x,hx=>by simp [DataW.trod] at hx
 | n + 1,t,h,m + 1,cs,x,hx=>by
   simp only [plT] at h
   cases hu : P.underlying t with
   | none=>rw [hu] at h; cases h
   | some td =>
     rw [hu] at h
     cases td <;> simp only at h <;> (try (cases h; done))
     case slice e =>
      simp only [Bool.and_eq_true,decide_eq_true_eq] at h
      rcases DataW.trod_slice hu hx with ⟨rfl,rfl⟩ | ⟨a,len,cap,elems,rest,k,_,rfl,rfl,_,hl,hmx,hlen,hel,_,_⟩
      ·exact ⟨[.nilS],by simp [avs,hu],.one rfl (.sc _ _ rfl)⟩
      ·obtain ⟨bs,h1,h2,h3⟩:=zot (f:=avs P n e) (l:=elems.map (·.1)) (fun d hd=>by
        obtain ⟨y,hy,rfl⟩:=List.mem_map.1 hd
        obtain ⟨i,hi,rfl⟩:=List.mem_iff_getElem.1 hy
        have:=hel i (by omega)
        rw [List.getElem?_eq_getElem hi] at this
        cases hc : w.cells? 0 (a.add (i * P.cellsOf e)) (P.cellsOf e) with
        | none=>rw [hc] at this; cases this
        | some rc =>
          rw [hc] at this
          obtain ⟨xs,hx1,_⟩:=zsg n e h.2 _ _ _ this
          exact ⟨xs,hx1⟩)
       have hrow : ∀ i,i < len → ∃ row rc,bs[i]? = some row ∧ w.cells? 0 (a.add (i * P.cellsOf e)) (P.cellsOf e) = some rc ∧ RepS w row rc:=by
        intro i hi
        have hi' : i < elems.length:=by omega
        have:=hel i hi
        rw [List.getElem?_eq_getElem hi'] at this
        cases hc : w.cells? 0 (a.add (i * P.cellsOf e)) (P.cellsOf e) with
        | none=>rw [hc] at this; cases this
        | some rc =>
          rw [hc] at this
          obtain ⟨xs,hx1,hx2⟩:=zsg n e h.2 _ _ _ this
          obtain ⟨row,hr1,h4⟩:=h3 i elems[i].1 (by simp [hi'])
          rw [hx1] at h4
          obtain rfl:=Option.some.inj h4
          exact ⟨_,rc,hr1,rfl,hx2⟩
       have hbl : bs.length = len:=by simpa [hlen] using h2
       have hmx' : elems.length ≤ 9223372036854775807:=by
        have e : maxLen = 9223372036854775807:=by decide
        omega
       refine ⟨[.vs (P.cellsOf e) false bs],by simp [avs,hu,h1,hmx'],.one rfl ?_⟩
       rw [← hbl]
       have hcell : ∀ i j,i < len → j < P.cellsOf e → ∃ v,w.cell? (a.add (i * P.cellsOf e + j)) = some v ∧ v.oneCell' = true ∧ Rep (TF w) w (fun _=>none) ((bs.getD i []).getD j .dead) v:=by
        intro i j hi hj
        obtain ⟨row,rc,q1,q2,q3⟩:=hrow i hi
        obtain ⟨_,q4,q5⟩:=World.cells?_some q2
        have q6:=q5 j hj
        have q7:=q3.2 j (by rw [q3.1,q4]; exact hj)
        have e1 : bs.getD i [] = row:=by simp [List.getD,q1]
        have e2 : rc[j]? = some (rc.getD j undef):=by
         have : j < rc.length:=by omega
         simp [List.getD,this]
        have e3 : (a.add (i * P.cellsOf e)).add j = a.add (i * P.cellsOf e + j):=by
         unfold Addr.add
         by_cases c1 : i * P.cellsOf e = 0 <;> by_cases c2 : j = 0 <;> simp [c1,c2] <;> omega
        rw [e3] at q6
        exact ⟨_,by rw [q6,e2],q7.1,by rw [e1]; exact q7.2⟩
       refine .vs _ _ _ _ (some a) cap (fun i j=>(w.cell? (a.add (i * P.cellsOf e + j))).getD undef) (fun h=>by cases h) (by omega) (fun row hr=>?_) (fun hne=>?_) (fun i j hi hj=>?_) fun i j hi hj=>?_
       ·obtain ⟨i,hi,rfl⟩:=List.mem_iff_getElem.1 hr
        obtain ⟨row,rc,q1,q2,q3⟩:=hrow i (by omega)
        obtain ⟨_,q4,_⟩:=World.cells?_some q2
        rw [List.getElem?_eq_getElem hi] at q1
        obtain rfl:=Option.some.inj q1
        rw [q3.1,q4]
       ·have hpos : 0 < len:=by
         rw [← hbl]
         cases bs with
         | nil=>exact absurd rfl hne
         | cons _ _=>simp
        obtain ⟨v0,hv0,_⟩:=hcell 0 0 hpos h.1
        obtain ⟨b,off,spot⟩:=a
        have hspot : spot = none:=by simpa [Addr.add] using World.cell?_spot hv0
        subst hspot
        have hadd : ∀ k,(⟨b,off,none⟩ : Addr).add k = ⟨b,off + k,none⟩:=fun k=>by unfold Addr.add; split <;> simp_all
        cases hb : w.heap[b]? with
        | none=>rw [hadd] at hv0; simp [World.cell?,hb] at hv0
        | some o =>
          cases o with
          | cells cells ty fz =>
            have hc : ∀ i j,i < len → j < P.cellsOf e → ∃ v,cells[off + i * P.cellsOf e + j]? = some v ∧ w.cell? ((⟨b,off,none⟩ : Addr).add (i * P.cellsOf e + j)) = some v:=by
             intro i j hi hj
             obtain ⟨v,hv,_⟩:=hcell i j hi hj
             refine ⟨v,?_,hv⟩
             rw [hadd] at hv
             simpa [World.cell?,hb,Nat.add_assoc] using hv
            refine ⟨b,off,cells,ty,fz,rfl,hb,?_,fun i j hi hj=>?_⟩
            ·obtain ⟨v,hv,_⟩:=hc (len - 1) (P.cellsOf e - 1) (by omega) (by omega)
             have:=(Array.getElem?_eq_some_iff.1 hv).1
             have e5 : bs.length * P.cellsOf e = (len - 1) * P.cellsOf e + P.cellsOf e:=by
              rw [hbl]
              obtain ⟨q,rfl⟩ : ∃ q,len = q + 1:=⟨len - 1,by omega⟩
              simp [Nat.add_mul]
             have e6 : TF w b = cells.size:=by simp [TF,hb]
             omega
            ·obtain ⟨v,hv,hv2⟩:=hc i j (by omega) hj
             rw [hv,hv2]; rfl
          | _=>rw [hadd] at hv0; simp [World.cell?,hb] at hv0
       ·obtain ⟨v,hv,ho,_⟩:=hcell i j (by omega) hj
        rw [hv]; exact ho
       ·obtain ⟨v,hv,_,hr⟩:=hcell i j (by omega) hj
        rw [hv]; exact hr
     case struct fs =>
      simp only [beq_iff_eq] at h
      obtain ⟨ys,k,_,rfl,hcl,hyl,hel⟩:=DataW.trod_struct hu hx
      have key : ∀ (fl : List Field) (o e : Nat) (zs : List (DataW H × List MemPlace)),plFs P (plT P n) o fl = some e → zs.length = fl.length →
        (∀ (i : Nat) f,fl[i]? = some f → DataW.trod enc P w 0 sp held k f.type ((cs.drop f.offset).take (P.cellsOf f.type)) = zs[i]?) →
        ∃ l,((fl.zip (zs.map (·.1))).mapM fun (x : Field × DataW H)=>avs P n x.1.type x.2) = some l ∧ RepS w l.flatten ((cs.drop o).take (e - o)) ∧ o ≤ e:=by
       intro fl
       induction fl with
       | nil =>
         intro o e zs h1 h2 _
         simp only [plFs,Option.some.injEq] at h1
         subst h1
         exact ⟨[],rfl,by simp [RepS],Nat.le_refl _⟩
       | cons f fl ih =>
         intro o e zs h1 h2 h3
         cases zs with
         | nil=>simp at h2
         | cons z zs =>
           simp only [plFs] at h1
           split at h1
           case isFalse=>cases h1
           rename_i hc
           obtain ⟨rfl,hp⟩:=hc
           have hz:=h3 0 f rfl
           simp only [List.getElem?_cons_zero] at hz
           obtain ⟨row,r1,r2⟩:=zsg n f.type hp _ _ _ hz
           obtain ⟨l,l1,l2,l3⟩:=ih _ e zs h1 (by simpa using h2) fun i g hg=>by simpa using h3 (i + 1) g (by simpa using hg)
           refine ⟨row :: l,by simp [List.mapM_cons,r1,l1],?_,by omega⟩
           have e1 : (cs.drop f.offset).take (e - f.offset) = (cs.drop f.offset).take (P.cellsOf f.type) ++ (cs.drop (f.offset + P.cellsOf f.type)).take (e - (f.offset + P.cellsOf f.type)):=by
            rw [show e - f.offset = P.cellsOf f.type + (e - (f.offset + P.cellsOf f.type)) by omega,List.take_add,List.drop_drop]
           rw [e1,List.flatten_cons]
           exact r2.append l2
      obtain ⟨l,l1,l2,_⟩:=key fs.toList 0 _ ys h (by simpa using hyl) (fun i f hf=>hel i f (by simpa using hf))
      refine ⟨l.flatten,by simp [avs,hu,l1,hyl],?_⟩
      rw [List.drop_zero,Nat.sub_zero,← hcl,List.take_length] at l2
      exact l2
     case array q e =>
      simp only [Bool.and_eq_true,decide_eq_true_eq] at h
      rw [DataW.trod_step] at hx
      unfold DataW.trodStep at hx
      simp only [hu] at hx
      split at hx
      case isFalse=>cases hx
      rename_i hcl
      simp only [Option.map_eq_some_iff] at hx
      obtain ⟨zs,hzs,rfl⟩:=hx
      have key : ∀ (m' k : Nat) (zs : List (DataW H × List MemPlace)),((List.range' k m').mapM fun i=>DataW.trod enc P w 0 sp held m e ((cs.drop (i * P.cellsOf e)).take (P.cellsOf e))) = some zs →
        ∃ l,(zs.map (·.1)).mapM (avs P n e) = some l ∧ RepS w l.flatten ((cs.drop (k * P.cellsOf e)).take (m' * P.cellsOf e)) ∧ zs.length = m':=by
       intro m'
       induction m' with
       | zero =>
         intro k zs h1
         simp at h1
         subst h1
         exact ⟨[],rfl,by simp [RepS],rfl⟩
       | succ m' ih =>
         intro k zs h1
         rw [List.range'_succ,List.mapM_cons] at h1
         cases hz : DataW.trod enc P w 0 sp held m e ((cs.drop (k * P.cellsOf e)).take (P.cellsOf e)) with
         | none=>rw [hz] at h1; simp at h1
         | some z =>
           rw [hz] at h1
           cases hr : ((List.range' (k + 1) m').mapM fun i=>DataW.trod enc P w 0 sp held m e ((cs.drop (i * P.cellsOf e)).take (P.cellsOf e))) with
           | none=>rw [hr] at h1; simp at h1
           | some zs' =>
             rw [hr] at h1
             simp at h1
             subst h1
             obtain ⟨row,r1,r2⟩:=zsg n e h.1 _ _ _ hz
             obtain ⟨l,l1,l2,l3⟩:=ih (k + 1) zs' hr
             refine ⟨row :: l,by simp [List.mapM_cons,r1,l1],?_,by simp [l3]⟩
             have e1 : (cs.drop (k * P.cellsOf e)).take ((m' + 1) * P.cellsOf e) = (cs.drop (k * P.cellsOf e)).take (P.cellsOf e) ++ (cs.drop ((k + 1) * P.cellsOf e)).take (m' * P.cellsOf e):=by
              rw [show (m' + 1) * P.cellsOf e = P.cellsOf e + m' * P.cellsOf e by rw [Nat.add_mul,Nat.one_mul,Nat.add_comm],List.take_add,List.drop_drop,show k * P.cellsOf e + P.cellsOf e = (k + 1) * P.cellsOf e by rw [Nat.add_mul,Nat.one_mul]]
             rw [e1,List.flatten_cons]
             exact r2.append l2
      obtain ⟨l,l1,l2,l3⟩:=key q 0 zs (by rw [← List.range_eq_range']; exact hzs)
      refine ⟨l.flatten,by simp [avs,hu,l1,l3],?_⟩
      rw [Nat.zero_mul,List.drop_zero,h.2,← hcl,List.take_length] at l2
      exact l2
     all_goals
      rw [DataW.trod_step] at hx
      unfold DataW.trodStep at hx
      simp only [hu] at hx
     case bool =>
      rcases cs with _ | ⟨c,_ | ⟨c2,cs⟩⟩ <;> (try (simp at hx; done))
      cases c <;> simp at hx
      subst hx
      exact ⟨_,by simp [avs,hu],.one rfl (.sc _ _ rfl)⟩
     case int k =>
      rcases cs with _ | ⟨c,_ | ⟨c2,cs⟩⟩ <;> (try (simp at hx; done))
      cases c <;> simp at hx
      obtain ⟨⟨rfl,hwf⟩,rfl⟩:=hx
      exact ⟨_,by simp [avs,hu,hwf],.one rfl (.sc _ _ rfl)⟩
     case string =>
      rcases cs with _ | ⟨c,_ | ⟨c2,cs⟩⟩ <;> (try (simp at hx; done))
      cases c <;> simp at hx
      obtain ⟨_,rfl⟩:=hx
      rename_i s _
      exact ⟨[.sc (.string s)],by simp [avs,hu],.one rfl (.sc _ _ rfl)⟩
end
end Go.Proofs.YtklclphfcibagaaGreat
namespace Go.Proofs.YtklclphfcibagaaGreat
open Go Go.ChangeShapes Go.WideShapes Go.ChangeAt Go.RowKit
section
variable {H : Type} {P : Program}
def zjV (P : Program) (n : Nat) (t : TypeId) (d : DataW H) : Option AV :=
 match P.underlying t with
 | some (.struct _)=>(avs P n t d).map .agg
 | some (.array _ _)=>(avs P n t d).map .agg
 | _=>(avs P n t d).bind fun | [x]=>some x | _=>none
variable {enc : TypeId × Value → H} {W : World} {sp : Nat → Bool} {held : Bool}
theorem zvY {n : Nat} {t : TypeId} (hp : plT P n t = true) {r : Go.Reach} {base : Nat} {v : Value} {d : DataW H} {p : List MemPlace} (hval : Value.okWide P W r base t v) (h : DataW.Trod enc P W 0 sp held t v d p) :
  ∃ x,zjV P n t d = some x ∧ Rep (TF W) W (fun _=>none) x v:=by
 obtain ⟨m,hm⟩:=h
 obtain ⟨xs,h1,h2⟩:=zsg n t hp m _ _ hm
 simp only at h1
 cases n with
 | zero=>cases hp
 | succ n =>
   simp only [plT] at hp
   cases hu : P.underlying t with
   | none=>rw [hu] at hp; cases hp
   | some td =>
     rw [hu] at hp
     have one : (∀ cs,v ≠ .agg cs) → (∀ fs,td ≠ .struct fs) → (∀ m e,td ≠ .array m e) → ∃ x,zjV P (n + 1) t d = some x ∧ Rep (TF W) W (fun _=>none) x v:=by
      intro hv ht hta
      have hc : v.cells = #[v]:=by
       cases v <;> first | rfl | exact absurd rfl (hv _)
      rw [hc] at h2
      obtain ⟨hl,h3⟩:=h2
      match xs,hl with
      | [x],_ =>
        refine ⟨x,?_,?_⟩
        ·simp only [zjV,hu]
         cases td <;> first | exact absurd rfl (ht _) | exact absurd rfl (hta _ _) | simp [h1]
        ·simpa using (h3 0 (by simp)).2
     cases td <;> simp only at hp <;> (try (cases hp; done))
     case struct fs =>
      simp only [Value.okWide,hu] at hval
      obtain ⟨cs,rfl,_,_⟩:=hval
      refine ⟨.agg xs,by simp [zjV,hu,h1],?_⟩
      simp only [Value.cells] at h2
      refine .agg _ _ _ (by simpa using h2.1.symm) (fun i hi=>?_) fun i hi=>?_
      ·have:=(h2.2 i hi).1
       simpa [List.getD,Array.getD_eq_getD_getElem?] using this
      ·have:=(h2.2 i hi).2
       simpa [List.getD,Array.getD_eq_getD_getElem?] using this
     case array m e =>
      simp only [Value.okWide,hu] at hval
      obtain ⟨cs,rfl,_,_⟩:=hval
      refine ⟨.agg xs,by simp [zjV,hu,h1],?_⟩
      simp only [Value.cells] at h2
      refine .agg _ _ _ (by simpa using h2.1.symm) (fun i hi=>?_) fun i hi=>?_
      ·have:=(h2.2 i hi).1
       simpa [List.getD,Array.getD_eq_getD_getElem?] using this
      ·have:=(h2.2 i hi).2
       simpa [List.getD,Array.getD_eq_getD_getElem?] using this
     all_goals
      refine one (fun cs hc=>?_) (fun fs hf=>by cases hf) (fun m e hf=>by cases hf)
      subst hc
      simp [Value.okWide,hu,Cell.okWide,Cell.ok] at hval
def zjh (P : Program) (n : Nat) : List TypeId → List (DataW H) → Option (List AV)
 | [],[]=>some []
 | t :: ts,d :: ds=>match zjV P n t d,zjh P n ts ds with
   | some x,some xs=>some (x :: xs)
   | _,_=>none
 | _,_=>none
theorem zpU {n : Nat} {r : Go.Reach} {base : Nat} : ∀ {ts : List TypeId} {vs : List Value} {ds : List (DataW H)} {p : List MemPlace},(∀ t ∈ ts,plT P n t = true) → (∀ (j : Nat) t v,ts[j]? = some t → vs[j]? = some v → Value.okWide P W r base t v) →
  DataW.TrodAll enc P W 0 sp held ts vs ds p → ∃ xs,zjh P n ts ds = some xs ∧ xs.length = vs.length ∧ ∀ i,i < xs.length → Rep (TF W) W (fun _=>none) (xs.getD i .dead) (vs.getD i undef)
 | [],[],[],_,_,_,_=>⟨[],rfl,rfl,fun i hi=>absurd hi (by simp)⟩
 | t :: ts,v :: vs,d :: ds,_,hp,hv,⟨p,q,h1,h2,_⟩=>by
   obtain ⟨x,x1,x2⟩:=zvY (hp t List.mem_cons_self) (hv 0 t v rfl rfl) h1
   obtain ⟨xs,y1,y2,y3⟩:=zpU (fun t ht=>hp t (List.mem_cons_of_mem _ ht)) (fun j t v h3 h4=>hv (j + 1) t v (by simpa using h3) (by simpa using h4)) h2
   refine ⟨x :: xs,by simp [zjh,x1,y1],by simp [y2],fun i hi=>?_⟩
   cases i with
   | zero=>simpa using x2
   | succ i=>simpa using y3 i (by simpa using hi)
theorem zjv (hl : laidOutB P = true) {W' : World} (hb : Below W.heap.size W W') : ∀ {ts : List TypeId} {vs : List Value} {ds : List (DataW H)} {p : List MemPlace},(∀ t ∈ ts,P.readableRec t = true ∧ t < P.types.size) → (∀ x ∈ p,x.block < W.heap.size) →
  DataW.TrodAll enc P W 0 (fun _=>true) true ts vs ds p → DataW.TrodAll enc P W' 0 (fun b=>decide (b < W.heap.size)) true ts vs ds p
 | [],[],[],_,_,_,h=>h
 | t :: ts,v :: vs,d :: ds,_,hp,hlt,⟨p,q,h1,h2,e⟩ =>
   ⟨p,q,Below.trod hl (hp t List.mem_cons_self).1 (hp t List.mem_cons_self).2 h1 hb (fun x hx=>hlt x (by rw [e]; exact List.mem_append_left _ hx)),
    zjv hl hb (fun t ht=>hp t (List.mem_cons_of_mem _ ht)) (fun x hx=>hlt x (by rw [e]; exact List.mem_append_right _ hx)) h2,e⟩
def zzg (P : Program) (n : Nat) (ts : List TypeId) : Bool:=ts.all fun t=>P.readableRec t && decide (t < P.types.size) && plT P n t
theorem zqK {f : Func} {fi : FuncId} {s : ChangeSpec} {n : Nat} {tb : TypeId} (hl : laidOutB P = true) {ts : List TypeId} (hts : f.params.toList = ts) (hok : zzg P n ts = true)
  (hres : f.resultTypes = #[tb]) (htb : P.underlying tb = some .bool) (hvars : s.vars = []) {r : Go.Reach} {base : Nat} {args : Array Value} {ds gs : List (DataW H)} {before : List MemPlace}
  (hval : ∀ (j : Nat) t v,f.params[j]? = some t → args[j]? = some v → Value.okWide P W r base t v)
  (hW : DataW.Whole enc P f.params.toList s.vars false W args.toList ds gs before) (hs1 : (s.fn H (ds ++ [])).results = [.lit (.bool true)]) (hs2 : (s.fn H (ds ++ [])).args = ds) (hs3 : (s.fn H (ds ++ [])).vars = [])
  (hc : ∀ xs,zjh P n ts ds = some xs → zao P fi xs [] (.B true) []) :
  Calls P fi args W fun e W'=>∃ v,e = .returned v ∧ s.post enc P f false true false false W args v W':=by
 have hok' : ∀ t ∈ ts,(P.readableRec t = true ∧ t < P.types.size) ∧ plT P n t = true:=by
  intro t ht
  have:=List.all_eq_true.1 hok t ht
  simpa only [Bool.and_eq_true,decide_eq_true_eq] using this
 have hr : ∀ t ∈ f.params.toList,P.readableRec t = true ∧ t < P.types.size:=fun t ht=>(hok' t (hts ▸ ht)).1
 have hp : ∀ t ∈ f.params.toList,plT P n t = true:=fun t ht=>(hok' t (hts ▸ ht)).2
 subst hts
 have hW':=hW
 obtain ⟨p,q,hA,hV,rfl,hfz,hnd⟩:=hW
 rw [hvars] at hV
 obtain ⟨rfl,rfl⟩:=trodVars_none hV
 have hlt : ∀ x ∈ p,x.block < W.heap.size:=fun x hx=>by simpa using hW'.lt x (by simpa using hx)
 obtain ⟨xs,x1,x2,x3⟩:=zpU hp (fun j t v h1 h2=>hval j t v (by simpa using h1) (by simpa using h2)) hA
 have hR : RepL (TF W) W (fun _=>none) xs args:=⟨by simpa using x2.symm,fun i hi=>by simpa [List.getD,Array.getD_eq_getD_getElem?] using x3 i hi⟩
 refine ((hc xs x1).2.2 (TF W) (fun _=>none) W args (zya W) ⟨fun id e he=>by simp [hpOf] at he,fun id id' e e' g g' b h1=>by simp [hpOf] at h1⟩ (fun _ _=>rfl) hR).mono ?_
 rintro e W' ⟨v,T',M',rfl,hv,_,haf⟩
 have hv' : v = .bool true:=by cases hv; rfl
 subst hv'
 have hB : Below W.heap.size W W':=⟨haf.os,haf.tape,haf.output,haf.size,fun k hk=>haf.keep k hk (by rintro ⟨_,_,h,_⟩; exact absurd h (Nat.not_lt_zero _))⟩
 refine ⟨_,rfl,ds,[],p ++ [],[],p,[],hW',?_,?_,?_,hB.frame _,fun h=>by cases h⟩
 ·rw [hres,hs1]
  exact trodAll_mk1 (shut_bool htb _)
 ·rw [hs2]
  exact zjv hl hB hr hlt hA
 ·rw [hvars,hs3]
  rfl
end
abbrev oo (d : Nat) (op : AOp) (xs : List Opd) : zbI:=⟨some d,op,xs,none⟩
abbrev og (d : Nat) (op : AOp) (xs : List Opd) (g : Nat) : zbI:=⟨some d,op,xs,some (g,true)⟩
abbrev oh (d : Nat) (op : AOp) (xs : List Opd) (g : Nat) : zbI:=⟨some d,op,xs,some (g,false)⟩
abbrev ou (op : AOp) (xs : List Opd) : zbI:=⟨none,op,xs,none⟩
abbrev vi (n : Int) : Value:=.int .i64 n
abbrev v0 : Value:=.int .i64 0
abbrev ve : Value:=.string ⟨#[]⟩
abbrev vn : Value:=.slice none 0 0
abbrev ki (n : Int) : Opd:=.c (.int .i64 n)
abbrev kn : Opd:=.c (.slice none 0 0)
abbrev ma (d s : Nat) : zbI:=⟨some d,.mv,[.t s],none⟩
abbrev mg (d s g : Nat) : zbI:=⟨some d,.mv,[.t s],some (g,true)⟩
abbrev mh (d s g : Nat) : zbI:=⟨some d,.mv,[.t s],some (g,false)⟩
abbrev fa (d k s : Nat) : zbI:=⟨some d,.fad k,[.t s],none⟩
abbrev fg (d k s g : Nat) : zbI:=⟨some d,.fad k,[.t s],some (g,true)⟩
abbrev fh (d k s g : Nat) : zbI:=⟨some d,.fad k,[.t s],some (g,false)⟩
abbrev la (d s : Nat) : zbI:=⟨some d,.ld false 1,[.t s],none⟩
abbrev lg (d s g : Nat) : zbI:=⟨some d,.ld false 1,[.t s],some (g,true)⟩
abbrev lh (d s g : Nat) : zbI:=⟨some d,.ld false 1,[.t s],some (g,false)⟩
abbrev ca (d : Nat) (f : FuncId) (xs : List Opd) : zbI:=⟨some d,.call,.f f :: xs,none⟩
abbrev sr (l : List zbI) (c : zdu) : zdu:=.seq (.reg false l []) c
abbrev rg (l : List zbI) : zdu:=.reg false l []
end Go.Proofs.YtklclphfcibagaaGreat
namespace Go.Proofs.YtklclphfcibagaaGreat
abbrev zdA : Nat:=5
abbrev zdZ : Nat:=9
abbrev zaN : Nat:=12
abbrev zdr : Nat:=13
abbrev zab : Nat:=14
abbrev zar : Nat:=18
abbrev zaP : Nat:=20
abbrev zeE : Nat:=22
abbrev ziG : Nat:=37
abbrev zcp : Nat:=43
abbrev zfo : Nat:=44
abbrev zaR : Nat:=45
abbrev zaq : Nat:=46
abbrev zea : Nat:=52
abbrev zi6 : Nat:=54
abbrev zdD : Nat:=62
abbrev zdk : Nat:=68
abbrev zfA : Nat:=69
abbrev zeY : Nat:=70
abbrev zcG : Nat:=71
abbrev zcI : Nat:=72
abbrev zin : Nat:=73
abbrev zg7 : Nat:=74
abbrev zfq : Nat:=81
abbrev zdO : Nat:=82
abbrev zcg : Nat:=83
abbrev zaY : Nat:=84
abbrev zeL : Nat:=85
abbrev zeb : Nat:=86
abbrev zbP : Nat:=87
abbrev zfU : Nat:=88
abbrev zgp : Nat:=89
abbrev zdi : Nat:=90
abbrev zdo : Nat:=91
abbrev zfv : Nat:=92
abbrev zej : Nat:=97
abbrev zhm : Nat:=98
abbrev zgd : Nat:=99
abbrev zhu : Nat:=100
abbrev zg1 : Nat:=101
abbrev zek : Nat:=106
abbrev zdq : Nat:=108
abbrev zfO : Nat:=116
abbrev zd0 : Nat:=117
abbrev zap : Nat:=118
abbrev zbL : Nat:=119
abbrev ziM : Nat:=120
abbrev zeH : Nat:=122
abbrev zed : Nat:=123
abbrev zeo : Nat:=124
abbrev zcQ : Nat:=125
abbrev zdS : Nat:=126
abbrev zag : Nat:=127
abbrev zaZ : Nat:=136
abbrev zbE : Nat:=137
abbrev zhT : Nat:=138
abbrev zeW : Nat:=139
abbrev zdY : Nat:=140
abbrev zbB : Nat:=141
abbrev zez : Nat:=142
abbrev zfc : Nat:=143
abbrev zds : Nat:=144
abbrev zkv : Nat:=145
abbrev zhj : Nat:=146
abbrev zgG : Nat:=147
abbrev zbZ : Nat:=148
abbrev zcC : Nat:=149
abbrev zaQ : Nat:=150
abbrev zeA : Nat:=151
abbrev zgH : Nat:=152
abbrev zhh : Nat:=153
abbrev zeM : Nat:=154
abbrev zei : Nat:=170
abbrev zgy : Nat:=171
abbrev zfR : Nat:=172
abbrev zbc : Nat:=173
abbrev zdh : Nat:=174
abbrev zbe : Nat:=175
abbrev zbr : Nat:=176
abbrev zbu : Nat:=177
abbrev zf9 : Nat:=178
abbrev za0 : Nat:=193
abbrev zdV : Nat:=194
abbrev zdQ : Nat:=195
abbrev zaM : Nat:=196
abbrev zeX : Nat:=197
abbrev zc5 : Nat:=198
abbrev za2 : Nat:=199
abbrev zdK : Nat:=200
abbrev zcq : Nat:=201
abbrev zb0 : Nat:=202
abbrev zbx : Nat:=203
abbrev zct : Nat:=204
abbrev zcf : Nat:=205
abbrev zaO : Nat:=206
abbrev zfJ : Nat:=207
abbrev zcv : Nat:=208
abbrev zcj : Nat:=209
abbrev zfz : Nat:=210
abbrev ziU : Nat:=211
abbrev zg6 : Nat:=212
abbrev zeg : Nat:=213
abbrev zck : Nat:=214
abbrev zbs : Nat:=227
abbrev zcl : Nat:=234
abbrev zcX : Nat:=235
abbrev zew : Nat:=236
abbrev zbO : Nat:=237
abbrev zcW : Nat:=238
abbrev za6 : Nat:=239
abbrev zbf : Nat:=240
abbrev zd2 : Nat:=241
abbrev zgf : Nat:=242
abbrev zev : Nat:=243
abbrev zcd : Nat:=244
abbrev zg5 : Nat:=245
abbrev za5 : Nat:=257
abbrev zet : Nat:=258
abbrev zdx : Nat:=259
abbrev zdW : Nat:=260
abbrev zdI : Nat:=261
abbrev zcE : Nat:=262
abbrev zhy : Nat:=263
abbrev zdm : Nat:=264
abbrev zec : Nat:=265
abbrev zjz : Nat:=266
abbrev zc0 : Nat:=267
abbrev za8 : Nat:=268
abbrev zb7 : Nat:=269
abbrev zb5 : Nat:=270
abbrev zc6 : Nat:=271
abbrev zbX : Nat:=272
abbrev zdN : Nat:=273
abbrev zbd : Nat:=274
abbrev zc3 : Nat:=275
abbrev zdU : Nat:=276
abbrev zff : Nat:=281
abbrev zbJ : Nat:=282
abbrev zaK : Nat:=295
abbrev zaA : Nat:=296
abbrev za4 : Nat:=297
abbrev zcB : Nat:=298
abbrev zcJ : Nat:=299
abbrev zbk : Nat:=300
abbrev zjM : Nat:=314
abbrev zd5 : Nat:=315
abbrev za9 : Nat:=325
abbrev zaH : Nat:=341
end Go.Proofs.YtklclphfcibagaaGreat
