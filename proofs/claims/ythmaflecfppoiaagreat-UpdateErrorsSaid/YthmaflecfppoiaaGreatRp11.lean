/- Texts of this claim,merged. -/
import Derived.Test.YthmaflecfppoiaaGreatRp10
set_option linter.unusedSimpArgs false
set_option linter.unusedVariables false
set_option linter.unusedSectionVars false
namespace Go.Proofs.YthmaflecfppoiaaGreat
open Go
open Classical in
theorem zkK (g : Gr) (p : Pol) (hs : p.seeds.length ≤ 140737488355328) (ht : p.table.length ≤ 140737488355328) :
  zai Tryz.prog zfq [eG g,eP p] [] (.B (decide (zaY g.size p))) []:=by
 refine zns.acalls (nbz rfl) (nbz rfl) (Nat.le_refl _) ?_
 show awp _ 0 _ _ ⟨79,[(0,eG g),(1,eP p)],[],16⟩
 refine rx (s:=?s1) [2,3] [] [16,24] rfl ?o1 ?q1
 case o1=>simp; rfl
 refine zab ?_
 refine zaa ⟨79,[(3,.pv (pC p)),(39,.B (decide (¬ zjf g.size p)))],[],312⟩ rfl ?_ ?_
 ·simp
  repeat' first
   | (refine zd1 zci rfl ?_; refine zaj (zge _ _ hs) rfl ?_; simp)
   | (refine zb5 (fun hb=>?_) (fun hb=>?_) <;> (try rw [hb]) <;> (try simp at hb) <;> simp [hb])
  all_goals exact Le.snap [] rfl rfl (by simp; first | exact wkB (by (try simp at *); grind [zjf]) | exact ⟨by rw [show pC p = [.vs 1 false [],ints p.table,.I p.lv] by simp [pC,ints,hb]]; exact .refl _,wkB (by (try simp at *); grind [zjf])⟩)
 refine zac _ rfl (fun h3=>?_) fun h3=>?_
 ·simp at h3
  refine rx (s:=?s4) [4] [] [] rfl ?o4 ?q4
  case o4=>simp; rfl
  refine zag ?_
  exact ⟨.inr rfl,zak.one (by simp [zfe,h3])⟩
 simp at h3
 refine zae ?_
 refine zab ?_
 refine rx (s:=?s5) [3,5] [] [] rfl ?o5 ?q5
 case o5=>simp; rfl
 refine zaf ?_
 refine zao (ι:=Nat) (fun i=>⟨79,[(3,.pv (pC p)),(5,.I i)],[],320⟩) (fun i=>i ≤ p.table.length ∧ ∀ k,k < i → zn5 p k) (fun i=>p.table.length - i) 0 (by simp) (LeH [] []) ?_
 rintro i ⟨hi,hp⟩
 refine zab ?_
 refine rx (s:=?s6) [3,5,44] [] [] rfl ?o6 ?q6
 case o6=>simp; rfl
 refine zac _ rfl (fun h7=>?_) fun h7=>?_
 ·simp at h7
  have hw2 : IntKind.i64.wrap ((i : Int) + 1) = (i : Int) + 1:=w64 (by omega) (by omega)
  have hwp : 0 < i → IntKind.i64.wrap ((i : Int) - 1) = ((i - 1 : Nat) : Int):=fun h=>by rw [w64 (by omega) (by omega)]; omega
  have h7' : i - 1 < p.table.length:=by omega
  refine zae ?_
  refine zab ?_
  refine zaf ?_
  refine zaq ⟨79,[(3,.pv (pC p)),(5,.I i),(78,.B (decide (¬ zn5 p i)))],[],616⟩ rfl ?_ ?_
  ·simp [h7]
   repeat' first
    | (refine zb5 (fun hb=>?_) (fun hb=>?_) <;> (try rw [hb]) <;> (try simp at hb) <;> simp [hb,h7,h7',hwp])
   all_goals exact ⟨rfl,Le.snap [] rfl rfl (by simp; exact wkB (by (try simp at *); grind [zn5]))⟩
  refine zac _ rfl (fun h9=>?_) fun h9=>?_
  ·refine rx (s:=?s10) [4] [] [] rfl ?o10 ?q10
   case o10=>simp; rfl
   refine zag ?_
   have hn : ¬ zaY g.size p:=fun h=>by simp at h9; exact h9 ((zfe.1 h).2 i)
   exact ⟨.inr rfl,zak.one (by simp [hn])⟩
  simp at h9
  refine zae ?_
  refine zad (s:=?s16) rfl ?o16 ?q16
  case o16=>simp; rfl
  refine ⟨i + 1,⟨h7,fun k hk=>?_⟩,?_,Le.go [] [] rfl rfl (by simp [hw2]) (by simp)⟩
  ·rcases Nat.lt_succ_iff_lt_or_eq.1 hk with h | rfl
   ·exact hp k h
   ·exact h9
  ·omega
 simp at h7
 have hy : zaY g.size p:=zfe.2 ⟨h3,fun k hk=>hp k (by omega) hk⟩
 refine zan ?_
 refine hit ?_
 refine rx (s:=?s11) [4] [] [] rfl ?o11 ?q11
 case o11=>simp; rfl
 refine zag ?_
 exact ⟨.inr rfl,zak.one (by simp [hy])⟩
open Classical in
theorem zdy (g : Gr) (p : Pol) (hl : g.edges.length ≤ 140737488355328) (hl2 : g.gone.length ≤ 140737488355328) (hs : p.seeds.length ≤ 140737488355328) (ht : p.table.length ≤ 140737488355328) :
  zai Tryz.prog zcQ [eG g,eP p] [] (.I (if GrOk g then if zaY g.size p then 0 else 15 else 14)) []:=by
 refine zpv.acalls (nbz rfl) (nbz rfl) (Nat.le_refl _) ?_
 show awp _ 0 _ _ ⟨12,[(0,eG g),(1,eP p)],[],16⟩
 refine rx (s:=?s1) [2,3] [] [16,24] rfl ?o1 ?q1
 case o1=>simp; rfl
 refine zab ?_
 refine rx (s:=?s2) [2,3,7] [] [] rfl ?o2 ?q2
 case o2=>simp; refine zaj (ze5 g hl hl2) (by simp) ?_; simp; rfl
 refine zac _ rfl (fun h3=>?_) fun h3=>?_
 ·simp at h3
  refine rx (s:=?s4) [4] [] [] rfl ?o4 ?q4
  case o4=>simp; rfl
  refine zag ?_
  exact ⟨.inr rfl,zak.one (by simp [h3])⟩
 simp at h3
 refine zae ?_
 refine zab ?_
 refine rx (s:=?s5) [11] [] [] rfl ?o5 ?q5
 case o5=>simp; refine zaj (zkK g p hs ht) (by simp) ?_; simp; rfl
 refine zac _ rfl (fun h6=>?_) fun h6=>?_
 ·simp at h6
  refine rx (s:=?s7) [4] [] [] rfl ?o7 ?q7
  case o7=>simp; rfl
  refine zag ?_
  exact ⟨.inr rfl,zak.one (by simp [h3,h6])⟩
 simp at h6
 refine zae ?_
 refine rx (s:=?s8) [4] [] [] rfl ?o8 ?q8
 case o8=>simp; rfl
 refine zag ?_
 exact ⟨.inr rfl,zak.one (by simp [h3,h6])⟩
theorem Le.dn {st st' : St} {D D' : List (List AV)} (N : Nat) (i j i' j' : Nat) (sn : List Nat) (hsz : st'.sz = st.sz) (hh : st'.h = [(i',some ⟨1,[[.rs j' 0 N]],0⟩),(j',some ⟨1,D',0⟩)]) (hi : i' < st'.n) (hj : j' < st'.n) (hij : i ≠ j) (hij' : i' ≠ j') (hs : ∀ k ∈ sn,k ≠ i ∧ k ≠ j)
  (h1 : st.hp i = some ⟨1,[[.rs j 0 N]],0⟩) (h2 : st.hp j = some ⟨1,D,0⟩) (hD : D.map (·.map (conv [(i,i'),(j,j')] sn st.hp 4)) = D') (ht : ∀ p ∈ st'.t,Wk (conv [(i,i'),(j,j')] sn st.hp 4 (st.get p.1)) p.2) : Le 0 st st' :=
 Le.ents [(i,i'),(j,j')] sn hsz (by simpa using hij) (by simpa using hij') (by simp [hi,hj]) (by simpa using hs) (Nat.zero_le _) ht fun p hp=>by
  rw [hh] at hp
  simp at hp
  rcases hp with rfl | rfl
  ·exact ⟨i,_,_,rfl,by simp,h1,zaI.eq (by simp [hij]) (by simp)⟩
  ·exact ⟨j,_,_,rfl,by simp,h2,zaI.eq (by simp only [zax,hD]) (by simp)⟩
theorem znQ {l : List Int} {lo hi : Int} (h : Rise l lo hi) : ∀ (i : Nat) (hi : i < l.length),lo + i ≤ l[i]
 | 0,hi=>by have:=(h 0 hi).1; simp; omega
 | i + 1,hi=>by
   have h1:=znQ h i (by omega)
   have h2:=(h (i + 1) hi).2.2 (by omega)
   simp only [Nat.add_sub_cancel] at h2
   omega
theorem GrOk.gone_le {g : Gr} (h : GrOk g) : g.gone.length ≤ 64:=by
 have hr:=h.1.2.2.2
 have h1:=h.1.1
 have h2:=h.1.2.1
 rcases Nat.eq_zero_or_pos g.gone.length with h0 | h0
 ·omega
 ·have h3:=znQ hr (g.gone.length - 1) (by omega)
  have h4:=(hr (g.gone.length - 1) (by omega)).2.1
  omega
theorem zrl {l : List Ed} {x t : Int} : t ∈ outs l x ↔ ∃ e ∈ l,e.f = x ∧ e.t = t:=by
 unfold outs
 simp only [List.mem_filterMap]
 constructor
 ·rintro ⟨e,he,h⟩
  split at h
  ·exact ⟨e,he,by assumption,by simpa using h⟩
  ·cases h
 ·rintro ⟨e,he,h1,h2⟩
  exact ⟨e,he,by rw [if_pos h1,h2]⟩
theorem zr7 {g : Gr} {S : List Int} {d : Nat} {F X : List Int} (hg : GrOk g) (hF : ∀ x,x ∈ F ↔ Key g x ∧ dl g S d x = d) (hX : ∀ t,t ∈ X ↔ ∃ x ∈ F,t ∈ outs g.edges x) (x : Int) :
  x ∈ X.filter (fun e=>!offQ (outL g S (d + 1)) e) ↔ Key g x ∧ dl g S (d + 1) x = (d + 1 : Nat):=by
 rw [List.mem_filter,hX]
 have hlen:=zrq g S (d + 1)
 have hsz:=hg.1.1
 constructor
 ·rintro ⟨⟨y,hy,hxy⟩,ho⟩
  obtain ⟨e,he,rfl,rfl⟩:=zrl.1 hxy
  have hyF:=(hF e.f).1 hy
  simp only [offQ,Bool.not_or,Bool.not_not,Bool.and_eq_true,decide_eq_true_eq,hlen] at ho
  have hk : Key g e.t:=⟨ho.1.1,by omega⟩
  have h1:=zsN (S:=S) (n:=d) he (by omega)
  refine ⟨hk,?_⟩
  have ho2:=ho.2
  obtain ⟨k,hk2⟩ : ∃ k : Nat,e.t = k:=⟨e.t.toNat,by have:=hk.1; omega⟩
  rw [hk2] at ho2 h1 ⊢
  have hkN : k < g.size.toNat:=by have:=hk.2; omega
  have hget : (outL g S (d + 1)).getD k 0 = if 0 ≤ dl g S (d + 1) k ∧ dl g S (d + 1) k < (d + 1 : Nat) then dl g S (d + 1) k else -1:=by
   simp [outL,List.getD,hkN]
  simp only [Int.toNat_natCast,hget] at ho2
  simp at ho2
  split at ho2 <;> omega
 ·rintro ⟨hk,hd⟩
  have h2 : ¬ 0 ≤ dl g S d x:=by
   intro h2
   rw [zgg h2] at hd
   have:=zbL (g:=g) (S:=S) d x
   omega
  obtain ⟨_,e,he,h4,h5⟩:=zoU (g:=g) (S:=S) (n:=d) (k:=x) (by omega) h2
  have hf:=hg.fits e he
  refine ⟨⟨e.f,(hF _).2 ⟨⟨hf.1,by have:=hf.2.1; omega⟩,h5⟩,zrl.2 ⟨e,he,rfl,h4⟩⟩,?_⟩
  obtain ⟨k,rfl⟩ : ∃ k : Nat,x = k:=⟨x.toNat,by have:=hk.1; omega⟩
  have hkN : k < g.size.toNat:=by have:=hk.2; omega
  have hget : (outL g S (d + 1)).getD k 0 = if 0 ≤ dl g S (d + 1) k ∧ dl g S (d + 1) k < (d + 1 : Nat) then dl g S (d + 1) k else -1:=by
   simp [outL,List.getD,hkN]
  simp only [offQ,Int.toNat_natCast,hget,hlen]
  rw [if_neg (by omega)]
  simp
  omega
theorem znn {F : List Int} {i : Nat} (h : i < F.length) (x : Int) : x ∈ F.take (i + 1) ↔ x ∈ F.take i ++ [F[i]]:=by
 rw [← List.take_concat_get h,List.concat_eq_append]
set_option maxHeartbeats 4000000 in
set_option maxRecDepth 100000 in
theorem zgz (g : Gr) (S : List Int) (hg : GrOk g) (hS : S.length ≤ 1099511627776) : zai Tryz.prog zdX [eG g,ints S] [] (.rs 0 0 g.size.toNat) [some ⟨1,zah (zbJ g S),0⟩]:=by
 refine znW.acalls (nbz rfl) (nbz rfl) (Nat.zero_le _) ?_
 show awp _ 0 _ _ ⟨50,[(0,eG g),(1,ints S)],[],16⟩
 have hsz:=hg.1.1
 have hsz2:=hg.1.2.1
 have h500:=hg.1.2.2.1
 have hgone : g.gone.length ≤ 1000000:=Nat.le_trans hg.gone_le (by omega)
 obtain ⟨N,hN⟩ : ∃ N : Nat,N = g.size.toNat:=⟨_,rfl⟩
 have hNs : (if 0 < g.size then g.size else 0) = (N : Int):=by split <;> omega
 refine zaa ⟨50,[(2,.pv (gC g)),(3,.pv [ints S])],[],40⟩ rfl ?_ ?_
 ·simp
  exact Le.snap [16,24] rfl rfl (by simp)
 refine zaa ⟨50,[(2,.pv (gC g)),(3,.pv [ints S]),(5,.pt 80 0 0)],[(80,some ⟨1,[[.rs 72 0 N]],0⟩),(72,some ⟨1,List.replicate N [.I (-1)],0⟩)],96⟩ rfl ?_ ?_
 ·simp [hNs]
  refine zve (j:=40) (Nat.zero_le _) rfl (ztC (-1) N (by omega)) ?_ ?_
  ·simp
  simp
  exact Le.keep rfl (Nat.le_refl _) (by simp) (by simp)
 have h0 : List.replicate N [AV.I (-1)] = zah (outL g S 0):=by
  unfold outL zah
  rw [List.map_map]
  apply List.ext_getElem
  ·simp [hN]
  ·intro i h1 h2
   simp
   omega
 rw [h0]
 obtain ⟨F0,hF0⟩ : ∃ F,F = zbi N (zfQ g S):=⟨_,rfl⟩
 have hF0m : ∀ x,x ∈ F0 ↔ Key g x ∧ dl g S 0 x = ((0 : Nat) : Int):=by
  intro x
  rw [hF0]
  unfold zbi
  simp only [List.mem_filter,List.mem_map,List.mem_range]
  constructor
  ·rintro ⟨⟨i,hi,rfl⟩,hs⟩
   exact ⟨⟨by omega,by omega⟩,by rw [dl,if_pos hs]; rfl⟩
  ·rintro ⟨⟨k1,k2⟩,hs⟩
   refine ⟨⟨x.toNat,by omega,by omega⟩,?_⟩
   rw [dl] at hs
   split at hs
   ·assumption
   ·simp at hs
 have hF0l : F0.length ≤ 500:=by have:=zgx N (zfQ g S); rw [hF0]; omega
 refine zaa ⟨50,[(2,.pv (gC g)),(5,.pt 80 0 0),(6,ints F0)],[(80,some ⟨1,[[.rs 72 0 N]],0⟩),(72,some ⟨1,zah (outL g S 0),0⟩)],136⟩ rfl ?_ ?_
 ·simp
  refine za0 (zq8 zcy [.pv (gC g),.pv [ints S]] (zfQ g S) g.size (by omega) (fun ρ sn h n=>by simp) (fun k _=>zsI g S k hS (by omega))) (by simp) ?_
  rw [← hN,← hF0]
  simp [fcd]
  exact Le.dn N 80 72 80 72 [120] rfl rfl (by simp) (by simp) (by decide) (by decide) (by simp) rfl rfl (by simp [fcd]) (by simp [fcd,zal])
 refine zab ?_
 refine zaa ⟨50,[(2,.pv (gC g)),(5,.pt 80 0 0),(6,ints F0),(7,.I 0)],[(80,some ⟨1,[[.rs 72 0 N]],0⟩),(72,some ⟨1,zah (outL g S 0),0⟩)],144⟩ rfl ?_ ?_
 ·simp
  exact Le.keep rfl (Nat.le_refl _) (by simp) (by simp)
 refine zaf ?_
 refine zao (ι:=Nat × List Int) (fun p=>⟨50,[(2,.pv (gC g)),(5,.pt 80 0 0),(6,ints p.2),(7,.I p.1)],[(80,some ⟨1,[[.rs 72 0 N]],0⟩),(72,some ⟨1,zah (outL g S p.1),0⟩)],144⟩) (fun p=>p.1 ≤ 64 ∧ p.2.length ≤ 500 ∧ ∀ x,x ∈ p.2 ↔ Key g x ∧ dl g S p.1 x = p.1) (fun p=>64 - p.1) (0,F0) ⟨by simp,hF0l,hF0m⟩ (Le.refl _ _) ?_
 rintro ⟨d,F⟩ ⟨hd,hFl,hFm⟩
 simp only at hd hFl hFm ⊢
 refine zab ?_
 refine zaa ⟨50,[(2,.pv (gC g)),(5,.pt 80 0 0),(6,ints F),(7,.I d),(22,.B (decide (0 < F.length)))],[(80,some ⟨1,[[.rs 72 0 N]],0⟩),(72,some ⟨1,zah (outL g S d),0⟩)],168⟩ rfl ?_ ?_
 ·simp
  exact Le.keep rfl (Nat.le_refl _) (by simp <;> rw [Bool.eq_iff_iff] <;> simp) (by simp)
 refine zac _ rfl (fun h=>zae ?_) fun h=>zan (hit ?_)
 ·simp only [decide_eq_true_eq] at h
  have hdlt : (d : Int) < g.size:=by
   have:=hFm F[0]
   have h1:=(this.1 (List.getElem_mem _))
   exact zrb hg h1.1 h1.2
  refine zaL (ι:=List Int) (fun F'=>⟨50,[(2,.pv (gC g)),(5,.pt 80 0 0),(6,ints F'),(7,.I d)],[(80,some ⟨1,[[.rs 72 0 N]],0⟩),(72,some ⟨1,zah (outL g S (d + 1)),0⟩)],144⟩) (fun F'=>F'.length ≤ 500 ∧ ∀ x,x ∈ F' ↔ Key g x ∧ dl g S (d + 1) x = (d + 1 : Nat)) ?_ ?_
  ·refine zaf ?_
   refine zaa ⟨50,[(2,.pv (gC g)),(5,.pt 80 0 0),(6,ints F),(7,.I d),(8,.nilS)],[(80,some ⟨1,[[.rs 72 0 N]],0⟩),(72,some ⟨1,zah (outL g S d),0⟩)],176⟩ rfl ?_ ?_
   ·simp
    exact Le.keep rfl (Nat.le_refl _) (by simp) (by simp)
   rw [← znf]
   refine zab ?_
   refine zab ?_
   refine zad (s:=?s2) rfl ?o2 ?q2
   case o2=>simp; rfl
   refine zaf ?_
   let C : Nat × List Int → St:=fun p=>⟨50,[(2,.pv (gC g)),(5,.pt 80 0 0),(7,.I d),(8,.rs 16 0 p.2.length),(25,ints F),(26,.I F.length),(27,.I p.1)],[(80,some ⟨1,[[.rs 72 0 N]],0⟩),(72,some ⟨1,zah (outP g S d (F.take p.1)),0⟩),(16,some ⟨1,zah p.2,0⟩)],200⟩
   refine zao C (fun p : Nat × List Int=>p.1 ≤ F.length ∧ (∀ t,t ∈ p.2 ↔ ∃ x ∈ F.take p.1,t ∈ outs g.edges x) ∧ p.2.length = g.edges.countP fun e=>decide (e.f ∈ F.take p.1)) (fun p : Nat × List Int=>F.length - p.1) (0,[]) ⟨Nat.zero_le _,by simp,by simp⟩ ?_ ?_
   ·refine Le.lst [(80,80),(72,72)] [] [(16,1)] rfl (by simp) (by simp) (by simp [C]) (by simp [C]) (by simp) (by simp) (by simp) (by simp [C,Up]) fun p hp e' he'=>?_
    simp [C] at hp
    rcases hp with rfl | rfl | rfl
    ·cases he'
     exact .inl ⟨(80,80),by simp,rfl,_,rfl,zaI.eq (by simp) (by simp)⟩
    ·cases he'
     exact .inl ⟨(72,72),by simp,rfl,_,rfl,zaI.eq (by simp [fcd,znf]) (by simp)⟩
    ·cases he'
     exact .inr ⟨by simp,by simp,rfl⟩
   rintro ⟨i,X⟩ ⟨hi,hXm,hXl⟩
   simp only at hi hXm hXl ⊢
   have hXle : X.length ≤ 500:=by rw [hXl]; exact Nat.le_trans List.countP_le_length h500
   have hC : C (i,X) = ⟨50,[(2,.pv (gC g)),(5,.pt 80 0 0),(7,.I d),(8,.rs 16 0 X.length),(25,ints F),(26,.I F.length),(27,.I i)],[(80,some ⟨1,[[.rs 72 0 N]],0⟩),(72,some ⟨1,zah (outP g S d (F.take i)),0⟩),(16,some ⟨1,zah X,0⟩)],200⟩:=rfl
   rw [hC]
   refine zaa ⟨50,[(2,.pv (gC g)),(5,.pt 80 0 0),(7,.I d),(8,.rs 16 0 X.length),(25,ints F),(26,.I F.length),(27,.I i),(28,.B (decide (i < F.length)))],[(80,some ⟨1,[[.rs 72 0 N]],0⟩),(72,some ⟨1,zah (outP g S d (F.take i)),0⟩),(16,some ⟨1,zah X,0⟩)],208⟩ rfl ?_ ?_
   ·simp
    exact Le.keep rfl (Nat.le_refl _) (by simp) (by simp)
   refine zab ?_
   refine zac _ rfl (fun h2=>zae ?_) fun h2=>zan (hit ?_)
   ·simp only [decide_eq_true_eq] at h2
    have hx:=(hFm F[i]).1 (List.getElem_mem h2)
    obtain ⟨k,hk⟩ : ∃ k : Nat,F[i] = k:=⟨F[i].toNat,by have:=hx.1.1; omega⟩
    have hkN : k < g.size.toNat:=by have:=hx.1.2; omega
    have hkd : dl g S d k = d:=by rw [← hk]; exact hx.2
    have hmt:=znn h2
    rw [hk] at hmt
    refine zaL (ι:=List Int) (fun X'=>⟨50,[(2,.pv (gC g)),(5,.pt 80 0 0),(7,.I d),(8,.rs 16 0 X'.length),(25,ints F),(26,.I F.length),(27,.I i)],[(80,some ⟨1,[[.rs 72 0 N]],0⟩),(72,some ⟨1,zah (outP g S d (F.take (i + 1))),0⟩),(16,some ⟨1,zah X',0⟩)],200⟩) (fun X'=>(∀ t,t ∈ X' ↔ ∃ x ∈ F.take (i + 1),t ∈ outs g.edges x) ∧ X'.length = g.edges.countP fun e=>decide (e.f ∈ F.take (i + 1))) ?_ ?_
    ·have hOlen : (outP g S d (F.take i)).length = N:=by rw [zhQ,hN]
     have hOget:=zt7 (g:=g) (S:=S) (d:=d) (F:=F.take i) hkN hkd
     have hOset0 : zah ((outP g S d (F.take i)).set k d) = zah (outP g S d (F.take (i + 1))):=by
      rw [zup hkN hkd]
      congr 1
      exact zrs fun x=>(hmt x).symm
     have hOset : (zah (outP g S d (F.take i))).set k [AV.I d] = zah (outP g S d (F.take (i + 1))):=by
      rw [← hOset0,zah,zah,List.map_set]
     clear hOset0
     have hrow : (zah (outP g S d (F.take i)))[k]? = some [AV.I (if (k : Int) ∈ F.take i then (d : Int) else -1)]:=by
      rw [List.getElem?_map,List.getElem?_eq_getElem (by omega),hOget]
      rfl
     have hOl : (zah (outP g S d (F.take i))).length = N:=by simp [hOlen]
     generalize hO : zah (outP g S d (F.take i)) = O at *
     refine zaf ?_
     refine zaa ⟨50,[(2,.pv (gC g)),(5,.pt 80 0 0),(7,.I d),(8,.rs 16 0 X.length),(25,ints F),(26,.I F.length),(27,.I i),(10,.I k)],[(80,some ⟨1,[[.rs 72 0 N]],0⟩),(72,some ⟨1,O,0⟩),(16,some ⟨1,zah X,0⟩)],232⟩ rfl ?_ ?_
     ·simp [h2,hk]
      exact Le.keep rfl (Nat.le_refl _) (by simp) (by simp)
     refine zab ?_
     refine zaa ⟨50,[(2,.pv (gC g)),(5,.pt 80 0 0),(7,.I d),(8,.rs 16 0 X.length),(25,ints F),(26,.I F.length),(27,.I i),(10,.I k),(35,.B (decide ((k : Int) ∈ F.take i)))],[(80,some ⟨1,[[.rs 72 0 N]],0⟩),(72,some ⟨1,O,0⟩),(16,some ⟨1,zah X,0⟩)],272⟩ rfl ?_ ?_
     ·simp [hrow,show k < N by omega]
      refine Le.keep rfl (Nat.le_refl _) ?_ (by simp)
      by_cases hin : (k : Int) ∈ F.take i <;> simp [hin]
     refine zac _ rfl (fun h3=>zan (hit ?_)) fun h3=>zae ?_
     ·simp only [decide_eq_true_eq] at h3
      have hsame : ∀ x,x ∈ F.take (i + 1) ↔ x ∈ F.take i:=by
       intro x
       rw [hmt x]
       simp
       rintro rfl
       exact h3
      refine ⟨X,⟨fun t=>?_,?_⟩,?_⟩
      ·rw [hXm]
       simp only [hsame]
      ·rw [hXl]
       simp only [hsame]
      ·rw [zrs hsame,hO]
       refine Le.ents [(80,80),(72,72),(16,16)] [] rfl (by simp) (by simp) (by simp) (by simp) (by simp) (by simp) fun p hp=>?_
       simp at hp
       rcases hp with rfl | rfl | rfl
       ·exact ⟨80,_,_,rfl,by simp,rfl,zaI.eq (by simp) (by simp)⟩
       ·exact ⟨72,_,_,rfl,by simp,rfl,zaI.eq (by rw [← hO]; simp [fcd]) (by simp)⟩
       ·exact ⟨16,_,_,rfl,by simp,rfl,zaI.eq (by simp [fcd]) (by simp)⟩
     simp only [decide_eq_false_iff_not] at h3
     refine zaa ⟨50,[(2,.pv (gC g)),(5,.pt 80 0 0),(7,.I d),(8,.rs 16 0 X.length),(25,ints F),(26,.I F.length),(27,.I i),(10,.I k)],[(80,some ⟨1,[[.rs 72 0 N]],0⟩),(72,some ⟨1,zah (outP g S d (F.take (i + 1))),0⟩),(16,some ⟨1,zah X,0⟩)],312⟩ rfl ?_ ?_
     ·simp [hrow,show k < N by omega,zar]
      exact Le.keep rfl (Nat.le_refl _) (by simp) (by simp; exact hOset)
     have hcount:=zrR (l:=g.edges) h3
     have hol:=zqo g.edges k
     refine zas rfl ?_
     simp
     refine za0 (zoV g k (by omega)) rfl ?_
     simp [fcd]
     have hcm : (fun e : Ed=>decide (e.f ∈ F.take (i + 1))) = fun e : Ed=>decide (e.f ∈ F.take i ++ [(k : Int)]):=by
      funext e
      simp only [hmt]
     refine ⟨by omega,by omega,X ++ zgE (outs g.edges k),⟨fun t=>?_,?_⟩,?_⟩
     ·rw [List.mem_append,zrB,hXm]
      simp only [hmt,List.mem_append,List.mem_singleton]
      constructor
      ·rintro (⟨x,hx,ht⟩ | ht)
       ·exact ⟨x,.inl hx,ht⟩
       ·exact ⟨k,.inr rfl,ht⟩
      ·rintro ⟨x,hx | rfl,ht⟩
       ·exact .inl ⟨x,hx,ht⟩
       ·exact .inr ht
     ·rw [List.length_append,ziG,hXl,hcm,hcount]
     ·have e1 : List.take X.length (zah X) = zah X:=List.take_of_length_le (by simp)
      have e2 : List.take (outs g.edges k).length (zah (zgE (outs g.edges k))) = zah (zgE (outs g.edges k)):=List.take_of_length_le (by rw [zah,List.length_map,ziG]; exact Nat.le_refl _)
      have e3 : (X ++ zgE (outs g.edges k)).length = X.length + (outs g.edges k).length:=by rw [List.length_append,ziG]
      rw [e1,e3]
      refine Le.ents [(80,80),(72,72),(344,16)] [] rfl (by simp) (by simp) (by simp) (by simp) (by simp) (by simp) fun p hp=>?_
      simp at hp
      rcases hp with rfl | rfl | rfl
      ·exact ⟨80,_,_,rfl,by simp,rfl,zaI.eq (by simp) (by simp)⟩
      ·exact ⟨72,_,_,rfl,by simp,rfl,zaI.eq (by simp [fcd]) (by simp)⟩
      ·refine ⟨344,_,_,rfl,by simp,rfl,zaI.eq ?_ (by simp)⟩
       have e4 : zah X ++ List.take (outs g.edges k).length (zah (zgE (outs g.edges k))) = zah X ++ zah (zgE (outs g.edges k)):=by rw [e2]
       have e5 : (⟨1,zah X ++ List.take (outs g.edges k).length (zah (zgE (outs g.edges k))),0⟩ : Ent) = ⟨1,zah X ++ zah (zgE (outs g.edges k)),0⟩:=by rw [e4]
       refine (congrArg _ e5).trans ?_
       simp [fcd]
    rintro X' ⟨k1,k2⟩
    have hwi : IntKind.i64.wrap ((i : Int) + 1) = ((i + 1 : Nat) : Int):=by rw [w64 (by omega) (by omega)]; omega
    refine zas rfl ?_
    simp [hwi]
    refine ⟨i + 1,X',⟨by omega,k1,k2⟩,by omega,Le.ents [(80,80),(72,72),(16,16)] [] rfl (by simp) (by simp) (by simp [C]) (by simp) (by simp [C]) (by simp [C]) fun p hp=>?_⟩
    simp [C] at hp
    rcases hp with rfl | rfl | rfl
    ·exact ⟨80,_,_,rfl,by simp,rfl,zaI.eq (by simp) (by simp)⟩
    ·exact ⟨72,_,_,rfl,by simp,rfl,zaI.eq (by simp [fcd]) (by simp)⟩
    ·exact ⟨16,_,_,rfl,by simp,rfl,zaI.eq (by simp [fcd]) (by simp)⟩
   simp only [decide_eq_false_iff_not] at h2
   obtain rfl : i = F.length:=by omega
   rw [List.take_of_length_le (Nat.le_refl _)] at hXm hXl ⊢
   rw [zsU d F hFm]
   obtain ⟨F',hF'⟩ : ∃ F',F' = X.filter fun e=>!offQ (outL g S (d + 1)) e:=⟨_,rfl⟩
   have hF'l : F'.length ≤ X.length:=by rw [hF']; exact List.length_filter_le _ _
   have hDl:=zrq g S (d + 1)
   have hdel:=zg2 zcz [.pv [ints (outL g S (d + 1))]] (offQ (outL g S (d + 1))) X X.length F'.length rfl (by rw [hF']) (by omega) (fun ρ sn h n=>by simp) (fun e _=>zsF (outL g S (d + 1)) e (by rw [hDl]; omega))
   rw [← hF'] at hdel
   have htk : List.take N (zah (outL g S (d + 1))) = zah (outL g S (d + 1)):=List.take_of_length_le (by rw [zah,List.length_map,hDl]; omega)
   have hle : N ≤ (zah (outL g S (d + 1))).length:=by rw [zah,List.length_map,hDl]; omega
   have hnf:=fun x=>zr7 hg hFm hXm x
   rw [← hF'] at hnf
   generalize hO : outL g S (d + 1) = O at *
   refine zas rfl ?_
   simp
   refine zvl (i:=16) [80,72] (by simp) rfl (e':=⟨1,zah X,0⟩) (by simp [fcd]) hdel (by simp) ?_ (.rs _ _ _) (by
    intro e he
    simp at he
    subst he
    exact zqm) ?_
   ·have hle2 : N ≤ O.length:=by simpa using hle
    have htk2 : List.take N (List.map (fun x=>[AV.I x]) O) = List.map (fun x=>[AV.I x]) O:=htk
    simp [fcd,hle2,htk2]
   simp [fcd]
   refine ⟨F',⟨by omega,hnf⟩,?_⟩
   rw [znf,hO]
   exact Le.dn N 80 72 80 72 [16] rfl rfl (by simp) (by simp) (by decide) (by decide) (by simp) rfl rfl (by simp [fcd]) (by simp [fcd,zal])
  rintro F' ⟨k1,k2⟩
  have hwd : IntKind.i64.wrap ((d : Int) + 1) = ((d + 1 : Nat) : Int):=by rw [w64 (by omega) (by omega)]; omega
  refine zas rfl ?_
  simp [hwd]
  exact ⟨d + 1,F',⟨by omega,k1,k2⟩,by omega,Le.dn N 80 72 80 72 [] rfl rfl (by simp) (by simp) (by decide) (by decide) (by simp) rfl rfl (by simp [fcd]) (by simp)⟩
 simp only [decide_eq_false_iff_not] at h
 have hnil : F = []:=List.eq_nil_of_length_eq_zero (by omega)
 have hstop : ∀ k,Key g k → dl g S d k ≠ d:=by
  intro k hk he
  have:=(hFm k).2 ⟨hk,he⟩
  rw [hnil] at this
  simp at this
 have hout : outL g S d = zbJ g S:=by
  unfold outL zbJ
  refine List.map_congr_left fun i hi=>?_
  simp at hi
  have hkey : Key g i:=⟨by omega,by omega⟩
  rw [zou hg hstop i hkey]
  have hr:=zbL (g:=g) (S:=S) d i
  have:=hstop i hkey
  rw [zou hg hstop i hkey] at this hr
  split <;> omega
 rw [hout]
 refine zab ?_
 refine zad (s:=?z9) rfl ?p9 ?r9
 case p9=>simp; rfl
 refine zag ?_
 rw [← hN]
 exact ⟨.inr rfl,zak.out [72] [] rfl (by simp) (by simp) (by simp) (by simp [fcd])⟩
def dP (g : Gr) (S : List Int) (n i : Nat) (k : Int) : Int:=if 0 ≤ dl g S n k then dl g S n k else if (g.edges.take i).any (fun e=>decide (e.t = k) && decide (dl g S n e.f = n)) = true then (n : Int) + 1 else -1
variable {g : Gr} {S : List Int}
theorem zqv (n : Nat) (k : Int) : dP g S n 0 k = dl g S n k:=by
 unfold dP
 have:=zbL (g:=g) (S:=S) n k
 split
 ·rfl
 ·simp; omega
theorem zv1 (n : Nat) (k : Int) : dP g S n g.edges.length k = dl g S (n + 1) k:=by
 unfold dP
 rw [List.take_of_length_le (Nat.le_refl _),dl]
theorem zxj (n i : Nat) (k : Int) : dP g S n i k = n ↔ dl g S n k = n:=by
 unfold dP
 have:=zbL (g:=g) (S:=S) n k
 split
 ·exact Iff.rfl
 ·split <;> omega
theorem zs5 (n i : Nat) (hi : i < g.edges.length) (k : Int) : dP g S n (i + 1) k = if dl g S n g.edges[i].f = n ∧ dP g S n i g.edges[i].t = -1 ∧ k = g.edges[i].t then (n : Int) + 1 else dP g S n i k:=by
 have hany : ∀ k,(g.edges.take (i + 1)).any (fun e=>decide (e.t = k) && decide (dl g S n e.f = n)) = ((g.edges.take i).any (fun e=>decide (e.t = k) && decide (dl g S n e.f = n)) || (decide (g.edges[i].t = k) && decide (dl g S n g.edges[i].f = n))):=by
  intro k
  rw [← List.take_concat_get hi,List.concat_eq_append,List.any_append]
  simp
 unfold dP
 rw [hany]
 by_cases h1 : dl g S n g.edges[i].f = n
 ·by_cases h2 : k = g.edges[i].t
  ·subst h2
   simp only [h1,decide_true,Bool.and_self,Bool.or_true,if_true,and_true,true_and]
   have:=zbL (g:=g) (S:=S) n g.edges[i].t
   by_cases h3 : 0 ≤ dl g S n g.edges[i].t
   ·simp only [h3,if_true]
    rw [if_neg (by omega)]
   ·simp only [h3,if_false]
    split <;> simp
  ·have h3 : decide (g.edges[i].t = k) = false:=by simpa using fun h=>h2 h.symm
   simp only [h3,h2,Bool.false_and,Bool.or_false,and_false,if_false]
 ·simp only [h1,decide_false,Bool.and_false,Bool.or_false,false_and,if_false]
def zeM (g : Gr) (S : List Int) (k : Nat) : List Int:=(List.range k).map fun (i : Nat)=>dl g S 0 (i : Int)
def midL (g : Gr) (S : List Int) (n i : Nat) : List Int:=(List.range g.size.toNat).map fun (k : Nat)=>dP g S n i (k : Int)
theorem zjY (n i : Nat) : (midL g S n i).length = g.size.toNat:=by simp [midL]
theorem zrH : midL g S 0 0 = zeM g S g.size.toNat:=by unfold midL zeM; simp only [zqv]
theorem ztE (n : Nat) : midL g S n g.edges.length = midL g S (n + 1) 0:=by unfold midL; simp only [zv1,zqv]
theorem zta : midL g S g.size.toNat 0 = zbJ g S:=by unfold midL zbJ dist; simp only [zqv]
theorem zqP (n i : Nat) {k : Nat} (hk : k < g.size.toNat) : (zah (midL g S n i))[k]? = some [AV.I (dP g S n i k)]:=by
 simp [midL,hk]
theorem zsS (n i : Nat) (hi : i < g.edges.length) (h : ¬ (dl g S n g.edges[i].f = n ∧ dP g S n i g.edges[i].t = -1)) : midL g S n (i + 1) = midL g S n i:=by
 unfold midL
 refine List.map_congr_left fun k _=>?_
 rw [zs5 n i hi,if_neg]
 rintro ⟨h1,h2,_⟩
 exact h ⟨h1,h2⟩
theorem zuB (n i : Nat) (hi : i < g.edges.length) {k : Nat} (hk : g.edges[i].t = k) (hkN : k < g.size.toNat) (h1 : dl g S n g.edges[i].f = n) (h2 : dP g S n i g.edges[i].t = -1) : (zah (midL g S n i)).set k [AV.I ((n : Int) + 1)] = zah (midL g S n (i + 1)):=by
 have e : (midL g S n i).set k ((n : Int) + 1) = midL g S n (i + 1):=by
  apply List.ext_getElem?
  intro j
  by_cases hj : j < g.size.toNat
  ·have e1 : (midL g S n (i + 1))[j]? = some (dP g S n (i + 1) j):=by simp [midL,hj]
   have e2 : (midL g S n i)[j]? = some (dP g S n i j):=by simp [midL,hj]
   rw [List.getElem?_set,e1,e2,zs5 n i hi,zjY]
   by_cases hkj : k = j
   ·subst hkj
    rw [if_pos rfl,if_pos hkN,if_pos ⟨h1,h2,hk.symm⟩]
   ·rw [if_neg hkj,if_neg]
    rintro ⟨_,_,h3⟩
    rw [hk] at h3
    omega
  ·rw [List.getElem?_eq_none (by rw [List.length_set,zjY]; omega),List.getElem?_eq_none (by rw [zjY]; omega)]
 rw [← e,zah,zah,List.map_set]
theorem zqE (k : Nat) : zeM g S (k + 1) = zeM g S k ++ [dl g S 0 k]:=by
 unfold zeM
 rw [List.range_succ,List.map_append]
 rfl
theorem Le.l1 {st st' : St} {D : List Int} (i j : Nat) (sn : List Nat) (hsz : st'.sz = st.sz) (hh : st'.h = [(j,some ⟨1,zah D,0⟩)]) (hj : j < st'.n) (hs : ∀ k ∈ sn,k ≠ i) (he : st.hp i = some ⟨1,zah D,0⟩) (ht : ∀ p ∈ st'.t,Wk (conv [(i,j)] sn st.hp 4 (st.get p.1)) p.2) : Le 0 st st' :=
 ziF hsz hh hj hs he (by simp [fcd]) (by simp) ht
set_option maxHeartbeats 4000000 in
set_option maxRecDepth 100000 in
theorem zgB (g : Gr) (S : List Int) (hg : GrOk g) (hS : S.length ≤ 1099511627776) : zai Tryz.prog zfc [eG g,ints S] [] (.rs 0 0 g.size.toNat) [some ⟨1,zah (zbJ g S),0⟩]:=by
 refine zr9.acalls (nbz rfl) (nbz rfl) (Nat.zero_le _) ?_
 show awp _ 0 _ _ ⟨72,[(0,eG g),(1,ints S)],[],16⟩
 have hsz:=hg.1.1
 have hsz2:=hg.1.2.1
 have h500:=hg.1.2.2.1
 have hgone : g.gone.length ≤ 1000000:=Nat.le_trans hg.gone_le (by omega)
 obtain ⟨N,hN⟩ : ∃ N : Nat,N = g.size.toNat:=⟨_,rfl⟩
 refine zaa ⟨72,[(1,ints S),(2,.pv (gC g))],[],32⟩ rfl ?_ ?_
 ·simp
  exact Le.snap [16] rfl rfl (by simp)
 refine zab ?_
 refine zad (s:=?s1) rfl ?o1 ?q1
 case o1=>simp; rfl
 refine zab ?_
 refine zab ?_
 refine zad (s:=?s2) rfl ?o2 ?q2
 case o2=>simp; rfl
 refine zaf ?_
 let C : Nat → St:=fun k=>⟨72,[(1,ints S),(2,.pv (gC g)),(5,.rs 16 0 k),(6,.I k)],[(16,some ⟨1,zah (zeM g S k),0⟩)],48⟩
 refine zao C (fun k=>k ≤ N) (fun k=>N - k) 0 (Nat.zero_le _) (Le.lst [] [] [(16,1)] rfl (by simp) (by simp) (by simp) (by simp [C]) (by simp) (by simp) (by simp) (by simp [C,Up]) (by simp [C,zeM])) ?_
 intro k hk
 have hCk : C k = ⟨72,[(1,ints S),(2,.pv (gC g)),(5,.rs 16 0 k),(6,.I k)],[(16,some ⟨1,zah (zeM g S k),0⟩)],48⟩:=rfl
 rw [hCk]
 refine zab ?_
 refine zaa ⟨72,[(1,ints S),(2,.pv (gC g)),(5,.rs 16 0 k),(6,.I k),(13,.B (decide ((k : Int) < g.size)))],[(16,some ⟨1,zah (zeM g S k),0⟩)],80⟩ rfl ?_ ?_
 ·simp
  exact Le.keep rfl (Nat.le_refl _) (by simp) (by simp)
 refine zac _ rfl (fun h=>zae ?_) fun h=>zan (hit ?_)
 ·simp only [decide_eq_true_eq] at h
  refine zaL (ι:=Unit) (fun _=>⟨72,[(1,ints S),(2,.pv (gC g)),(5,.rs 16 0 (k + 1)),(6,.I k)],[(16,some ⟨1,zah (zeM g S (k + 1)),0⟩)],48⟩) (fun _=>True) ?_ fun _ _=>?_
  ·rw [zqE]
   have hAl : (zeM g S k).length = k:=by simp [zeM]
   generalize zeM g S k = A at *
   refine zaf ?_
   refine zaa ⟨72,[(1,ints S),(2,.pv (gC g)),(5,.rs 96 0 (k + 1)),(6,.I k)],[(96,some ⟨1,zah A ++ [[.I (-1)]],0⟩)],112⟩ rfl ?_ ?_
   ·simp [List.replicate,hAl]
    refine ⟨by omega,by omega,?_⟩
    have e1 : List.take k (zah A) = zah A:=List.take_of_length_le (by simp [hAl])
    exact ziF (i:=96) (sn:=[]) rfl rfl (by simp) (by simp) rfl (by rw [e1]; simp [fcd]) (by simp) (by simp)
   refine zaa ⟨72,[(1,ints S),(2,.pv (gC g)),(5,.rs 96 0 (k + 1)),(6,.I k),(28,.B (zfQ g S k))],[(96,some ⟨1,zah A ++ [[.I (-1)]],0⟩)],192⟩ rfl ?_ ?_
   ·simp
    refine zd1 zaT rfl ?_
    refine zaj (zme S k (by omega)) rfl ?_
    simp
    refine zb5 (fun hb=>?_) (fun hb=>?_)
    ·simp [hb]
     refine zd1 zaT rfl ?_
     refine zaj (zme g.gone k (by omega)) rfl ?_
     simp [hb]
     exact ziF (i:=96) (sn:=[]) rfl rfl (by simp) (by simp) rfl (by simp [fcd]) (by simp) (by simp [zfQ] <;> exact wkB (by simp_all))
    ·simp [hb]
     exact ziF (i:=96) (sn:=[]) rfl rfl (by simp) (by simp) rfl (by simp [fcd]) (by simp) (by simp [zfQ] <;> exact wkB (by simp_all))
   refine zac _ rfl (fun h5=>?_) fun h5=>zae ?_
   ·have h0 : dl g S 0 k = 0:=by rw [dl,if_pos h5]
    rw [h0]
    refine zas rfl ?_
    have hset : (zah A ++ [[AV.I (-1)]]).set k [AV.I 0] = zah A ++ [[AV.I 0]]:=by
     rw [List.set_append,if_neg (by simp [hAl])]
     simp [hAl]
    have hget : (zah A ++ [[AV.I (-1)]])[k]? = some [AV.I (-1)]:=by
     rw [List.getElem?_append_right (by simp [hAl])]
     simp [hAl]
    simp [hget,zar,hset]
    refine ⟨by omega,ziF (i:=96) (sn:=[]) rfl rfl (by simp) (by simp) rfl (by simp [fcd]) (by simp) (by simp)⟩
   ·have h0 : dl g S 0 k = -1:=by rw [dl,if_neg (by simp [h5])]
    rw [h0]
    exact ⟨(),trivial,ziF (i:=96) (sn:=[]) rfl rfl (by simp) (by simp) rfl (by simp [fcd]) (by simp) (by simp)⟩
  have hwk : IntKind.i64.wrap ((k : Int) + 1) = ((k + 1 : Nat) : Int):=by rw [w64 (by omega) (by omega)]; omega
  refine zas rfl ?_
  simp [hwk]
  exact ⟨k + 1,by omega,by omega,Le.l1 16 16 [] rfl rfl (by simp [C]) (by simp) rfl (by simp [C])⟩
 simp only [decide_eq_false_iff_not] at h
 obtain rfl : k = N:=by omega
 have hf : zeM g S k = midL g S 0 0:=by rw [zrH,hN]
 rw [hf]
 refine zab ?_
 refine zaa ⟨72,[(2,.pv (gC g)),(5,.rs 16 0 k),(7,.I 0)],[(16,some ⟨1,zah (midL g S 0 0),0⟩)],88⟩ rfl ?_ ?_
 ·simp
  exact Le.keep rfl (Nat.le_refl _) (by simp) (by simp)
 refine zaf ?_
 refine zao (ι:=Nat) (fun n=>⟨72,[(2,.pv (gC g)),(5,.rs 16 0 k),(7,.I n)],[(16,some ⟨1,zah (midL g S n 0),0⟩)],88⟩) (fun n=>n ≤ k) (fun n=>k - n) 0 (Nat.zero_le _) (Le.refl _ _) ?_
 intro n hn
 refine zab ?_
 refine zaa ⟨72,[(2,.pv (gC g)),(5,.rs 16 0 k),(7,.I n),(35,.B (decide ((n : Int) < g.size)))],[(16,some ⟨1,zah (midL g S n 0),0⟩)],120⟩ rfl ?_ ?_
 ·simp
  exact Le.keep rfl (Nat.le_refl _) (by simp) (by simp)
 refine zac _ rfl (fun h=>zae ?_) fun h=>zan (hit ?_)
 ·simp only [decide_eq_true_eq] at h
  refine zaL (ι:=Unit) (fun _=>⟨72,[(2,.pv (gC g)),(5,.rs 16 0 k),(7,.I n)],[(16,some ⟨1,zah (midL g S (n + 1) 0),0⟩)],88⟩) (fun _=>True) ?_ fun _ _=>?_
  ·rw [← ztE]
   refine zaf ?_
   refine zaa ⟨72,[(2,.pv (gC g)),(5,.rs 16 0 k),(7,.I n),(8,.I 0)],[(16,some ⟨1,zah (midL g S n 0),0⟩)],128⟩ rfl ?_ ?_
   ·simp
    exact Le.keep rfl (Nat.le_refl _) (by simp) (by simp)
   refine zaf ?_
   refine zao (ι:=Nat) (fun i=>⟨72,[(2,.pv (gC g)),(5,.rs 16 0 k),(7,.I n),(8,.I i)],[(16,some ⟨1,zah (midL g S n i),0⟩)],128⟩) (fun i=>i ≤ g.edges.length) (fun i=>g.edges.length - i) 0 (Nat.zero_le _) (Le.refl _ _) ?_
   intro i hi
   refine zab ?_
   refine zaa ⟨72,[(2,.pv (gC g)),(5,.rs 16 0 k),(7,.I n),(8,.I i),(42,.B (decide (i < g.edges.length)))],[(16,some ⟨1,zah (midL g S n i),0⟩)],168⟩ rfl ?_ ?_
   ·simp
    exact Le.keep rfl (Nat.le_refl _) (by simp) (by simp)
   refine zac _ rfl (fun h2=>zae ?_) fun h2=>zan (hit ?_)
   ·simp only [decide_eq_true_eq] at h2
    refine zaL (ι:=Unit) (fun _=>⟨72,[(2,.pv (gC g)),(5,.rs 16 0 k),(7,.I n),(8,.I i)],[(16,some ⟨1,zah (midL g S n (i + 1)),0⟩)],128⟩) (fun _=>True) ?_ fun _ _=>?_
    ·have hfit:=hg.fits g.edges[i] (List.getElem_mem h2)
     obtain ⟨a,ha⟩ : ∃ a : Nat,g.edges[i].f = a:=⟨g.edges[i].f.toNat,by have:=hfit.1; omega⟩
     obtain ⟨b,hb⟩ : ∃ b : Nat,g.edges[i].t = b:=⟨g.edges[i].t.toNat,by have:=hfit.2.2.1; omega⟩
     have haN : a < g.size.toNat:=by have:=hfit.2.1; omega
     have hbN : b < g.size.toNat:=by have:=hfit.2.2.2.1; omega
     have hga:=zqP (g:=g) (S:=S) n i haN
     have hgb:=zqP (g:=g) (S:=S) n i hbN
     have hml : (zah (midL g S n i)).length = k:=by rw [zah,List.length_map,zjY,hN]
     have hsame:=zsS (S:=S) n i h2
     have hset:=zuB (S:=S) n i h2 hb hbN
     rw [ha] at hsame hset
     rw [hb] at hsame hset
     have hdat:=zxj (g:=g) (S:=S) n i a
     generalize hD1 : dP g S n i a = va at *
     generalize hD2 : dP g S n i b = vb at *
     generalize hM : zah (midL g S n i) = M at *
     have hwn : IntKind.i64.wrap ((n : Int) + 1) = (n : Int) + 1:=w64 (by omega) (by omega)
     refine zaf ?_
     refine zaa ⟨72,[(2,.pv (gC g)),(5,.rs 16 0 k),(7,.I n),(8,.I i),(9,.pv (eC g.edges[i]))],[(16,some ⟨1,M,0⟩)],128⟩ rfl ?_ ?_
     ·simp [h2]
      exact ziF (i:=16) (sn:=[208]) rfl rfl (by simp) (by simp) rfl (by rw [← hM]; simp [fcd]) (by simp) (by simp)
     refine zaa ⟨72,[(2,.pv (gC g)),(5,.rs 16 0 k),(7,.I n),(8,.I i),(9,.pv (eC g.edges[i])),(64,.B (decide (va = n ∧ vb = -1)))],[(16,some ⟨1,M,0⟩)],248⟩ rfl ?_ ?_
     ·simp [ha,hb,hga,hgb,show a < k by omega,show b < k by omega]
      refine zb5 (fun hx=>?_) (fun hx=>?_)
      ·simp [hx,ha,hb,hga,hgb,show a < k by omega,show b < k by omega]
       refine Le.keep rfl (Nat.le_refl _) (by simp <;> simp_all <;> rw [Bool.eq_iff_iff] <;> simp) (by simp)
      ·simp [hx]
       refine Le.keep rfl (Nat.le_refl _) (by simp <;> simp_all) (by simp)
     refine zac _ rfl (fun h5=>?_) fun h5=>zae ?_
     ·simp only [decide_eq_true_eq] at h5
      have hs2:=hset (hdat.1 h5.1) h5.2
      refine zas rfl ?_
      simp [ha,hb,hgb,show b < k by omega,zar,hwn,hs2]
      exact Le.l1 16 16 [] rfl rfl (by simp) (by simp) rfl (by simp)
     ·simp only [decide_eq_false_iff_not] at h5
      rw [hsame (fun hq=>h5 ⟨hdat.2 hq.1,hq.2⟩),hM]
      exact ⟨(),trivial,ziF (i:=16) (sn:=[]) rfl rfl (by simp) (by simp) rfl (by rw [← hM]; simp [fcd]) (by simp) (by simp)⟩
    have hwi : IntKind.i64.wrap ((i : Int) + 1) = ((i + 1 : Nat) : Int):=by rw [w64 (by omega) (by omega)]; omega
    refine zas rfl ?_
    simp [hwi]
    exact ⟨i + 1,by omega,by omega,Le.l1 16 16 [] rfl rfl (by simp) (by simp) rfl (by simp)⟩
   simp only [decide_eq_false_iff_not] at h2
   obtain rfl : i = g.edges.length:=by omega
   exact ⟨(),trivial,Le.l1 16 16 [] rfl rfl (by simp) (by simp) rfl (by simp)⟩
  have hwn : IntKind.i64.wrap ((n : Int) + 1) = ((n + 1 : Nat) : Int):=by rw [w64 (by omega) (by omega)]; omega
  refine zas rfl ?_
  simp [hwn]
  exact ⟨n + 1,by omega,by omega,Le.l1 16 16 [] rfl rfl (by simp) (by simp) rfl (by simp)⟩
 simp only [decide_eq_false_iff_not] at h
 obtain rfl : n = k:=by omega
 rw [hN,zta,← hN]
 refine zab ?_
 refine zad (s:=?z9) rfl ?p9 ?r9
 case p9=>simp; rfl
 refine zag ?_
 exact ⟨.inr rfl,zak.out [16] [] rfl (by simp) (by simp) (by simp) (by simp [fcd])⟩
def zdi (c : Int → Int → Int) : List Int → Int → List Int
 | [],x=>[x]
 | y :: r,x=>if c x y < 0 then y :: zdi c r x else x :: y :: r
def zcB (c : Int → Int → Int) (M : List Int) : List Int:=M.foldl (zdi c) []
def zgZ (c : Int → Int → Int) (M : List Int) : List Int:=(zcB c M).reverse
theorem zfj (c : Int → Int → Int) : ∀ (r : List Int) (x : Int),(zdi c r x).Perm (x :: r)
 | [],x=>.refl _
 | y :: r,x=>by
   unfold zdi
   split
   ·exact ((zfj c r x).cons y).trans (.swap _ _ _)
   ·exact .refl _
theorem zmS (c : Int → Int → Int) (M : List Int) (k : Nat) (h : k < M.length) : zcB c (M.take (k + 1)) = zdi c (zcB c (M.take k)) M[k]:=by
 unfold zcB
 rw [← List.take_concat_get h,List.concat_eq_append,List.foldl_append]
 rfl
theorem zfw (c : Int → Int → Int) (M : List Int) : (zcB c M).Perm M:=by
 have key : ∀ (M acc : List Int),(M.foldl (zdi c) acc).Perm (M ++ acc):=by
  intro M
  induction M with
  | nil=>intro acc; exact .refl _
  | cons x M ih =>
    intro acc
    refine (ih _).trans ?_
    refine ((zfj c acc x).append_left M).trans ?_
    simp only [List.cons_append]
    exact List.perm_middle
 simpa [zcB] using key M []
theorem zjb (c : Int → Int → Int) (M : List Int) : (zcB c M).length = M.length:=(zfw c M).length_eq
theorem zsB (c : Int → Int → Int) (x : Int) : zcB c [x] = [x]:=rfl
theorem Le.np1 {st st' : St} {D : List Int} (sn : List Nat) (hsz : st'.sz = st.sz) (hn : 1 ≤ st'.n) (hh : st'.h = [(0,some ⟨1,zah D,0⟩)]) (hs : ∀ k ∈ sn,1 ≤ k) (he : st.hp 0 = some ⟨1,zah D,0⟩) (ht : ∀ p ∈ st'.t,Wk (conv [(0,0)] sn st.hp 4 (st.get p.1)) p.2) : Le 1 st st' :=
 Le.ents [(0,0)] sn hsz (by simp) (by simp) (by simp; omega) (fun k hk=>⟨hs k hk,by have:=hs k hk; simp; omega⟩) hn ht (fun p hp=>by
  rw [hh] at hp
  simp at hp
  subst hp
  exact ⟨0,_,_,rfl,by simp,he,zaI.eq (by simp [fcd]) (by simp)⟩)
theorem ztP {H T : List Int} {y x : Int} {h : Nat} (hh : H.length = h) : (zah (H ++ y :: x :: T))[h]? = some [AV.I y] ∧ (zah (H ++ y :: x :: T))[h + 1]? = some [AV.I x]:=by
 subst hh
 constructor
 ·rw [List.getElem?_map,List.getElem?_append_right (by omega)]
  simp
 ·rw [List.getElem?_map,List.getElem?_append_right (by omega)]
  simp
theorem zu9 {H T : List Int} {y x : Int} {h : Nat} (hh : H.length = h) : ((zah (H ++ y :: x :: T)).set (h + 1) [AV.I y]).set h [AV.I x] = zah (H ++ x :: y :: T):=by
 subst hh
 simp [zah,List.set_append]
set_option maxHeartbeats 4000000 in
set_option maxRecDepth 100000 in
theorem zpj (f : FuncId) (capt : List AV) (c : Int → Int → Int) (A M B : List Int) (n a b : Nat) (hn : (A ++ M ++ B).length = n) (ha : A.length = a) (hb : a + M.length = b) (hl : n ≤ 1000000) (hs : zkD capt)
  (hc : ∀ x ∈ M,∀ y ∈ M,zai Tryz.prog f (AV.I x :: AV.I y :: capt) [] (.I (c x y)) []) :
  zai Tryz.prog zaP [.rs 0 0 n,.I a,.I b,.fn (.func f) [] capt] [⟨1,zah (A ++ M ++ B),0⟩] (.tup []) [some ⟨1,zah (A ++ zgZ c M ++ B),0⟩]:=by
 have hs2 : ∀ ρ sn h,capt.map (conv ρ sn h 2) = capt:=fun _ _ _=>hs _ _ _ 1
 have hs3 : ∀ ρ sn h,capt.map (conv ρ sn h 3) = capt:=fun _ _ _=>hs _ _ _ 2
 have hs4 : ∀ ρ sn h,capt.map (conv ρ sn h 4) = capt:=fun _ _ _=>hs _ _ _ 3
 refine zdg.acalls (nbz rfl) (nbz rfl) (nbz rfl) ?_
 show awp _ 1 _ _ ⟨53,[(0,.rs 0 0 n),(1,.I a),(2,.I b),(3,.fn (.func f) [] capt)],[(0,some ⟨1,zah (A ++ M ++ B),0⟩)],16⟩
 have hlen : a + (M.length + B.length) = n:=by
  simp only [List.length_append] at hn
  omega
 have hbn : b ≤ n:=by omega
 have hwa : IntKind.i64.wrap ((a : Int) + 1) = ((a + 1 : Nat) : Int):=by rw [w64 (by omega) (by omega)]; omega
 let Lk : Nat → List Int:=fun k=>A ++ ((zcB c (M.take k)).reverse ++ (M.drop k ++ B))
 have hL1 : A ++ M ++ B = Lk 1:=by
  cases M with
  | nil=>simp [Lk,zcB]
  | cons m M=>simp [Lk,zsB]
 rw [hL1]
 refine zaa ⟨53,[(0,.rs 0 0 n),(1,.I a),(2,.I b),(3,.fn (.func f) [] capt),(8,.I (a + 1 : Nat))],[(0,some ⟨1,zah (Lk 1),0⟩)],40⟩ rfl ?_ ?_
 ·simp [hwa]
  exact Le.keep rfl (Nat.le_refl _) (by simp) (by simp)
 refine zaf ?_
 refine zao (ι:=Nat) (fun k=>⟨53,[(0,.rs 0 0 n),(1,.I a),(2,.I b),(3,.fn (.func f) [] capt),(8,.I (a + k : Nat))],[(0,some ⟨1,zah (Lk k),0⟩)],40⟩) (fun k=>1 ≤ k ∧ k ≤ M.length + 1 ∧ (M.length ≤ k → zah (Lk k) = zah (A ++ zgZ c M ++ B))) (fun k=>M.length + 1 - k) 1 ?_ (Le.refl _ _) ?_
 ·refine ⟨Nat.le_refl _,by omega,fun h=>?_⟩
  simp only [Lk]
  rw [List.take_of_length_le h,List.drop_eq_nil_of_le h]
  simp [zgZ]
 rintro k ⟨hk1,hk2,hk3⟩
 refine zab ?_
 refine zaa ⟨53,[(0,.rs 0 0 n),(1,.I a),(2,.I b),(3,.fn (.func f) [] capt),(8,.I (a + k : Nat)),(14,.B (decide (k < M.length)))],[(0,some ⟨1,zah (Lk k),0⟩)],64⟩ rfl ?_ ?_
 ·simp
  exact Le.keep rfl (Nat.le_refl _) (by simp <;> omega) (by simp)
 refine zac _ rfl (fun h=>zae ?_) fun h=>zan (hit ?_)
 ·simp only [decide_eq_true_eq] at h
  refine zaL (ι:=Unit) (fun _=>⟨53,[(0,.rs 0 0 n),(1,.I a),(2,.I b),(3,.fn (.func f) [] capt),(8,.I (a + k : Nat))],[(0,some ⟨1,zah (Lk (k + 1)),0⟩)],64⟩) (fun _=>True) ?_ fun _ _=>?_
  ·have hx : M[k] ∈ M:=List.getElem_mem h
   have hdrop : M.drop k = M[k] :: M.drop (k + 1):=List.drop_eq_getElem_cons h
   have hsucc:=zmS c M k h
   generalize M[k] = x at *
   obtain ⟨D,hD⟩ : ∃ D,D = M.drop (k + 1) ++ B:=⟨_,rfl⟩
   obtain ⟨R,hR⟩ : ∃ R,R = zcB c (M.take k):=⟨_,rfl⟩
   have hRm : ∀ y ∈ R,y ∈ M:=fun y hy=>by
    rw [hR] at hy
    exact List.mem_of_mem_take ((zfw c _).mem_iff.1 hy)
   have hRl : R.length = k:=by rw [hR,zjb]; simp; omega
   have hDl : D.length + k + 1 = M.length + B.length:=by rw [hD]; simp; omega
   have hLk : Lk k = A ++ R.reverse ++ x :: D:=by simp only [Lk]; rw [hdrop,← hR,hD]; simp
   have hLk1 : Lk (k + 1) = A ++ (zdi c R x).reverse ++ D:=by simp only [Lk]; rw [hsucc,← hR,hD]; simp
   rw [hLk,hLk1]
   refine zaf ?_
   refine zaa ⟨53,[(0,.rs 0 0 n),(1,.I a),(2,.I b),(3,.fn (.func f) [] capt),(8,.I (a + k : Nat)),(9,.I (a + k : Nat))],[(0,some ⟨1,zah (A ++ R.reverse ++ x :: D),0⟩)],80⟩ rfl ?_ ?_
   ·simp
    exact Le.keep rfl (Nat.le_refl _) (by simp) (by simp)
   refine zaf ?_
   let C : List Int × List Int → St:=fun p=>⟨53,[(0,.rs 0 0 n),(1,.I a),(2,.I b),(3,.fn (.func f) [] capt),(8,.I (a + k : Nat)),(9,.I (a + p.2.length : Nat))],[(0,some ⟨1,zah (A ++ p.2.reverse ++ x :: (p.1 ++ D)),0⟩)],80⟩
   refine zao C (fun p : List Int × List Int=>zdi c R x = p.1.reverse ++ zdi c p.2 x ∧ p.1.length + p.2.length = k ∧ ∀ y ∈ p.2,y ∈ M) (fun p : List Int × List Int=>p.2.length) ([],R) ⟨rfl,by simpa using hRl,hRm⟩ ?_ ?_
   ·simp only [C,hRl,List.nil_append]
    exact Le.refl _ _
   rintro ⟨U,V⟩ ⟨hins,hUV,hVm⟩
   simp only at hins hUV hVm
   match V,hins,hUV,hVm with
   | [],hins,hUV,hVm =>
     have hC : C (U,[]) = ⟨53,[(0,.rs 0 0 n),(1,.I a),(2,.I b),(3,.fn (.func f) [] capt),(8,.I (a + k : Nat)),(9,.I a)],[(0,some ⟨1,zah (A ++ x :: (U ++ D)),0⟩)],80⟩:=by simp [C]
     rw [hC]
     refine zab ?_
     refine zaq ⟨53,[(0,.rs 0 0 n),(1,.I a),(2,.I b),(3,.fn (.func f) [] capt),(8,.I (a + k : Nat)),(34,.B false)],[(0,some ⟨1,zah (A ++ x :: (U ++ D)),0⟩)],216⟩ rfl ?_ ?_
     ·simp
      exact ⟨rfl,Le.keep rfl (Nat.le_refl _) (by simp) (by simp)⟩
     refine zac _ rfl (fun h=>by cases h) fun h=>zan (hit ?_)
     have e : A ++ x :: (U ++ D) = A ++ (zdi c R x).reverse ++ D:=by rw [hins]; simp [zdi]
     rw [← e]
     exact ⟨(),trivial,Le.np1 [] rfl (by simp) rfl (by simp) rfl (by simp [hs2,hs3,hs4])⟩
   | y :: V',hins,hUV,hVm =>
     obtain ⟨H,hH⟩ : ∃ H,H = A ++ V'.reverse:=⟨_,rfl⟩
     obtain ⟨T,hT⟩ : ∃ T,T = U ++ D:=⟨_,rfl⟩
     obtain ⟨q,hq⟩ : ∃ q,q = a + V'.length:=⟨_,rfl⟩
     obtain ⟨j,hj⟩ : ∃ j,j = q + 1:=⟨_,rfl⟩
     have hHl : H.length = q:=by rw [hH,hq]; simp; omega
     have hgl : (H ++ y :: x :: T).length = n:=by
      have e : (H ++ y :: x :: T).length = H.length + (T.length + 2):=by simp
      rw [e,hHl,hT,List.length_append]
      simp at hUV
      omega
     have hg1:=(ztP (T:=T) (y:=y) (x:=x) hHl).1
     have hg2:=(ztP (T:=T) (y:=y) (x:=x) hHl).2
     have hset:=zu9 (T:=T) (y:=y) (x:=x) hHl
     rw [← hj] at hg2 hset
     have hC : C (U,y :: V') = ⟨53,[(0,.rs 0 0 n),(1,.I a),(2,.I b),(3,.fn (.func f) [] capt),(8,.I (a + k : Nat)),(9,.I j)],[(0,some ⟨1,zah (H ++ y :: x :: T),0⟩)],80⟩:=by
      simp [C,hH,hT,hj,hq,Nat.add_assoc]
     rw [hC]
     have hcy:=hc x hx y (hVm y List.mem_cons_self)
     have hjn : j < n:=by rw [← hgl,hj,← hHl]; simp
     have hwj : IntKind.i64.wrap ((j : Int) - 1) = (q : Int):=by rw [w64 (by omega) (by omega)]; omega
     have hqn : q < n:=by omega
     have haj : a < j:=by omega
     have hRl2 : (zah (H ++ y :: x :: T)).length = n:=by rw [zah,List.length_map,hgl]
     generalize hX : zah (H ++ y :: x :: T) = X at *
     have hflat : ∀ ρ sn h m,X.map (List.map (conv ρ sn h (m + 1))) = X:=fun ρ sn h m=>by rw [← hX]; simp [fcd]
     refine zab ?_
     refine zaq ⟨53,[(0,.rs 0 0 n),(1,.I a),(2,.I b),(3,.fn (.func f) [] capt),(8,.I (a + k : Nat)),(9,.I j),(34,.B (decide (c x y < 0)))],[(0,some ⟨1,X,0⟩)],216⟩ rfl ?_ ?_
     ·simp [haj,hjn,hqn,hg1,hg2,hwj]
      refine zaj hcy ?_ ?_
      ·simp [hs4]
      simp
      exact ⟨rfl,Le.keep rfl (Nat.le_refl _) (by simp) (by simp)⟩
     refine zac _ rfl (fun h5=>zae ?_) fun h5=>zan (hit ?_)
     ·simp only [decide_eq_true_eq] at h5
      have hg3 : (X.set j [AV.I y])[q]? = some [AV.I y]:=by
       rw [List.getElem?_set,if_neg (by omega)]
       exact hg1
      generalize hY : zah (H ++ x :: y :: T) = Y at hset
      refine zaL (ι:=Unit) (fun _=>⟨53,[(0,.rs 0 0 n),(1,.I a),(2,.I b),(3,.fn (.func f) [] capt),(8,.I (a + k : Nat)),(9,.I j)],[(0,some ⟨1,Y,0⟩)],360⟩) (fun _=>True) ?_ fun _ _=>?_
      ·refine zaf ?_
       refine zbF rfl ?_
       simp [hjn,hqn,hg1,hg2,hg3,hwj,zar]
       exact ⟨rfl,Le.keep rfl (Nat.le_refl _) (by simp) (by simp; exact hset)⟩
      refine zas rfl ?_
      simp [hwj]
      refine ⟨y :: U,V',⟨?_,?_,?_⟩,?_,?_⟩
      ·rw [hins,zdi,if_pos h5]; simp
      ·simp at hUV ⊢; omega
      ·exact fun z hz=>hVm z (List.mem_cons_of_mem _ hz)
      ·simp
      ·have hC2 : C (y :: U,V') = ⟨53,[(0,.rs 0 0 n),(1,.I a),(2,.I b),(3,.fn (.func f) [] capt),(8,.I (a + k : Nat)),(9,.I q)],[(0,some ⟨1,Y,0⟩)],80⟩:=by rw [← hY]; simp [C,hH,hT,hq]
       rw [hC2]
       have hflat2 : ∀ ρ sn h m,Y.map (List.map (conv ρ sn h (m + 1))) = Y:=fun ρ sn h m=>by rw [← hY]; simp [fcd]
       exact Le.ents [(0,0)] [] rfl (by simp) (by simp) (by simp) (by simp) (by simp) (by simp [hs2,hs3,hs4]) fun p hp=>by
        simp at hp
        subst hp
        exact ⟨0,_,_,rfl,by simp,rfl,zaI.eq (by simp only [zax,hflat2]) (by simp)⟩
     ·simp only [decide_eq_false_iff_not] at h5
      have e : H ++ y :: x :: T = A ++ (zdi c R x).reverse ++ D:=by rw [hins,zdi,if_neg h5,hH,hT]; simp
      rw [← e,hX]
      exact ⟨(),trivial,Le.ents [(0,0)] [] rfl (by simp) (by simp) (by simp) (by simp) (by simp) (by simp [hs2,hs3,hs4]) fun p hp=>by
       simp at hp
       subst hp
       exact ⟨0,_,_,rfl,by simp,rfl,zaI.eq (by simp only [zax,hflat]) (by simp)⟩⟩
  have hwk : IntKind.i64.wrap (((a + k : Nat) : Int) + 1) = ((a + (k + 1) : Nat) : Int):=by rw [w64 (by omega) (by omega)]; omega
  refine zas rfl ?_
  have hwk' : IntKind.i64.wrap ((a : Int) + (k : Int) + 1) = ((a + (k + 1) : Nat) : Int):=by rw [← hwk]; congr 1
  simp [hwk']
  refine ⟨k + 1,⟨by omega,by omega,fun h2=>?_⟩,by omega,?_⟩
  ·have he : M.length = k + 1:=by omega
   simp only [Lk]
   rw [List.take_of_length_le (by omega),List.drop_eq_nil_of_le (by omega)]
   simp [zgZ]
  ·exact Le.np1 [] rfl (by simp) rfl (by simp) rfl (by simp [hs2,hs3,hs4])
 simp only [decide_eq_false_iff_not] at h
 rw [hk3 (by omega)]
 exact ⟨.inl rfl,⟨[],rfl,[],[],by simp [List.range,List.range.loop],by simp,by simp,by simp,by simp [List.range,List.range.loop,fcd]⟩⟩
set_option maxRecDepth 100000 in
theorem ztX (f : FuncId) (capt : List AV) (c : Int → Int → Int) (l : List Int) (n : Nat) (hn : l.length = n) (hl : n < 20) (hs : zkD capt)
  (hc : ∀ x ∈ l,∀ y ∈ l,zai Tryz.prog f (AV.I x :: AV.I y :: capt) [] (.I (c x y)) []) :
  zai Tryz.prog zbG [.rs 0 0 n,.I n,.fn (.func f) [] capt] [⟨1,zah l,0⟩] (.tup []) [some ⟨1,zah (zgZ c l),0⟩]:=by
 have hs2 : ∀ ρ sn h,capt.map (conv ρ sn h 2) = capt:=fun _ _ _=>hs _ _ _ 1
 have hs3 : ∀ ρ sn h,capt.map (conv ρ sn h 3) = capt:=fun _ _ _=>hs _ _ _ 2
 have hs4 : ∀ ρ sn h,capt.map (conv ρ sn h 4) = capt:=fun _ _ _=>hs _ _ _ 3
 refine zeU.acalls (nbz rfl) (nbz rfl) (nbz rfl) ?_
 show awp _ 1 _ _ ⟨63,[(0,.rs 0 0 n),(1,.I n),(2,.fn (.func f) [] capt)],[(0,some ⟨1,zah l,0⟩)],16⟩
 have hins:=zpj f capt c [] l [] n 0 n (by simpa using hn) rfl (by simpa using hn) (by omega) hs hc
 simp only [List.nil_append,List.append_nil] at hins
 refine zab ?_
 refine zad (s:=?s1) rfl ?o1 ?q1
 case o1=>simp; rfl
 refine zaa ⟨63,[(0,.rs 0 0 n),(1,.I n),(2,.fn (.func f) [] capt),(6,.I 20),(7,.I 0),(8,.I 20)],[(0,some ⟨1,zah l,0⟩)],48⟩ rfl ?_ ?_
 ·simp
  exact Le.keep rfl (Nat.le_refl _) (by simp) (by simp)
 refine zab ?_
 refine zaf ?_
 refine zao (ι:=Unit) (fun _=>⟨63,[(0,.rs 0 0 n),(1,.I n),(2,.fn (.func f) [] capt),(6,.I 20),(7,.I 0),(8,.I 20)],[(0,some ⟨1,zah l,0⟩)],48⟩) (fun _=>True) (fun _=>0) () trivial (Le.refl _ _) ?_
 intro _ _
 refine zab ?_
 refine zaa ⟨63,[(0,.rs 0 0 n),(1,.I n),(2,.fn (.func f) [] capt),(6,.I 20),(7,.I 0),(8,.I 20),(13,.B false)],[(0,some ⟨1,zah l,0⟩)],72⟩ rfl ?_ ?_
 ·simp
  exact Le.keep rfl (Nat.le_refl _) (by simp; omega) (by simp)
 refine zac _ rfl (fun h=>by cases h) fun _=>zan (hit ?_)
 refine zaa ⟨63,[(1,.I n),(6,.I 20)],[(0,some ⟨1,zah (zgZ c l),0⟩)],112⟩ rfl ?_ ?_
 ·simp
  refine zbH (i:=0) rfl (e':=⟨1,zah l,0⟩) (by simp [fcd]) hins (by simp) ?_ ?_
  ·simp [hs2,hs3,hs4]
  simp [fcd]
  exact Le.keep rfl (Nat.le_refl _) (by simp) (by simp)
 refine zaf ?_
 refine zao (ι:=Unit) (fun _=>⟨63,[(1,.I n),(6,.I 20)],[(0,some ⟨1,zah (zgZ c l),0⟩)],112⟩) (fun _=>True) (fun _=>0) () trivial (Le.refl _ _) ?_
 intro _ _
 refine zab ?_
 refine zaa ⟨63,[(1,.I n),(6,.I 20),(30,.B false)],[(0,some ⟨1,zah (zgZ c l),0⟩)],136⟩ rfl ?_ ?_
 ·simp
  exact Le.keep rfl (Nat.le_refl _) (by simp; omega) (by simp)
 refine zac _ rfl (fun h=>by cases h) fun _=>zan (hit ?_)
 exact ⟨.inl rfl,⟨[],rfl,[],[],by simp [List.range,List.range.loop],by simp,by simp,by simp,by simp [List.range,List.range.loop,fcd]⟩⟩
theorem znv (f : FuncId) (capt : List AV) (c : Int → Int → Int) (l : List Int) (n : Nat) (hn : l.length = n) (hl : n < 20) (hs : zkD capt)
  (hc : ∀ x ∈ l,∀ y ∈ l,zai Tryz.prog f (AV.I x :: AV.I y :: capt) [] (.I (c x y)) []) :
  zai Tryz.prog zbg [.rs 0 0 n,.fn (.func f) [] capt] [⟨1,zah l,0⟩] (.tup []) [some ⟨1,zah (zgZ c l),0⟩]:=by
 have hs2 : ∀ ρ sn h,capt.map (conv ρ sn h 2) = capt:=fun _ _ _=>hs _ _ _ 1
 have hs3 : ∀ ρ sn h,capt.map (conv ρ sn h 3) = capt:=fun _ _ _=>hs _ _ _ 2
 have hs4 : ∀ ρ sn h,capt.map (conv ρ sn h 4) = capt:=fun _ _ _=>hs _ _ _ 3
 refine zdq.acalls (nbz rfl) (nbz rfl) (nbz rfl) ?_
 show awp _ 1 _ _ ⟨9,[(0,.rs 0 0 n),(1,.fn (.func f) [] capt)],[(0,some ⟨1,zah l,0⟩)],16⟩
 refine zad (s:=?s1) rfl ?o1 ?q1
 case o1 =>
  simp
  refine zbH (i:=0) rfl (e':=⟨1,zah l,0⟩) (by simp [fcd]) (ztX f capt c l n hn hl hs hc) (by simp) ?_ ?_
  ·simp [hs2,hs3,hs4]
  simp [fcd]
  rfl
 exact ⟨.inl rfl,⟨[],rfl,[],[],by simp [List.range,List.range.loop],by simp,by simp,by simp,by simp [List.range,List.range.loop,fcd]⟩⟩
theorem zpJ (D : List Int) (k : Nat) (hk : k < D.length) : zai Tryz.prog zbD [.I k,.pv [ints D]] [] (.B (decide (0 ≤ D.getD k 0))) []:=by
 refine zhO.acalls (nbz rfl) (nbz rfl) (Nat.le_refl _) ?_
 show awp _ 0 _ _ ⟨9,[(0,.I k),(1,.pv [ints D])],[],16⟩
 refine zab ?_
 refine zad (s:=?s0) rfl ?o0 ?q0
 case o0=>simp; rfl
 refine zab ?_
 refine zad (s:=?s1) rfl ?o1 ?q1
 case o1=>simp [hk]; rfl
 refine zag ?_
 exact ⟨.inr rfl,zak.one (by simp [hk])⟩
theorem zp8 (D : List Int) (a b : Nat) (ha : a < D.length) (hb : b < D.length) : zai Tryz.prog zb7 [.I a,.I b,.pv [ints D]] [] (.I (cmpI (D.getD a 0) (D.getD b 0))) []:=by
 refine zic.acalls (nbz rfl) (nbz rfl) (Nat.le_refl _) ?_
 show awp _ 0 _ _ ⟨15,[(0,.I a),(1,.I b),(2,.pv [ints D])],[],16⟩
 refine zab ?_
 refine zad (s:=?s0) rfl ?o0 ?q0
 case o0=>simp; rfl
 refine zab ?_
 refine zdv (s:=?s1) (tr:=?t1) rfl ?o1 ?r1 ?q1
 case o1=>simp [ha,hb]; refine zaj (zix ..) rfl ?_; simp; constructor <;> rfl
 case r1=>rfl
 refine zag ?_
 exact ⟨.inr rfl,zak.one (by simp [ha,hb])⟩
variable {g : Gr} {S : List Int}
theorem zsW {k : Nat} (hk : k < g.size.toNat) : (zbJ g S).getD k 0 = dist g S k:=by simp [zbJ,List.getD,hk]
theorem zkO : (zbJ g S).length = g.size.toNat:=by simp [zbJ]
def Lt (g : Gr) (S : List Int) (a b : Int) : Prop:=dist g S a < dist g S b ∨ dist g S a = dist g S b ∧ a < b
def cD (g : Gr) (S : List Int) (a b : Int) : Int:=cmpI (dist g S a) (dist g S b)
def ordN (g : Gr) (S : List Int) : Nat → List Int
 | 0=>[]
 | m + 1=>ordN g S m ++ zbi g.size.toNat fun k=>decide (dist g S k = m)
def ordL (g : Gr) (S : List Int) : List Int:=ordN g S g.size.toNat
theorem zed {n : Nat} {q : Int → Bool} {x : Int} : x ∈ zbi n q ↔ (0 ≤ x ∧ x < n) ∧ q x = true:=by
 unfold zbi
 simp only [List.mem_filter,List.mem_map,List.mem_range]
 constructor
 ·rintro ⟨⟨i,hi,rfl⟩,h⟩
  exact ⟨⟨by omega,by omega⟩,h⟩
 ·rintro ⟨⟨h1,h2⟩,h⟩
  exact ⟨⟨x.toNat,by omega,by omega⟩,h⟩
theorem zkf (n : Nat) (q : Int → Bool) : (zbi n q).Pairwise (· < ·):=by
 unfold zbi
 refine List.Pairwise.filter _ ?_
 rw [List.pairwise_map]
 exact List.pairwise_lt_range.imp fun h=>by omega
theorem zj1 {m : Nat} {x : Int} : x ∈ ordN g S m ↔ (0 ≤ x ∧ x < g.size.toNat) ∧ 0 ≤ dist g S x ∧ dist g S x < m:=by
 induction m with
 | zero=>simp [ordN] <;> omega
 | succ m ih =>
   rw [ordN,List.mem_append,ih,zed]
   simp only [decide_eq_true_eq]
   constructor
   ·rintro (⟨h1,h2,h3⟩ | ⟨h1,h2⟩)
    ·exact ⟨h1,h2,by omega⟩
    ·exact ⟨h1,by omega,by omega⟩
   ·rintro ⟨h1,h2,h3⟩
    by_cases h4 : dist g S x = m
    ·exact .inr ⟨h1,h4⟩
    ·exact .inl ⟨h1,h2,by omega⟩
theorem zo5 (m : Nat) : (ordN g S m).Pairwise (Lt g S):=by
 induction m with
 | zero=>exact .nil
 | succ m ih =>
   rw [ordN,List.pairwise_append]
   refine ⟨ih,?_,fun a ha b hb=>?_⟩
   ·refine (zkf _ _).imp_of_mem fun {a b} ha hb hab=>?_
    have h1:=(zed.1 ha).2
    have h2:=(zed.1 hb).2
    simp at h1 h2
    exact .inr ⟨by omega,hab⟩
   ·have h1:=zj1.1 ha
    have h2:=(zed.1 hb).2
    simp at h2
    exact .inl (by omega)
theorem zuP {a b : Int} : cD g S a b < 0 ↔ dist g S a < dist g S b:=by
 simp only [cD,cmpI]
 grind
theorem zk5 : ∀ (r : List Int) (x : Int),r.Pairwise (fun a b=>Lt g S b a) → (∀ y ∈ r,y < x) → (zdi (cD g S) r x).Pairwise fun a b=>Lt g S b a
 | [],x,_,_=>by simp [zdi]
 | y :: r,x,hp,hx=>by
   unfold zdi
   rw [List.pairwise_cons] at hp
   split
   ·rename_i h
    rw [zuP] at h
    rw [List.pairwise_cons]
    refine ⟨fun z hz=>?_,zk5 r x hp.2 fun z hz=>hx z (List.mem_cons_of_mem _ hz)⟩
    have:=(zfj (cD g S) r x).mem_iff.1 hz
    rcases List.mem_cons.1 this with rfl | hz
    ·exact .inl h
    ·exact hp.1 z hz
   ·rename_i h
    rw [zuP] at h
    rw [List.pairwise_cons,List.pairwise_cons]
    have hyx:=hx y List.mem_cons_self
    refine ⟨fun z hz=>?_,hp.1,hp.2⟩
    rcases List.mem_cons.1 hz with rfl | hz
    ·unfold Lt; omega
    ·have h1:=hp.1 z hz
     have h2:=hx z (List.mem_cons_of_mem _ hz)
     unfold Lt at *
     omega
theorem zsh {l : List Int} (h : l.Pairwise (· < ·)) : (zgZ (cD g S) l).Pairwise (Lt g S):=by
 have key : ∀ (l acc : List Int),l.Pairwise (· < ·) → acc.Pairwise (fun a b=>Lt g S b a) → (∀ y ∈ acc,∀ x ∈ l,y < x) → (l.foldl (zdi (cD g S)) acc).Pairwise fun a b=>Lt g S b a:=by
  intro l
  induction l with
  | nil=>intro acc _ h _; exact h
  | cons x l ih =>
    intro acc hl hacc hlt
    rw [List.pairwise_cons] at hl
    refine ih _ hl.2 (zk5 acc x hacc fun y hy=>hlt y hy x List.mem_cons_self) fun y hy z hz=>?_
    have:=(zfj (cD g S) acc x).mem_iff.1 hy
    rcases List.mem_cons.1 this with rfl | hy
    ·exact hl.1 z hz
    ·exact hlt y hy z (List.mem_cons_of_mem _ hz)
 unfold zgZ zcB
 rw [List.pairwise_reverse]
 exact key l [] h .nil (by simp)
theorem zhR {R : Int → Int → Prop} (hR : ∀ a b,R a b → ¬ R b a) : ∀ {l1 l2 : List Int},l1.Pairwise R → l2.Pairwise R → (∀ x,x ∈ l1 ↔ x ∈ l2) → l1 = l2
 | [],[],_,_,_=>rfl
 | [],b :: l2,_,_,h=>absurd ((h b).2 List.mem_cons_self) (by simp)
 | a :: l1,[],_,_,h=>absurd ((h a).1 List.mem_cons_self) (by simp)
 | a :: l1,b :: l2,h1,h2,h=>by
   rw [List.pairwise_cons] at h1 h2
   have hab : a = b:=by
    rcases List.mem_cons.1 ((h a).1 List.mem_cons_self) with e | ha
    ·exact e
    ·rcases List.mem_cons.1 ((h b).2 List.mem_cons_self) with e | hb
     ·exact e.symm
     ·exact absurd (h1.1 b hb) (hR _ _ (h2.1 a ha))
   subst hab
   congr 1
   refine zhR hR h1.2 h2.2 fun x=>?_
   constructor
   ·intro hx
    rcases List.mem_cons.1 ((h x).1 (List.mem_cons_of_mem _ hx)) with rfl | hx2
    ·exact absurd (h1.1 x hx) (fun q=>hR _ _ q q)
    ·exact hx2
   ·intro hx
    rcases List.mem_cons.1 ((h x).2 (List.mem_cons_of_mem _ hx)) with rfl | hx2
    ·exact absurd (h2.1 x hx) (fun q=>hR _ _ q q)
    ·exact hx2
theorem zuq (hg : GrOk g) : zgZ (cD g S) (zbi g.size.toNat fun k=>decide (0 ≤ dist g S k)) = ordL g S:=by
 refine zhR (R:=Lt g S) (fun a b h1 h2=>by unfold Lt at *; omega) (zsh (zkf _ _)) (zo5 _) fun x=>?_
 have hp : x ∈ zgZ (cD g S) (zbi g.size.toNat fun k=>decide (0 ≤ dist g S k)) ↔ x ∈ zbi g.size.toNat fun k=>decide (0 ≤ dist g S k):=by
  unfold zgZ
  rw [List.mem_reverse]
  exact (zfw _ _).mem_iff
 rw [hp,zed]
 have hm:=zj1 (g:=g) (S:=S) (m:=g.size.toNat) (x:=x)
 unfold ordL
 rw [hm]
 simp only [decide_eq_true_eq]
 constructor
 ·rintro ⟨h1,h2⟩
  refine ⟨h1,h2,?_⟩
  rcases ztG hg (S:=S) (k:=x) ⟨h1.1,by omega⟩ with h | h <;> omega
 ·rintro ⟨h1,h2,_⟩
  exact ⟨h1,h2⟩
section
variable {P : Program} {np id : Nat} {h : Nat → Option Ent} {K : AV → List Nat → List (Nat × Option Ent) → Prop} {f : FuncId} {first capt args args' : List AV} {res : AV}
theorem ziE (sn : List Nat) {e : Ent} (hc : zai P f args' [] res [some e]) (he : (first ++ args ++ capt).map (conv [] sn h 4) = args') (hp : Plain res) (hpe : zjn e)
  (hk : K (conv (swp [] id) [] (fun _=>none) 4 res) sn [(id,some (zax (swp [] id) [] (fun _=>none) 4 e))]) : aK P np id .call (.fn (.func f) first capt :: args) h K :=
 ⟨[],sn,false,args',[],res,[some e],by simp,by simp,by simp,by rw [List.zipIdx_nil,he]; exact zbM _,rfl,hc,by simp,.inr ⟨hp,fun e' he'=>by simp at he'; subst he'; exact hpe⟩,by simpa [swp] using hk⟩
end
theorem zro {l : List Int} : zjn ⟨1,zah l,0⟩:=by
 intro row hrow x hx
 simp only [List.mem_map] at hrow
 obtain ⟨y,_,rfl⟩:=hrow
 simp at hx
 subst hx
 exact .sc _
variable {g : Gr} {S : List Int}
set_option maxHeartbeats 1000000 in
set_option maxRecDepth 100000 in
theorem ziP (hg : GrOk g) (hN : g.size < 20) (hS : S.length ≤ 1099511627776) : zai Tryz.prog zev [eG g,ints S] [] (.rs 0 0 (ordL g S).length) [some ⟨1,zah (ordL g S),0⟩]:=by
 refine zj6.acalls (nbz rfl) (nbz rfl) (Nat.zero_le _) ?_
 show awp _ 0 _ _ ⟨18,[(0,eG g),(1,ints S)],[],16⟩
 have hsz:=hg.1.1
 obtain ⟨N,hNe⟩ : ∃ N : Nat,N = g.size.toNat:=⟨_,rfl⟩
 have hall:=zgz g S hg hS
 have hDl : (zbJ g S).length = N:=by rw [zkO,hNe]
 have hDg : ∀ k : Nat,k < N → (zbJ g S).getD k 0 = dist g S k:=fun k hk=>zsW (by omega)
 rw [← hNe] at hall
 obtain ⟨D,hD⟩ : ∃ D,D = zbJ g S:=⟨_,rfl⟩
 rw [← hD] at hall hDl hDg
 obtain ⟨W,hW⟩ : ∃ W,W = zbi N fun k=>decide (0 ≤ dist g S k):=⟨_,rfl⟩
 have hWl : W.length ≤ N:=by rw [hW]; exact zgx _ _
 have hWm : ∀ x ∈ W,0 ≤ x ∧ x < N:=fun x hx=>by rw [hW] at hx; exact (zed.1 hx).1
 have hwhere : zai Tryz.prog zb8 [.I N,.fn (.func zbD) [] [.pv [ints D]]] [] (.rs 0 0 W.length) [some ⟨1,zah W,0⟩]:=by
  have:=zq8 zbD [.pv [ints D]] (fun k=>decide (0 ≤ dist g S k)) N (by omega) (fun ρ sn h n=>by simp) (fun k hk=>by
   have h1:=zpJ D k (by omega)
   rw [hDg k (by omega)] at h1
   exact h1)
  simpa [← hW] using this
 have hsort:=znv zb7 [.pv [ints D]] (cD g S) W W.length rfl (by omega) (fun ρ sn h n=>by simp) (fun x hx y hy=>by
  obtain ⟨a,ha⟩ : ∃ a : Nat,x = a:=⟨x.toNat,by have:=hWm x hx; omega⟩
  obtain ⟨b,hb⟩ : ∃ b : Nat,y = b:=⟨y.toNat,by have:=hWm y hy; omega⟩
  have h1:=hWm x hx
  have h2:=hWm y hy
  subst ha hb
  have h3:=zp8 D a b (by omega) (by omega)
  rw [hDg a (by omega),hDg b (by omega)] at h3
  exact h3)
 have hord : zgZ (cD g S) W = ordL g S:=by rw [hW,hNe]; exact zuq hg
 have hol : (ordL g S).length = W.length:=by
  rw [← hord]
  unfold zgZ
  rw [List.length_reverse,zjb]
 rw [hord] at hsort
 have htk : List.take N (zah D) = zah D:=List.take_of_length_le (by simp [hDl])
 have hRl : (zah D).length = N:=by simp [hDl]
 refine zaa ⟨18,[(1,ints S),(2,.pv (gC g))],[],32⟩ rfl ?_ ?_
 ·simp
  exact Le.snap [16] rfl rfl (by simp)
 refine zaa ⟨18,[(5,.pv [ints D])],[],72⟩ rfl ?_ ?_
 ·simp
  refine za0 hall rfl ?_
  simp [fcd]
  exact Le.snap [48,56] rfl rfl (by simp [fcd,← hDl,zal])
 refine zaa ⟨18,[(5,.pv [ints D]),(6,.rs 96 0 W.length)],[(96,some ⟨1,zah W,0⟩)],112⟩ rfl ?_ ?_
 ·simp [hDl]
  refine za0 hwhere (by simp) ?_
  simp [fcd]
  exact Le.keep rfl (Nat.le_refl _) (by simp) (by simp)
 rw [hol]
 refine zaa ⟨18,[(6,.rs 96 0 W.length)],[(96,some ⟨1,zah (ordL g S),0⟩)],136⟩ rfl ?_ ?_
 ·simp
  refine zbH (i:=96) rfl (e':=⟨1,zah W,0⟩) (by simp [fcd]) hsort (by simp) (by simp) ?_
  simp [fcd]
  exact Le.keep rfl (Nat.le_refl _) (by simp) (by simp)
 refine zab ?_
 refine zad (s:=?s1) rfl ?o1 ?q1
 case o1=>simp; rfl
 refine zag ?_
 exact ⟨.inr rfl,zak.out [96] [] rfl (by simp) (by simp) (by simp) (by simp [fcd])⟩
set_option maxHeartbeats 1000000 in
set_option maxRecDepth 100000 in
theorem zg6 (hg : GrOk g) (hS : S.length ≤ 1099511627776) : zai Tryz.prog zeL [eG g,ints S] [] (.rs 0 0 (ordL g S).length) [some ⟨1,zah (ordL g S),0⟩]:=by
 refine zoS.acalls (nbz rfl) (nbz rfl) (Nat.zero_le _) ?_
 show awp _ 0 _ _ ⟨35,[(0,eG g),(1,ints S)],[],16⟩
 have hsz:=hg.1.1
 have hsz2:=hg.1.2.1
 obtain ⟨N,hNe⟩ : ∃ N : Nat,N = g.size.toNat:=⟨_,rfl⟩
 have hall:=zgB g S hg hS
 have hDl : (zbJ g S).length = N:=by rw [zkO,hNe]
 have hDg : ∀ k : Nat,k < N → (zah (zbJ g S))[k]? = some [AV.I (dist g S k)]:=fun k hk=>by simp [zbJ,show k < g.size.toNat by omega]
 rw [← hNe] at hall
 obtain ⟨D,hD⟩ : ∃ D,D = zbJ g S:=⟨_,rfl⟩
 rw [← hD] at hall hDl hDg
 refine zaa ⟨35,[(1,ints S),(2,.pv (gC g))],[],32⟩ rfl ?_ ?_
 ·simp
  exact Le.snap [16] rfl rfl (by simp)
 refine zaa ⟨35,[(2,.pv (gC g)),(5,ints D)],[],64⟩ rfl ?_ ?_
 ·simp
  refine za0 hall rfl ?_
  simp [fcd]
  exact Le.snap [48] rfl rfl (by simp [fcd,← hDl,zal])
 refine zab ?_
 refine zad (s:=?s1) rfl ?o1 ?q1
 case o1=>simp; rfl
 refine zab ?_
 refine zab ?_
 refine zad (s:=?s2) rfl ?o2 ?q2
 case o2=>simp; rfl
 refine zaf ?_
 have hcount : ∀ n k : Nat,n ≤ N → k ≤ N → (ordN g S n ++ zbi k fun x=>decide (dist g S x = n)).length ≤ 100000:=by
  intro n k hn hk
  have h1 : ∀ m : Nat,m ≤ 64 → (ordN g S m).length ≤ m * 64:=by
   intro m
   induction m with
   | zero=>intro _; simp [ordN]
   | succ m ih =>
     intro hm
     rw [ordN,List.length_append]
     have:=ih (by omega)
     have:=zgx g.size.toNat fun k=>decide (dist g S k = m)
     omega
  have:=h1 n (by omega)
  have:=zgx k fun x=>decide (dist g S x = n)
  rw [List.length_append]
  omega
 let T : Nat → Nat → List Int:=fun n k=>ordN g S n ++ zbi k fun x=>decide (dist g S x = n)
 have hT0 : ∀ n,T n 0 = ordN g S n:=fun n=>by simp [T,zbi]
 have hTN : ∀ n,T n N = ordN g S (n + 1):=fun n=>by simp only [T]; rw [hNe]; rfl
 let C : Nat → St:=fun n=>⟨35,[(2,.pv (gC g)),(5,ints D),(6,.rs 16 0 (ordN g S n).length),(7,.I n)],[(16,some ⟨1,zah (ordN g S n),0⟩)],80⟩
 refine zao C (fun n=>n ≤ N) (fun n=>N - n) 0 (Nat.zero_le _) (Le.lst [] [] [(16,1)] rfl (by simp) (by simp) (by simp) (by simp [C]) (by simp) (by simp) (by simp) (by simp [C,Up,ordN]) (by simp [C,ordN])) ?_
 intro n hn
 have hCn : C n = ⟨35,[(2,.pv (gC g)),(5,ints D),(6,.rs 16 0 (ordN g S n).length),(7,.I n)],[(16,some ⟨1,zah (ordN g S n),0⟩)],80⟩:=rfl
 rw [hCn]
 refine zab ?_
 refine zaa ⟨35,[(2,.pv (gC g)),(5,ints D),(6,.rs 16 0 (ordN g S n).length),(7,.I n),(15,.B (decide ((n : Int) < g.size)))],[(16,some ⟨1,zah (ordN g S n),0⟩)],112⟩ rfl ?_ ?_
 ·simp
  exact Le.keep rfl (Nat.le_refl _) (by simp) (by simp)
 refine zac _ rfl (fun h=>zae ?_) fun h=>zan (hit ?_)
 ·simp only [decide_eq_true_eq] at h
  refine zaL (ι:=Unit) (fun _=>⟨35,[(2,.pv (gC g)),(5,ints D),(6,.rs 16 0 (ordN g S (n + 1)).length),(7,.I n)],[(16,some ⟨1,zah (ordN g S (n + 1)),0⟩)],80⟩) (fun _=>True) ?_ fun _ _=>?_
  ·rw [← hT0 n,← hTN n]
   refine zaf ?_
   refine zaa ⟨35,[(2,.pv (gC g)),(5,ints D),(6,.rs 16 0 (T n 0).length),(7,.I n),(8,.I 0)],[(16,some ⟨1,zah (T n 0),0⟩)],120⟩ rfl ?_ ?_
   ·simp
    exact Le.keep rfl (Nat.le_refl _) (by simp) (by simp)
   refine zaf ?_
   refine zao (ι:=Nat) (fun k=>⟨35,[(2,.pv (gC g)),(5,ints D),(6,.rs 16 0 (T n k).length),(7,.I n),(8,.I k)],[(16,some ⟨1,zah (T n k),0⟩)],120⟩) (fun k=>k ≤ N) (fun k=>N - k) 0 (Nat.zero_le _) (Le.refl _ _) ?_
   intro k hk
   have hTl:=hcount n k (by omega) hk
   have hTs : T n (k + 1) = T n k ++ if dist g S k = n then [(k : Int)] else []:=by
    simp only [T]
    rw [zk9,List.append_assoc]
    congr 2
    by_cases hq : dist g S k = n <;> simp [hq]
   have hTe : T n k = ordN g S n ++ zbi k fun x=>decide (dist g S x = n):=rfl
   rw [← hTe] at hTl
   refine zab ?_
   refine zaa ⟨35,[(2,.pv (gC g)),(5,ints D),(6,.rs 16 0 (T n k).length),(7,.I n),(8,.I k),(21,.B (decide ((k : Int) < g.size)))],[(16,some ⟨1,zah (T n k),0⟩)],152⟩ rfl ?_ ?_
   ·simp
    exact Le.keep rfl (Nat.le_refl _) (by simp) (by simp)
   refine zac _ rfl (fun h2=>zae ?_) fun h2=>zan (hit ?_)
   ·simp only [decide_eq_true_eq] at h2
    have hkN : k < N:=by omega
    have hget:=hDg k hkN
    refine zaL (ι:=Unit) (fun _=>⟨35,[(2,.pv (gC g)),(5,ints D),(6,.rs 16 0 (T n (k + 1)).length),(7,.I n),(8,.I k)],[(16,some ⟨1,zah (T n (k + 1)),0⟩)],120⟩) (fun _=>True) ?_ fun _ _=>?_
    ·rw [hTs]
     generalize T n k = A at *
     refine zaf ?_
     refine zaa ⟨35,[(2,.pv (gC g)),(5,ints D),(6,.rs 16 0 A.length),(7,.I n),(8,.I k),(29,.B (decide (dist g S k = n)))],[(16,some ⟨1,zah A,0⟩)],200⟩ rfl ?_ ?_
     ·simp only [zwh,List.map_cons,List.map_nil]
      simp
      have hget2 : D[k]? = some (dist g S k):=by
       have:=hget
       rw [zah,List.getElem?_map] at this
       cases hq : D[k]? with
       | none=>rw [hq] at this; simp at this
       | some v=>rw [hq] at this; simp at this; rw [this]
      simp [hget2]
      exact Le.keep rfl (Nat.le_refl _) (by simp <;> rw [Bool.eq_iff_iff] <;> simp) (by simp)
     refine zac _ rfl (fun h5=>?_) fun h5=>zae ?_
     ·simp only [decide_eq_true_eq] at h5
      rw [if_pos h5]
      refine zas rfl ?_
      simp [List.replicate]
      refine ⟨by omega,by omega,ziF (i:=224) (sn:=[]) rfl rfl (by simp) (by simp) rfl (by simp [fcd,zal]) (by simp) (by simp)⟩
     ·simp only [decide_eq_false_iff_not] at h5
      rw [if_neg h5,List.append_nil]
      exact ⟨(),trivial,Le.l1 16 16 [] rfl rfl (by simp) (by simp) rfl (by simp)⟩
    have hwk : IntKind.i64.wrap ((k : Int) + 1) = ((k + 1 : Nat) : Int):=by rw [w64 (by omega) (by omega)]; omega
    refine zas rfl ?_
    simp [hwk]
    exact ⟨k + 1,by omega,by omega,Le.l1 16 16 [] rfl rfl (by simp) (by simp) rfl (by simp)⟩
   simp only [decide_eq_false_iff_not] at h2
   obtain rfl : k = N:=by omega
   exact ⟨(),trivial,Le.l1 16 16 [] rfl rfl (by simp) (by simp) rfl (by simp)⟩
  have hwn : IntKind.i64.wrap ((n : Int) + 1) = ((n + 1 : Nat) : Int):=by rw [w64 (by omega) (by omega)]; omega
  refine zas rfl ?_
  simp [hwn]
  exact ⟨n + 1,by omega,by omega,Le.l1 16 16 [] rfl rfl (by simp [C]) (by simp) rfl (by simp [C])⟩
 simp only [decide_eq_false_iff_not] at h
 obtain rfl : n = N:=by omega
 have hfin : ordN g S n = ordL g S:=by rw [hNe]; rfl
 rw [hfin]
 refine zab ?_
 refine zad (s:=?z9) rfl ?p9 ?r9
 case p9=>simp; rfl
 refine zag ?_
 exact ⟨.inr rfl,zak.out [16] [] rfl (by simp) (by simp) (by simp) (by simp [fcd])⟩
def zeD (e : Ed) : Int × Int:=(e.f,e.t)
theorem zmT {A : List Ed} (h : (A.map zeD).Nodup) {i j : Nat} (hi : i < A.length) (hj : j < A.length) (h1 : (arcD A i).f = (arcD A j).f) (h2 : (arcD A i).t = (arcD A j).t) : i = j:=by
 have hg : ∀ k (hk : k < A.length),(A.map zeD)[k]'(by simpa using hk) = zeD (arcD A k):=fun k hk=>by
  rw [List.getElem_map]
  unfold arcD
  rw [List.getD_eq_getElem?_getD,List.getElem?_eq_getElem hk,Option.getD_some]
 have he : zeD (arcD A i) = zeD (arcD A j):=by unfold zeD; rw [h1,h2]
 rcases Nat.lt_trichotomy i j with hlt | heq | hgt
 ·exact absurd ((hg i hi).trans (he.trans (hg j hj).symm)) (List.pairwise_iff_getElem.1 h i j (by simpa using hi) (by simpa using hj) hlt)
 ·exact heq
 ·exact absurd ((hg j hj).trans (he.symm.trans (hg i hi).symm)) (List.pairwise_iff_getElem.1 h j i (by simpa using hj) (by simpa using hi) hgt)
theorem zgt {α β : Type} {φ : α → β} {l : List α} (h : l.Nodup) (hi : ∀ a ∈ l,∀ b ∈ l,φ a = φ b → a = b) : (l.map φ).Nodup:=by
 rw [List.Nodup,List.pairwise_map]
 exact List.Pairwise.imp_of_mem (fun {a b} ha hb hab he=>hab (hi a ha b hb he)) h
theorem zqA {g : Gr} {p : Pol} {c sinks seeds' : List Int} {E : Int → Int → Prop} (hE : ∀ e ∈ (zam g p.lv).edges,0 < c.getD e.f.toNat 0 → E e.f e.t) (hS : ∀ x ∈ p.seeds,0 < c.getD x.toNat 0 → x ∈ seeds') (hs : p.seeds.Nodup) (hs0 : ∀ x ∈ p.seeds,0 ≤ x) (hk : sinks.Nodup) (hk0 : ∀ x ∈ sinks,0 ≤ x) (he : ((zam g p.lv).edges.map zeD).Nodup) (he0 : ∀ e ∈ (zam g p.lv).edges,0 ≤ e.f ∧ 0 ≤ e.t) :
  zhY (zba g p c sinks) E seeds' sinks fun x=>c.getD x.toNat 0:=by
 refine ⟨fun i hi=>?_,fun i j hi hj=>zmT ?_ hi hj⟩
 ·have hm:=zd0 hi
  revert hm
  generalize arcD (zba g p c sinks) i = a
  intro hm
  unfold zba at hm
  rcases List.mem_append.1 hm with hm | hm
  ·rcases List.mem_append.1 hm with hm | hm
   ·rcases List.mem_append.1 hm with hm | hm
    ·obtain ⟨x,hx,rfl⟩:=List.mem_map.1 hm
     have hx:=List.mem_filter.1 hx
     exact .inl ⟨x,hS x hx.1 (by simpa using hx.2),hs0 x hx.1,rfl⟩
    ·obtain ⟨x,hx,rfl⟩:=List.mem_map.1 hm
     exact .inr (.inl ⟨x,Int.natCast_nonneg _,by simp⟩)
   ·obtain ⟨x,hx,rfl⟩:=List.mem_map.1 hm
    have hx:=(List.mem_filter.1 hx).1
    exact .inr (.inr (.inl ⟨x,hx,hk0 x hx,rfl⟩))
  ·obtain ⟨e,hx,rfl⟩:=List.mem_map.1 hm
   have hx:=List.mem_filter.1 hx
   have h0:=he0 e hx.1
   exact .inr (.inr (.inr ⟨e.f,e.t,h0.1,h0.2,hE e hx.1 (by simpa using hx.2),rfl⟩))
 ·unfold zba
  simp only [List.map_append,List.map_map]
  refine List.nodup_append.2 ⟨List.nodup_append.2 ⟨List.nodup_append.2 ⟨?_,?_,?_⟩,?_,?_⟩,?_,?_⟩
  ·exact zgt (hs.filter _) fun a _ b _ h=>by simp [zeD] at h; omega
  ·exact zgt (List.nodup_range.filter _) fun a _ b _ h=>by simp [zeD] at h; omega
  ·intro a ha b hb
   obtain ⟨x,hx,rfl⟩:=List.mem_map.1 ha
   obtain ⟨y,hy,rfl⟩:=List.mem_map.1 hb
   intro h
   simp [zeD] at h
   omega
  ·exact zgt (hk.filter _) fun a _ b _ h=>by simp [zeD] at h; omega
  ·intro a ha b hb
   obtain ⟨y,hy,rfl⟩:=List.mem_map.1 hb
   have hy0:=hk0 y (List.mem_filter.1 hy).1
   rcases List.mem_append.1 ha with ha | ha
   ·obtain ⟨x,hx,rfl⟩:=List.mem_map.1 ha
    intro h
    simp [zeD] at h
    omega
   ·obtain ⟨x,hx,rfl⟩:=List.mem_map.1 ha
    intro h
    simp [zeD] at h
    omega
  ·have h1 : ((zam g p.lv).edges.filter fun e=>decide (0 < c.getD e.f.toNat 0)).Pairwise fun a b=>zeD a ≠ zeD b:=by
    rw [List.Nodup,List.pairwise_map] at he
    exact he.filter _
   rw [List.Nodup,List.pairwise_map]
   refine h1.imp fun {a b} hab h=>hab ?_
   simp [zeD] at h
   unfold zeD
   rw [show a.f = b.f by omega,show a.t = b.t by omega]
  ·intro a ha b hb
   obtain ⟨e,hy,rfl⟩:=List.mem_map.1 hb
   have hy0:=he0 e (List.mem_filter.1 hy).1
   rcases List.mem_append.1 ha with ha | ha
   ·rcases List.mem_append.1 ha with ha | ha
    ·obtain ⟨x,hx,rfl⟩:=List.mem_map.1 ha
     intro h
     simp [zeD] at h
     omega
    ·obtain ⟨x,hx,rfl⟩:=List.mem_map.1 ha
     intro h
     simp [zeD] at h
     omega
   ·obtain ⟨x,hx,rfl⟩:=List.mem_map.1 ha
    intro h
    simp [zeD] at h
    omega
structure Expl where
 key : Int
 acc : Bool
 before : List Int
 paths : List (List Int)
 side : List Int
theorem zbf (g : Gr) (S : List Int) : (ordL g S).Nodup:=by
 refine (zo5 (g:=g) (S:=S) g.size.toNat).imp fun {a b} h e=>?_
 subst e
 unfold Lt at h
 omega
theorem zb3 {g : Gr} {S : List Int} {k : Int} (h : k ∈ ordL g S) : 0 ≤ k ∧ k < g.size:=by
 have:=zj1.1 h
 omega
open Classical in
noncomputable def ztf (g : Gr) (p : Pol) (x : Expl) : Int :=
 let order:=ordL (zam g p.lv) p.seeds
 let c:=zaO g p
 if x.key ∉ order then 11
 else if ¬ zf5 order x.before x.key ∨ (x.acc = true ∧ x.side ≠ []) ∨ (x.acc = false ∧ x.paths ≠ []) then 1
 else if x.acc = true then (if ziA g p.lv p.seeds order c x.paths (x.before ++ [x.key]) then 0 else 52)
 else if zc9 ⟨2 + 2 * g.size,zba g p c (srt (x.before ++ [x.key]))⟩ x.side x.before.length then 0 else 52
open Classical in
noncomputable def ztY (g : Gr) (p : Pol) (x : Expl) : Int :=
 let order:=ordL (zam g p.lv) p.seeds
 let c:=zaO g p
 if x.key ∉ order then 11
 else if ¬ zf5 order x.before x.key ∨ (x.acc = true ∧ x.side ≠ []) ∨ (x.acc = false ∧ x.paths ≠ []) then 1
 else if x.acc = true then (if zkU g p.lv p.seeds order c x.paths (x.before ++ [x.key]) then 0 else 52)
 else if zc9 ⟨2 + 2 * g.size,zba g p c (zav (x.before ++ [x.key]))⟩ x.side x.before.length then 0 else 52
theorem zrA {g : Gr} (hs : g.size ≤ 64) (p : Pol) (x : Expl) : ztf g p x = ztY g p x:=by
 unfold ztf ztY
 simp only
 have hno:=zbf (zam g p.lv) p.seeds
 have hra : ∀ k ∈ ordL (zam g p.lv) p.seeds,0 ≤ k ∧ k < 64:=fun k hk=>by
  have:=zb3 hk
  have h2 : (zam g p.lv).size = g.size:=rfl
  omega
 generalize ordL (zam g p.lv) p.seeds = o at *
 by_cases h1 : x.key ∈ o
 ·by_cases h2 : ¬ zf5 o x.before x.key ∨ (x.acc = true ∧ x.side ≠ []) ∨ (x.acc = false ∧ x.paths ≠ [])
  ·rw [if_neg (not_not_intro h1),if_pos h2,if_neg (not_not_intro h1),if_pos h2]
  ·rw [if_neg (not_not_intro h1),if_neg h2,if_neg (not_not_intro h1),if_neg h2]
   have h3 : zf5 o x.before x.key:=Classical.byContradiction fun h=>h2 (.inl h)
   have h4:=h3.nodup hno
   have h5 : ∀ k ∈ x.before ++ [x.key],0 ≤ k ∧ k < 64:=fun k hk=>by
    rcases List.mem_append.1 hk with hk | hk
    ·exact hra k ((List.takeWhile_sublist _).subset (h3.subset hk))
    ·rw [List.mem_singleton] at hk
     rw [hk]
     exact hra _ h1
   rw [zjW h4 h5]
   by_cases ha : x.acc = true
   ·rw [if_pos ha,if_pos ha]
    by_cases hc : ziA g p.lv p.seeds o (zaO g p) x.paths (x.before ++ [x.key])
    ·rw [if_pos hc,if_pos ((zmi h4).1 hc)]
    ·rw [if_neg hc,if_neg fun h=>hc ((zmi h4).2 h)]
   ·rw [if_neg ha,if_neg ha]
 ·rw [if_pos h1,if_pos h1]
theorem ztZ {g : Gr} {p : Pol} {k : Int} (h0 : 0 ≤ k) (h1 : k < g.size) : (zaO g p).getD k.toNat 0 = zex p (dist (zam g p.lv) p.seeds k):=by
 unfold zaO zbJ
 have h2 : k.toNat < (zam g p.lv).size.toNat:=by show k.toNat < g.size.toNat; omega
 rw [List.getD_eq_getElem?_getD,List.getElem?_map,List.getElem?_map,List.getElem?_range h2]
 simp only [Option.map_some,Option.getD_some]
 rw [show ((k.toNat : Nat) : Int) = k by omega]
theorem zsy {g : Gr} {p : Pol} {k : Int} (h1 : g.size ≤ k) : (zaO g p).getD k.toNat 0 = 0:=by
 unfold zaO zbJ
 have h2 : ¬ k.toNat < (zam g p.lv).size.toNat:=by show ¬ k.toNat < g.size.toNat; omega
 rw [List.getD_eq_getElem?_getD,List.getElem?_eq_none (by simp; omega)]
 rfl
theorem zpg {g : Gr} {p : Pol} {n : Int} (hp : zaY n p) : ∀ x ∈ zaO g p,0 ≤ x:=fun x hx=>by
 unfold zaO at hx
 obtain ⟨d,_,rfl⟩:=List.mem_map.1 hx
 exact (zhs hp d).1
theorem ziM {g : Gr} {p : Pol} {n : Int} (hp : zaY n p) {k : Int} (h0 : 0 ≤ k) : 0 < (zaO g p).getD k.toNat 0 ↔ k < g.size ∧ 0 ≤ dist (zam g p.lv) p.seeds k:=by
 by_cases h1 : k < g.size
 ·rw [ztZ h0 h1,zoO hp]
  exact ⟨fun h=>⟨h1,h⟩,fun h=>h.2⟩
 ·rw [zsy (by omega)]
  constructor
  ·intro h; omega
  ·intro h; exact absurd h.1 h1
theorem GrOk.level {g : Gr} (h : GrOk g) (v : Int) : GrOk (zam g v):=by
 refine ⟨⟨h.1.1,h.1.2.1,Nat.le_trans (List.length_filter_le _ _) h.1.2.2.1,h.1.2.2.2⟩,fun i hi=>?_⟩
 have hm : (zam g v).edges[i] ∈ g.edges:=(List.mem_filter.1 (List.getElem_mem hi)).1
 obtain ⟨j,hj,hje⟩:=List.mem_iff_getElem.1 hm
 have h1:=h.2 j hj
 rw [hje] at h1
 refine ⟨h1.1,h1.2.1,h1.2.2.1,fun h0=>?_⟩
 rw [zgD]
 have hp : (zam g v).edges.Pairwise Bef:=h.pair.filter _
 exact List.pairwise_iff_getElem.1 hp (i - 1) i (by omega) hi (by omega)
theorem zm5 {g : Gr} (h : GrOk g) {S : List Int} {k : Int} : k ∈ ordL g S ↔ Key g k ∧ 0 ≤ dist g S k:=by
 unfold ordL
 rw [zj1]
 constructor
 ·rintro ⟨⟨h1,h2⟩,h3,_⟩
  exact ⟨⟨h1,by omega⟩,h3⟩
 ·rintro ⟨h1,h2⟩
  have h3:=ztG (S:=S) h h1
  have h4:=h1.1
  have h5:=h1.2
  exact ⟨⟨h4,by omega⟩,h2,by omega⟩
theorem zi1 {g : Gr} (h : GrOk g) (v : Int) : ((zam g v).edges.map zeD).Nodup ∧ ∀ e ∈ (zam g v).edges,0 ≤ e.f ∧ e.f < g.size ∧ 0 ≤ e.t ∧ e.t < g.size:=by
 have hl:=h.level v
 refine ⟨?_,fun e he=>?_⟩
 ·rw [List.Nodup,List.pairwise_map]
  refine hl.pair.imp fun {a b} hab he=>?_
  unfold Bef at hab
  unfold zeD at he
  simp at he
  omega
 ·obtain ⟨i,hi,rfl⟩:=List.mem_iff_getElem.1 he
  have h1:=(hl.2 i hi).1
  have h2 : (zam g v).size = g.size:=rfl
  unfold Fits at h1
  omega
theorem Rise.nodup {l : List Int} {lo hi : Int} (h : Rise l lo hi) : l.Nodup ∧ ∀ x ∈ l,lo ≤ x ∧ x ≤ hi:=by
 have hlt : ∀ (j i : Nat) (hj : j < l.length) (hij : i < j),l[i] < l[j]:=by
  intro j
  induction j with
  | zero=>intro i _ hij; omega
  | succ j ih =>
    intro i hj hij
    have h1:=(h (j + 1) hj).2.2 (by omega)
    simp only [Nat.add_sub_cancel] at h1
    rcases Nat.lt_or_ge i j with h2 | h2
    ·have:=ih i (by omega) h2
     omega
    ·have : i = j:=by omega
     subst this
     exact h1
 refine ⟨List.pairwise_iff_getElem.2 fun i j hi hj hij he=>?_,fun x hx=>?_⟩
 ·have:=hlt j i hj hij
  omega
 ·obtain ⟨i,hi,rfl⟩:=List.mem_iff_getElem.1 hx
  have:=h i hi
  exact ⟨this.1,this.2.1⟩
theorem zoQ {g : Gr} {p : Pol} {sinks ends f : List Int} {W : List (List Nat)} (hg : GrOk g) (hp : zaY g.size p) (hk : sinks.Nodup) (hk0 : ∀ x ∈ sinks,0 ≤ x) (hpe : ends.Perm sinks)
  (hf : Fit2 (zba g p (zaO g p) sinks) f) (hw : ∀ w ∈ W,WayA (zba g p (zaO g p) sinks) 0 w 1 ∧ (metA (zba g p (zaO g p) sinks) w).Nodup)
  (hs : ∀ i,i < (zba g p (zaO g p) sinks).length → (sumN (List.count i) W : Int) ≤ f.getD i 0) (hl : W.length = sinks.length) :
  zkU g p.lv p.seeds (ordL (zam g p.lv) p.seeds) (zaO g p) (W.map (zcS (zba g p (zaO g p) sinks))) ends:=by
 have hgl:=hg.level p.lv
 have hse:=hp.2.1.nodup
 have hle:=zi1 hg p.lv
 have hmo : ∀ k,0 ≤ k → 0 < (zaO g p).getD k.toNat 0 → k ∈ ordL (zam g p.lv) p.seeds:=fun k h0 hc=>by
  have h1:=(ziM hp h0).1 hc
  exact (zm5 hgl).2 ⟨⟨h0,h1.1⟩,h1.2⟩
 have hnet : zhY (zba g p (zaO g p) sinks) (fun x y=>zrf g p.lv x y ∧ y ∈ ordL (zam g p.lv) p.seeds) (p.seeds.filter fun x=>decide (x ∈ ordL (zam g p.lv) p.seeds)) sinks fun x=>(zaO g p).getD x.toNat 0:=by
  refine zqA (fun e he hc=>?_) (fun x hx hc=>?_) hse.1 (fun x hx=>(hse.2 x hx).1) hk hk0 hle.1 fun e he=>⟨(hle.2 e he).1,(hle.2 e he).2.2.1⟩
  ·have h0:=hle.2 e he
   have h1:=(ziM hp h0.1).1 hc
   have h2:=ztq hgl he h1.2
   refine ⟨?_,(zm5 hgl).2 ⟨⟨h0.2.2.1,h0.2.2.2⟩,h2.1⟩⟩
   unfold zam at he
   have h3:=List.mem_filter.1 he
   refine ⟨e,h3.1,rfl,rfl,?_⟩
   have:=h3.2
   simp at this
   omega
  ·exact List.mem_filter.2 ⟨hx,by simpa using hmo x (hse.2 x hx).1 hc⟩
 obtain ⟨q1,q2,q3,q4⟩:=zr1 hnet hf hw hs (zpg hp)
 refine ⟨by rw [List.length_map,hl,hpe.length_eq],hpe.nodup_iff.2 hk,fun w hwW=>?_,fun k hkl=>hpe.mem_iff.2 (q3 k hkl),q2,q1⟩
 obtain ⟨⟨k,hk1,hk2⟩,h2,h3⟩:=q4 w hwW
 have hk3:=List.mem_filter.1 hk2
 have hk4 : k ∈ ordL (zam g p.lv) p.seeds:=by simpa using hk3.2
 refine ⟨⟨k,hk1,hk3.1⟩,fun x hx=>?_,h2,fun i hi=>(h3 i hi).1⟩
 obtain ⟨i,hi,rfl⟩:=List.mem_iff_getElem.1 hx
 cases i with
 | zero =>
   rw [List.head?_eq_getElem?,List.getElem?_eq_getElem hi] at hk1
   rw [Option.some.inj hk1]
   exact hk4
 | succ i=>exact (h3 i hi).2
theorem GrOk.edges_le {g : Gr} (h : GrOk g) : g.edges.length ≤ 500:=h.1.2.2.1
theorem zb1 {g : Gr} {p : Pol} : (zaO g p).length = g.size.toNat:=by simp [zaO,zbJ,zam]
def zcM (g : Gr) (p : Pol) (k : Nat) : List Int:=(zaO g p).take k ++ (zbJ (zam g p.lv) p.seeds).drop k
theorem zl9 {g : Gr} {p : Pol} (k : Nat) (hk : k ≤ g.size.toNat) : (zcM g p k).length = g.size.toNat:=by simp [zcM,zb1,zbJ,zam]; omega
theorem zqL {g : Gr} {p : Pol} : zcM g p 0 = zbJ (zam g p.lv) p.seeds:=by simp [zcM]
theorem zrD {g : Gr} {p : Pol} : zcM g p g.size.toNat = zaO g p:=by
 unfold zcM
 rw [List.take_of_length_le (by rw [zb1]; exact Nat.le_refl _),List.drop_eq_nil_of_le (by simp [zbJ,zam])]
 simp
theorem zsn {g : Gr} {p : Pol} {k : Nat} (hk : k < g.size.toNat) : (zcM g p k)[k]? = some (dist (zam g p.lv) p.seeds k):=by
 unfold zcM
 rw [List.getElem?_append_right (by simp [zb1]; omega)]
 simp [zb1,Nat.min_eq_left (Nat.le_of_lt hk),zbJ,zam,hk]
theorem zsk {g : Gr} {p : Pol} {k : Nat} (hk : k < g.size.toNat) : (zah (zcM g p k)).set k [AV.I (zex p (dist (zam g p.lv) p.seeds k))] = zah (zcM g p (k + 1)):=by
 rw [show [AV.I (zex p (dist (zam g p.lv) p.seeds k))] = (fun n : Int=>[AV.I n]) (zex p (dist (zam g p.lv) p.seeds k)) from rfl]
 show (List.map (fun n : Int=>[AV.I n]) (zcM g p k)).set k _ = List.map (fun n : Int=>[AV.I n]) _
 rw [← List.map_set]
 congr 1
 have hc : k < (zaO g p).length:=by rw [zb1]; exact hk
 have hd : k < (zbJ (zam g p.lv) p.seeds).length:=by simp [zbJ,zam,hk]
 unfold zcM
 rw [List.set_append,if_neg (by simp [zb1]; omega)]
 rw [show k - ((zaO g p).take k).length = 0 by simp [zb1]; omega]
 rw [List.drop_eq_getElem_cons hd,List.set_cons_zero,List.take_succ_eq_append_getElem hc,List.append_assoc]
 congr 2
 simp [zaO,zbJ]
set_option maxRecDepth 100000 in
theorem zk8 (g : Gr) (p : Pol) (hg : GrOk g) (hs : p.seeds.length ≤ 1099511627776) : zai Tryz.prog zfy [eG g,eP p] [] (.rs 0 0 g.size.toNat) [some ⟨1,zah (zaO g p),0⟩]:=by
 refine znk.acalls (nbz rfl) (nbz rfl) (Nat.zero_le _) ?_
 show awp _ 0 _ _ ⟨30,[(0,eG g),(1,eP p)],[],16⟩
 have hsz:=hg.1.1
 have hsz2:=hg.1.2.1
 have hel:=hg.edges_le
 have hgl:=hg.gone_le
 have hall:=zgz (zam g p.lv) p.seeds (hg.level p.lv) hs
 have hsl : (zam g p.lv).size = g.size:=rfl
 rw [hsl,← zqL] at hall
 obtain ⟨N,hNe⟩ : ∃ N : Nat,N = g.size.toNat:=⟨_,rfl⟩
 rw [← hNe] at hall
 have hml : ∀ k,k ≤ N → (zah (zcM g p k)).length = N:=fun k hk=>by rw [List.length_map,zl9 k (by omega),hNe]
 have hmg : ∀ (k : Nat) (h : k < (zcM g p k).length),k < N → (zcM g p k)[k] = dist (zam g p.lv) p.seeds k:=fun k h hk=>by
  have:=zsn (g:=g) (p:=p) (k:=k) (by omega)
  rw [List.getElem?_eq_getElem h] at this
  exact Option.some.inj this
 have hml2 : ∀ k,k ≤ N → (zcM g p k).length = N:=fun k hk=>by rw [zl9 k (by omega),hNe]
 have hms : ∀ k : Nat,k < N → (zah (zcM g p k)).set k [AV.I (zex p (dist (zam g p.lv) p.seeds k))] = zah (zcM g p (k + 1)):=fun k hk=>zsk (by omega)
 refine rx (s:=?s1) [2,3] [] [16,24] rfl ?o1 ?q1
 case o1=>simp; rfl
 refine zaq ⟨30,[(3,.pv (pC p)),(5,.rs 88 0 N)],[(88,some ⟨1,zah (zcM g p 0),0⟩)],104⟩ rfl ?_ ?_
 ·simp
  refine zaj (zdx g p.lv (by omega) (by omega)) (by simp) ?_
  simp
  refine za0 hall rfl ?_
  simp [fcd]
  exact ⟨rfl,Le.keep rfl (Nat.le_refl _) (by simp) (by simp)⟩
 refine zab ?_
 refine rk (s:=?s3) [3,5,15,16,17] [88] rfl ?o3 ?q3
 case o3=>simp; rfl
 refine zaf ?_
 refine zao (ι:=Nat) (fun i=>⟨30,[(3,.pv (pC p)),(5,.rs 88 0 N),(15,.rs 88 0 N),(16,.I N),(17,.I i)],[(88,some ⟨1,zah (zcM g p i),0⟩)],128⟩) (fun i=>i ≤ N) (fun i=>N - i) 0 (by simp) (Le.keep rfl (Nat.le_refl _) (by simp) (by simp)) ?_
 intro i hi
 refine rk (s:=?s5) [3,5,15,16,17,18] [88] rfl ?o5 ?q5
 case o5=>simp; rfl
 refine zab ?_
 refine zac _ rfl (fun h6=>?_) fun h6=>?_
 ·simp at h6
  have hw : IntKind.i64.wrap ((i : Int) + 1) = (i : Int) + 1:=w64 (by omega) (by omega)
  refine zae ?_
  refine zab ?_
  refine zaf ?_
  refine rk (s:=?s7) [3,5,6,7,15,16,17] [88] rfl ?o7 ?q7
  case o7=>simp [h6,hml2,hmg,hi]; rfl
  refine zad (s:=?s8) rfl ?o8 ?q8
  case o8 =>
   simp
   refine zaj (zlz p (dist (zam g p.lv) p.seeds i)) (by simp) ?_
   simp [h6,hml2,hi,hms]
   rfl
  refine zad (s:=?s9) rfl ?o9 ?q9
  case o9=>simp [hw]; rfl
  exact ⟨i + 1,by omega,by omega,LeI [(88,88)] []⟩
 simp at h6
 obtain rfl : i = N:=by omega
 refine zan ?_
 refine hit ?_
 refine rk (s:=?s10) [4] [88] rfl ?o10 ?q10
 case o10=>simp; rfl
 refine zag ?_
 refine ⟨.inr rfl,zak.out [88] [] rfl (by simp) (by simp) (by simp [hNe]) (by simp [fcd,hNe,zrD])⟩
theorem zkr {g : Gr} {p : Pol} {k : Nat} (hk : k < g.size.toNat) : (zaO g p).take (k + 1) = (zaO g p).take k ++ [zex p (dist (zam g p.lv) p.seeds k)]:=by
 rw [List.take_succ_eq_append_getElem (by rw [zb1]; exact hk)]
 simp [zaO,zbJ]
set_option maxRecDepth 100000 in
theorem zoR (g : Gr) (p : Pol) (hg : GrOk g) (hs : p.seeds.length ≤ 1099511627776) : zai Tryz.prog ziN [eG g,eP p] [] (.rs 0 0 g.size.toNat) [some ⟨1,zah (zaO g p),0⟩]:=by
 refine zrI.acalls (nbz rfl) (nbz rfl) (Nat.zero_le _) ?_
 show awp _ 0 _ _ ⟨31,[(0,eG g),(1,eP p)],[],16⟩
 have hsz:=hg.1.1
 have hsz2:=hg.1.2.1
 have hel:=hg.edges_le
 have hgl:=hg.gone_le
 have hall:=zgB (zam g p.lv) p.seeds (hg.level p.lv) hs
 have hsl : (zam g p.lv).size = g.size:=rfl
 rw [hsl] at hall
 obtain ⟨N,hNe⟩ : ∃ N : Nat,N = g.size.toNat:=⟨_,rfl⟩
 have hDl : (zbJ (zam g p.lv) p.seeds).length = N:=by simp [zbJ,zam,hNe]
 have hDg : ∀ (k : Nat) (h : k < (zbJ (zam g p.lv) p.seeds).length),(zbJ (zam g p.lv) p.seeds)[k] = dist (zam g p.lv) p.seeds k:=fun k h=>by simp [zbJ]
 rw [← hNe] at hall
 obtain ⟨D,hD⟩ : ∃ D,D = zbJ (zam g p.lv) p.seeds:=⟨_,rfl⟩
 rw [← hD] at hall hDl
 simp only [← hD] at hDg
 have hcl : (zaO g p).length = N:=by rw [zb1,hNe]
 obtain ⟨C,hC0,hCs,hCl,hCN⟩ : ∃ C : Nat → List Int,C 0 = [] ∧ (∀ k : Nat,k < N → C (k + 1) = C k ++ [zex p (dist (zam g p.lv) p.seeds k)]) ∧ (∀ k,k ≤ N → (C k).length = k) ∧ C N = zaO g p :=
  ⟨fun k=>(zaO g p).take k,by simp,fun k hk=>zkr (by omega),fun k hk=>by simp [hcl,hk],by simp [← hcl]⟩
 refine rx (s:=?s1) [2,3] [] [16,24] rfl ?o1 ?q1
 case o1=>simp; rfl
 refine zaq ⟨31,[(3,.pv (pC p)),(5,ints D)],[],104⟩ rfl ?_ ?_
 ·simp
  refine zaj (zdw g p.lv (by omega) (by omega)) (by simp) ?_
  simp
  refine za0 hall rfl ?_
  simp [fcd]
  exact ⟨rfl,Le.snap [88] rfl rfl (by simp [fcd,← hDl,zal])⟩
 refine rx (s:=?s3) [3,5,6] [] [] rfl ?o3 ?q3
 case o3=>simp; rfl
 refine zab ?_
 refine rx (s:=?s4) [3,5,6,7] [] [] rfl ?o4 ?q4
 case o4=>simp; rfl
 refine zaf ?_
 refine zao (ι:=Nat) (fun i=>⟨31,[(3,.pv (pC p)),(5,ints D),(6,.rs 16 0 i),(7,.I i)],[(16,some ⟨1,zah (C i),0⟩)],120⟩) (fun i=>i ≤ N) (fun i=>N - i) 0 (by simp) (Le.lst [] [] [(16,1)] rfl (by simp) (by simp) (by simp) (by simp) (by simp) (by simp) (by simp) (by simp [Up]) (by simp [hC0])) ?_
 intro i hi
 have hCi:=hCl i hi
 have hti : ∀ f : Int → List AV,List.take i (List.map f (C i)) = List.map f (C i):=fun f=>List.take_of_length_le (by simp [hCi])
 refine zab ?_
 refine rk (s:=?s5) [3,5,6,7,18] [16] rfl ?o5 ?q5
 case o5=>simp [hDl]; rfl
 refine zac _ rfl (fun h6=>?_) fun h6=>?_
 ·simp at h6
  have hw : IntKind.i64.wrap ((i : Int) + 1) = (i : Int) + 1:=w64 (by omega) (by omega)
  refine zae ?_
  refine zab ?_
  refine zaf ?_
  refine zbF rfl ?_
  simp [h6,hDl,hDg]
  refine zaj (zpK p (dist (zam g p.lv) p.seeds i)) (by simp) ?_
  simp [hCi]
  refine ⟨by omega,by omega,rfl,?_⟩
  refine zas rfl ?_
  simp [hw]
  exact ⟨i + 1,by omega,by omega,Le.go [(216,16)] [] rfl rfl (by simp) (by simp [fcd,hCs i h6,hti])⟩
 simp at h6
 obtain rfl : i = N:=by omega
 refine zan ?_
 refine hit ?_
 refine rk (s:=?s7) [4] [16] rfl ?o7 ?q7
 case o7=>simp; rfl
 refine zag ?_
 exact ⟨.inr rfl,zak.out [16] [] rfl (by simp) (by simp) (by simp [hNe]) (by simp [fcd,hCN])⟩
end Go.Proofs.YthmaflecfppoiaaGreat
