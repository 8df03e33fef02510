/- Texts of this claim,merged. -/
import Derived.Test.YteiabadhhhckfaaGreatRc13
import Derived.Test.YteiabadhhhckfaaGreatRc11
import Derived.Test.YteiabadhhhckfaaGreatRc6
import Derived.Test.YteiabadhhhckfaaGreatRc12
set_option linter.unusedSimpArgs false
set_option linter.unusedVariables false
set_option linter.unusedSectionVars false
namespace Go.Proofs.YteiabadhhhckfaaGreat
open Go
theorem zmv (side : List Int) : ∀ A : List Ed,cutV A side = capS (fun x=>decide (x ∈ side)) A
 | []=>rfl
 | e :: A=>by
   have h1 : cutV (e :: A) side = (if e.f ∈ side ∧ e.t ∉ side then e.v else 0) + cutV A side:=by simp [cutV]
   have h2 : capS (fun x=>decide (x ∈ side)) (e :: A) = (if decide (e.f ∈ side) = true ∧ decide (e.t ∈ side) = false then e.v else 0) + capS (fun x=>decide (x ∈ side)) A:=rfl
   rw [h1,h2,zmv side A]
   simp
section
variable {P : Program} {np id : Nat} {h : Nat → Option Ent} {K : AV → List Nat → List (Nat × Option Ent) → Prop} {f : FuncId} {first capt args args' : List AV} {res : AV}
end
def lowN : List Int → Int → Nat
 | [],_=>0
 | x :: l,k=>if x < k then lowN l k + 1 else 0
def putL (l : List Int) (k : Int) : List Int:=if l[lowN l k]? = some k then l else l.take (lowN l k) ++ k :: l.drop (lowN l k)
theorem zlc : ∀ (l : List Int) (k : Int),lowN l k ≤ l.length
 | [],_=>Nat.le_refl _
 | x :: l,k=>by unfold lowN; have:=zlc l k; split <;> simp <;> omega
theorem znm : ∀ {l : List Int} {k : Int} {i : Nat} (h : i < l.length),i < lowN l k → l[i] < k
 | x :: l,k,0,_,h=>by
   unfold lowN at h
   split at h
   ·simpa
   ·omega
 | x :: l,k,i + 1,hi,h=>by
   unfold lowN at h
   split at h
   ·simpa using znm (l:=l) (by simpa using hi) (by omega)
   ·omega
theorem ziI : ∀ {l : List Int} {k : Int} (h : lowN l k < l.length),¬ l[lowN l k] < k
 | x :: l,k,h=>by
   by_cases hx : x < k
   ·have e : lowN (x :: l) k = lowN l k + 1:=by simp [lowN,hx]
    simp only [e,List.getElem_cons_succ]
    exact ziI (by rw [e] at h; simpa using h)
   ·have e : lowN (x :: l) k = 0:=by simp [lowN,hx]
    simp only [e,List.getElem_cons_zero]
    exact hx
theorem zsO {l : List Int} {k : Int} {i : Nat} (hi : i ≤ l.length) (h1 : ∀ j (h : j < l.length),j < i → l[j] < k) (h2 : ∀ h : i < l.length,¬ l[i] < k) : lowN l k = i:=by
 rcases Nat.lt_trichotomy (lowN l k) i with h | h | h
 ·exact absurd (h1 _ (by omega) h) (ziI (by omega))
 ·exact h
 ·have hl:=zlc l k
  exact absurd (znm (by omega) h) (h2 (by omega))
theorem zrU (l : List Int) (k : Int) : (putL l k).length ≤ l.length + 1:=by
 unfold putL
 split
 ·omega
 ·simp; have:=zlc l k; omega
theorem zly {l : List Int} {k x : Int} : x ∈ putL l k ↔ x ∈ l ∨ x = k:=by
 unfold putL
 split
 ·rename_i h
  constructor
  ·exact .inl
  ·rintro (h1 | rfl)
   ·exact h1
   ·exact List.mem_of_getElem? h
 ·rw [List.mem_append,List.mem_cons]
  conv=>rhs; rw [← List.take_append_drop (lowN l k) l,List.mem_append]
  constructor
  ·rintro (h | rfl | h)
   ·exact .inl (.inl h)
   ·exact .inr rfl
   ·exact .inl (.inr h)
  ·rintro ((h | h) | rfl)
   ·exact .inl h
   ·exact .inr (.inr h)
   ·exact .inr (.inl rfl)
theorem zmK {l : List Int} {k : Int} (h : l.Pairwise (· < ·)) : (putL l k).Pairwise (· < ·):=by
 unfold putL
 split
 ·exact h
 ·rename_i hne
  have hd : ∀ y ∈ l.drop (lowN l k),k < y:=by
   intro y hy
   obtain ⟨i,hi,rfl⟩:=List.getElem_of_mem hy
   rw [List.length_drop] at hi
   rw [List.getElem_drop]
   have h0 : lowN l k < l.length:=by omega
   have h1:=ziI h0
   have h2 : l[lowN l k] ≠ k:=fun e=>hne (by rw [List.getElem?_eq_getElem h0,e])
   rcases Nat.eq_zero_or_pos i with rfl | hp
   ·simp only [Nat.add_zero]; omega
   ·have:=(List.pairwise_iff_getElem.1 h) (lowN l k) (lowN l k + i) h0 (by omega) (by omega)
    omega
  have ht : ∀ y ∈ l.take (lowN l k),y < k:=by
   intro y hy
   obtain ⟨i,hi,rfl⟩:=List.getElem_of_mem hy
   rw [List.length_take] at hi
   rw [List.getElem_take]
   exact znm (by omega) (by omega)
  rw [List.pairwise_append,List.pairwise_cons]
  refine ⟨h.sublist (List.take_sublist ..),⟨hd,h.sublist (List.drop_sublist ..)⟩,fun x hx y hy=>?_⟩
  rcases List.mem_cons.1 hy with rfl | hy
  ·exact ht x hx
  ·have:=ht x hx; have:=hd y hy; omega
theorem zfh {l : List Int} {n : Int} (h : l.Pairwise (· < ·)) (hr : ∀ k ∈ l,0 ≤ k ∧ k < n) : Rise l 0 (n - 1):=by
 intro i hi
 have:=hr _ (List.getElem_mem hi)
 refine ⟨by omega,by omega,fun hp=>?_⟩
 exact (List.pairwise_iff_getElem.1 h) (i - 1) i (by omega) hi (by omega)
theorem zpV (l : List Int) (k : Int) (hl : l.length ≤ 1000000) : zaj Tryz.prog zds [ints l,.I k] [] (.rs 0 0 (putL l k).length) [some ⟨1,zah (putL l k),0⟩]:=by
 refine zoL.acalls (Nat.le_of_ble_eq_true rfl) (Nat.le_of_ble_eq_true rfl) (Nat.zero_le _) ?_
 show awp _ 0 _ _ ⟨45,[(0,ints l),(1,.I k)],[],16⟩
 refine rx (s:=?s1) [0,1] [] [] rfl ?o1 ?q1
 case o1=>simp; rfl
 refine rx (s:=?s2) [0,1,5] [] [] rfl ?o2 ?q2
 case o2=>simp; rfl
 refine zaI (ι:=Nat) (fun i=>⟨45,[(0,ints l),(1,.I k),(5,.I i)],[],200⟩) (fun i=>i = lowN l k) ?_ fun i hil=>?_
 ·refine zaf ?_
  refine zao (ι:=Nat) (fun i=>⟨45,[(0,ints l),(1,.I k),(5,.I i)],[],32⟩) (fun i=>i ≤ l.length ∧ ∀ j (h : j < l.length),j < i → l[j] < k) (fun i=>l.length - i) 0 (by simp) (Le.go [] [] rfl rfl (by simp) (by simp)) ?_
  rintro i ⟨hi,hp⟩
  refine zaa ?_
  refine zab ⟨45,[(0,ints l),(1,.I k),(5,.I i),(17,.B (decide (∃ h : i < l.length,l[i] < k)))],[],200⟩ rfl ?_ ?_
  ·by_cases h1 : i < l.length
   ·simp [h1]
    exact Le.snap [] rfl rfl (by simp [h1])
   ·have hno : ¬ ∃ h : i < l.length,l[i] < k:=fun ⟨h,_⟩=>h1 h
    rw [decide_eq_false hno]
    simp [h1]
    exact Le.snap [] rfl rfl (by simp)
  refine zad _ rfl (fun h2=>?_) fun h2=>?_
  ·rw [decide_eq_true_eq] at h2
   obtain ⟨h1,h2⟩:=h2
   have hw : IntKind.i64.wrap ((i : Int) + 1) = (i : Int) + 1:=w64 (by omega) (by omega)
   refine zae ?_
   refine zaf ?_
   refine zac (s:=?s5) rfl ?o5 ?q5
   case o5=>simp; rfl
   refine ⟨i + 1,⟨h1,fun j hj hji=>?_⟩,by omega,Le.go [] [] rfl rfl (by simp [hw]) (by simp)⟩
   rcases Nat.lt_succ_iff_lt_or_eq.1 hji with h | rfl
   ·exact hp j hj h
   ·exact h2
  ·rw [decide_eq_false_iff_not] at h2
   refine zan ?_
   refine hit ?_
   exact ⟨i,(zsO hi hp fun h h3=>h2 ⟨h,h3⟩).symm,Le.go [] [] rfl rfl (by simp) (by simp)⟩
 have hlo:=zlc l k
 rw [← hil] at hlo
 refine zaa ?_
 refine zab ⟨45,[(0,ints l),(1,.I k),(5,.I i),(31,.B (decide (l[i]? = some k)))],[],400⟩ rfl ?_ ?_
 ·by_cases h1 : i < l.length
  ·simp [h1]
   exact Le.snap [] rfl rfl (by simp [h1]; exact wkB (by rw [Bool.eq_iff_iff]; simp))
  ·have hno : ¬ l[i]? = some k:=by rw [List.getElem?_eq_none (by omega)]; simp
   rw [decide_eq_false hno]
   simp [h1]
   exact Le.snap [] rfl rfl (by simp)
 refine zad _ rfl (fun h2=>?_) fun h2=>?_
 ·rw [decide_eq_true_eq] at h2
  have hput : putL l k = l:=by unfold putL; rw [← hil,if_pos h2]
  rw [hput]
  refine rk (s:=?s6) [4] [408] rfl ?o6 ?q6
  case o6=>simp; refine ⟨by omega,by omega,?_⟩; rfl
  refine zag ?_
  exact ⟨.inr rfl,zam.out [408] [] rfl (by simp) (by simp) (by simp) (by simp [fcd])⟩
 rw [decide_eq_false_iff_not] at h2
 have hput : putL l k = l.take i ++ k :: l.drop i:=by unfold putL; rw [← hil,if_neg h2]
 have hpl : (putL l k).length = l.length + 1:=by rw [hput]; simp; omega
 have hpl2 : (putL l k).length = i + 1 + (l.length - i):=by omega
 refine zae ?_
 refine zaw ⟨45,[(4,.rs 480 0 (putL l k).length)],[(480,some ⟨1,zah (putL l k),0⟩)],600⟩ rfl ?_ ?_
 ·simp [hlo]
  refine ⟨by omega,by omega,by omega,by omega,by omega,by omega,rfl,Le.go [(480,480)] [] rfl rfl (by simp [hpl2]) (by simp [hput,fcd,List.take_of_length_le,hlo])⟩
 refine zag ?_
 exact ⟨.inr rfl,zam.out [480] [] rfl (by simp) (by simp) (by simp) (by simp [fcd])⟩
theorem zsE (L : List Int) (a : Nat) {l : List Int} (h : 0 < l.length) : ofD L a l ∈ l:=by
 have:=zdZ (L:=L) (a:=a) (n:=l.length) (by omega)
 obtain ⟨q,hq⟩ : ∃ q : Nat,(zau L a l.length).1 = q:=⟨(zau L a l.length).1.toNat,by omega⟩
 have hql : q < l.length:=by omega
 unfold ofD
 rw [hq]
 simp [hql]
theorem zoj (L : List Int) (a : Nat) (n : Int) (hl : L.length ≤ 400) (ha : a ≤ L.length) (h0 : 0 < n) (hn : n ≤ 1000000) : ∃ (x : Nat) (b : Nat),(b ≤ L.length ∧ (x : Int) < n) ∧ zaj Tryz.prog zaC [.pt 0 0 0,.I n] [dice L a] (.I x) [some (dice L b)]:=by
 have:=zdZ (L:=L) (a:=a) h0
 obtain ⟨q,hq⟩ : ∃ q : Nat,(zau L a n).1 = q:=⟨(zau L a n).1.toNat,by omega⟩
 exact ⟨q,_,⟨zbC ha,by omega⟩,by rw [← hq]; exact zkH L a n (by omega) ha (by omega)⟩
theorem Of_a (L : List Int) (a : Nat) (l : List Int) (hl : L.length ≤ 400) (ha : a ≤ L.length) (h0 : 0 < l.length) (hl2 : l.length ≤ 100) : ∃ (x : Int) (b : Nat),(b ≤ L.length ∧ x ∈ l) ∧ zaj Tryz.prog zcB [.pt 0 0 0,ints l] [dice L a] (.I x) [some (dice L b)] :=
 ⟨_,_,⟨zbC ha,zsE L a h0⟩,zux L a l (by omega) ha h0 (by omega)⟩
theorem zuI (L : List Int) (a : Nat) (n : Int) (hl : L.length ≤ 400) (ha : a ≤ L.length) (hn0 : 0 ≤ n) (hn : n ≤ 1000000) : ∃ (x : Bool) (b : Nat),b ≤ L.length ∧ zaj Tryz.prog zb9 [.pt 0 0 0,.I n] [dice L a] (.B x) [some (dice L b)] :=
 ⟨_,_,zbC ha,zsk L a n (by omega) ha hn0 (by omega)⟩
section
variable {P : Program} {np id : Nat} {h : Nat → Option Ent} {K : AV → List Nat → List (Nat × Option Ent) → Prop} {f : FuncId} {first capt args args' : List AV} {res : AV}
theorem zrH {j : Nat} {e ej : Ent} (hnp : np ≤ j) (hj : h j = some ej) (hc : zaj P f args' [] res [some e]) (he : (first ++ args ++ capt).map (conv [] [j] h 4) = args')
  (hk : K (conv (swp [] id) [] (fun _=>none) 4 res) [j] [(id,some (zax (swp [] id) [] (fun _=>none) 4 e)),(j,some { ej with ro:=ej.rows.length })]) : aK P np id .call (.fn (.func f) first capt :: args) h K :=
 ⟨[],[j],true,args',[],res,[some e],by simp,by simp,by simpa using hnp,by rw [List.zipIdx_nil,he]; exact zb1 _,rfl,hc,by simp,.inl rfl,by simpa [swp,hj] using hk⟩
end
def TabL (t : List Int) : Prop:=∀ i (h : i < t.length),1 ≤ t[i] ∧ t[i] ≤ 1000 ∧ (0 < i → t[i] ≤ t[i - 1])
theorem zp5 {t : List Int} {v : Int} (h : TabL t) (h1 : 1 ≤ v) (h2 : v ≤ 1000) (h3 : ∀ x ∈ t,v ≤ x) : TabL (t ++ [v]):=by
 intro i hi
 rw [List.length_append,List.length_singleton] at hi
 by_cases hit : i < t.length
 ·rw [List.getElem_append_left hit]
  obtain ⟨a,b,c⟩:=h i hit
  refine ⟨a,b,fun hp=>?_⟩
  rw [List.getElem_append_left (by omega)]
  exact c hp
 ·obtain rfl : i = t.length:=by omega
  simp only [List.getElem_concat_length]
  refine ⟨h1,h2,fun hp=>?_⟩
  rw [List.getElem_append_left (by omega)]
  exact h3 _ (List.getElem_mem _)
set_option maxRecDepth 100000 in
set_option maxHeartbeats 4000000 in
theorem znZ (L : List Int) (a : Nat) (g : Gr) (hl : L.length ≤ 400) (ha : a ≤ L.length) (h0 : 0 < g.size) (hn : g.size ≤ 1000) :
  ∃ x : Pol × Nat,(zaZ g.size x.1 ∧ x.1.seeds.length ≤ 2 ∧ x.1.table.length ≤ 4 ∧ x.2 ≤ L.length) ∧ zaj Tryz.prog zbY [.pt 0 0 0,eG g] [dice L a] (eP x.1) [some (dice L x.2)]:=by
 refine zhG.acallsX (args:=[.pt 0 0 0,eG g]) (hs:=[dice L a]) (fun x=>eP x.1) (fun x=>[some (dice L x.2)]) (fun x : Pol × Nat=>zaZ g.size x.1 ∧ x.1.seeds.length ≤ 2 ∧ x.1.table.length ≤ 4 ∧ x.2 ≤ L.length) (Nat.le_of_ble_eq_true rfl) (Nat.le_of_ble_eq_true rfl) (fun _=>by simp) ?_
 show awp _ 1 _ _ ⟨50,[(0,.pt 0 0 0),(1,eG g)],[(0,some (dice L a))],16⟩
 obtain ⟨k1,b1,⟨hb1,hk1⟩,hc1⟩:=zoj L a g.size hl ha h0 (by omega)
 obtain ⟨lv,b2,⟨hb2,hlv⟩,hc2⟩:=Of_a L b1 [1,1,2,3] hl hb1 (by simp) (by simp)
 have hlv' : 1 ≤ lv ∧ lv ≤ 3:=by simp at hlv; omega
 obtain ⟨o,b3,hb3,hc3⟩:=zuI L b2 3 hl hb2 (by omega) (by omega)
 refine zab ⟨50,[(0,.pt 0 0 0),(3,.pv (gC g)),(4,.pt 24 0 0)],[(0,some (dice L a)),(24,some ⟨3,[[.nilS,.nilS,.I 0]],0⟩)],32⟩ rfl ?_ ?_
 ·simp
  exact Le.go [(0,0),(24,24)] [16] rfl rfl (by simp) (by simp)
 refine zab ⟨50,[(0,.pt 0 0 0),(3,.pv (gC g)),(4,.pt 24 0 0),(5,.pt 104 0 0)],[(0,some (dice L b2)),(24,some ⟨3,[[.nilS,.nilS,.I 0]],0⟩),(104,some ⟨3,[[.rs 17 0 1,.nilS,.I lv]],0⟩),(17,some ⟨1,zah [(k1 : Int)],0⟩)],120⟩ rfl ?_ ?_
 ·simp
  refine zby (i:=0) rfl (e':=dice L a) (by simp) hc1 (by simp) (by simp) ?_
  simp
  refine znD (i:=0) (j:=80) (by decide) (by decide) rfl rfl (e':=dice L b1) (by simp) hc2 (by simp) (by simp) ?_
  simp
  exact Le.go [(0,0),(24,24),(104,104),(64,17)] [] rfl rfl (by simp) (by simp)
 refine zaI (ι:=List Int × Nat) (fun s=>⟨50,[(0,.pt 0 0 0),(4,.pt 24 0 0),(5,.pt 104 0 0)],[(0,some (dice L s.2)),(24,some ⟨3,[[.nilS,.nilS,.I 0]],0⟩),(104,some ⟨3,[[.rs 17 0 s.1.length,.nilS,.I lv]],0⟩),(17,some ⟨1,zah s.1,0⟩)],300⟩)
  (fun s=>s.2 ≤ L.length ∧ s.1 ≠ [] ∧ s.1.length ≤ 2 ∧ s.1.Pairwise (· < ·) ∧ ∀ k ∈ s.1,0 ≤ k ∧ k < g.size) ?_ fun s hs=>?_
 ·refine zab ⟨50,[(0,.pt 0 0 0),(3,.pv (gC g)),(4,.pt 24 0 0),(5,.pt 104 0 0),(18,.B o)],[(0,some (dice L b3)),(24,some ⟨3,[[.nilS,.nilS,.I 0]],0⟩),(104,some ⟨3,[[.rs 17 0 1,.nilS,.I lv]],0⟩),(17,some ⟨1,zah [(k1 : Int)],0⟩)],136⟩ rfl ?_ ?_
  ·simp
   refine zby (i:=0) rfl (e':=dice L b2) (by simp) hc3 (by simp) (by simp) ?_
   simp
   exact Le.keep rfl (Nat.le_refl _) (by simp) (by simp)
  cases o with
  | true =>
    refine zad _ rfl (fun _=>?_) fun h=>by cases h
    obtain ⟨k2,b4,⟨hb4,hk2⟩,hc4⟩:=zoj L b3 g.size hl hb3 h0 (by omega)
    have hput:=zpV [(k1 : Int)] k2 (by simp)
    obtain ⟨S,hS⟩ : ∃ S,S = putL [(k1 : Int)] k2:=⟨_,rfl⟩
    rw [← hS] at hput
    refine zbS rfl ?_
    simp
    refine zby (i:=0) rfl (e':=dice L b3) (by simp) hc4 (by simp) (by simp) ?_
    simp
    refine zrH (j:=17) (by decide) rfl hput (by simp) ?_
    simp [fcd]
    refine ⟨rfl,S,b4,⟨hb4,?_,?_,?_,fun k hk=>?_⟩,Le.go [(0,0),(24,24),(104,104),(184,17)] [] rfl rfl (by simp) (by simp [fcd])⟩
    ·intro h
     have : (k1 : Int) ∈ S:=by rw [hS]; exact zly.2 (.inl (by simp))
     rw [h] at this
     cases this
    ·rw [hS]; exact zrU _ _
    ·rw [hS]; exact zmK (by simp)
    ·rw [hS] at hk
     rcases zly.1 hk with h | h
     ·simp at h; omega
     ·omega
  | false =>
    refine zad _ rfl (fun h=>by cases h) fun _=>?_
    refine zae ?_
    exact ⟨([(k1 : Int)],b3),⟨hb3,by simp,by simp,by simp,by simp; omega⟩,Le.go [(0,0),(24,24),(104,104),(17,17)] [] rfl rfl (by simp) (by simp)⟩
 obtain ⟨S,b4⟩:=s
 obtain ⟨hb4,hS1,hS2,hS3,hS4⟩:=hs
 simp only at hb4 hS1 hS2 hS3 hS4
 obtain ⟨v0,b5,⟨hb5,hv0⟩,hc5⟩:=Of_a L b4 [3,2,1,6,0] hl hb4 (by simp) (by simp)
 have hv0' : 0 ≤ v0 ∧ v0 ≤ 6:=by simp at hv0; omega
 have hwv : IntKind.i64.wrap (1 + v0) = 1 + v0:=w64 (by omega) (by omega)
 obtain ⟨n0,b6,⟨hb6,hn0⟩,hc6⟩:=zoj L b5 4 hl hb5 (by omega) (by omega)
 have hwn : IntKind.i64.wrap (1 + (n0 : Int)) = ((n0 + 1 : Nat) : Int):=by rw [w64 (by omega) (by omega)]; omega
 refine zab ⟨50,[(0,.pt 0 0 0),(4,.pt 24 0 0),(5,.pt 104 0 0),(6,.I (1 + v0))],[(0,some (dice L b5)),(24,some ⟨3,[[.nilS,.nilS,.I 0]],0⟩),(104,some ⟨3,[[.rs 17 0 S.length,.nilS,.I lv]],0⟩),(17,some ⟨1,zah S,0⟩)],400⟩ rfl ?_ ?_
 ·simp
  refine znD (i:=0) (j:=308) (by decide) (by decide) rfl rfl (e':=dice L b4) (by simp) hc5 (by simp) (by simp) ?_
  simp [hwv]
  exact Le.go [(0,0),(24,24),(104,104),(17,17)] [] rfl rfl (by simp) (by simp [fcd])
 refine zaa ?_
 refine zab ⟨50,[(0,.pt 0 0 0),(4,.pt 24 0 0),(5,.pt 104 0 0),(6,.I (1 + v0)),(7,.I (n0 + 1 : Nat))],[(0,some (dice L b6)),(24,some ⟨3,[[.nilS,.nilS,.I 0]],0⟩),(104,some ⟨3,[[.rs 17 0 S.length,.nilS,.I lv]],0⟩),(17,some ⟨1,zah S,0⟩)],432⟩ rfl ?_ ?_
 ·simp
  refine zby (i:=0) rfl (e':=dice L b5) (by simp) hc6 (by simp) (by simp) ?_
  simp [hwn]
  exact Le.go [(0,0),(24,24),(104,104),(17,17)] [] rfl rfl (by simp) (by simp [fcd])
 refine zaf ?_
 refine zao (ι:=(List Int × Int) × (Nat × Nat)) (fun s=>⟨50,[(0,.pt 0 0 0),(4,.pt 24 0 0),(5,.pt 104 0 0),(6,.I s.1.2),(7,.I s.2.1)],[(0,some (dice L s.2.2)),(24,some ⟨3,[[.nilS,.nilS,.I 0]],0⟩),(104,some ⟨3,[[.rs 17 0 S.length,.rs 18 0 s.1.1.length,.I lv]],0⟩),(17,some ⟨1,zah S,0⟩),(18,some ⟨1,zah s.1.1,0⟩)],432⟩)
  (fun s=>s.1.1.length + s.2.1 = n0 + 1 ∧ TabL s.1.1 ∧ (1 ≤ s.1.2 ∧ s.1.2 ≤ 7) ∧ (∀ x ∈ s.1.1,s.1.2 ≤ x) ∧ s.2.2 ≤ L.length) (fun s=>s.2.1) (([],1 + v0),(n0 + 1,b6)) ⟨by simp,fun i h=>by simp at h,⟨by simp only; omega,by simp only; omega⟩,by simp,hb6⟩
  (Le.lst [(0,0),(24,24),(104,104),(17,17)] [] [(18,1)] rfl (by simp) (by simp) (by simp) (by simp) (by simp) (by simp) (by simp) (by simp [Up]) (by simp [fcd]; exact ⟨zaG.rfl' (by simp),zaG.rfl' (by simp),zaG.row rfl (by omega) (by simp [UpL,Up]),zaG.rfl' (by simp)⟩)) ?_
 rintro ⟨⟨T,v⟩,n,b⟩ ⟨hTn,hT,hv,hTv,hb⟩
 simp only at hTn hT hv hTv hb
 refine zaa ?_
 refine rk (s:=?s7) [0,4,5,6,7,35] [0,24,104,17,18] rfl ?o7 ?q7
 case o7=>simp; rfl
 refine zad _ rfl (fun h8=>?_) fun h8=>?_
 ·simp at h8
  obtain ⟨m,rfl⟩ : ∃ m,n = m + 1:=⟨n - 1,by omega⟩
  have hwm : IntKind.i64.wrap (((m + 1 : Nat) : Int) - 1) = (m : Int):=by rw [w64 (by omega) (by omega)]; omega
  have hwm2 : IntKind.i64.wrap (m : Int) = (m : Int):=w64 (by omega) (by omega)
  obtain ⟨d,b',⟨hb',hd⟩,hc7⟩:=zoj L b 3 hl hb (by omega) (by omega)
  have hwd : IntKind.i64.wrap (v - (d : Int)) = v - (d : Int):=w64 (by omega) (by omega)
  have htl : ∀ f : Int → List AV,List.take T.length (List.map f T) = List.map f T:=fun f=>List.take_of_length_le (by simp)
  refine zae ?_
  refine zaa ?_
  refine zaf ?_
  refine zab ⟨50,[(0,.pt 0 0 0),(4,.pt 24 0 0),(5,.pt 104 0 0),(6,.I v),(7,.I (m + 1 : Nat))],[(0,some (dice L b)),(24,some ⟨3,[[.nilS,.nilS,.I 0]],0⟩),(104,some ⟨3,[[.rs 17 0 S.length,.rs 18 0 (T ++ [v]).length,.I lv]],0⟩),(17,some ⟨1,zah S,0⟩),(18,some ⟨1,zah (T ++ [v]),0⟩)],512⟩ rfl ?_ ?_
  ·simp [htl]
   refine ⟨by omega,by omega,?_⟩
   exact Le.go [(0,0),(24,24),(104,104),(17,17),(480,18)] [] rfl rfl (by simp) (by simp [fcd])
  refine zac (s:=?s9) rfl ?o9 ?q9
  case o9 =>
   simp
   refine zby (i:=0) rfl (e':=dice L b) (by simp) hc7 (by simp) (by simp) ?_
   simp [hwd]
   rfl
  refine zac (s:=?s10) rfl ?o10 ?q10
  case o10=>simp; rfl
  refine ⟨((T ++ [v],if 1 < v - d then v - d else 1),(m,b')),⟨by simp only [List.length_append,List.length_singleton]; omega,zp5 hT hv.1 (by omega) hTv,⟨by simp only; split <;> omega,by simp only; split <;> omega⟩,fun x hx=>?_,hb'⟩,by simp only; omega,Le.go [(0,0),(24,24),(104,104),(17,17),(18,18)] [] rfl rfl (by simp [hwm2]) (by simp [fcd])⟩
  have : v ≤ x:=by
   rcases List.mem_append.1 hx with h | h
   ·exact hTv x h
   ·rw [List.mem_singleton] at h; omega
  simp only
  split <;> omega
 simp at h8
 obtain rfl : n = 0:=by omega
 refine zan ?_
 refine hit ?_
 refine rk (s:=?s11) [4] [0,24,17,18] rfl ?o11 ?q11
 case o11=>simp; rfl
 refine zag ?_
 refine zjM.mk (.inr rfl) (⟨S,T,lv⟩,b) ⟨⟨hS1,zfh hS3 hS4,by simp only; omega,by simp only; omega,hlv'.1,hlv'.2,hT⟩,hS2,by simp only; omega,hb⟩ ?_
 refine ⟨_,rfl,[],[17,18],by simp [List.range,List.range.loop],by simp,by simp,?_,?_⟩
 ·simp [List.range,List.range.loop,fcd,zaq]
 ·simp [List.range,List.range.loop]
theorem zei : ∀ {a b : List Int},a.Pairwise (· < ·) → b.Pairwise (· < ·) → (∀ x,x ∈ a ↔ x ∈ b) → a = b
 | [],[],_,_,_=>rfl
 | [],y :: b,_,_,h=>by have:=(h y).2 (by simp); cases this
 | x :: a,[],_,_,h=>by have:=(h x).1 (by simp); cases this
 | x :: a,y :: b,ha,hb,h=>by
   have ha':=List.pairwise_cons.1 ha
   have hb':=List.pairwise_cons.1 hb
   have hxy : x = y:=by
    have h1:=(h x).1 (by simp)
    have h2:=(h y).2 (by simp)
    rcases List.mem_cons.1 h1 with e | e
    ·exact e
    ·rcases List.mem_cons.1 h2 with e2 | e2
     ·exact e2.symm
     ·have:=hb'.1 x e
      have:=ha'.1 y e2
      omega
   subst hxy
   congr 1
   refine zei ha'.2 hb'.2 fun z=>⟨fun hz=>?_,fun hz=>?_⟩
   ·rcases List.mem_cons.1 ((h z).1 (List.mem_cons_of_mem _ hz)) with rfl | e
    ·have:=ha'.1 z hz; omega
    ·exact e
   ·rcases List.mem_cons.1 ((h z).2 (List.mem_cons_of_mem _ hz)) with rfl | e
    ·have:=hb'.1 z hz; omega
    ·exact e
theorem zmP {a : List Int} {k : Int} (h0 : 0 ≤ k) (h1 : k < 64) : putL (zar a) k = zar (a ++ [k]):=by
 refine zei (zmK (zdj a)) (zdj _) fun x=>?_
 rw [zly,zb8,zb8,List.mem_append,List.mem_singleton]
 constructor
 ·rintro (h | rfl)
  ·exact ⟨.inl h.1,h.2⟩
  ·exact ⟨.inr rfl,h0,h1⟩
 ·rintro ⟨h | h,h2⟩
  ·exact .inl ⟨h,h2⟩
  ·exact .inr h
open Classical in
noncomputable def accR (g : Gr) (p : Pol) (o : List Int) : List Int:=o.foldl (fun acc k=>if zap g p (zar (acc ++ [k])) then acc ++ [k] else acc) []
variable {g : Gr} {p : Pol}
theorem zkP : accR g p [] = []:=rfl
open Classical in
theorem zb2 {o : List Int} {k : Int} (h : zap g p (zar (accR g p o ++ [k]))) : accR g p (o ++ [k]) = accR g p o ++ [k]:=by
 have h2 : accR g p (o ++ [k]) = if zap g p (zar (accR g p o ++ [k])) then accR g p o ++ [k] else accR g p o:=by unfold accR; rw [List.foldl_append]; rfl
 rw [h2,if_pos h]
open Classical in
theorem zfw {o : List Int} {k : Int} (h : ¬ zap g p (zar (accR g p o ++ [k]))) : accR g p (o ++ [k]) = accR g p o:=by
 have h2 : accR g p (o ++ [k]) = if zap g p (zar (accR g p o ++ [k])) then accR g p o ++ [k] else accR g p o:=by unfold accR; rw [List.foldl_append]; rfl
 rw [h2,if_neg h]
theorem zmd (o : List Int) (k : Int) : accR g p (o ++ [k]) = accR g p o ∨ accR g p (o ++ [k]) = accR g p o ++ [k]:=by
 by_cases h : zap g p (zar (accR g p o ++ [k]))
 ·exact .inr (zb2 h)
 ·exact .inl (zfw h)
theorem zdm : ∀ (n : Nat) (o : List Int),o.length = n → (accR g p o).Sublist o
 | 0,o,h=>by
   obtain rfl:=List.eq_nil_of_length_eq_zero h
   exact List.nil_sublist _
 | n + 1,o,h=>by
   have hne : o ≠ []:=fun e=>by rw [e] at h; cases h
   rw [← List.dropLast_concat_getLast hne]
   have ih:=zdm n o.dropLast (by rw [List.length_dropLast,h]; rfl)
   rcases zmd (g:=g) (p:=p) o.dropLast (o.getLast hne) with e | e
   ·rw [e]; exact ih.trans (List.sublist_append_left _ _)
   ·rw [e]; exact ih.append (List.Sublist.refl _)
theorem zcz {o : List Int} {x : Int} (h : x ∈ accR g p o) : x ∈ o:=(zdm _ o rfl).subset h
theorem zoe (o : List Int) : (accR g p o).length ≤ o.length:=(zdm _ o rfl).length_le
open Classical in
noncomputable def zdf (N : Nat) (A : List Ed) : List Int:=((List.range N).map fun k : Nat=>(k : Int)).filter fun k=>decide (∀ S : Int → Bool,S 0 = true → S 1 = false → capS S A = maxF N A → S k = true)
theorem zor {N : Nat} {A : List Ed} {f D : List Int} {by_ : Int → Stp} (hn : zdK N A) (hf : zaB N A f) (hm : ∀ f',zaB N A f' → valF A f' ≤ valF A f) (ht : zrg A f D by_) (h0 : (0 : Int) ∈ D) (h1 : (1 : Int) ∉ D) (hc : zfz A f D) :
  ((List.range N).map fun k : Nat=>(k : Int)).filter (fun k=>decide (k ∈ D)) = zdf N A:=by
 unfold zdf
 refine List.filter_congr fun k _=>?_
 rw [decide_eq_decide]
 have hmf:=zgd hf hm
 constructor
 ·intro hk S s0 s1 hS
  exact zkm hn hf ht s0 s1 (hS.trans hmf) k hk
 ·intro h
  have:=h (fun x=>decide (x ∈ D)) (by simpa using h0) (by simpa using h1) (by rw [hmf]; exact (zii hn hf h0 h1 hc).1.symm)
  simpa using this
open Classical in
noncomputable def refS (g : Gr) (p : Pol) (o : List Int) : List Int × List (Int × List Int) :=
 o.foldl (fun s k=>if zap g p (zar (s.1 ++ [k])) then (s.1 ++ [k],s.2) else (s.1,s.2 ++ [(k,zdf (netN g) (netA g p (zar (s.1 ++ [k]))))])) ([],[])
noncomputable def refR (g : Gr) (p : Pol) (o : List Int) : List (Int × List Int):=(refS g p o).2
open Classical in
theorem ziP (o : List Int) (k : Int) : refS g p (o ++ [k]) = if zap g p (zar ((refS g p o).1 ++ [k])) then ((refS g p o).1 ++ [k],(refS g p o).2) else ((refS g p o).1,(refS g p o).2 ++ [(k,zdf (netN g) (netA g p (zar ((refS g p o).1 ++ [k]))))]):=by
 unfold refS
 rw [List.foldl_append]
 rfl
theorem zkO : ∀ (n : Nat) (o : List Int),o.length = n → (refS g p o).1 = accR g p o
 | 0,o,h=>by
   obtain rfl:=List.eq_nil_of_length_eq_zero h
   rfl
 | n + 1,o,h=>by
   have hne : o ≠ []:=fun e=>by rw [e] at h; cases h
   rw [← List.dropLast_concat_getLast hne]
   have ih:=zkO n o.dropLast (by rw [List.length_dropLast,h]; rfl)
   rw [ziP,ih]
   split
   ·rename_i h1
    rw [zb2 h1]
   ·rename_i h1
    rw [zfw h1]
theorem zdo {o : List Int} {k : Int} (h : zap g p (zar (accR g p o ++ [k]))) : refR g p (o ++ [k]) = refR g p o:=by
 unfold refR
 rw [ziP,zkO _ o rfl,if_pos h]
theorem zeO {o : List Int} {k : Int} (h : ¬ zap g p (zar (accR g p o ++ [k]))) : refR g p (o ++ [k]) = refR g p o ++ [(k,zdf (netN g) (netA g p (zar (accR g p o ++ [k]))))]:=by
 unfold refR
 rw [ziP,zkO _ o rfl,if_neg h]
structure zsi (g : Gr) (p : Pol) (acc : List Int) (k : Int) (side : List Int) : Prop where
 no : ¬ zap g p (zar (acc ++ [k]))
 ok : zcn ⟨netN g,netA g p (zar (acc ++ [k]))⟩ side
 cut : cutV (netA g p (zar (acc ++ [k]))) side = maxF (netN g) (netA g p (zar (acc ++ [k])))
 len : side.length ≤ 130
 eq : side = zdf (netN g) (netA g p (zar (acc ++ [k])))
structure zkK (g : Gr) (p : Pol) (o : List Int) (R : List (Int × List Int)) : Prop where
 all : ∀ i (h : i < o.length),o[i] ∉ accR g p (o.take (i + 1)) → ∃ side,(o[i],side) ∈ R
 right : ∀ r ∈ R,∃ i,∃ h : i < o.length,o[i] = r.1 ∧ zsi g p (accR g p (o.take i)) r.1 r.2
 len : R.length ≤ o.length
 eq : R = refR g p o
theorem zkK.nil : zkK g p [] []:=⟨fun i h=>absurd h (Nat.not_lt_zero _),(fun r h=>nomatch h),Nat.le_refl _,rfl⟩
theorem zkK.yes {o : List Int} {k : Int} {R : List (Int × List Int)} (hr : zkK g p o R) (h : zap g p (zar (accR g p o ++ [k]))) : zkK g p (o ++ [k]) R:=by
 refine ⟨fun i hi hn=>?_,fun r hr'=>?_,Nat.le_trans hr.len (by simp),by rw [zdo h]; exact hr.eq⟩
 ·rw [List.length_append,List.length_singleton] at hi
  by_cases hio : i < o.length
  ·rw [List.getElem_append_left hio] at hn ⊢
   rw [List.take_append_of_le_length (by omega)] at hn
   exact hr.all i hio hn
  ·obtain rfl : i = o.length:=by omega
   refine absurd ?_ hn
   rw [List.take_of_length_le (by simp),zb2 h]
   simp
 ·obtain ⟨i,hi,h1,h2⟩:=hr.right r hr'
  refine ⟨i,by simp; omega,by rw [List.getElem_append_left hi]; exact h1,?_⟩
  rw [List.take_append_of_le_length (by omega)]
  exact h2
theorem zkK.no {o : List Int} {k : Int} {R : List (Int × List Int)} {side : List Int} (hr : zkK g p o R) (h : zsi g p (accR g p o) k side) : zkK g p (o ++ [k]) (R ++ [(k,side)]):=by
 refine ⟨fun i hi hn=>?_,fun r hr'=>?_,by have:=hr.len; simp; omega,by rw [zeO h.no,← hr.eq,← h.eq]⟩
 ·rw [List.length_append,List.length_singleton] at hi
  by_cases hio : i < o.length
  ·rw [List.getElem_append_left hio] at hn ⊢
   rw [List.take_append_of_le_length (by omega)] at hn
   obtain ⟨s,hs⟩:=hr.all i hio hn
   exact ⟨s,List.mem_append_left _ hs⟩
  ·obtain rfl : i = o.length:=by omega
   exact ⟨side,by simp⟩
 ·rcases List.mem_append.1 hr' with h3 | h3
  ·obtain ⟨i,hi,h1,h2⟩:=hr.right r h3
   refine ⟨i,by simp; omega,by rw [List.getElem_append_left hi]; exact h1,?_⟩
   rw [List.take_append_of_le_length (by omega)]
   exact h2
  ·rw [List.mem_singleton] at h3
   subst h3
   refine ⟨o.length,by simp,by simp,?_⟩
   rw [List.take_append_of_le_length (Nat.le_refl _),List.take_length]
   exact h
def inD (D : List Int) (n : Nat) : List Int:=((List.range n).map fun k : Nat=>(k : Int)).filter fun k=>decide (k ∈ D)
theorem zrw (D : List Int) (n : Nat) : inD D (n + 1) = inD D n ++ if (n : Int) ∈ D then [(n : Int)] else []:=by
 unfold inD
 rw [List.range_succ,List.map_append,List.filter_append]
 simp only [List.map_cons,List.map_nil,List.filter_cons,List.filter_nil]
 split <;> simp_all
theorem zre {D : List Int} {n : Nat} {x : Int} : x ∈ inD D n ↔ (0 ≤ x ∧ x < n) ∧ x ∈ D:=by
 unfold inD
 rw [List.mem_filter,List.mem_map]
 constructor
 ·rintro ⟨⟨k,hk,rfl⟩,h⟩
  have:=List.mem_range.1 hk
  exact ⟨by omega,by simpa using h⟩
 ·rintro ⟨h,h2⟩
  exact ⟨⟨x.toNat,List.mem_range.2 (by omega),by omega⟩,by simpa using h2⟩
theorem zrq (D : List Int) (n : Nat) : (inD D n).Pairwise (· < ·):=by
 unfold inD
 refine List.Pairwise.filter _ ?_
 rw [List.pairwise_map]
 exact List.pairwise_lt_range.imp fun h=>by omega
theorem zsF (D : List Int) (n : Nat) : (inD D n).length ≤ n:=by
 unfold inD
 refine Nat.le_trans (List.length_filter_le ..) (by simp)
theorem zam.k2n {rs : List (Nat × Option (Bool × Nat))} {st : St} {vs : List AV} {res : AV} {e0 e1 e : Ent} (i : Nat) (hi : 2 ≤ i) (h1 : zeR st rs = some vs) (hw : Wk (conv [(0,0),(1,1),(i,2)] [] st.hp 4 (resV vs)) res)
  (h0 : (st.hp 0).map (zax [(0,0),(1,1),(i,2)] [] st.hp 4) = some e0) (h2 : (st.hp 1).map (zax [(0,0),(1,1),(i,2)] [] st.hp 4) = some e1) (he : (st.hp i).map (zax [(0,0),(1,1),(i,2)] [] st.hp 4) = some e) : zam rs 2 st res [some e0,some e1,some e]:=by
 have e2 : List.range 2 ++ [i] = [0,1,i]:=rfl
 refine ⟨vs,h1,[i],[],?_,by simpa using hi,by simp,?_,?_⟩
 ·rw [e2]
  simp
  omega
 ·rw [e2]
  exact hw
 ·rw [e2]
  show [_,_,_] = _
  have h0' : Option.map (zax (([0,1,i] : List Nat).zipIdx) [] st.hp 4) (st.hp 0) = some e0:=h0
  have h2' : Option.map (zax (([0,1,i] : List Nat).zipIdx) [] st.hp 4) (st.hp 1) = some e1:=h2
  have he' : Option.map (zax (([0,1,i] : List Nat).zipIdx) [] st.hp 4) (st.hp i) = some e:=he
  simp only [List.map_cons,List.map_nil,h0',h2',he']
theorem zam.k2 {rs : List (Nat × Option (Bool × Nat))} {st : St} {vs : List AV} {res : AV} {e0 e1 : Ent} (h1 : zeR st rs = some vs) (hw : Wk (conv [(0,0),(1,1)] [] st.hp 4 (resV vs)) res)
  (h0 : (st.hp 0).map (zax [(0,0),(1,1)] [] st.hp 4) = some e0) (h2 : (st.hp 1).map (zax [(0,0),(1,1)] [] st.hp 4) = some e1) : zam rs 2 st res [some e0,some e1] :=
 ⟨vs,h1,[],[],by decide,by simp,by simp,hw,by
  show [_,_] = _
  have h0' : Option.map (zax ((List.range 2 ++ [] : List Nat).zipIdx) [] st.hp 4) (st.hp 0) = some e0:=h0
  have h2' : Option.map (zax ((List.range 2 ++ [] : List Nat).zipIdx) [] st.hp 4) (st.hp 1) = some e1:=h2
  simp only [h0',h2']⟩
set_option maxRecDepth 100000 in
theorem zkX {N : Nat} {D b : List Int} {R : List (List AV)} (hR : MapF R (camF D b)) (k : Int) : zaj Tryz.prog zaH [.I k,.pt 0 0 0] [⟨1,[[.mp 1]],0⟩,⟨0,R,0⟩] (.B (decide (k ∈ D))) [some ⟨1,[[.mp 1]],0⟩,some ⟨0,R,0⟩]:=by
 refine zig.acalls (Nat.le_of_ble_eq_true rfl) (Nat.le_of_ble_eq_true rfl) (Nat.le_refl _) ?_
 show awp _ 2 _ _ ⟨13,[(0,.I k),(1,.pt 0 0 0)],[(0,some ⟨1,[[.mp 1]],0⟩),(1,some ⟨0,R,0⟩)],16⟩
 have hfind:=hR.is.find
 have hsome:=zf9 D b k
 have hgd : ∃ u v,(camF D b k).getD (toAV (Value.agg #[Value.int IntKind.i64 0,Value.bool false])) = .agg [.sc u,.sc v]:=by
  cases hc : camF D b k with
  | none=>exact ⟨_,_,zn7⟩
  | some x =>
    obtain ⟨u,v,rfl⟩:=ze5 _ _ _ _ hc
    exact ⟨u,v,rfl⟩
 obtain ⟨u,v,huv⟩:=hgd
 refine rk (s:=?s1) [0,1] [0,1] rfl ?o1 ?q1
 case o1=>simp; rfl
 refine zab ⟨13,[(5,.B (decide (k ∈ D)))],[(0,some ⟨1,[[.mp 1]],0⟩),(1,some ⟨0,R,0⟩)],200⟩ rfl ?_ ?_
 ·simp [hfind,hsome,huv]
  exact Le.go [(0,0),(1,1)] [] rfl rfl (by simp) (by simp [hR.conv'])
 refine zab ⟨13,[(3,.B (decide (k ∈ D)))],[(0,some ⟨1,[[.mp 1]],0⟩),(1,some ⟨0,R,0⟩)],300⟩ rfl ?_ ?_
 ·simp
  exact Le.go [(0,0),(1,1)] [] rfl rfl (by simp) (by simp [hR.conv'])
 refine zag ?_
 exact ⟨.inr rfl,zam.k2 rfl (by simp) (by simp) (by simp [hR.conv'])⟩
set_option maxRecDepth 100000 in
set_option maxHeartbeats 1000000 in
theorem zqt {D b : List Int} {R : List (List AV)} (hR : MapF R (camF D b)) (N : Nat) (hN : N ≤ 1000000) :
  zaj Tryz.prog zbN [.I N,.fn (.func zaH) [] [.pt 0 0 0]] [⟨1,[[.mp 1]],0⟩,⟨0,R,0⟩] (.rs 2 0 (inD D N).length) [some ⟨1,[[.mp 1]],0⟩,some ⟨0,R,0⟩,some ⟨1,zah (inD D N),0⟩]:=by
 refine zhI.acalls (Nat.le_of_ble_eq_true rfl) (Nat.le_of_ble_eq_true rfl) (by simp) ?_
 show awp _ 2 _ _ ⟨20,[(0,.I N),(1,.fn (.func zaH) [] [.pt 0 0 0])],[(0,some ⟨1,[[.mp 1]],0⟩),(1,some ⟨0,R,0⟩)],16⟩
 refine zab ⟨20,[(0,.I N),(1,.fn (.func zaH) [] [.pt 0 0 0])],[(0,some ⟨1,[[.mp 1]],0⟩),(1,some ⟨0,R,0⟩)],24⟩ rfl ?_ ?_
 ·simp
  exact Le.go [(0,0),(1,1)] [] rfl rfl (by simp) (by simp [hR.conv'])
 refine zab ⟨20,[(0,.I N),(1,.fn (.func zaH) [] [.pt 0 0 0]),(5,.rs 50 0 0)],[(0,some ⟨1,[[.mp 1]],0⟩),(1,some ⟨0,R,0⟩),(50,some ⟨1,[],0⟩)],100⟩ rfl ?_ ?_
 ·simp
  refine Le.lst [(0,0),(1,1)] [] [(50,1)] rfl (by simp) (by simp) (by simp) (by simp) (by simp) (by simp) (by simp) (by simp [Up,conv]) ?_
  simp [hR.conv']
  exact ⟨zaG.rfl' (Nat.zero_le _),zaG.rfl' (Nat.zero_le _)⟩
 refine zaa ?_
 refine zab ⟨20,[(1,.fn (.func zaH) [] [.pt 0 0 0]),(5,.rs 50 0 0),(7,.I N),(8,.I 0)],[(0,some ⟨1,[[.mp 1]],0⟩),(1,some ⟨0,R,0⟩),(50,some ⟨1,[],0⟩)],200⟩ rfl ?_ ?_
 ·simp
  exact Le.go [(0,0),(1,1),(50,50)] [] rfl rfl (by simp [conv]) (by simp [hR.conv'])
 refine zaf ?_
 refine zao (ι:=Nat) (fun k=>⟨20,[(1,.fn (.func zaH) [] [.pt 0 0 0]),(5,.rs 50 0 (inD D k).length),(7,.I N),(8,.I k)],[(0,some ⟨1,[[.mp 1]],0⟩),(1,some ⟨0,R,0⟩),(50,some ⟨1,zah (inD D k),0⟩)],200⟩) (fun k=>k ≤ N) (fun k=>N - k) 0 (Nat.zero_le _) (Le.go [(0,0),(1,1),(50,50)] [] rfl rfl (by simp [conv,inD]) (by simp [hR.conv',inD])) ?_
 intro k hk
 have hwl:=zsF D k
 refine zab ⟨20,[(1,.fn (.func zaH) [] [.pt 0 0 0]),(5,.rs 50 0 (inD D k).length),(7,.I N),(8,.I k),(9,.B (decide (k < N)))],[(0,some ⟨1,[[.mp 1]],0⟩),(1,some ⟨0,R,0⟩),(50,some ⟨1,zah (inD D k),0⟩)],300⟩ rfl ?_ ?_
 ·simp
  exact Le.go [(0,0),(1,1),(50,50)] [] rfl rfl (by simp [conv]) (by simp [hR.conv',fcd])
 refine zaa ?_
 refine zad _ rfl (fun h=>?_) fun h=>?_
 ·simp at h
  have hw2 : IntKind.i64.wrap ((k : Int) + 1) = (k : Int) + 1:=w64 (by omega) (by omega)
  have hnext:=zrw D k
  refine zae ?_
  refine zaI (ι:=Unit) (fun _=>⟨20,[(1,.fn (.func zaH) [] [.pt 0 0 0]),(5,.rs 50 0 (inD D (k + 1)).length),(7,.I N),(8,.I k)],[(0,some ⟨1,[[.mp 1]],0⟩),(1,some ⟨0,R,0⟩),(50,some ⟨1,zah (inD D (k + 1)),0⟩)],1000⟩) (fun _=>True) ?_ fun _ _=>?_
  ·rw [hnext]
   obtain ⟨W,hW⟩ : ∃ W,W = inD D k:=⟨_,rfl⟩
   rw [← hW] at hwl ⊢
   refine zaf ?_
   refine zab ⟨20,[(1,.fn (.func zaH) [] [.pt 0 0 0]),(5,.rs 50 0 W.length),(6,.I k),(7,.I N),(8,.I k)],[(0,some ⟨1,[[.mp 1]],0⟩),(1,some ⟨0,R,0⟩),(50,some ⟨1,zah W,0⟩)],400⟩ rfl ?_ ?_
   ·simp
    exact Le.go [(0,0),(1,1),(50,50)] [] rfl rfl (by simp [conv]) (by simp [hR.conv',fcd])
   refine zab ⟨20,[(1,.fn (.func zaH) [] [.pt 0 0 0]),(5,.rs 50 0 W.length),(6,.I k),(7,.I N),(8,.I k),(13,.B (decide ((k : Int) ∈ D)))],[(0,some ⟨1,[[.mp 1]],0⟩),(1,some ⟨0,R,0⟩),(50,some ⟨1,zah W,0⟩)],500⟩ rfl ?_ ?_
   ·simp
    refine zj9 (i:=0) (j:=1) (by decide) rfl rfl (by simp) (by simp [hR.conv']) (zkX (N:=N) hR k) (by simp) (by simp) ?_
    simp [hR.conv']
    exact Le.go [(0,0),(1,1),(50,50)] [] rfl rfl (by simp [conv]) (by simp [hR.conv',fcd])
   refine zad _ rfl (fun h5=>?_) fun h5=>?_
   ·rw [decide_eq_true_eq] at h5
    rw [if_pos h5]
    have hmw : ∀ g : Int → List AV,List.take W.length (List.map g W) = List.map g W:=fun g=>List.take_of_length_le (by simp)
    refine zav rfl ?_
    simp [hmw]
    exact ⟨by omega,by omega,Le.go [(0,0),(1,1),(524,50)] [] rfl rfl (by simp [conv]) (by simp [hR.conv',fcd])⟩
   ·rw [decide_eq_false_iff_not] at h5
    rw [if_neg h5,List.append_nil]
    refine zae ?_
    exact ⟨(),trivial,Le.go [(0,0),(1,1),(50,50)] [] rfl rfl (by simp [conv]) (by simp [hR.conv',fcd])⟩
  refine zav rfl ?_
  simp [hw2]
  exact ⟨k + 1,by omega,by omega,Le.go [(0,0),(1,1),(50,50)] [] rfl rfl (by simp [conv,hw2]) (by simp [hR.conv',fcd])⟩
 simp at h
 obtain rfl : k = N:=by omega
 refine zan ?_
 refine hit ?_
 refine zab ⟨20,[(4,.rs 50 0 (inD D k).length)],[(0,some ⟨1,[[.mp 1]],0⟩),(1,some ⟨0,R,0⟩),(50,some ⟨1,zah (inD D k),0⟩)],400⟩ rfl ?_ ?_
 ·simp
  exact Le.go [(0,0),(1,1),(50,50)] [] rfl rfl (by simp) (by simp [hR.conv',fcd])
 refine zag ?_
 exact ⟨.inr rfl,zam.k2n 50 (by omega) rfl (by simp) (by simp) (by simp [hR.conv']) (by simp [fcd])⟩
theorem WayA.last {A : List Ed} : ∀ {l : List Nat} {u w : Int},WayA A u l w → (u :: metA A l)[l.length]? = some w
 | [],u,w,h=>by
   have : u = w:=h
   simp [metA,this]
 | i :: l,u,w,h=>by
   have:=WayA.last h.2.2
   simpa [metA] using this
structure BalF (N : Nat) (A : List Ed) (f : List Int) : Prop where
 len : f.length = A.length
 nonneg : ∀ i,0 ≤ f.getD i 0
 bal : ∀ x : Int,2 ≤ x → x < N → exF A f x = 0
variable {N : Nat} {A : List Ed} {f g : List Int}
theorem zaB.balF (h : zaB N A f) : BalF N A f:=by
 have hf:=zc2.1 h.fit
 refine ⟨hf.1,fun i=>?_,fun x h2 h3=>?_⟩
 ·by_cases hi : i < A.length
  ·exact (hf.2 i hi).1
  ·rw [List.getD_eq_getElem?_getD,List.getElem?_eq_none (by rw [hf.1]; omega)]
   exact Int.le_refl _
 ·have:=h.bal x.toNat (by omega) (by omega)
  rw [Int.toNat_of_nonneg (by omega)] at this
  unfold exF
  omega
theorem zji.balF (hf : BalF N A f) {l : List Nat} (h : zji A f g l 1) : BalF N A g ∧ exF A g 0 = exF A f 0 - 1:=by
 refine ⟨⟨h.len,h.nonneg,fun x h2 h3=>?_⟩,?_⟩
 ·rw [h.ex x,hf.bal x h2 h3,if_neg (by omega),if_neg (by omega)]
  rfl
 ·rw [h.ex 0,if_pos rfl,if_neg (by decide)]
  omega
structure zkg (N : Nat) (A : List Ed) (f g : List Int) (W : List (List Nat)) : Prop where
 bal : BalF N A g
 ex : exF A g 0 = exF A f 0 - W.length
 ways : ∀ w ∈ W,WayA A 0 w 1 ∧ (metA A w).Nodup
 used : ∀ i,g.getD i 0 + (sumN (List.count i) W : Int) ≤ f.getD i 0
theorem zkg.nil (hf : BalF N A f) : zkg N A f f []:=⟨hf,by simp,by simp,fun i=>by simp [sumN]⟩
theorem zkg.more {g' : List Int} {W : List (List Nat)} {l : List Nat} (h : zkg N A f g W) (hl : zji A g g' l 1) : zkg N A f g' (W ++ [l]):=by
 obtain ⟨b1,b2⟩:=hl.balF h.bal
 refine ⟨b1,by rw [b2,h.ex,List.length_append,List.length_singleton]; omega,fun w hw=>?_,fun i=>?_⟩
 ·rcases List.mem_append.1 hw with hw | hw
  ·exact h.ways w hw
  ·rw [List.mem_singleton] at hw
   subst hw
   exact ⟨hl.way,(List.nodup_cons.1 hl.met).2⟩
 ·have h1:=h.used i
  have h2:=hl.used i
  have h3 : sumN (List.count i) (W ++ [l]) = sumN (List.count i) W + l.count i:=by unfold sumN; simp
  rw [h3]
  omega
theorem zik (S : Int → Bool) : ∀ A : List Ed,capS S A = (A.map fun e=>if S e.f = true ∧ S e.t = false then e.v else 0).sum
 | []=>rfl
 | e :: A=>by
   have ih:=zik S A
   unfold capS at ih ⊢
   simp only [List.map_cons,sumF,List.sum_cons]
   rw [ih]
theorem zil {α : Type} {h : α → Int} : ∀ {l : List α},(∀ x ∈ l,h x = 0) → (l.map h).sum = 0
 | [],_=>rfl
 | x :: l,hx=>by
   rw [List.map_cons,List.sum_cons,hx x (List.mem_cons_self ..),zil fun y hy=>hx y (List.mem_cons_of_mem _ hy)]
   rfl
theorem zqs {α : Type} {h : α → Int} : ∀ {l : List α},(∀ x ∈ l,h x ≤ 1) → (l.map h).sum ≤ l.length
 | [],_=>Int.le_refl _
 | x :: l,hx=>by
   have ih:=zqs (l:=l) fun y hy=>hx y (List.mem_cons_of_mem _ hy)
   have h1:=hx x (List.mem_cons_self ..)
   rw [List.map_cons,List.sum_cons,List.length_cons]
   omega
theorem zfK {g : Gr} {p : Pol} {ks : List Int} (hg : GrOk g) (hp : zaZ g.size p) (hk : ∀ x ∈ ks,0 ≤ x ∧ x < g.size) : maxF (netN g) (netA g p ks) ≤ ks.length:=by
 have hno:=zdJ hg hp hk
 obtain ⟨f,hf,hv⟩:=zoi hno
 rw [← hv]
 refine Int.le_trans (zef (S:=fun x=>decide (x ≠ 1)) hno hf (by simp) (by simp)) ?_
 rw [zik]
 simp only [netA,zaT,List.map_append,List.sum_append,List.map_map]
 have hle:=zhC hg p.lv
 rw [zil,zil,zil (l:=(zai g p.lv).edges.filter _)]
 ·have h1:=zqs (h:=(fun e : Ed=>if (decide (e.f ≠ 1)) = true ∧ (decide (e.t ≠ 1)) = false then e.v else 0) ∘ fun x : Int=>(⟨2 + 2 * x,1,1⟩ : Ed)) (l:=ks.filter fun x=>decide (0 < (zaD g p).getD x.toNat 0)) fun x _=>by
   simp only [Function.comp]
   split <;> omega
  have h2:=List.length_filter_le (fun x=>decide (0 < (zaD g p).getD x.toNat 0)) ks
  omega
 ·intro e he
  have:=hle.2 e (List.mem_filter.1 he).1
  simp only [Function.comp]
  rw [if_neg]
  simp
  omega
 ·intro i _
  simp only [Function.comp]
  rw [if_neg]
  simp
  omega
 ·intro x _
  simp only [Function.comp]
  rw [if_neg]
  simp
  omega
theorem zst {N : Nat} {A : List Ed} {f : List Int} (hn : zdK N A) : exF A f 0 = valF A f:=by
 unfold exF valF
 rw [zi4 hn]
 omega
def surG (A : List Ed) (f : List Int) (i : Nat) (x : Int) : Int:=- netG A f i x
variable {N : Nat} {A : List Ed} {f : List Int}
theorem zrF (hl : f.length = A.length) (x : Int) : surG A f A.length x = exF A f x:=by
 unfold surG
 rw [zol hl]
 omega
set_option maxRecDepth 100000 in
set_option maxHeartbeats 4000000 in
theorem zkx (hn : za4 ⟨N,A⟩) (hfl : f.length = A.length) (hfb : ∀ j (h : j < f.length),0 ≤ f[j] ∧ f[j] ≤ 1048576) : zaj Tryz.prog zdk [eN ⟨N,A⟩,ints f] [] (.rs 0 0 N) [some ⟨1,zah (rowR N (exF A f)),0⟩]:=by
 refine zlE.acalls (Nat.le_of_ble_eq_true rfl) (Nat.le_of_ble_eq_true rfl) (Nat.zero_le _) ?_
 show awp _ 0 _ _ ⟨43,[(0,eN ⟨N,A⟩),(1,ints f)],[],16⟩
 obtain ⟨hn0,hn1,hal,hav⟩:=hn
 simp only at hn0 hn1 hal hav
 have hbd:=zhx hfl hfb
 refine rx (s:=?s1) [1,2] [] [16] rfl ?o1 ?q1
 case o1=>simp; rfl
 refine zab ⟨43,[(1,ints f),(2,.pv (nC ⟨N,A⟩)),(5,.rs 48 0 N)],[(48,some ⟨1,zah (rowR N (surG A f 0)),0⟩)],64⟩ rfl ?_ ?_
 ·simp
  refine ⟨by omega,by omega,?_⟩
  have : rowR N (surG A f 0) = List.replicate N 0:=by
   unfold rowR surG
   simp only [zjb]
   simp [List.map_const']
  rw [this]
  exact Le.go [(48,48)] [] rfl rfl (by simp) (by simp)
 refine zaa ?_
 refine zab ⟨43,[(1,ints f),(5,.rs 48 0 N),(12,eEs A),(13,.I A.length),(14,.I 0)],[(48,some ⟨1,zah (rowR N (surG A f 0)),0⟩)],96⟩ rfl ?_ ?_
 ·simp
  exact Le.go [(48,48)] [] rfl rfl (by simp) (by simp [fcd])
 refine zaf ?_
 refine zao (ι:=Nat) (fun i=>⟨43,[(1,ints f),(5,.rs 48 0 N),(12,eEs A),(13,.I A.length),(14,.I i)],[(48,some ⟨1,zah (rowR N (surG A f i)),0⟩)],96⟩) (fun i=>i ≤ A.length) (fun i=>A.length - i) 0 (Nat.zero_le _) (Le.go [(48,48)] [] rfl rfl (by simp) (by simp [fcd])) ?_
 intro i hi
 refine zab ⟨43,[(1,ints f),(5,.rs 48 0 N),(12,eEs A),(13,.I A.length),(14,.I i),(15,.B (decide (i < A.length)))],[(48,some ⟨1,zah (rowR N (surG A f i)),0⟩)],104⟩ rfl ?_ ?_
 ·simp
  exact Le.go [(48,48)] [] rfl rfl (by simp) (by simp [fcd])
 refine zaa ?_
 refine zad _ rfl (fun h5=>?_) fun h5=>?_
 ·simp at h5
  have h8 : i < f.length:=by omega
  have hw1 : IntKind.i64.wrap ((i : Int) + 1) = (i : Int) + 1:=w64 (by omega) (by omega)
  obtain ⟨b1,b3⟩:=hfb i h8
  have heo:=hav _ (List.getElem_mem h5)
  have hsucc:=zjv h5 h8
  have hbe:=fun x=>hbd x i (by omega)
  obtain ⟨e,he⟩ : ∃ e,e = A[i]:=⟨_,rfl⟩
  obtain ⟨w,hw⟩ : ∃ w,w = f[i]:=⟨_,rfl⟩
  rw [← he,← hw] at hsucc
  rw [← hw] at b1 b3
  rw [← he] at heo
  obtain ⟨e1,e2,e3,e4,e5,_⟩:=heo
  have hg1 : A[i]? = some e:=by rw [List.getElem?_eq_getElem h5,he]
  have hg2 : f[i]? = some w:=by rw [List.getElem?_eq_getElem h8,hw]
  have h2N : e.f < (N : Int) ∧ e.t < (N : Int):=by omega
  have h1:=hbe e.f
  have h2:=hbe e.t
  have hwx : IntKind.i64.wrap (surG A f i e.f + w) = surG A f i e.f + w:=w64 (by unfold surG; omega) (by unfold surG; omega)
  have hwy : IntKind.i64.wrap (surG A f i e.t - w) = surG A f i e.t - w:=w64 (by unfold surG; omega) (by unfold surG; omega)
  have hr1:=zdT (N:=N) (g:=surG A f i) (x:=e.f) e1 (by omega)
  have hs1:=zim (N:=N) (g:=surG A f i) (x:=e.f) (v:=surG A f i e.f + w) e1 (by omega)
  obtain ⟨g1,hg1d⟩ : ∃ g1 : Int → Int,g1 = fun y=>if y = e.f then surG A f i e.f + w else surG A f i y:=⟨_,rfl⟩
  rw [← hg1d] at hs1
  have hg1t : g1 e.t = surG A f i e.t:=by rw [hg1d]; exact if_neg fun h=>e5 h.symm
  have hr2:=zdT (N:=N) (g:=g1) (x:=e.t) e3 (by omega)
  rw [hg1t] at hr2
  have hs2:=zim (N:=N) (g:=g1) (x:=e.t) (v:=surG A f i e.t - w) e3 (by omega)
  have hend : (rowR N fun y=>if y = e.t then surG A f i e.t - w else g1 y) = rowR N (surG A f (i + 1)):=zhm fun x=>by
   unfold surG at hg1d ⊢
   rw [hsucc,hg1d]
   simp only
   by_cases h3 : x = e.t
   ·rw [h3,if_pos rfl,if_pos rfl,if_neg e5]
    omega
   ·by_cases h4 : x = e.f
    ·rw [if_neg h3,if_pos h4,if_neg fun h=>h3 h.symm,if_pos h4.symm,h4]
     omega
    ·rw [if_neg h3,if_neg h4,if_neg fun h=>h3 h.symm,if_neg fun h=>h4 h.symm]
     omega
  rw [hend] at hs2
  refine zae ?_
  refine zaa ?_
  refine zaf ?_
  refine zab ⟨43,[(1,ints f),(5,.rs 48 0 N),(6,.I i),(7,.pv (eC e)),(12,eEs A),(13,.I A.length),(14,.I i)],[(48,some ⟨1,zah (rowR N (surG A f i)),0⟩)],152⟩ rfl ?_ ?_
  ·simp [h5,← he]
   exact Le.go [(48,48)] [128] rfl rfl (by simp) (by simp [fcd])
  refine zaw ⟨43,[(1,ints f),(5,.rs 48 0 N),(6,.I i),(7,.pv (eC e)),(12,eEs A),(13,.I A.length),(14,.I i)],[(48,some ⟨1,zah (rowR N g1),0⟩)],400⟩ rfl ?_ ?_
  ·simp [hg2,h8,← hw,hr1,e1,h2N,hwx,za7]
   exact ⟨rfl,Le.go [(48,48)] [] rfl rfl (by simp) (by simp [fcd,← hs1])⟩
  refine zbS rfl ?_
  simp [hg2,h8,← hw,hr2,e3,h2N,hwy,za7]
  refine ⟨rfl,?_⟩
  refine zav rfl ?_
  simp
  exact ⟨i + 1,by omega,by omega,Le.go [(48,48)] [] rfl rfl (by simp [hw1]) (by simp [fcd,← hs2])⟩
 simp at h5
 obtain rfl : i = A.length:=by omega
 refine zan ?_
 refine hit ?_
 have hfin : rowR N (surG A f A.length) = rowR N (exF A f):=zhm fun x=>zrF hfl x
 rw [hfin]
 refine zab ⟨43,[(4,.rs 48 0 N)],[(48,some ⟨1,zah (rowR N (exF A f)),0⟩)],200⟩ rfl ?_ ?_
 ·simp
  exact Le.go [(48,48)] [] rfl rfl (by simp) (by simp [fcd])
 refine zag ?_
 exact ⟨.inr rfl,zam.out [48] [] rfl (by simp) (by simp) (by simp) (by simp [fcd])⟩
def zpW (A : List Ed) (f : List Int) (i : Nat) : Prop:=0 ≤ f.getD i 0 ∧ f.getD i 0 ≤ (arcD A i).v
theorem zfJ : zaB N A f ↔ f.length = A.length ∧ (∀ i,i < A.length → zpW A f i) ∧ ∀ x : Nat,2 ≤ x → x < N → exF A f x = 0:=by
 constructor
 ·intro h
  have h1:=zc2.1 h.fit
  exact ⟨h1.1,h1.2,fun x h2 h3=>by have:=h.bal x h2 h3; unfold exF; omega⟩
 ·rintro ⟨h1,h2,h3⟩
  exact ⟨zc2.2 ⟨h1,h2⟩,fun x h4 h5=>by have:=h3 x h4 h5; unfold exF at this; omega⟩
theorem zsQ (g : Int → Int) (N : Nat) : ((rowR N g).drop 2).any (fun x=>!decide (x = 0)) = true ↔ ¬ ∀ x : Nat,2 ≤ x → x < N → g x = 0:=by
 rw [List.any_eq_true]
 constructor
 ·rintro ⟨y,hy,h⟩ hall
  obtain ⟨j,hj,rfl⟩:=List.mem_iff_getElem.1 hy
  rw [List.length_drop,zex] at hj
  have:=hall (2 + j) (by omega) (by omega)
  simp [rowR] at h
  exact h (by simpa using this)
 ·intro h
  obtain ⟨x,hx⟩:=Classical.not_forall.1 h
  obtain ⟨h1,hx⟩:=Classical.not_imp.1 hx
  obtain ⟨h2,hx⟩:=Classical.not_imp.1 hx
  refine ⟨g x,List.mem_iff_getElem.2 ⟨x - 2,by rw [List.length_drop,zex]; omega,?_⟩,by simpa using hx⟩
  simp [rowR,show 2 + (x - 2) = x by omega]
theorem zie (x : Int) : zaj Tryz.prog zcZ [.I x] [] (.B (!decide (x = 0))) []:=by
 refine zjL.acalls (Nat.le_of_ble_eq_true rfl) (Nat.le_of_ble_eq_true rfl) (Nat.le_refl _) ?_
 show awp _ 0 _ _ ⟨5,[(0,.I x)],[],16⟩
 refine rx (s:=?s1) [0] [] [] rfl ?o1 ?q1
 case o1=>simp; rfl
 refine zab ⟨5,[(2,.B (!decide (x = 0)))],[],100⟩ rfl ?_ ?_
 ·simp
  exact Le.go [] [] rfl rfl (by simp <;> exact wkB (by rw [Bool.eq_iff_iff]; simp)) (by simp)
 refine zag ?_
 exact ⟨.inr rfl,zam.one (by simp)⟩
set_option maxRecDepth 100000 in
set_option maxHeartbeats 4000000 in
open Classical in
theorem zgS (hn : za4 ⟨N,A⟩) (hl : f.length ≤ 1099511627776) : zaj Tryz.prog zeN [eN ⟨N,A⟩,ints f] [] (.B (decide (zaB N A f))) []:=by
 refine znK.acalls (Nat.le_of_ble_eq_true rfl) (Nat.le_of_ble_eq_true rfl) (Nat.le_refl _) ?_
 show awp _ 0 _ _ ⟨41,[(0,eN ⟨N,A⟩),(1,ints f)],[],16⟩
 have hchk:=zez ⟨N,A⟩ (by have:=hn.2.2.1; simp only at this ⊢; omega)
 rw [if_pos hn] at hchk
 have hn':=hn
 obtain ⟨hn0,hn1,hal,hav⟩:=hn
 simp only at hn0 hn1 hal hav
 refine rx (s:=?s1) [1,2] [] [16] rfl ?o1 ?q1
 case o1=>simp; rfl
 refine zaa ?_
 refine zab ⟨41,[(1,ints f),(2,.pv (nC ⟨N,A⟩)),(17,.B (!decide (f.length = A.length)))],[],120⟩ rfl ?_ ?_
 ·simp
  refine zal hchk (by simp) ?_
  simp
  exact Le.go [] [] rfl rfl (by simp <;> exact wkB (by rw [Bool.eq_iff_iff]; simp <;> omega)) (by simp)
 refine zad _ rfl (fun h3=>?_) fun h3=>?_
 ·simp at h3
  refine rx (s:=?s4) [4] [] [] rfl ?o4 ?q4
  case o4=>simp; rfl
  refine zag ?_
  have hno : ¬ zaB N A f:=fun h=>h3 (zfJ.1 h).1
  exact ⟨.inr rfl,zam.one (by simp [hno])⟩
 simp at h3
 refine zae ?_
 refine zaa ?_
 refine rx (s:=?s5) [1,2,19,20,21] [] [] rfl ?o5 ?q5
 case o5=>simp; rfl
 refine zaf ?_
 refine zao (ι:=Nat) (fun i=>⟨41,[(1,ints f),(2,.pv (nC ⟨N,A⟩)),(19,eEs A),(20,.I A.length),(21,.I i)],[],152⟩) (fun i=>i ≤ A.length ∧ ∀ k,k < i → zpW A f k) (fun i=>A.length - i) 0 (by simp) (Le.go [] [] rfl rfl (by simp) (by simp)) ?_
 rintro i ⟨hi,hp⟩
 refine rx (s:=?s6) [1,2,19,20,21,22] [] [] rfl ?o6 ?q6
 case o6=>simp; rfl
 refine zaa ?_
 refine zad _ rfl (fun h7=>?_) fun h7=>?_
 ·simp at h7
  have hw1 : IntKind.i64.wrap ((i : Int) + 1) = (i : Int) + 1:=w64 (by omega) (by omega)
  have hif : i < f.length:=by omega
  obtain ⟨e,he⟩ : ∃ e,e = A[i]:=⟨_,rfl⟩
  obtain ⟨w,hw⟩ : ∃ w,w = f[i]:=⟨_,rfl⟩
  have hfa : zpW A f i ↔ 0 ≤ w ∧ w ≤ e.v:=by
   unfold zpW arcD
   rw [List.getD_eq_getElem?_getD,List.getElem?_eq_getElem hif,Option.getD_some,List.getD_eq_getElem?_getD,List.getElem?_eq_getElem h7,Option.getD_some,he,hw]
  refine zae ?_
  refine zaa ?_
  refine zaf ?_
  refine zab ⟨41,[(1,ints f),(2,.pv (nC ⟨N,A⟩)),(5,.I i),(6,.pv (eC e)),(19,eEs A),(20,.I A.length),(21,.I i)],[],300⟩ rfl ?_ ?_
  ·simp [h7,← he]
   exact Le.go [] [184] rfl rfl (by simp) (by simp)
  refine zaw ⟨41,[(1,ints f),(2,.pv (nC ⟨N,A⟩)),(19,eEs A),(20,.I A.length),(21,.I i),(33,.B (!decide (0 ≤ w ∧ w ≤ e.v)))],[],400⟩ rfl ?_ ?_
  ·simp [hif,← hw]
   refine zal (zbp w 0 e.v) (by simp) ?_
   simp
   exact ⟨rfl,Le.go [] [] rfl rfl (by simp <;> exact wkB (by rw [Bool.eq_iff_iff]; simp)) (by simp)⟩
  refine zad _ rfl (fun h10=>?_) fun h10=>?_
  ·have h10' : ¬ (0 ≤ w ∧ w ≤ e.v):=by simp at h10; omega
   refine rx (s:=?s11) [4] [] [] rfl ?o11 ?q11
   case o11=>simp; rfl
   refine zag ?_
   have hno : ¬ zaB N A f:=fun h=>h10' (hfa.1 ((zfJ.1 h).2.1 i h7))
   exact ⟨.inr rfl,zam.one (by simp [hno])⟩
  have h10' : 0 ≤ w ∧ w ≤ e.v:=by simpa using h10
  refine zae ?_
  refine zav rfl ?_
  simp
  refine ⟨i + 1,⟨by omega,fun k hk=>?_⟩,by omega,Le.go [] [] rfl rfl (by simp [hw1]) (by simp)⟩
  rcases Nat.lt_succ_iff_lt_or_eq.1 hk with h | h
  ·exact hp k h
  ·rw [h]; exact hfa.2 h10'
 simp at h7
 obtain rfl : i = A.length:=by omega
 have hfb : ∀ j (h : j < f.length),0 ≤ f[j] ∧ f[j] ≤ 1048576:=fun j hj=>by
  have h1:=hp j (by omega)
  unfold zpW at h1
  have e1 : f.getD j 0 = f[j]:=by rw [List.getD_eq_getElem?_getD,List.getElem?_eq_getElem hj,Option.getD_some]
  have e2 : arcD A j = A[j]'(by omega):=by unfold arcD; rw [List.getD_eq_getElem?_getD,List.getElem?_eq_getElem (by omega),Option.getD_some]
  rw [e1,e2] at h1
  have h2:=(hav _ (List.getElem_mem (show j < A.length by omega))).2.2.2.2.2.2.2.2
  omega
 refine zan ?_
 refine hit ?_
 have hsur:=zkx hn' h3 hfb
 have hcf:=zeV zcZ [] (fun x=>!decide (x = 0)) ((rowR N (exF A f)).drop 2) (by rw [List.length_drop,zex]; omega) (fun ρ sn h k=>by simp) (fun e _=>zie e)
 have hiff : zaB N A f ↔ ((rowR N (exF A f)).drop 2).any (fun x=>!decide (x = 0)) = false:=by
  rw [← Bool.not_eq_true,zsQ,Classical.not_not,zfJ]
  exact ⟨fun h=>h.2.2,fun h=>⟨h3,hp,h⟩⟩
 obtain ⟨l,hld⟩ : ∃ l,l = rowR N (exF A f):=⟨_,rfl⟩
 have hll : l.length = N:=by rw [hld,zex]
 rw [← hld] at hsur hcf hiff
 obtain ⟨b,hb⟩ : ∃ b,b = (l.drop 2).any (fun x=>!decide (x = 0)):=⟨_,rfl⟩
 rw [← hb] at hcf hiff
 refine zab ⟨41,[(4,.B (!b))],[],300⟩ rfl ?_ ?_
 ·simp
  refine za1 hsur (by simp) ?_
  simp
  refine ztW 2 (i:=176) rfl rfl (by omega) ?_
  simp
  have h2N : 2 + (N - 2) ≤ N:=by omega
  refine zhO [176] hcf (by simp [fcd,hll,h2N]; exact List.take_of_length_le (by simp; omega)) (.sc _) ?_
  simp
  exact Le.go [] [] rfl rfl (by simp) (by simp)
 refine zag ?_
 exact ⟨.inr rfl,zam.one (by simp [hiff])⟩
set_option maxRecDepth 100000 in
open Classical in
theorem zgq (hn : za4 ⟨N,A⟩) (hl : f.length ≤ 1099511627776) : zaj Tryz.prog zeo [eN ⟨N,A⟩,ints f] [] (.I (if zaB N A f then valF A f else 0)) []:=by
 refine zm0.acalls (Nat.le_of_ble_eq_true rfl) (Nat.le_of_ble_eq_true rfl) (Nat.le_refl _) ?_
 show awp _ 0 _ _ ⟨14,[(0,eN ⟨N,A⟩),(1,ints f)],[],16⟩
 have hvl:=zgS hn hl
 refine rx (s:=?s1) [1,2] [] [16] rfl ?o1 ?q1
 case o1=>simp; rfl
 refine zaa ?_
 refine rx (s:=?s2) [1,2,8] [] [] rfl ?o2 ?q2
 case o2=>simp; refine zal hvl (by simp) ?_; simp; rfl
 refine zad _ rfl (fun h3=>?_) fun h3=>?_
 ·simp at h3
  refine rx (s:=?s4) [4] [] [] rfl ?o4 ?q4
  case o4=>simp; rfl
  refine zag ?_
  exact ⟨.inr rfl,zam.one (by simp [h3])⟩
 simp at h3
 have h31:=zc2.1 h3.fit
 have hav:=hn.2.2.2
 simp only at hav
 have hfb : ∀ j (h : j < f.length),0 ≤ f[j] ∧ f[j] ≤ 1048576:=fun j hj=>by
  have h1:=h31.2 j (by omega)
  have e1 : f.getD j 0 = f[j]:=by rw [List.getD_eq_getElem?_getD,List.getElem?_eq_getElem hj,Option.getD_some]
  have e2 : arcD A j = A[j]'(by omega):=by unfold arcD; rw [List.getD_eq_getElem?_getD,List.getElem?_eq_getElem (by omega),Option.getD_some]
  rw [e1,e2] at h1
  have h2:=(hav _ (List.getElem_mem (show j < A.length by omega))).2.2.2.2.2.2.2.2
  omega
 have hsur:=zkx hn h31.1 hfb
 have hv:=zst (f:=f) (zfC hn)
 have hn0:=hn.1
 simp only at hn0
 have hr:=zdT (N:=N) (g:=exF A f) (x:=0) (Int.le_refl _) (by omega)
 rw [hv] at hr
 obtain ⟨l,hld⟩ : ∃ l,l = rowR N (exF A f):=⟨_,rfl⟩
 rw [← hld] at hsur hr
 simp only [Int.toNat_zero] at hr
 refine zae ?_
 refine zab ⟨14,[(4,.I (valF A f))],[],300⟩ rfl ?_ ?_
 ·simp
  refine za1 hsur (by simp) ?_
  have h0N : 0 < (N : Int):=by omega
  simp [hr,h0N]
  exact ⟨by omega,Le.go [] [] rfl rfl (by simp) (by simp)⟩
 refine zag ?_
 exact ⟨.inr rfl,zam.one (by simp [h3])⟩
section
variable {N : Nat} {A : List Ed} {f : List Int}
theorem zqY (hn : zdK N A) {s : Stp} (hs : s.1 < A.length) : 0 ≤ stT A s ∧ stT A s < N:=by
 have:=hn.arc _ (zer hs)
 unfold stT
 split <;> omega
theorem Bfs.grow (hn : zdK N A) : ∀ (n : Nat) (D b : List Int),Bfs N A f D b → N - D.length ≤ n → ∃ D' b',Bfs N A f D' b' ∧ zfz A f D'
 | n,D,b,h,hl=>by
   by_cases hc : zfz A f D
   ·exact ⟨D,b,h,hc⟩
   ·unfold zfz at hc
    obtain ⟨s,hs⟩:=Classical.not_forall.1 hc
    obtain ⟨h1,hs⟩:=Classical.not_imp.1 hs
    obtain ⟨h2,hs⟩:=Classical.not_imp.1 hs
    obtain ⟨h3,h4⟩:=Classical.not_imp.1 hs
    have hr:=zqY hn h1
    have hp:=h.push h1 h2 h3 h4 hr.1 hr.2
    have hf:=hp.few
    rw [List.length_append,List.length_singleton] at hf
    match n,hl with
    | 0,hl=>omega
    | n + 1,hl=>exact Bfs.grow hn n _ _ hp (by rw [List.length_append,List.length_singleton]; omega)
theorem znp (hn : zdK N A) {D b : List Int} (hf1 : zaB N A f) (hf2 : ∀ f',zaB N A f' → valF A f' ≤ valF A f) (hb : Bfs N A f D b) : (1 : Int) ∉ D:=fun hm=>by
 obtain ⟨l,hl⟩:=hb.chain hm
 have h1:=hl.push hn hf1 (v:=1) (by omega) fun s hs=>by
  obtain ⟨i,hi,rfl⟩:=List.mem_iff_getElem.1 hs
  have:=(hl.at_ i hi).2.1
  omega
 have h2:=hf2 _ h1.1
 omega
theorem zkL (hn : zdK N A) {S : Int → Bool} (h0 : S 0 = true) (h1 : S 1 = false) : maxF N A ≤ capS S A:=by
 obtain ⟨f,hf,hv⟩:=zoi hn
 rw [← hv]
 exact zef hn hf h0 h1
theorem zih (hn : zdK N A) : ∃ X : Int → Bool,X 0 = true ∧ X 1 = false ∧ capS X A = maxF N A ∧ ∀ S : Int → Bool,S 0 = true → S 1 = false → capS S A = maxF N A → ∀ x,X x = true → S x = true:=by
 obtain ⟨f,hf,hm⟩:=zeJ hn
 obtain ⟨D,b,hb,hc⟩:=Bfs.grow hn N [0] _ (Bfs.start (f:=f) (by have:=hn.two; omega)) (by omega)
 have h1:=znp hn hf hm hb
 have hmf:=zgd hf hm
 refine ⟨fun x=>decide (x ∈ D),by simpa using hb.mem0,by simpa using h1,?_,fun S s0 s1 hS x hx=>?_⟩
 ·rw [hmf]
  exact (zii hn hf hb.mem0 h1 hc).1.symm
 ·exact zkm hn hf hb.tree s0 s1 (hS.trans hmf) x (by simpa using hx)
end
def zpS (g : Gr) (p : Pol) (S : Int → Bool) : Int:=capS S (netA g p [])
def zeq (S : Int → Bool) (ks : List Int) : Int:=(ks.map fun k=>if S (2 + 2 * k) = true then 1 else 0).sum
variable {g : Gr} {p : Pol}
def zq2 (g : Gr) (p : Pol) (k : Int) : Prop:=0 < (zaD g p).getD k.toNat 0
theorem zcP {S : Int → Bool} (h1 : S 1 = false) {ks : List Int} (hk : ∀ k ∈ ks,zq2 g p k) : capS S (netA g p ks) = zpS g p S + zeq S ks:=by
 have hf : ks.filter (fun x=>decide (0 < (zaD g p).getD x.toNat 0)) = ks:=List.filter_eq_self.2 fun x hx=>decide_eq_true (hk x hx)
 unfold zpS zeq
 simp only [zik,netA,zaT,List.map_append,List.sum_append,List.map_map,hf]
 have e : ((fun e : Ed=>if S e.f = true ∧ S e.t = false then e.v else 0) ∘ fun x : Int=>(⟨2 + 2 * x,1,1⟩ : Ed)) = fun k=>if S (2 + 2 * k) = true then 1 else 0:=by
  funext k
  simp only [Function.comp,h1,and_true]
 rw [e]
 simp only [List.filter_nil,List.map_nil,List.sum_nil]
 omega
theorem zhQ (S : Int → Bool) : ∀ ks : List Int,0 ≤ zeq S ks
 | []=>Int.le_refl _
 | k :: ks=>by
   have ih:=zhQ S ks
   unfold zeq at ih ⊢
   simp only [List.map_cons,List.sum_cons]
   split <;> omega
theorem zoz (S : Int → Bool) : ∀ ks : List Int,zeq S ks ≤ ks.length
 | []=>Int.le_refl _
 | k :: ks=>by
   have ih:=zoz S ks
   unfold zeq at ih ⊢
   simp only [List.map_cons,List.sum_cons,List.length_cons]
   split <;> omega
theorem zhR (S : Int → Bool) (a b : List Int) : zeq S (a ++ b) = zeq S a + zeq S b:=by simp [zeq]
theorem zht (S : Int → Bool) {a b : List Int} (h : a.Perm b) : zeq S a = zeq S b:=by
 unfold zeq
 induction h with
 | nil=>rfl
 | cons x _ ih=>simp only [List.map_cons,List.sum_cons,ih]
 | swap x y l=>simp only [List.map_cons,List.sum_cons]; omega
 | trans _ _ ih1 ih2=>exact ih1.trans ih2
structure zaX (g : Gr) (p : Pol) (ks : List Int) : Prop where
 rng : ∀ x ∈ ks,0 ≤ x ∧ x < g.size
 reach : ∀ x ∈ ks,zq2 g p x
theorem zaX.sub {a b : List Int} (h : zaX g p b) (hs : ∀ x ∈ a,x ∈ b) : zaX g p a:=⟨fun x hx=>h.rng x (hs x hx),fun x hx=>h.reach x (hs x hx)⟩
theorem zaX.nil : zaX g p []:=⟨fun _ h=>(List.not_mem_nil h).elim,fun _ h=>(List.not_mem_nil h).elim⟩
theorem zaX.append {a b : List Int} (h : zaX g p a) (h' : zaX g p b) : zaX g p (a ++ b) :=
 ⟨fun x hx=>(List.mem_append.1 hx).elim (h.rng x) (h'.rng x),fun x hx=>(List.mem_append.1 hx).elim (h.reach x) (h'.reach x)⟩
theorem zcj (hg : GrOk g) (hp : zaZ g.size p) {ks : List Int} (hk : zaX g p ks) : zap g p ks ↔ ∀ S : Int → Bool,S 0 = true → S 1 = false → (ks.length : Int) ≤ zpS g p S + zeq S ks:=by
 have hn:=zdJ hg hp hk.rng
 unfold zap
 constructor
 ·intro h S h0 h1
  rw [← zcP h1 hk.reach,← h]
  exact zkL hn h0 h1
 ·intro h
  obtain ⟨X,h0,h1,hc,_⟩:=zih hn
  have h2:=h X h0 h1
  rw [← zcP h1 hk.reach,hc] at h2
  have h3:=zfK (p:=p) hg hp hk.rng
  omega
theorem zap.perm (hg : GrOk g) (hp : zaZ g.size p) {a b : List Int} (ha : zaX g p a) (h : zap g p a) (hp' : a.Perm b) : zap g p b:=by
 have hb : zaX g p b:=ha.sub fun x hx=>hp'.mem_iff.2 hx
 rw [zcj hg hp hb]
 rw [zcj hg hp ha] at h
 intro S h0 h1
 rw [← zht S hp',← hp'.length_eq]
 exact h S h0 h1
theorem zap.left (hg : GrOk g) (hp : zaZ g.size p) {a b : List Int} (hk : zaX g p (a ++ b)) (h : zap g p (a ++ b)) : zap g p a:=by
 have ha : zaX g p a:=hk.sub fun x hx=>List.mem_append_left _ hx
 rw [zcj hg hp ha]
 rw [zcj hg hp hk] at h
 intro S h0 h1
 have:=h S h0 h1
 rw [zhR,List.length_append] at this
 have:=zoz S b
 omega
theorem zap.sublist (hg : GrOk g) (hp : zaZ g.size p) {a b : List Int} (hk : zaX g p b) (h : zap g p b) (hs : a.Sublist b) : zap g p a:=by
 obtain ⟨c,hc⟩ : ∃ c,(a ++ c).Perm b:=by
  induction hs with
  | slnil=>exact ⟨[],.refl _⟩
  | cons x hs ih =>
    obtain ⟨c,hc⟩:=ih (hk.sub fun y hy=>List.mem_cons_of_mem _ hy) (by
     have h2 : zap g p (_ ++ [x]):=h.perm hg hp hk (List.perm_append_comm (l₁:=[x]))
     exact h2.left hg hp (hk.sub fun y hy=>by simpa [or_comm] using hy))
    exact ⟨x :: c,List.perm_middle.trans (hc.cons x)⟩
  | cons_cons x hs ih =>
    obtain ⟨c,hc⟩:=ih (hk.sub fun y hy=>List.mem_cons_of_mem _ hy) (by
     have h2 : zap g p (_ ++ [x]):=h.perm hg hp hk (List.perm_append_comm (l₁:=[x]))
     exact h2.left hg hp (hk.sub fun y hy=>by simpa [or_comm] using hy))
    exact ⟨c,hc.cons x⟩
 exact (h.perm hg hp hk hc.symm).left hg hp (hk.sub fun x hx=>hc.mem_iff.1 hx)
theorem zap.nil (hg : GrOk g) (hp : zaZ g.size p) : zap g p []:=by
 have h1:=zfK (p:=p) (ks:=[]) hg hp (by simp)
 have hn:=zdJ (p:=p) (ks:=[]) hg hp (by simp)
 have h2:=zp7 hn (zjo hn)
 have h3 : valF (netA g p []) ((netA g p []).map fun _=>0) = 0:=by
  unfold valF outF
  have : ∀ A : List Ed,sumF (fun e v=>if e.f = 0 then v else 0) A (A.map fun _=>0) = 0:=by
   intro A
   induction A with
   | nil=>rfl
   | cons e A ih=>simp only [List.map_cons,sumF,ih]; split <;> rfl
  exact this _
 unfold zap
 simp at h1 ⊢
 omega
theorem zri (hg : GrOk g) (hp : zaZ g.size p) {a t : List Int} (hk : zaX g p (a ++ t)) (h : zap g p t) : (t.length : Int) ≤ maxF (netN g) (netA g p (a ++ t)):=by
 have hkt : zaX g p t:=hk.sub fun x hx=>List.mem_append_right _ hx
 obtain ⟨X,h0,h1,hc,_⟩:=zih (zdJ (ks:=a ++ t) hg hp hk.rng)
 have h2:=(zcj hg hp hkt).1 h X h0 h1
 rw [← hc,zcP h1 hk.reach,zhR]
 have:=zhQ X a
 omega
theorem zam.k1n {rs : List (Nat × Option (Bool × Nat))} {st : St} {vs : List AV} {res : AV} {e0 e : Ent} (i : Nat) (hi : 1 ≤ i) (h1 : zeR st rs = some vs) (hw : Wk (conv [(0,0),(i,1)] [] st.hp 4 (resV vs)) res) (h0 : (st.hp 0).map (zax [(0,0),(i,1)] [] st.hp 4) = some e0) (he : (st.hp i).map (zax [(0,0),(i,1)] [] st.hp 4) = some e) : zam rs 1 st res [some e0,some e] :=
 ⟨vs,h1,[i],[],by simp [List.range,List.range.loop]; omega,by simpa using hi,by simp,by simpa [List.range,List.range.loop] using hw,by simpa [List.range,List.range.loop] using ⟨by simpa using h0,by simpa using he⟩⟩
@[simp] theorem zsX {i : Nat} : cellsOf (.mp i) = some [.mp i]:=(rfl)
set_option maxRecDepth 100000 in
set_option maxHeartbeats 2000000 in
theorem ztd (N : Nat) (A : List Ed) (f0 : List Int) (hn : za4 ⟨N,A⟩) (hf0 : zaB N A f0) :
  ∃ f : List Int,(zaB N A f ∧ ∀ f',zaB N A f' → valF A f' ≤ valF A f) ∧ zaj Tryz.prog zhe [eN ⟨N,A⟩,ints f0] [] (.rs 0 0 A.length) [some ⟨1,zah f,0⟩]:=by
 refine zoT.acallsX (args:=[eN ⟨N,A⟩,ints f0]) (hs:=[]) (fun f=>.rs 0 0 A.length) (fun f=>[some ⟨1,zah f,0⟩]) (fun f : List Int=>zaB N A f ∧ ∀ f',zaB N A f' → valF A f' ≤ valF A f) (Nat.le_of_ble_eq_true rfl) (Nat.le_of_ble_eq_true rfl) (fun _=>by simp) ?_
 show awp _ 0 _ _ ⟨14,[(0,eN ⟨N,A⟩),(1,ints f0)],[],16⟩
 have hno:=zfC hn
 have hfl:=hf0.fit.len
 have hopen:=fun (f : List Int)=>zqI N A f A.length hn
 have hpush:=fun (f : List Int) (hf : zaB N A f)=>zti N A f hn hf
 have hal:=hn.2.2.1
 simp only at hal
 have hcl:=zmM f0 (by omega)
 rw [hfl] at hcl
 have htake : ∀ g : Int → List AV,List.take A.length (List.map g f0) = List.map g f0:=fun g=>List.take_of_length_le (by simp; omega)
 refine rx (s:=?s1) [1,2] [] [16] rfl ?o1 ?q1
 case o1=>simp; rfl
 refine zaw ⟨14,[(5,.pt 64 0 0)],[(48,some ⟨1,zah f0,0⟩),(64,some ⟨4,[rC N A (.rs 48 0 A.length)],0⟩)],80⟩ rfl ?_ ?_
 ·simp
  refine za1 hcl (by simp) ?_
  simp
  refine zby (i:=48) rfl (by simp [fcd]) (hopen f0) (by simp) (by simp) ?_
  simp
  exact ⟨rfl,Le.go [(48,48),(64,64)] [] rfl rfl (by simp) (by simp [fcd])⟩
 refine zaa ?_
 refine zaf ?_
 refine zao (ι:=List Int) (fun f=>⟨14,[(5,.pt 64 0 0)],[(48,some ⟨1,zah f,0⟩),(64,some ⟨4,[rC N A (.rs 48 0 A.length)],0⟩)],80⟩) (fun f=>zaB N A f) (fun f=>(capS (fun x=>decide (x = 0)) A - valF A f).toNat) f0 hf0 (Le.go [(48,48),(64,64)] [] rfl rfl (by simp) (by simp [fcd])) ?_
 intro f hf
 obtain ⟨⟨c,f'⟩,hx,hcall⟩:=hpush f hf
 simp only at hx hcall
 refine zaa ?_
 refine zab ⟨14,[(5,.pt 64 0 0),(11,.B c)],[(48,some ⟨1,zah f',0⟩),(64,some ⟨4,[rC N A (.rs 48 0 A.length)],0⟩)],100⟩ rfl ?_ ?_
 ·simp
  refine zby (i:=48) rfl (by simp [fcd]) hcall (by simp) (by simp) ?_
  simp
  exact Le.go [(48,48),(64,64)] [] rfl rfl (by simp) (by simp [fcd])
 refine zad _ rfl (fun h4=>?_) fun h4=>?_
 ·have hc : c = true:=h4
  subst hc
  simp only [if_true] at hx
  have hbnd:=zef (S:=fun x=>decide (x = 0)) hno hx.1 (by simp) (by simp)
  refine zae ?_
  refine zaf ?_
  refine zae ?_
  exact ⟨f',hx.1,by have:=hx.2; omega,Le.go [(48,48),(64,64)] [] rfl rfl (by simp) (by simp [fcd])⟩
 have hc : c = false:=h4
 subst hc
 simp only [Bool.false_eq_true,if_false] at hx
 obtain ⟨rfl,hm⟩:=hx
 refine zan ?_
 refine hit ?_
 refine zab ⟨14,[(4,.rs 48 0 A.length)],[(48,some ⟨1,zah f',0⟩)],200⟩ rfl ?_ ?_
 ·simp
  exact Le.go [(48,48)] [] rfl rfl (by simp) (by simp [fcd])
 refine zag ?_
 exact zjM.mk (.inr rfl) f' ⟨hf,hm⟩ (zam.out [48] [] rfl (by simp) (by simp) (by simp) (by simp [fcd]))
set_option maxRecDepth 100000 in
set_option maxHeartbeats 2000000 in
theorem zoK (N : Nat) (A : List Ed) (hn : za4 ⟨N,A⟩) :
  ∃ f : List Int,(zaB N A f ∧ ∀ f',zaB N A f' → valF A f' ≤ valF A f) ∧ zaj Tryz.prog ziL [eN ⟨N,A⟩] [] (.tup [.rs 0 0 A.length,.I 0]) [some ⟨1,zah f,0⟩]:=by
 have hno:=zfC hn
 obtain ⟨f,hf,hg⟩:=ztd N A _ hn (zjo hno)
 refine ⟨f,hf,?_⟩
 have hchk:=zez ⟨N,A⟩ (by have:=hn.2.2.1; simp only at this ⊢; omega)
 rw [if_pos hn] at hchk
 have hal:=hn.2.2.1
 simp only at hal
 have hfl:=hf.1.fit.len
 refine zqg.acalls (Nat.le_of_ble_eq_true rfl) (Nat.le_of_ble_eq_true rfl) (Nat.zero_le _) ?_
 show awp _ 0 _ _ ⟨16,[(0,eN ⟨N,A⟩)],[],16⟩
 refine rx (s:=?s1) [1] [] [16] rfl ?o1 ?q1
 case o1=>simp; rfl
 refine zaa ?_
 refine rx (s:=?s2) [1,4] [] [] rfl ?o2 ?q2
 case o2=>simp; refine zal hchk (by simp) ?_; simp; rfl
 refine rx (s:=?s3) [1,4,8] [] [] rfl ?o3 ?q3
 case o3=>simp; rfl
 refine zad _ rfl (fun h4=>by cases h4) fun h4=>?_
 refine zae ?_
 refine zaw ⟨16,[(2,.rs 48 0 A.length),(3,.I 0)],[(48,some ⟨1,zah f,0⟩)],300⟩ rfl ?_ ?_
 ·simp
  refine ⟨by omega,by omega,?_⟩
  refine znA [112] hg (by simp [List.map_const']) (.rs _ _ _) ztK ?_
  simp
  exact ⟨rfl,Le.go [(120,48)] [] rfl rfl (by simp) (by simp [fcd])⟩
 refine zag ?_
 exact ⟨.inr rfl,zam.out [48] [] rfl (by simp) (by simp) (by simp) (by simp [fcd])⟩
set_option maxRecDepth 100000 in
set_option maxHeartbeats 2000000 in
theorem ziw (N : Nat) (A : List Ed) (f : List Int) (hn : za4 ⟨N,A⟩) (hf : zaB N A f) (hm : ∀ f',zaB N A f' → valF A f' ≤ valF A f) :
  zaj Tryz.prog zeP [eN ⟨N,A⟩,.rs 0 0 A.length] [⟨1,zah f,0⟩] (.rs 1 0 (zdf N A).length) [some ⟨1,zah f,0⟩,some ⟨1,zah (zdf N A),0⟩]:=by
 have hno:=zfC hn
 obtain ⟨⟨D,b,R⟩,⟨hb,hcl,hR⟩,hcall⟩:=zox N A f hn hf.fit
 simp only at hb hcl hR hcall
 have hopen:=zqI N A f A.length hn
 have hnear : inD D N = zdf N A:=zor hno hf hm hb.tree hb.mem0 (znp hno hf hm hb) hcl
 have hwh:=zqt hR N (by have:=hn.2.1; simp only at this; omega)
 rw [hnear] at hwh
 have hfl:=hf.fit.len
 have htake : ∀ g : Int → List AV,List.take A.length (List.map g f) = List.map g f:=fun g=>List.take_of_length_le (by simp; omega)
 refine zk6.acalls (Nat.le_of_ble_eq_true rfl) (Nat.le_of_ble_eq_true rfl) (by simp) ?_
 show awp _ 1 _ _ ⟨14,[(0,eN ⟨N,A⟩),(1,.rs 0 0 A.length)],[(0,some ⟨1,zah f,0⟩)],16⟩
 refine zab ⟨14,[(1,.rs 0 0 A.length),(2,.pv (nC ⟨N,A⟩))],[(0,some ⟨1,zah f,0⟩)],32⟩ rfl ?_ ?_
 ·simp
  exact Le.go [(0,0)] [16] rfl rfl (by simp) (by simp [fcd])
 refine zab ⟨14,[(2,.pv (nC ⟨N,A⟩)),(5,.pt 64 0 0)],[(0,some ⟨1,zah f,0⟩),(64,some ⟨1,[[.mp 56]],0⟩),(56,some ⟨0,R,0⟩)],100⟩ rfl ?_ ?_
 ·simp
  refine zby (i:=0) rfl (by simp [fcd]) hopen (by simp) (by simp) ?_
  simp
  refine znA [0] hcall (by simp [fcd,htake,hfl]) (.mp _) (hR.plain _ _) ?_
  simp
  exact Le.go [(0,0),(64,64),(56,56)] [] rfl rfl (by simp) (by simp [fcd,hR.conv'])
 refine zab ⟨14,[(4,.rs 57 0 (zdf N A).length)],[(0,some ⟨1,zah f,0⟩),(57,some ⟨1,zah (zdf N A),0⟩)],200⟩ rfl ?_ ?_
 ·simp
  refine zj9 (i:=64) (j:=56) (by decide) rfl rfl (by simp) (by simp [hR.conv']) hwh (by simp) (by simp [conv]) ?_
  simp
  exact Le.go [(0,0),(124,57)] [] rfl rfl (by simp) (by simp [fcd])
 refine zag ?_
 exact ⟨.inr rfl,zam.k1n 57 (by omega) rfl (by simp) (by simp [fcd]) (by simp [fcd])⟩
abbrev zaJ (R : List (Int × List Int)) : List (List AV):=R.map fun r=>[.I r.1,ints r.2]
abbrev eAcc (acc flow : List Int) (R : List (Int × List Int)) : AV:=.agg [ints acc,ints flow,.vs 2 false (zaJ R)]
theorem WayA.mem {A : List Ed} : ∀ {l : List Nat} {u w : Int},WayA A u l w → ∀ j ∈ l,j < A.length
 | i :: l,u,w,hw,j,hj=>by
   rcases List.mem_cons.1 hj with rfl | hj
   ·exact hw.1
   ·exact WayA.mem hw.2.2 j hj
theorem zji.few {N : Nat} {A : List Ed} {f g : List Int} {l : List Nat} {w : Int} (hn : zdK N A) (h : zji A f g l w) : l.length + 1 ≤ N:=by
 have:=zbk (b:=(List.range N).map fun i : Nat=>(i : Int)) h.met fun x hx=>by
  rcases List.mem_cons.1 hx with rfl | hx
  ·have:=hn.two
   exact List.mem_map.2 ⟨0,List.mem_range.2 (by omega),rfl⟩
  ·obtain ⟨j,hj,rfl⟩:=List.mem_map.1 hx
   have ha:=hn.arc _ (zer (h.way.mem j hj))
   exact List.mem_map.2 ⟨(arcD A j).t.toNat,List.mem_range.2 (by omega),by omega⟩
 simpa [metA] using this
section
variable {P : Program} {np id : Nat} {h : Nat → Option Ent} {K : AV → List Nat → List (Nat × Option Ent) → Prop} {f : FuncId} {first capt args args' : List AV} {res : AV}
end
def zsh (g : Gr) (p : Pol) (ks : List Int) (W : List (List Nat)) : Prop :=
 ∃ f g',zmT g p (zar ks) f ∧ zkg (netN g) (netA g p (zar ks)) f g' W ∧ (W.length : Int) = maxF (netN g) (netA g p (zar ks)) ∧ ∀ w ∈ W,w.length ≤ 130
def befL (o acc : List Int) (i : Nat) : List Int:=(o.take i).filter fun k=>decide (k ∈ acc)
theorem zrd {o acc : List Int} {i : Nat} (h : i < o.length) : befL o acc (i + 1) = befL o acc i ++ if o[i] ∈ acc then [o[i]] else []:=by
 unfold befL
 rw [List.take_succ_eq_append_getElem h,List.filter_append]
 simp only [List.filter_cons,List.filter_nil,decide_eq_true_eq]
structure ForR (g : Gr) (p : Pol) (o : List Int) (key : Int) (x : Expl) : Prop where
 key_ : x.key = key
 bef : ∃ i,∃ h : i < o.length,o[i] = key ∧ x.before = befL o (accR g p o) i
 yes : key ∈ accR g p o → x.acc = true ∧ x.side = [] ∧ ∃ W,zsh g p (x.before ++ [key]) W ∧ x.paths = W.map (zcw (netA g p (zar (x.before ++ [key]))))
 no : key ∉ accR g p o → x.acc = false ∧ x.paths = [] ∧ ∃ R,zkK g p o R ∧ (key,x.side) ∈ R
variable {g : Gr} {p : Pol}
theorem zlz : ∀ (b a : List Int),∃ l,accR g p (a ++ b) = accR g p a ++ l ∧ ∀ x ∈ l,x ∈ b
 | [],a=>⟨[],by simp,by simp⟩
 | x :: b,a=>by
   obtain ⟨l,hl,hm⟩:=zlz b (a ++ [x])
   have e : a ++ x :: b = a ++ [x] ++ b:=by simp
   rw [e,hl]
   rcases zmd (g:=g) (p:=p) a x with h | h
   ·exact ⟨l,by rw [h],fun y hy=>List.mem_cons_of_mem _ (hm y hy)⟩
   ·refine ⟨[x] ++ l,by rw [h,List.append_assoc],fun y hy=>?_⟩
    rcases List.mem_append.1 hy with h | h
    ·rw [List.mem_singleton.1 h]; exact List.mem_cons_self
    ·exact List.mem_cons_of_mem _ (hm y h)
theorem zij {o : List Int} (hn : o.Nodup) {i : Nat} (h : i < o.length) : o[i] ∈ accR g p o ↔ zap g p (zar (accR g p (o.take i) ++ [o[i]])):=by
 have hs : o.take (i + 1) = o.take i ++ [o[i]]:=List.take_succ_eq_append_getElem h
 obtain ⟨l,hl,hm⟩:=zlz (g:=g) (p:=p) (o.drop (i + 1)) (o.take (i + 1))
 rw [List.take_append_drop] at hl
 have hni : o[i] ∉ o.take i:=fun hx=>by
  obtain ⟨j,hj,e⟩:=List.mem_take_iff_getElem.1 hx
  have:=(List.getElem_inj hn).1 e
  omega
 have hnd : o[i] ∉ o.drop (i + 1):=fun hx=>by
  obtain ⟨j,hj,e⟩:=List.mem_drop_iff_getElem.1 hx
  have:=(List.getElem_inj hn).1 e
  omega
 constructor
 ·intro hx
  by_cases hc : zap g p (zar (accR g p (o.take i) ++ [o[i]]))
  ·exact hc
  ·rw [hl,hs,zfw hc] at hx
   rcases List.mem_append.1 hx with h1 | h1
   ·exact absurd (zcz h1) hni
   ·exact absurd (hm _ h1) hnd
 ·intro hc
  rw [hl,hs,zb2 hc]
  exact List.mem_append_left _ (List.mem_append_right _ (List.mem_singleton.2 rfl))
theorem zoD {o : List Int} (hn : o.Nodup) : ∀ i,i ≤ o.length → befL o (accR g p o) i = accR g p (o.take i)
 | 0,_=>by simp [befL,zkP]
 | i + 1,h=>by
   have hi : i < o.length:=h
   rw [zrd hi,zoD hn i (by omega),List.take_succ_eq_append_getElem hi]
   by_cases hc : zap g p (zar (accR g p (o.take i) ++ [o[i]]))
   ·rw [if_pos ((zij hn hi).2 hc),zb2 hc]
   ·rw [if_neg (fun h=>hc ((zij hn hi).1 h)),zfw hc,List.append_nil]
theorem zj1 {l : List Int} (h : l.Pairwise (· < ·)) : l.Nodup:=h.imp fun h=>by omega
theorem zfm {a : List Int} (hn : a.Nodup) (hr : ∀ k ∈ a,0 ≤ k ∧ k < 64) : a.Perm (zar a):=by
 rw [← zle hn hr]
 exact (zfH a).symm
theorem zfM {a : List Int} (hn : a.Nodup) (hr : ∀ k ∈ a,0 ≤ k ∧ k < 64) : (zar a).length = a.length:=(zfm hn hr).length_eq.symm
structure AtO (g : Gr) (p : Pol) (key : Int) (before : List Int) : Prop where
 mem : key ∈ ordL (zai g p.lv) p.seeds
 bef : zfi (ordL (zai g p.lv) p.seeds) before key
 nodup : (before ++ [key]).Nodup
 range : ∀ k ∈ before ++ [key],0 ≤ k ∧ k < g.size
 serve : key ∈ accR g p (ordL (zai g p.lv) p.seeds) ↔ zap g p (zar (before ++ [key]))
theorem znd {o : List Int} (hn : o.Nodup) {i : Nat} (h : i < o.length) : zgU o o[i] = o.take i:=by
 unfold zgU
 rw [List.takeWhile_eq_take_findIdx_not]
 congr 1
 rw [List.findIdx_eq h]
 refine ⟨by simp,fun j hj=>?_⟩
 have : o[j] ≠ o[i]:=fun e=>by have:=(List.getElem_inj hn).1 e; omega
 simp [this]
theorem ForR.at_ {key : Int} {x : Expl} (h : ForR g p (ordL (zai g p.lv) p.seeds) key x) (hg : GrOk g) : x.key = key ∧ AtO g p key x.before ∧ ∃ i,∃ hi : i < (ordL (zai g p.lv) p.seeds).length,(ordL (zai g p.lv) p.seeds)[i] = key ∧ x.before = accR g p ((ordL (zai g p.lv) p.seeds).take i):=by
 have hn:=zbu (zai g p.lv) p.seeds
 have hr : ∀ k ∈ ordL (zai g p.lv) p.seeds,0 ≤ k ∧ k < g.size:=fun k hk=>by have h:=zcN hk; exact h
 obtain ⟨o,ho⟩ : ∃ o,o = ordL (zai g p.lv) p.seeds:=⟨_,rfl⟩
 rw [← ho] at h hn hr ⊢
 obtain ⟨i,hi,hk,hb⟩:=h.bef
 rw [zoD hn i (by omega)] at hb
 refine ⟨h.key_,?_,i,hi,hk,hb⟩
 have hsub : x.before.Sublist (zgU o key):=by
  rw [hb,← hk,znd hn hi]
  exact zdm _ _ rfl
 refine ⟨by rw [← ho,← hk]; exact List.getElem_mem hi,by rw [← ho]; exact hsub,zfi.nodup (order:=o) hsub hn,fun k hkm=>?_,?_⟩
 ·rcases List.mem_append.1 hkm with h1 | h1
  ·refine hr k ?_
   rw [hb] at h1
   exact List.mem_of_mem_take (zcz h1)
  ·rw [List.mem_singleton.1 h1,← hk]; exact hr _ (List.getElem_mem hi)
 ·rw [← ho,hb,← hk]
  exact zij hn hi
theorem AtO.joined {key : Int} {before : List Int} (h : AtO g p key before) (hg : GrOk g) : (zar (before ++ [key])).Nodup ∧ (before ++ [key]).Perm (zar (before ++ [key])) ∧ (∀ x ∈ zar (before ++ [key]),0 ≤ x ∧ x < g.size):=by
 have h64:=hg.1.2.1
 have hr : ∀ k ∈ before ++ [key],0 ≤ k ∧ k < 64:=fun k hk=>⟨(h.range k hk).1,by have:=(h.range k hk).2; omega⟩
 exact ⟨zj1 (zdj _),zfm h.nodup hr,fun x hx=>h.range x (zb8.1 hx).1⟩
theorem zm3 {key : Int} {before : List Int} {W : List (List Nat)} (hg : GrOk g) (hp : zaZ g.size p) (ha : AtO g p key before) (hc : zap g p (zar (before ++ [key]))) (hW : zsh g p (before ++ [key]) W) :
  zi5 g p.lv p.seeds (ordL (zai g p.lv) p.seeds) (zaD g p) (W.map (zcw (netA g p (zar (before ++ [key]))))) (before ++ [key]):=by
 obtain ⟨f,g',hgf,ht,hl,_⟩:=hW
 obtain ⟨j1,j2,j3⟩:=ha.joined hg
 refine zmZ hg hp j1 (fun x hx=>(j3 x hx).1) j2 hgf.ok.fit ht.ways (fun i _=>?_) ?_
 ·have h1:=ht.used i
  have h2:=ht.bal.nonneg i
  omega
 ·have : maxF (netN g) (netA g p (zar (before ++ [key]))) = (zar (before ++ [key])).length:=hc
  omega
theorem ForR.yes_serves {key : Int} {x : Expl} (h : ForR g p (ordL (zai g p.lv) p.seeds) key x) (hg : GrOk g) (hp : zaZ g.size p) (hk : key ∈ accR g p (ordL (zai g p.lv) p.seeds)) :
  zi5 g p.lv p.seeds (ordL (zai g p.lv) p.seeds) (zaD g p) x.paths (x.before ++ [key]):=by
 obtain ⟨_,ha,_⟩:=h.at_ hg
 obtain ⟨_,_,W,hW,hpa⟩:=h.yes hk
 rw [hpa]
 exact zm3 hg hp ha (ha.serve.1 hk) hW
theorem ForR.no_proves {key : Int} {x : Expl} (h : ForR g p (ordL (zai g p.lv) p.seeds) key x) (hg : GrOk g) (hp : zaZ g.size p) (hk : key ∉ accR g p (ordL (zai g p.lv) p.seeds)) :
  zev ⟨2 + 2 * g.size,zaT g p (zaD g p) (zar (x.before ++ [key]))⟩ x.side x.before.length:=by
 obtain ⟨_,ha,i,hi,hik,hib⟩:=h.at_ hg
 obtain ⟨_,_,R,hR,hs⟩:=h.no hk
 obtain ⟨i',hi',hik',hn⟩:=hR.right _ hs
 simp only at hik' hn
 have hii : i' = i:=(List.getElem_inj (zbu (zai g p.lv) p.seeds)).1 (hik'.trans hik.symm)
 subst hii
 rw [← hib] at hn
 obtain ⟨j1,j2,j3⟩:=ha.joined hg
 have hfew:=zfK hg hp j3
 have hno : maxF (netN g) (netA g p (zar (x.before ++ [key]))) ≠ (zar (x.before ++ [key])).length:=hn.no
 have hlen:=j2.length_eq
 rw [List.length_append,List.length_singleton] at hlen
 have hcut:=hn.cut
 have hok:=hn.ok
 rw [zfD hg] at hok
 exact ⟨hok,by rw [hcut]; omega⟩
theorem ForR.checked {key : Int} {x : Expl} (h : ForR g p (ordL (zai g p.lv) p.seeds) key x) (hg : GrOk g) (hp : zaZ g.size p) : zq5 g p x = 0:=by
 rw [zph hg.1.2.1]
 obtain ⟨hk,ha,_⟩:=h.at_ hg
 unfold zqk
 simp only
 rw [hk,if_neg (by simpa using ha.mem)]
 by_cases hacc : key ∈ accR g p (ordL (zai g p.lv) p.seeds)
 ·obtain ⟨h1,h2,_⟩:=h.yes hacc
  rw [if_neg (by rw [h1,h2]; simpa using ha.bef),if_pos h1,if_pos (h.yes_serves hg hp hacc)]
 ·obtain ⟨h1,h2,_⟩:=h.no hacc
  rw [if_neg (by rw [h1,h2]; simpa using ha.bef),if_neg (by rw [h1]; simp),if_pos (h.no_proves hg hp hacc)]
theorem zjd (l : List Int) (hl : l.length ≤ 1099511627776) : zaj Tryz.prog zem [ints l] [] (.rs 0 0 l.length) [some ⟨1,zah (srt l),0⟩]:=by
 refine zlj.acalls (Nat.le_of_ble_eq_true rfl) (Nat.le_of_ble_eq_true rfl) (Nat.zero_le _) ?_
 show awp _ 0 _ _ ⟨6,[(0,ints l)],[],16⟩
 have hs : zaj Tryz.prog zbL [seqF l] [] (.rs 0 0 l.length) [some ⟨1,zah (srt l),0⟩]:=zra l hl
 refine rx (s:=?s1) [0] [] [] rfl ?o1 ?q1
 case o1=>simp; rfl
 refine zab ⟨6,[(2,.rs 50 0 l.length)],[(50,some ⟨1,zah (srt l),0⟩)],100⟩ rfl ?_ ?_
 ·simp
  refine zal (zqd l) (by simp) ?_
  simp
  refine za1 hs (by simp [conv]) ?_
  simp
  exact Le.go [(40,50)] [] rfl rfl (by simp) (by simp [fcd])
 refine zag ?_
 exact ⟨.inr rfl,zam.out [50] [] rfl (by simp) (by simp) (by simp) (by simp [fcd])⟩
theorem zfj (g : Gr) (p : Pol) (hg : GrOk g) (hN : g.size < 20) (hs : p.seeds.length ≤ 1099511627776) : zaj Tryz.prog zdn [eG g,eP p] [] (.rs 0 0 (ordL (zai g p.lv) p.seeds).length) [some ⟨1,zah (ordL (zai g p.lv) p.seeds),0⟩]:=by
 refine zk9.acalls (Nat.le_of_ble_eq_true rfl) (Nat.le_of_ble_eq_true rfl) (Nat.zero_le _) ?_
 show awp _ 0 _ _ ⟨12,[(0,eG g),(1,eP p)],[],16⟩
 have hel:=hg.edges_le
 have hgl:=hg.gone_le
 have hsz:=hg.1.2.1
 have hlev:=zed g p.lv (by omega) (by omega)
 have hord:=zhn (g:=zai g p.lv) (S:=p.seeds) (hg.level p.lv) hN hs
 obtain ⟨o,ho⟩ : ∃ o,o = ordL (zai g p.lv) p.seeds:=⟨_,rfl⟩
 rw [← ho] at hord ⊢
 refine rx (s:=?s1) [2,3] [] [16,24] rfl ?o1 ?q1
 case o1=>simp; rfl
 refine zaw ⟨12,[(4,.rs 50 0 o.length)],[(50,some ⟨1,zah o,0⟩)],200⟩ rfl ?_ ?_
 ·simp
  refine zal hlev (by simp) ?_
  simp
  refine za1 hord (by simp) ?_
  simp
  exact ⟨rfl,Le.go [(88,50)] [] rfl rfl (by simp) (by simp [fcd])⟩
 refine zag ?_
 exact ⟨.inr rfl,zam.out [50] [] rfl (by simp) (by simp) (by simp) (by simp [fcd])⟩
theorem zf1 (l : List Int) (x : Int) (hl : l.length ≤ 1000000) : zaj Tryz.prog zd4 [ints l,.I x] [] (.rs 0 0 (l.length + 1)) [some ⟨1,zah (l ++ [x]),0⟩]:=by
 refine zl8.acalls (Nat.le_of_ble_eq_true rfl) (Nat.le_of_ble_eq_true rfl) (Nat.zero_le _) ?_
 show awp _ 0 _ _ ⟨14,[(0,ints l),(1,.I x)],[],16⟩
 refine rx (s:=?s1) [0,1] [] [] rfl ?o1 ?q1
 case o1=>simp; rfl
 refine zab ⟨14,[(4,.rs 50 0 (l.length + 1))],[(50,some ⟨1,zah (l ++ [x]),0⟩)],200⟩ rfl ?_ ?_
 ·have hsl : ∀ {id : Nat} {h : Nat → Option Ent} {K : AV → List Nat → List (Nat × Option Ent) → Prop},K (.vs 1 true (l.map fun n=>[AV.I n])) [] [] → aK Tryz.prog 0 id (.slc 1 false true true) [ints l,.I (l.length : Nat),.I (l.length : Nat)] h K:=fun hK=>by
   rw [ziZ]
   refine ⟨0,l.length,l.length,l.length,by simp,Nat.zero_le _,rfl,by simp,by simp,by simp,Nat.le_refl _,fun _=>rfl,rfl,?_⟩
   rw [List.drop_zero,Nat.sub_zero,List.take_of_length_le (by simp)]
   exact hK
  simp
  refine hsl ?_
  simp
  exact ⟨by omega,by omega,Le.go [(88,50)] [] rfl rfl (by simp) (by simp [fcd])⟩
 refine zag ?_
 exact ⟨.inr rfl,zam.out [50] [] rfl (by simp) (by simp) (by simp) (by simp [fcd])⟩
theorem zbv (g : Gr) (p : Pol) (ks : List Int) (hg : GrOk g) (hp : zaZ g.size p) (hk : ks.Nodup) (hr : ∀ k ∈ ks,0 ≤ k ∧ k < g.size) (hs : p.seeds.length ≤ 64) : zaj Tryz.prog zbc [eG g,eP p,ints ks] [] (eN ⟨netN g,netA g p (zar ks)⟩) []:=by
 refine ziK.acalls (Nat.le_of_ble_eq_true rfl) (Nat.le_of_ble_eq_true rfl) (Nat.zero_le _) ?_
 show awp _ 0 _ _ ⟨18,[(0,eG g),(1,eP p),(2,ints ks)],[],16⟩
 have hsz:=hg.1.2.1
 have hr64 : ∀ k ∈ ks,0 ≤ k ∧ k < 64:=fun k h=>by have:=hr k h; omega
 have hlen:=zfM hk hr64
 have hJl:=zbw ks
 have hsort:=zjd ks (by omega)
 rw [zle hk hr64,← hlen] at hsort
 have hnet:=zif g p (zar ks) hg hp (zbE hr) hs hJl
 rw [← zfD hg,show zaT g p (zaD g p) (zar ks) = netA g p (zar ks) from rfl] at hnet
 obtain ⟨J,hJ⟩ : ∃ J,J = zar ks:=⟨_,rfl⟩
 obtain ⟨A,hA⟩ : ∃ A,A = netA g p (zar ks):=⟨_,rfl⟩
 rw [← hA] at hnet ⊢
 rw [← hJ] at hnet hsort
 refine rx (s:=?s1) [2,3,4,6] [32] [16,24] rfl ?o1 ?q1
 case o1=>simp; rfl
 refine zaw ⟨18,[(6,.pt 32 0 0),(7,.pv (nC ⟨netN g,A⟩))],[(32,some ⟨2,[[.I 0,.nilS]],0⟩)],300⟩ rfl ?_ ?_
 ·simp
  refine za1 hsort (by simp) ?_
  simp
  refine zp8 [64] (by simp) hnet (by simp [fcd,zaq]) ?_
  simp
  exact ⟨rfl,Le.go [(32,32)] [104] rfl rfl (by simp) (by simp)⟩
 refine zab ⟨18,[(6,.pt 32 0 0)],[(32,some ⟨2,[nC ⟨netN g,A⟩],0⟩)],400⟩ rfl ?_ ?_
 ·simp [za7]
  exact Le.go [(32,32)] [] rfl rfl (by simp) (by simp)
 refine zag ?_
 exact ⟨.inr rfl,zam.out [] [32] rfl (by simp) (by simp) (by simp) (by simp)⟩
def ztC (N : Nat) (A : List Ed) (f : List Int) : Prop:=zaB N A f ∧ ∀ f',zaB N A f' → valF A f' ≤ valF A f
theorem zfW (N : Nat) (A : List Ed) (k : Int) (hn : za4 ⟨N,A⟩) :
  ∃ f : List Int,ztC N A f ∧ zaj Tryz.prog zbZ [eN ⟨N,A⟩,.I k] [] (.tup [.rs 0 0 A.length,.B (decide (valF A f = k))]) [some ⟨1,zah f,0⟩]:=by
 obtain ⟨f,hf,hmax⟩:=zoK N A hn
 refine ⟨f,hf,?_⟩
 have hfl:=hf.1.fit.len
 have hal:=hn.2.2.1
 simp only at hal
 have hval:=zgq (f:=f) hn (by omega)
 rw [if_pos hf.1] at hval
 have htake : ∀ g : Int → List AV,List.take A.length (List.map g f) = List.map g f:=fun g=>List.take_of_length_le (by simp; omega)
 refine zls.acalls (Nat.le_of_ble_eq_true rfl) (Nat.le_of_ble_eq_true rfl) (Nat.zero_le _) ?_
 show awp _ 0 _ _ ⟨19,[(0,eN ⟨N,A⟩),(1,.I k)],[],16⟩
 refine rx (s:=?s1) [1,2] [] [16] rfl ?o1 ?q1
 case o1=>simp; rfl
 refine zab ⟨19,[(1,.I k),(2,.pv (nC ⟨N,A⟩)),(6,.rs 50 0 A.length)],[(50,some ⟨1,zah f,0⟩)],100⟩ rfl ?_ ?_
 ·simp
  refine za1 hmax (by simp) ?_
  simp
  exact Le.go [(48,50)] [] rfl rfl (by simp) (by simp [fcd])
 refine zab ⟨19,[(4,.rs 50 0 A.length),(5,.B (decide (valF A f = k)))],[(50,some ⟨1,zah f,0⟩)],200⟩ rfl ?_ ?_
 ·simp
  refine zhO [50] hval (by simp [fcd,htake,hfl]) (.sc _) ?_
  simp
  exact Le.go [(50,50)] [] rfl rfl (by simp <;> exact wkB (by rw [Bool.eq_iff_iff]; simp)) (by simp [fcd])
 refine zag ?_
 exact ⟨.inr rfl,zam.out [50] [] rfl (by simp) (by simp) (by simp) (by simp [fcd])⟩
end Go.Proofs.YteiabadhhhckfaaGreat
