/- Texts of this claim,merged. -/
import Derived.Test.YtfdbhehkkobfgaaGreatRu9
import Derived.Test.YtfdbhehkkobfgaaGreatRu7
import Derived.Test.YtfdbhehkkobfgaaGreatRu8
import Derived.Test.YtfdbhehkkobfgaaGreatRu6
import Derived.Test.YtfdbhehkkobfgaaGreatRu1
set_option linter.unusedSimpArgs false
set_option linter.unusedVariables false
set_option linter.unusedSectionVars false
namespace Go.Proofs.YtfdbhehkkobfgaaGreat
open Go
section
variable {P : Program} {np id : Nat} {h : Nat → Option Ent} {K : AV → List Nat → List (Nat × Option Ent) → Prop} {f : FuncId} {first capt args args' : List AV} {res : AV}
end
variable {g : Gr} {S : List Int}
set_option maxHeartbeats 1000000 in
set_option maxRecDepth 100000 in
theorem zgD (hg : GrOk g) (hN : g.size < 20) (hS : S.length ≤ 1099511627776) : zaj Tryz.prog zc0 [eG g,ints S] [] (.rs 0 0 (ordL g S).length) [some ⟨1,zah (ordL g S),0⟩]:=by
 refine zh5.acalls (nbz rfl) (nbz rfl) (Nat.zero_le _) ?_
 show awp _ 0 _ _ ⟨18,[(0,eG g),(1,ints S)],[],16⟩
 have hsz:=hg.1.1
 obtain ⟨N,hNe⟩ : ∃ N : Nat,N = g.size.toNat:=⟨_,rfl⟩
 have hall:=zhA g S hg hS
 have hDl : (zdc g S).length = N:=by rw [zkb,hNe]
 have hDg : ∀ k : Nat,k < N → (zdc g S).getD k 0 = dist g S k:=fun k hk=>zoA (by omega)
 rw [← hNe] at hall
 obtain ⟨D,hD⟩ : ∃ D,D = zdc g S:=⟨_,rfl⟩
 rw [← hD] at hall hDl hDg
 obtain ⟨W,hW⟩ : ∃ W,W = za6 N fun k=>decide (0 ≤ dist g S k):=⟨_,rfl⟩
 have hWl : W.length ≤ N:=by rw [hW]; exact zhs _ _
 have hWm : ∀ x ∈ W,0 ≤ x ∧ x < N:=fun x hx=>by rw [hW] at hx; exact (zcW.1 hx).1
 have hwhere : zaj Tryz.prog zcJ [.I N,.fn (.func zbe) [] [.pv [ints D]]] [] (.rs 0 0 W.length) [some ⟨1,zah W,0⟩]:=by
  have:=znn zbe [.pv [ints D]] (fun k=>decide (0 ≤ dist g S k)) N (by omega) (fun ρ sn h n=>by simp) (fun k hk=>by
   have h1:=zlA D k (by omega)
   rw [hDg k (by omega)] at h1
   exact h1)
  simpa [← hW] using this
 have hsort:=zjr zbD [.pv [ints D]] (cD g S) W W.length rfl (by omega) (fun ρ sn h n=>by simp) (fun x hx y hy=>by
  obtain ⟨a,ha⟩ : ∃ a : Nat,x = a:=⟨x.toNat,by have:=hWm x hx; omega⟩
  obtain ⟨b,hb⟩ : ∃ b : Nat,y = b:=⟨y.toNat,by have:=hWm y hy; omega⟩
  have h1:=hWm x hx
  have h2:=hWm y hy
  subst ha hb
  have h3:=zmo D a b (by omega) (by omega)
  rw [hDg a (by omega),hDg b (by omega)] at h3
  exact h3)
 have hord : ze6 (cD g S) W = ordL g S:=by rw [hW,hNe]; exact zrd hg
 have hol : (ordL g S).length = W.length:=by
  rw [← hord]
  unfold ze6
  rw [List.length_reverse,zgH]
 rw [hord] at hsort
 have htk : List.take N (zah D) = zah D:=List.take_of_length_le (by simp [hDl])
 have hRl : (zah D).length = N:=by simp [hDl]
 refine zab ⟨18,[(1,ints S),(2,.pv (gC g))],[],32⟩ rfl ?_ ?_
 ·simp
  exact Le.snap [16] rfl rfl (by simp)
 refine zab ⟨18,[(5,.pv [ints D])],[],72⟩ rfl ?_ ?_
 ·simp
  refine zdK hall rfl ?_
  simp [fcd]
  exact Le.snap [48,56] rfl rfl (by simp [fcd,← hDl,zaI])
 refine zab ⟨18,[(5,.pv [ints D]),(6,.rs 96 0 W.length)],[(96,some ⟨1,zah W,0⟩)],112⟩ rfl ?_ ?_
 ·simp [hDl]
  refine zdK hwhere (by simp) ?_
  simp [fcd]
  exact Le.keep rfl (Nat.le_refl _) (by simp) (by simp)
 rw [hol]
 refine zab ⟨18,[(6,.rs 96 0 W.length)],[(96,some ⟨1,zah (ordL g S),0⟩)],136⟩ rfl ?_ ?_
 ·simp
  refine zbw (i:=96) rfl (e':=⟨1,zah W,0⟩) (by simp [fcd]) hsort (by simp) (by simp) ?_
  simp [fcd]
  exact Le.keep rfl (Nat.le_refl _) (by simp) (by simp)
 refine zaa ?_
 refine zac (s:=?s1) rfl ?o1 ?q1
 case o1=>simp; rfl
 refine zag ?_
 exact ⟨.inr rfl,zam.out [96] [] rfl (by simp) (by simp) (by simp) (by simp [fcd])⟩
def WayA (A : List Ed) : Int → List Nat → Int → Prop
 | u,[],w=>u = w
 | u,i :: l,w=>i < A.length ∧ (arcD A i).f = u ∧ WayA A (arcD A i).t l w
theorem WayA.snoc {A : List Ed} : ∀ {l : List Nat} {u w : Int} {i : Nat},WayA A u l w → i < A.length → (arcD A i).f = w → WayA A u (l ++ [i]) (arcD A i).t
 | [],u,w,i,h,h1,h2=>⟨h1,by rw [h2]; exact (show u = w from h).symm,rfl⟩
 | j :: l,u,w,i,h,h1,h2=>⟨h.1,h.2.1,WayA.snoc h.2.2 h1 h2⟩
def metA (A : List Ed) (l : List Nat) : List Int:=l.map fun i=>(arcD A i).t
theorem zpU (A : List Ed) (l : List Nat) (i : Nat) : metA A (l ++ [i]) = metA A l ++ [(arcD A i).t]:=by simp [metA]
theorem WayA.take {A : List Ed} : ∀ {l : List Nat} {u w : Int} (n : Nat),WayA A u l w → ∀ x,(u :: metA A l)[n]? = some x → WayA A u (l.take n) x
 | l,u,w,0,_,x,hx=>by
   have : u = x:=by simpa using hx
   exact this
 | [],u,w,n + 1,_,x,hx=>by simp [metA] at hx
 | i :: l,u,w,n + 1,h,x,hx=>by
   refine ⟨h.1,h.2.1,WayA.take n h.2.2 x ?_⟩
   simpa [metA] using hx
theorem zjR (l : List Nat) (n i : Nat) : (l.take n).count i ≤ l.count i:=(List.take_sublist n l).count_le i
structure zhI (A : List Ed) (f g : List Int) (l : List Nat) (w : Int) : Prop where
 len : g.length = A.length
 nonneg : ∀ i,0 ≤ g.getD i 0
 way : WayA A 0 l w
 met : ((0 : Int) :: metA A l).Nodup
 used : ∀ i,g.getD i 0 + (l.count i : Int) ≤ f.getD i 0
 ex : ∀ x,exF A g x = exF A f x - (if x = 0 then 1 else 0) + if x = w then 1 else 0
theorem zhI.start {A : List Ed} {f : List Int} (hl : f.length = A.length) (h0 : ∀ i,0 ≤ f.getD i 0) : zhI A f f [] 0 :=
 ⟨hl,h0,rfl,by simp [metA],fun i=>by simp,fun x=>by split <;> omega⟩
theorem zm8 (f : List Int) (i j : Nat) (v : Int) (h : i < f.length) : (f.set i v).getD j 0 = if i = j then v else f.getD j 0:=by
 by_cases hj : i = j
 ·subst hj
  rw [if_pos rfl,List.getD_eq_getElem?_getD,List.getElem?_set_self h,Option.getD_some]
 ·rw [if_neg hj,List.getD_eq_getElem?_getD,List.getElem?_set_ne hj,List.getD_eq_getElem?_getD]
theorem zhI.more {A : List Ed} {f g : List Int} {l : List Nat} {w : Int} (h : zhI A f g l w) {k : Nat} (hk : k < A.length) (hf : (arcD A k).f = w) (hg : 0 < g.getD k 0) :
  ((arcD A k).t ∉ ((0 : Int) :: metA A l) → zhI A f (g.set k (g.getD k 0 - 1)) (l ++ [k]) (arcD A k).t) ∧
  ∀ n,((0 : Int) :: metA A l)[n]? = some (arcD A k).t → zhI A f (g.set k (g.getD k 0 - 1)) (l.take n) (arcD A k).t:=by
 have hkl : k < g.length:=by rw [h.len]; exact hk
 have hnn : ∀ i,0 ≤ (g.set k (g.getD k 0 - 1)).getD i 0:=fun i=>by
  rw [zm8 g k i _ hkl]
  split
  ·omega
  ·exact h.nonneg i
 have hex : ∀ x,exF A (g.set k (g.getD k 0 - 1)) x = exF A f x - (if x = 0 then 1 else 0) + if x = (arcD A k).t then 1 else 0:=fun x=>by
  have h1:=znl (A:=A) (f:=g) (δ:=-1) (s:=(k,false)) hk h.len x
  have h2 : zg4 (-1) g (k,false) = g.set k (g.getD k 0 - 1):=rfl
  have h3 : stF A (k,false) = w:=hf
  have h4 : stT A (k,false) = (arcD A k).t:=rfl
  rw [h2,h3,h4,h.ex x] at h1
  rw [h1]
  have e1 : (if w = x then (-1 : Int) else 0) = - if x = w then 1 else 0:=by
   by_cases hh : w = x
   ·rw [if_pos hh,if_pos hh.symm]
   ·rw [if_neg hh,if_neg fun e=>hh e.symm,Int.neg_zero]
  have e2 : (if (arcD A k).t = x then (-1 : Int) else 0) = - if x = (arcD A k).t then 1 else 0:=by
   by_cases hh : (arcD A k).t = x
   ·rw [if_pos hh,if_pos hh.symm]
   ·rw [if_neg hh,if_neg fun e=>hh e.symm,Int.neg_zero]
  rw [e1,e2]
  omega
 have hus : ∀ i,(g.set k (g.getD k 0 - 1)).getD i 0 + ((l ++ [k]).count i : Int) ≤ f.getD i 0:=fun i=>by
  have h1:=h.used i
  rw [zm8 g k i _ hkl,List.count_append]
  by_cases hi : k = i
  ·subst hi
   rw [if_pos rfl,show List.count k [k] = 1 by simp]
   omega
  ·rw [if_neg hi,show List.count i [k] = 0 from List.count_eq_zero.2 (by simpa using fun e=>hi e.symm)]
   omega
 refine ⟨fun hm=>⟨by rw [List.length_set]; exact h.len,hnn,h.way.snoc hk hf,?_,hus,hex⟩,fun n hn=>⟨by rw [List.length_set]; exact h.len,hnn,h.way.take n _ hn,?_,fun i=>?_,hex⟩⟩
 ·rw [zpU,← List.cons_append,List.nodup_append]
  exact ⟨h.met,by simp,fun a ha b hb=>by rw [List.mem_singleton] at hb; subst hb; rintro rfl; exact hm ha⟩
 ·have hs : ((0 : Int) :: metA A (l.take n)).Sublist ((0 : Int) :: metA A l):=((List.take_sublist n l).map _).cons_cons 0
  exact h.met.sublist hs
 ·have h1:=hus i
  have h2 : (l.take n).count i ≤ (l ++ [k]).count i:=Nat.le_trans (zjR l n i) (by rw [List.count_append]; omega)
  omega
structure zfB (A : List Ed) (E : Int → Int → Prop) (seeds sinks : List Int) (c : Int → Int) : Prop where
 kind : ∀ i,i < A.length → (∃ x,x ∈ seeds ∧ 0 ≤ x ∧ arcD A i = ⟨0,2 + 2 * x,c x⟩) ∨ (∃ x,0 ≤ x ∧ arcD A i = ⟨2 + 2 * x,3 + 2 * x,c x - 1⟩) ∨ (∃ x,x ∈ sinks ∧ 0 ≤ x ∧ arcD A i = ⟨2 + 2 * x,1,1⟩) ∨ (∃ x y,0 ≤ x ∧ 0 ≤ y ∧ E x y ∧ arcD A i = ⟨3 + 2 * x,2 + 2 * y,64⟩)
 uniq : ∀ i j,i < A.length → j < A.length → (arcD A i).f = (arcD A j).f → (arcD A i).t = (arcD A j).t → i = j
inductive zff (A : List Ed) (E : Int → Int → Prop) (sinks : List Int) (c : Int → Int) : Int → List Nat → List Int → Prop
 | last (k : Int) (i : Nat) : i < A.length → arcD A i = ⟨2 + 2 * k,1,1⟩ → k ∈ sinks → zff A E sinks c k [i] []
 | more (k y : Int) (i j : Nat) (l : List Nat) (ks : List Int) : i < A.length → arcD A i = ⟨2 + 2 * k,3 + 2 * k,c k - 1⟩ → arcD A j = ⟨3 + 2 * k,2 + 2 * y,64⟩ → E k y → 0 ≤ y → zff A E sinks c y l ks → zff A E sinks c k (i :: j :: l) (y :: ks)
variable {A : List Ed} {E : Int → Int → Prop} {seeds sinks : List Int} {c : Int → Int}
theorem zfB.sinkless (h : zfB A E seeds sinks c) {i : Nat} (hi : i < A.length) : (arcD A i).f ≠ 1:=by
 rcases h.kind i hi with ⟨x,_,hx,e⟩ | ⟨x,hx,e⟩ | ⟨x,_,hx,e⟩ | ⟨x,y,hx,hy,_,e⟩ <;> rw [e] <;> simp only <;> omega
theorem zfB.path (h : zfB A E seeds sinks c) : ∀ (n : Nat) (l : List Nat) (k : Int),l.length ≤ n → 0 ≤ k → WayA A (2 + 2 * k) l 1 → ∃ ks,zff A E sinks c k l ks
 | _,[],k,_,hk,hw=>by
   have : 2 + 2 * k = 1:=hw
   omega
 | n,[i],k,_,hk,hw=>by
   obtain ⟨h1,h2,h3⟩:=hw
   have h3' : (arcD A i).t = 1:=h3
   rcases h.kind i h1 with ⟨x,_,hx,e⟩ | ⟨x,hx,e⟩ | ⟨x,hs,hx,e⟩ | ⟨x,y,hx,hy,_,e⟩ <;> rw [e] at h2 h3' <;> simp only at h2 h3'
   ·omega
   ·omega
   ·have : x = k:=by omega
    subst this
    exact ⟨[],.last _ i h1 e hs⟩
   ·omega
 | 0,_ :: _ :: _,_,hn,_,_=>by simp at hn
 | n + 1,i :: j :: l,k,hn,hk,hw=>by
   obtain ⟨h1,h2,h4,h5,h6⟩:=hw
   rcases h.kind i h1 with ⟨x,_,hx,e⟩ | ⟨x,hx,e⟩ | ⟨x,hs,hx,e⟩ | ⟨x,y,hx,hy,_,e⟩
   ·rw [e] at h2; simp only at h2; omega
   ·rw [e] at h2 h5
    simp only at h2 h5
    have : x = k:=by omega
    subst this
    rcases h.kind j h4 with ⟨z,_,hz,e'⟩ | ⟨z,hz,e'⟩ | ⟨z,hs,hz,e'⟩ | ⟨z,y,hz,hy,hE,e'⟩
    ·rw [e'] at h5; simp only at h5; omega
    ·rw [e'] at h5; simp only at h5; omega
    ·rw [e'] at h5; simp only at h5; omega
    ·rw [e'] at h5 h6
     simp only at h5 h6
     have : z = x:=by omega
     subst this
     obtain ⟨ks,hp⟩:=h.path n l y (by simp at hn; omega) hy h6
     exact ⟨y :: ks,.more _ y i j l ks h1 e e' hE hy hp⟩
   ·rw [e] at h5
    simp only at h5
    exact absurd h5 (h.sinkless h4)
   ·rw [e] at h2; simp only at h2; omega
def keyT (t : Int) : Option Int:=if 2 ≤ t ∧ t % 2 = 0 then some ((t - 2) / 2) else none
def zce (A : List Ed) (l : List Nat) : List Int:=(metA A l).filterMap keyT
theorem zi0 {k : Int} (h : 0 ≤ k) : keyT (2 + 2 * k) = some k:=by
 unfold keyT
 rw [if_pos ⟨by omega,by omega⟩]
 congr 1
 omega
theorem zp9 (k : Int) : keyT (3 + 2 * k) = none:=if_neg (by omega)
theorem zpM : keyT 1 = none:=if_neg (by omega)
theorem zff.keys {k : Int} {l : List Nat} {ks : List Int} (h : zff A E sinks c k l ks) : zce A l = ks:=by
 induction h with
 | last k i h1 h2 h3 =>
   unfold zce metA
   rw [List.map_cons,List.map_nil,List.filterMap_cons,h2]
   simp only
   rw [zpM]
   rfl
 | more k y i j l ks h1 h2 h3 h4 h5 h6 ih =>
   unfold zce metA at ih ⊢
   rw [List.map_cons,List.map_cons,List.filterMap_cons,h2]
   simp only
   rw [zp9,List.filterMap_cons,h3]
   simp only
   rw [zi0 h5,ih]
theorem zff.edges {k : Int} {l : List Nat} {ks : List Int} (h : zff A E sinks c k l ks) : ∀ i (hi : i + 1 < (k :: ks).length),E (k :: ks)[i] (k :: ks)[i + 1]:=by
 induction h with
 | last k i h1 h2 h3=>intro i hi; simp at hi
 | more k y i j l ks h1 h2 h3 h4 h5 h6 ih =>
   intro n hn
   cases n with
   | zero=>exact h4
   | succ n=>exact ih n (by simpa using hn)
theorem zff.ends {k : Int} {l : List Nat} {ks : List Int} (h : zff A E sinks c k l ks) : ∃ z,(k :: ks).getLast? = some z ∧ z ∈ sinks ∧ ∃ i ∈ l,i < A.length ∧ arcD A i = ⟨2 + 2 * z,1,1⟩:=by
 induction h with
 | last k i h1 h2 h3=>exact ⟨k,rfl,h3,i,List.mem_singleton.2 rfl,h1,h2⟩
 | more k y i j l ks h1 h2 h3 h4 h5 h6 ih =>
   obtain ⟨z,hz,hs,m,hm,hm2,hm3⟩:=ih
   exact ⟨z,by rw [List.getLast?_cons_cons]; exact hz,hs,m,List.mem_cons_of_mem _ (List.mem_cons_of_mem _ hm),hm2,hm3⟩
theorem zff.uses (hu : ∀ i j,i < A.length → j < A.length → (arcD A i).f = (arcD A j).f → (arcD A i).t = (arcD A j).t → i = j) {k : Int} {l : List Nat} {ks : List Int} (h : zff A E sinks c k l ks) {m : Int} {n : Nat} (hn : n < A.length) (hm : arcD A n = ⟨2 + 2 * m,3 + 2 * m,c m - 1⟩) : (k :: ks).dropLast.count m ≤ l.count n:=by
 induction h with
 | last k i h1 h2 h3=>simp
 | more k y i j l ks h1 h2 h3 h4 h5 h6 ih =>
   rw [List.dropLast_cons_of_ne_nil (by simp),List.count_cons]
   have h7 : l.count n ≤ (j :: l).count n:=by rw [List.count_cons]; omega
   rw [List.count_cons]
   by_cases hk : k = m
   ·subst hk
    have : i = n:=hu i n h1 hn (by rw [h2,hm]) (by rw [h2,hm])
    subst this
    simp only [beq_self_eq_true,if_true]
    omega
   ·have hk' : (k == m) = false:=by simpa using hk
    rw [hk']
    simp only [Bool.false_eq_true,if_false]
    omega
theorem zff.mids {k : Int} {l : List Nat} {ks : List Int} (h : zff A E sinks c k l ks) {m : Int} (hm : m ∈ (k :: ks).dropLast) : ∃ n,n < A.length ∧ arcD A n = ⟨2 + 2 * m,3 + 2 * m,c m - 1⟩:=by
 induction h with
 | last k i h1 h2 h3=>simp at hm
 | more k y i j l ks h1 h2 h3 h4 h5 h6 ih =>
   rw [List.dropLast_cons_of_ne_nil (by simp)] at hm
   rcases List.mem_cons.1 hm with rfl | hm
   ·exact ⟨i,h1,h2⟩
   ·exact ih hm
theorem zfB.whole (h : zfB A E seeds sinks c) {l : List Nat} (hw : WayA A 0 l 1) : ∃ x i l' ks,l = i :: l' ∧ i < A.length ∧ x ∈ seeds ∧ 0 ≤ x ∧ arcD A i = ⟨0,2 + 2 * x,c x⟩ ∧ zff A E sinks c x l' ks ∧ zce A l = x :: ks:=by
 cases l with
 | nil=>have : (0 : Int) = 1:=hw; omega
 | cons i l =>
   obtain ⟨h1,h2,h3⟩:=hw
   rcases h.kind i h1 with ⟨x,hs,hx,e⟩ | ⟨x,hx,e⟩ | ⟨x,hs,hx,e⟩ | ⟨x,y,hx,hy,_,e⟩
   ·rw [e] at h3
    obtain ⟨ks,hp⟩:=h.path l.length l x (Nat.le_refl _) hx h3
    refine ⟨x,i,l,ks,rfl,h1,hs,hx,e,hp,?_⟩
    have hk:=hp.keys
    unfold zce metA at hk ⊢
    rw [List.map_cons,List.filterMap_cons,e]
    simp only
    rw [zi0 hx,hk]
   ·rw [e] at h2; simp only at h2; omega
   ·rw [e] at h2; simp only at h2; omega
   ·rw [e] at h2; simp only at h2; omega
theorem zlx {l : List Nat} (h : (metA A l).Nodup) : (zce A l).Nodup:=by
 unfold zce
 refine List.Pairwise.filterMap _ (fun a a' hne b hb b' hb'=>?_) h
 unfold keyT at hb hb'
 split at hb <;> split at hb' <;> simp at hb hb' <;> omega
def sumN (g : List Nat → Nat) (W : List (List Nat)) : Nat:=(W.map g).sum
theorem zhv (g : List Nat → Nat) (w : List Nat) (W : List (List Nat)) : sumN g (w :: W) = g w + sumN g W:=by simp [sumN]
theorem zie {l : List Int} (h : ∀ x,l.count x ≤ 1) : l.Nodup:=by
 induction l with
 | nil=>exact List.nodup_nil
 | cons x l ih =>
   rw [List.nodup_cons]
   refine ⟨fun hm=>?_,ih fun y=>?_⟩
   ·have h1:=h x
    rw [List.count_cons_self] at h1
    have h2:=List.count_pos_iff.2 hm
    omega
   ·have h1:=h y
    rw [List.count_cons] at h1
    omega
theorem zpR {A : List Ed} {n : Nat} {k : Int} : ∀ {W : List (List Nat)},(∀ w ∈ W,(zce A w).head? = some k → 1 ≤ w.count n) → begC (W.map (zce A)) k ≤ sumN (List.count n) W
 | [],_=>by simp [begC,sumN]
 | w :: W,h=>by
   have ih:=zpR (n:=n) (k:=k) fun x hx=>h x (List.mem_cons_of_mem w hx)
   have h1:=h w (List.mem_cons_self ..)
   unfold begC at ih ⊢
   rw [List.map_cons,List.countP_cons,zhv]
   by_cases hk : (zce A w).head? = some k
   ·have:=h1 hk
    simp only [hk,decide_true,if_true]
    omega
   ·simp only [hk,decide_false,Bool.false_eq_true,if_false]
    omega
theorem zkn {A : List Ed} {k : Int} : ∀ {W : List (List Nat)},begC (W.map (zce A)) k = 0 ∨ ∃ w ∈ W,(zce A w).head? = some k
 | []=>.inl rfl
 | w :: W=>by
   by_cases hk : (zce A w).head? = some k
   ·exact .inr ⟨w,List.mem_cons_self ..,hk⟩
   ·rcases zkn (A:=A) (k:=k) (W:=W) with h | ⟨x,hx,hx2⟩
    ·left
     unfold begC at h ⊢
     rw [List.map_cons,List.countP_cons,h]
     simp [hk]
    ·exact .inr ⟨x,List.mem_cons_of_mem _ hx,hx2⟩
theorem zo1 {A : List Ed} {n : Nat} {k : Int} : ∀ {W : List (List Nat)},(∀ w ∈ W,(zce A w).dropLast.count k ≤ w.count n) → useC (W.map (zce A)) k ≤ sumN (List.count n) W
 | [],_=>by simp [useC,sumN]
 | w :: W,h=>by
   have ih:=zo1 (n:=n) (k:=k) fun x hx=>h x (List.mem_cons_of_mem w hx)
   have h1:=h w (List.mem_cons_self ..)
   unfold useC at ih ⊢
   rw [List.map_cons,List.flatMap_cons,List.count_append,zhv]
   omega
theorem zk6 {A : List Ed} {k : Int} : ∀ {W : List (List Nat)},useC (W.map (zce A)) k = 0 ∨ ∃ w ∈ W,k ∈ (zce A w).dropLast
 | []=>.inl rfl
 | w :: W=>by
   by_cases hk : k ∈ (zce A w).dropLast
   ·exact .inr ⟨w,List.mem_cons_self ..,hk⟩
   ·rcases zk6 (A:=A) (k:=k) (W:=W) with h | ⟨x,hx,hx2⟩
    ·left
     unfold useC at h ⊢
     rw [List.map_cons,List.flatMap_cons,List.count_append,h,List.count_eq_zero.2 hk]
    ·exact .inr ⟨x,List.mem_cons_of_mem _ hx,hx2⟩
theorem zmM {A : List Ed} {n : Nat} {k : Int} : ∀ {W : List (List Nat)},(∀ w ∈ W,(zce A w).getLast? = some k → 1 ≤ w.count n) → (zgr (W.map (zce A))).count k ≤ sumN (List.count n) W
 | [],_=>by simp [zgr,sumN]
 | w :: W,h=>by
   have ih:=zmM (n:=n) (k:=k) fun x hx=>h x (List.mem_cons_of_mem w hx)
   have h1:=h w (List.mem_cons_self ..)
   unfold zgr at ih ⊢
   rw [List.map_cons,List.filterMap_cons,zhv]
   cases hl : (zce A w).getLast? with
   | none=>simp only; omega
   | some z =>
     simp only [List.count_cons]
     by_cases hz : z = k
     ·subst hz
      have:=h1 hl
      simp only [beq_self_eq_true,if_true]
      omega
     ·have : (z == k) = false:=by simpa using hz
      rw [this]
      simp only [Bool.false_eq_true,if_false]
      omega
theorem znY {A : List Ed} {E : Int → Int → Prop} {seeds sinks : List Int} {cl : List Int} {f : List Int} {W : List (List Nat)}
  (hk : zfB A E seeds sinks fun x=>cl.getD x.toNat 0) (hf : Fit2 A f) (hw : ∀ w ∈ W,WayA A 0 w 1 ∧ (metA A w).Nodup) (hs : ∀ i,i < A.length → (sumN (List.count i) W : Int) ≤ f.getD i 0) (hc : ∀ x ∈ cl,0 ≤ x) :
  zjx cl (W.map (zce A)) ∧ (zgr (W.map (zce A))).Nodup ∧ (∀ k ∈ zgr (W.map (zce A)),k ∈ sinks) ∧
  ∀ p ∈ W.map (zce A),(∃ k,p.head? = some k ∧ k ∈ seeds) ∧ p.Nodup ∧ ∀ i (h : i + 1 < p.length),E p[i] p[i + 1]:=by
 have hfit:=(zjV.1 hf).2
 have hlast : ∀ w ∈ W,∃ z,(zce A w).getLast? = some z ∧ z ∈ sinks ∧ ∃ i ∈ w,i < A.length ∧ arcD A i = ⟨2 + 2 * z,1,1⟩:=fun w hwW=>by
  obtain ⟨x,i,l',ks,rfl,hi,hxs,hx0,he,hp,hkk⟩:=hk.whole (hw w hwW).1
  obtain ⟨z,hz,hzs,m,hm,hm2,hm3⟩:=hp.ends
  exact ⟨z,by rw [hkk]; exact hz,hzs,m,List.mem_cons_of_mem _ hm,hm2,hm3⟩
 refine ⟨fun k hkl=>⟨?_,?_⟩,zie fun z=>?_,fun z hz=>?_,fun p hp=>?_⟩
 ·have hck:=hc _ (List.getElem_mem hkl)
  have hcg : cl.getD k 0 = cl[k]:=by rw [List.getD_eq_getElem?_getD,List.getElem?_eq_getElem hkl,Option.getD_some]
  rcases zkn (A:=A) (k:=(k : Int)) (W:=W) with h | ⟨w,hwW,hh⟩
  ·rw [h]; exact hck
  ·obtain ⟨x,i,l',ks,rfl,hi,hxs,hx0,he,hp,hkk⟩:=hk.whole (hw w hwW).1
   rw [hkk] at hh
   have hxk : x = k:=Option.some.inj hh
   subst hxk
   have h1:=zpR (A:=A) (n:=i) (k:=(k : Int)) (W:=W) fun v hvW hvk=>by
    obtain ⟨y,j,l2,ks2,rfl,hj,_,_,he2,_,hkk2⟩:=hk.whole (hw v hvW).1
    rw [hkk2] at hvk
    have hyk : y = k:=Option.some.inj hvk
    have : j = i:=hk.uniq j i hj hi (by rw [he2,he]) (by rw [he2,he,hyk])
    subst this
    rw [List.count_cons_self]
    omega
   have h2:=hs i hi
   have h3:=(hfit i hi).2
   rw [he] at h3
   simp only [Int.toNat_natCast] at h3
   rw [hcg] at h3
   omega
 ·have hck:=hc _ (List.getElem_mem hkl)
  have hcg : cl.getD k 0 = cl[k]:=by rw [List.getD_eq_getElem?_getD,List.getElem?_eq_getElem hkl,Option.getD_some]
  rcases zk6 (A:=A) (k:=(k : Int)) (W:=W) with h | ⟨w,hwW,hh⟩
  ·rw [h]; omega
  ·obtain ⟨x,i,l',ks,rfl,hi,hxs,hx0,he,hp,hkk⟩:=hk.whole (hw w hwW).1
   rw [hkk] at hh
   obtain ⟨n,hn,hnA⟩:=hp.mids hh
   have h1:=zo1 (A:=A) (n:=n) (k:=(k : Int)) (W:=W) fun v hvW=>by
    obtain ⟨y,j,l2,ks2,rfl,hj,_,_,he2,hp2,hkk2⟩:=hk.whole (hw v hvW).1
    rw [hkk2,List.count_cons]
    have:=hp2.uses hk.uniq hn hnA
    omega
   have h2:=hs n hn
   have h3:=(hfit n hn).2
   rw [hnA] at h3
   simp only [Int.toNat_natCast] at h3
   rw [hcg] at h3
   omega
 ·by_cases hz : z ∈ zgr (W.map (zce A))
  ·obtain ⟨p,hp,hpz⟩:=List.mem_filterMap.1 hz
   obtain ⟨w,hwW,rfl⟩:=List.mem_map.1 hp
   obtain ⟨y,hy,hys,i,hiw,hi,hiA⟩:=hlast w hwW
   rw [hpz] at hy
   have hzy : z = y:=Option.some.inj hy
   subst hzy
   have h1:=zmM (A:=A) (n:=i) (k:=z) (W:=W) fun v hvW hvz=>by
    obtain ⟨y,hy,_,j,hjv,hj,hjA⟩:=hlast v hvW
    rw [hvz] at hy
    have hzy : z = y:=Option.some.inj hy
    have : j = i:=hk.uniq j i hj hi (by rw [hjA,hiA,hzy]) (by rw [hjA,hiA])
    subst this
    exact List.count_pos_iff.2 hjv
   have h2:=hs i hi
   have h3:=(hfit i hi).2
   rw [hiA] at h3
   simp only at h3
   omega
  ·rw [List.count_eq_zero.2 hz]
   omega
 ·obtain ⟨p,hp,hpz⟩:=List.mem_filterMap.1 hz
  obtain ⟨w,hwW,rfl⟩:=List.mem_map.1 hp
  obtain ⟨y,hy,hys,_⟩:=hlast w hwW
  rw [hpz] at hy
  rw [Option.some.inj hy]
  exact hys
 ·obtain ⟨w,hwW,rfl⟩:=List.mem_map.1 hp
  refine ⟨?_,zlx (hw w hwW).2,?_⟩
  ·obtain ⟨x,i,l',ks,rfl,hi,hxs,hx0,he,hp,hkk⟩:=hk.whole (hw w hwW).1
   exact ⟨x,by rw [hkk]; rfl,hxs⟩
  ·obtain ⟨x,i,l',ks,rfl,hi,hxs,hx0,he,hp,hkk⟩:=hk.whole (hw w hwW).1
   have:=hp.edges
   intro n hn
   simp only [hkk] at hn ⊢
   exact this n hn
def zdh (e : Ed) : Int × Int:=(e.f,e.t)
theorem zj2 {A : List Ed} (h : (A.map zdh).Nodup) {i j : Nat} (hi : i < A.length) (hj : j < A.length) (h1 : (arcD A i).f = (arcD A j).f) (h2 : (arcD A i).t = (arcD A j).t) : i = j:=by
 have hg : ∀ k (hk : k < A.length),(A.map zdh)[k]'(by simpa using hk) = zdh (arcD A k):=fun k hk=>by
  rw [List.getElem_map]
  unfold arcD
  rw [List.getD_eq_getElem?_getD,List.getElem?_eq_getElem hk,Option.getD_some]
 have he : zdh (arcD A i) = zdh (arcD A j):=by unfold zdh; rw [h1,h2]
 rcases Nat.lt_trichotomy i j with hlt | heq | hgt
 ·exact absurd ((hg i hi).trans (he.trans (hg j hj).symm)) (List.pairwise_iff_getElem.1 h i j (by simpa using hi) (by simpa using hj) hlt)
 ·exact heq
 ·exact absurd ((hg j hj).trans (he.symm.trans (hg i hi).symm)) (List.pairwise_iff_getElem.1 h j i (by simpa using hj) (by simpa using hi) hgt)
theorem zeO {α β : Type} {φ : α → β} {l : List α} (h : l.Nodup) (hi : ∀ a ∈ l,∀ b ∈ l,φ a = φ b → a = b) : (l.map φ).Nodup:=by
 rw [List.Nodup,List.pairwise_map]
 exact List.Pairwise.imp_of_mem (fun {a b} ha hb hab he=>hab (hi a ha b hb he)) h
theorem zlN {g : Gr} {p : Pol} {c sinks seeds' : List Int} {E : Int → Int → Prop} (hE : ∀ e ∈ (zao g p.lv).edges,0 < c.getD e.f.toNat 0 → E e.f e.t) (hS : ∀ x ∈ p.seeds,0 < c.getD x.toNat 0 → x ∈ seeds') (hs : p.seeds.Nodup) (hs0 : ∀ x ∈ p.seeds,0 ≤ x) (hk : sinks.Nodup) (hk0 : ∀ x ∈ sinks,0 ≤ x) (he : ((zao g p.lv).edges.map zdh).Nodup) (he0 : ∀ e ∈ (zao g p.lv).edges,0 ≤ e.f ∧ 0 ≤ e.t) :
  zfB (zbB g p c sinks) E seeds' sinks fun x=>c.getD x.toNat 0:=by
 refine ⟨fun i hi=>?_,fun i j hi hj=>zj2 ?_ hi hj⟩
 ·have hm:=zjs hi
  revert hm
  generalize arcD (zbB g p c sinks) i = a
  intro hm
  unfold zbB at hm
  rcases List.mem_append.1 hm with hm | hm
  ·rcases List.mem_append.1 hm with hm | hm
   ·rcases List.mem_append.1 hm with hm | hm
    ·obtain ⟨x,hx,rfl⟩:=List.mem_map.1 hm
     have hx:=List.mem_filter.1 hx
     exact .inl ⟨x,hS x hx.1 (by simpa using hx.2),hs0 x hx.1,rfl⟩
    ·obtain ⟨x,hx,rfl⟩:=List.mem_map.1 hm
     exact .inr (.inl ⟨x,Int.natCast_nonneg _,by simp⟩)
   ·obtain ⟨x,hx,rfl⟩:=List.mem_map.1 hm
    have hx:=(List.mem_filter.1 hx).1
    exact .inr (.inr (.inl ⟨x,hx,hk0 x hx,rfl⟩))
  ·obtain ⟨e,hx,rfl⟩:=List.mem_map.1 hm
   have hx:=List.mem_filter.1 hx
   have h0:=he0 e hx.1
   exact .inr (.inr (.inr ⟨e.f,e.t,h0.1,h0.2,hE e hx.1 (by simpa using hx.2),rfl⟩))
 ·unfold zbB
  simp only [List.map_append,List.map_map]
  refine List.nodup_append.2 ⟨List.nodup_append.2 ⟨List.nodup_append.2 ⟨?_,?_,?_⟩,?_,?_⟩,?_,?_⟩
  ·exact zeO (hs.filter _) fun a _ b _ h=>by simp [zdh] at h; omega
  ·exact zeO (List.nodup_range.filter _) fun a _ b _ h=>by simp [zdh] at h; omega
  ·intro a ha b hb
   obtain ⟨x,hx,rfl⟩:=List.mem_map.1 ha
   obtain ⟨y,hy,rfl⟩:=List.mem_map.1 hb
   intro h
   simp [zdh] at h
   omega
  ·exact zeO (hk.filter _) fun a _ b _ h=>by simp [zdh] at h; omega
  ·intro a ha b hb
   obtain ⟨y,hy,rfl⟩:=List.mem_map.1 hb
   have hy0:=hk0 y (List.mem_filter.1 hy).1
   rcases List.mem_append.1 ha with ha | ha
   ·obtain ⟨x,hx,rfl⟩:=List.mem_map.1 ha
    intro h
    simp [zdh] at h
    omega
   ·obtain ⟨x,hx,rfl⟩:=List.mem_map.1 ha
    intro h
    simp [zdh] at h
    omega
  ·have h1 : ((zao g p.lv).edges.filter fun e=>decide (0 < c.getD e.f.toNat 0)).Pairwise fun a b=>zdh a ≠ zdh b:=by
    rw [List.Nodup,List.pairwise_map] at he
    exact he.filter _
   rw [List.Nodup,List.pairwise_map]
   refine h1.imp fun {a b} hab h=>hab ?_
   simp [zdh] at h
   unfold zdh
   rw [show a.f = b.f by omega,show a.t = b.t by omega]
  ·intro a ha b hb
   obtain ⟨e,hy,rfl⟩:=List.mem_map.1 hb
   have hy0:=he0 e (List.mem_filter.1 hy).1
   rcases List.mem_append.1 ha with ha | ha
   ·rcases List.mem_append.1 ha with ha | ha
    ·obtain ⟨x,hx,rfl⟩:=List.mem_map.1 ha
     intro h
     simp [zdh] at h
     omega
    ·obtain ⟨x,hx,rfl⟩:=List.mem_map.1 ha
     intro h
     simp [zdh] at h
     omega
   ·obtain ⟨x,hx,rfl⟩:=List.mem_map.1 ha
    intro h
    simp [zdh] at h
    omega
structure Expl where
 key : Int
 acc : Bool
 before : List Int
 paths : List (List Int)
 side : List Int
theorem zb9 (g : Gr) (S : List Int) : (ordL g S).Nodup:=by
 refine (zko (g:=g) (S:=S) g.size.toNat).imp fun {a b} h e=>?_
 subst e
 unfold Lt at h
 omega
theorem zgx {g : Gr} {S : List Int} {k : Int} (h : k ∈ ordL g S) : 0 ≤ k ∧ k < g.size:=by
 have:=zhd.1 h
 omega
open Classical in
noncomputable def zpN (g : Gr) (p : Pol) (x : Expl) : Int :=
 let order:=ordL (zao g p.lv) p.seeds
 let c:=zbW g p
 if x.key ∉ order then 11
 else if ¬ zeS order x.before x.key ∨ (x.acc = true ∧ x.side ≠ []) ∨ (x.acc = false ∧ x.paths ≠ []) then 1
 else if x.acc = true then (if zgl g p.lv p.seeds order c x.paths (x.before ++ [x.key]) then 0 else 52)
 else if zme ⟨2 + 2 * g.size,zbB g p c (srt (x.before ++ [x.key]))⟩ x.side x.before.length then 0 else 52
open Classical in
noncomputable def zpb (g : Gr) (p : Pol) (x : Expl) : Int :=
 let order:=ordL (zao g p.lv) p.seeds
 let c:=zbW g p
 if x.key ∉ order then 11
 else if ¬ zeS order x.before x.key ∨ (x.acc = true ∧ x.side ≠ []) ∨ (x.acc = false ∧ x.paths ≠ []) then 1
 else if x.acc = true then (if zh4 g p.lv p.seeds order c x.paths (x.before ++ [x.key]) then 0 else 52)
 else if zme ⟨2 + 2 * g.size,zbB g p c (za2 (x.before ++ [x.key]))⟩ x.side x.before.length then 0 else 52
theorem zoc {g : Gr} (hs : g.size ≤ 64) (p : Pol) (x : Expl) : zpN g p x = zpb g p x:=by
 unfold zpN zpb
 simp only
 have hno:=zb9 (zao g p.lv) p.seeds
 have hra : ∀ k ∈ ordL (zao g p.lv) p.seeds,0 ≤ k ∧ k < 64:=fun k hk=>by
  have:=zgx hk
  have h2 : (zao g p.lv).size = g.size:=rfl
  omega
 generalize ordL (zao g p.lv) p.seeds = o at *
 by_cases h1 : x.key ∈ o
 ·by_cases h2 : ¬ zeS o x.before x.key ∨ (x.acc = true ∧ x.side ≠ []) ∨ (x.acc = false ∧ x.paths ≠ [])
  ·rw [if_neg (not_not_intro h1),if_pos h2,if_neg (not_not_intro h1),if_pos h2]
  ·rw [if_neg (not_not_intro h1),if_neg h2,if_neg (not_not_intro h1),if_neg h2]
   have h3 : zeS o x.before x.key:=Classical.byContradiction fun h=>h2 (.inl h)
   have h4:=h3.nodup hno
   have h5 : ∀ k ∈ x.before ++ [x.key],0 ≤ k ∧ k < 64:=fun k hk=>by
    rcases List.mem_append.1 hk with hk | hk
    ·exact hra k ((List.takeWhile_sublist _).subset (h3.subset hk))
    ·rw [List.mem_singleton] at hk
     rw [hk]
     exact hra _ h1
   rw [zmt h4 h5]
   by_cases ha : x.acc = true
   ·rw [if_pos ha,if_pos ha]
    by_cases hc : zgl g p.lv p.seeds o (zbW g p) x.paths (x.before ++ [x.key])
    ·rw [if_pos hc,if_pos ((ziI h4).1 hc)]
    ·rw [if_neg hc,if_neg fun h=>hc ((ziI h4).2 h)]
   ·rw [if_neg ha,if_neg ha]
 ·rw [if_pos h1,if_pos h1]
theorem zp3 {g : Gr} {p : Pol} {k : Int} (h0 : 0 ≤ k) (h1 : k < g.size) : (zbW g p).getD k.toNat 0 = zi5 p (dist (zao g p.lv) p.seeds k):=by
 unfold zbW zdc
 have h2 : k.toNat < (zao g p.lv).size.toNat:=by show k.toNat < g.size.toNat; omega
 rw [List.getD_eq_getElem?_getD,List.getElem?_map,List.getElem?_map,List.getElem?_range h2]
 simp only [Option.map_some,Option.getD_some]
 rw [show ((k.toNat : Nat) : Int) = k by omega]
theorem zoG {g : Gr} {p : Pol} {k : Int} (h1 : g.size ≤ k) : (zbW g p).getD k.toNat 0 = 0:=by
 unfold zbW zdc
 have h2 : ¬ k.toNat < (zao g p.lv).size.toNat:=by show ¬ k.toNat < g.size.toNat; omega
 rw [List.getD_eq_getElem?_getD,List.getElem?_eq_none (by simp; omega)]
 rfl
theorem zkC {g : Gr} {p : Pol} {n : Int} (hp : zbx n p) : ∀ x ∈ zbW g p,0 ≤ x:=fun x hx=>by
 unfold zbW at hx
 obtain ⟨d,_,rfl⟩:=List.mem_map.1 hx
 exact (zmk hp d).1
theorem zi3 {g : Gr} {p : Pol} {n : Int} (hp : zbx n p) {k : Int} (h0 : 0 ≤ k) : 0 < (zbW g p).getD k.toNat 0 ↔ k < g.size ∧ 0 ≤ dist (zao g p.lv) p.seeds k:=by
 by_cases h1 : k < g.size
 ·rw [zp3 h0 h1,zp5 hp]
  exact ⟨fun h=>⟨h1,h⟩,fun h=>h.2⟩
 ·rw [zoG (by omega)]
  constructor
  ·intro h; omega
  ·intro h; exact absurd h.1 h1
theorem GrOk.level {g : Gr} (h : GrOk g) (v : Int) : GrOk (zao g v):=by
 refine ⟨⟨h.1.1,h.1.2.1,Nat.le_trans (List.length_filter_le _ _) h.1.2.2.1,h.1.2.2.2⟩,fun i hi=>?_⟩
 have hm : (zao g v).edges[i] ∈ g.edges:=(List.mem_filter.1 (List.getElem_mem hi)).1
 obtain ⟨j,hj,hje⟩:=List.mem_iff_getElem.1 hm
 have h1:=h.2 j hj
 rw [hje] at h1
 refine ⟨h1.1,h1.2.1,h1.2.2.1,fun h0=>?_⟩
 rw [zhu]
 have hp : (zao g v).edges.Pairwise Bef:=h.pair.filter _
 exact List.pairwise_iff_getElem.1 hp (i - 1) i (by omega) hi (by omega)
theorem zjg {g : Gr} (h : GrOk g) {S : List Int} {k : Int} : k ∈ ordL g S ↔ Key g k ∧ 0 ≤ dist g S k:=by
 unfold ordL
 rw [zhd]
 constructor
 ·rintro ⟨⟨h1,h2⟩,h3,_⟩
  exact ⟨⟨h1,by omega⟩,h3⟩
 ·rintro ⟨h1,h2⟩
  have h3:=zpT (S:=S) h h1
  have h4:=h1.1
  have h5:=h1.2
  exact ⟨⟨h4,by omega⟩,h2,by omega⟩
theorem zgf {g : Gr} (h : GrOk g) (v : Int) : ((zao g v).edges.map zdh).Nodup ∧ ∀ e ∈ (zao g v).edges,0 ≤ e.f ∧ e.f < g.size ∧ 0 ≤ e.t ∧ e.t < g.size:=by
 have hl:=h.level v
 refine ⟨?_,fun e he=>?_⟩
 ·rw [List.Nodup,List.pairwise_map]
  refine hl.pair.imp fun {a b} hab he=>?_
  unfold Bef at hab
  unfold zdh at he
  simp at he
  omega
 ·obtain ⟨i,hi,rfl⟩:=List.mem_iff_getElem.1 he
  have h1:=(hl.2 i hi).1
  have h2 : (zao g v).size = g.size:=rfl
  unfold Fits at h1
  omega
theorem Rise.nodup {l : List Int} {lo hi : Int} (h : Rise l lo hi) : l.Nodup ∧ ∀ x ∈ l,lo ≤ x ∧ x ≤ hi:=by
 have hlt : ∀ (j i : Nat) (hj : j < l.length) (hij : i < j),l[i] < l[j]:=by
  intro j
  induction j with
  | zero=>intro i _ hij; omega
  | succ j ih =>
    intro i hj hij
    have h1:=(h (j + 1) hj).2.2 (by omega)
    simp only [Nat.add_sub_cancel] at h1
    rcases Nat.lt_or_ge i j with h2 | h2
    ·have:=ih i (by omega) h2
     omega
    ·have : i = j:=by omega
     subst this
     exact h1
 refine ⟨List.pairwise_iff_getElem.2 fun i j hi hj hij he=>?_,fun x hx=>?_⟩
 ·have:=hlt j i hj hij
  omega
 ·obtain ⟨i,hi,rfl⟩:=List.mem_iff_getElem.1 hx
  have:=h i hi
  exact ⟨this.1,this.2.1⟩
theorem zlg {g : Gr} {p : Pol} {sinks ends f : List Int} {W : List (List Nat)} (hg : GrOk g) (hp : zbx g.size p) (hk : sinks.Nodup) (hk0 : ∀ x ∈ sinks,0 ≤ x) (hpe : ends.Perm sinks)
  (hf : Fit2 (zbB g p (zbW g p) sinks) f) (hw : ∀ w ∈ W,WayA (zbB g p (zbW g p) sinks) 0 w 1 ∧ (metA (zbB g p (zbW g p) sinks) w).Nodup)
  (hs : ∀ i,i < (zbB g p (zbW g p) sinks).length → (sumN (List.count i) W : Int) ≤ f.getD i 0) (hl : W.length = sinks.length) :
  zh4 g p.lv p.seeds (ordL (zao g p.lv) p.seeds) (zbW g p) (W.map (zce (zbB g p (zbW g p) sinks))) ends:=by
 have hgl:=hg.level p.lv
 have hse:=hp.2.1.nodup
 have hle:=zgf hg p.lv
 have hmo : ∀ k,0 ≤ k → 0 < (zbW g p).getD k.toNat 0 → k ∈ ordL (zao g p.lv) p.seeds:=fun k h0 hc=>by
  have h1:=(zi3 hp h0).1 hc
  exact (zjg hgl).2 ⟨⟨h0,h1.1⟩,h1.2⟩
 have hnet : zfB (zbB g p (zbW g p) sinks) (fun x y=>zmP g p.lv x y ∧ y ∈ ordL (zao g p.lv) p.seeds) (p.seeds.filter fun x=>decide (x ∈ ordL (zao g p.lv) p.seeds)) sinks fun x=>(zbW g p).getD x.toNat 0:=by
  refine zlN (fun e he hc=>?_) (fun x hx hc=>?_) hse.1 (fun x hx=>(hse.2 x hx).1) hk hk0 hle.1 fun e he=>⟨(hle.2 e he).1,(hle.2 e he).2.2.1⟩
  ·have h0:=hle.2 e he
   have h1:=(zi3 hp h0.1).1 hc
   have h2:=zla hgl he h1.2
   refine ⟨?_,(zjg hgl).2 ⟨⟨h0.2.2.1,h0.2.2.2⟩,h2.1⟩⟩
   unfold zao at he
   have h3:=List.mem_filter.1 he
   refine ⟨e,h3.1,rfl,rfl,?_⟩
   have:=h3.2
   simp at this
   omega
  ·exact List.mem_filter.2 ⟨hx,by simpa using hmo x (hse.2 x hx).1 hc⟩
 obtain ⟨q1,q2,q3,q4⟩:=znY hnet hf hw hs (zkC hp)
 refine ⟨by rw [List.length_map,hl,hpe.length_eq],hpe.nodup_iff.2 hk,fun w hwW=>?_,fun k hkl=>hpe.mem_iff.2 (q3 k hkl),q2,q1⟩
 obtain ⟨⟨k,hk1,hk2⟩,h2,h3⟩:=q4 w hwW
 have hk3:=List.mem_filter.1 hk2
 have hk4 : k ∈ ordL (zao g p.lv) p.seeds:=by simpa using hk3.2
 refine ⟨⟨k,hk1,hk3.1⟩,fun x hx=>?_,h2,fun i hi=>(h3 i hi).1⟩
 obtain ⟨i,hi,rfl⟩:=List.mem_iff_getElem.1 hx
 cases i with
 | zero =>
   rw [List.head?_eq_getElem?,List.getElem?_eq_getElem hi] at hk1
   rw [Option.some.inj hk1]
   exact hk4
 | succ i=>exact (h3 i hi).2
theorem GrOk.edges_le {g : Gr} (h : GrOk g) : g.edges.length ≤ 500:=h.1.2.2.1
end Go.Proofs.YtfdbhehkkobfgaaGreat
namespace Go.Proofs.YtfdbhehkkobfgaaGreat
open Go Go.RowKit Go.Shelf Go.Maps Go.Sort
theorem arr2 {vs : Array Value} (h : vs.size = 2) : vs = #[vs.getD 0 undef,vs.getD 1 undef]:=by
 apply Array.ext
 ·simpa using h
 ·intro i h1 h2
  have : i = 0 ∨ i = 1:=by simp at h2; omega
  rcases this with rfl | rfl <;> simp [Array.getD,h1] <;> intro h3 <;> omega
theorem zqq (x : Int) : (encZ x : Value) = .int .i64 x:=rfl
theorem zkA (l : List Int) (hl : l.length ≤ 1099511627776) : zaj Tryz.prog zbS [.nilS,.fn (.func zba) [] [.pv [ints l]]] [] (.rs 0 0 l.length) [some ⟨1,zah l,0⟩]:=by
 refine ⟨⟨_,_,Tryz.func213,rfl,by decide⟩,by simp,fun T M w vs htok hhs hdom hrep=>?_⟩
 obtain ⟨hsz,hr⟩:=hrep
 have hr0:=hr 0 (by simp)
 have hr1:=hr 1 (by simp)
 simp only [List.getD_cons_zero,List.getD_cons_succ] at hr0 hr1
 rw [arr2 hsz]
 generalize vs.getD 0 undef = v0 at hr0
 generalize vs.getD 1 undef = v1 at hr1
 cases hr0
 cases hr1 with
 | fn _ _ _ _ us ws hx hy h h' =>
 have hus : us = #[]:=by simpa using hx
 subst hus
 have hws:=arr1 (vs:=ws) hy
 have hc0:=h' 0 (by simp)
 simp only [List.getD_cons_zero] at hc0
 rw [hws]
 generalize ws.getD 0 undef = u at hc0
 cases hc0 with
 | pv _ _ Bs B0 cells ty fz c hb ht hcc ho hh =>
 have hB:=hcc 0 (by simp)
 have hv:=hh 0 (by simp)
 simp only [List.getD_cons_zero,Nat.add_zero] at hB hv
 have hBl : Bs < w.heap.size:=(Array.getElem?_eq_some_iff.1 hb).1
 generalize c 0 = sv at hB hv
 cases hv with
 | vs _ _ _ _ a cap cc hf hle hw hbb h1 hcv =>
 have hlen : (l.map fun n=>[AV.I n]).length = l.length:=by simp
 rw [hlen] at hB
 have hcell : ∃ b off,(l ≠ [] → a = some ⟨b,off,none⟩ ∧ b < w.heap.size) ∧ ∀ j (h : j < l.length),w.cell? ⟨b,off + j,none⟩ = some (.int .i64 l[j]):=by
  by_cases h0 : l = []
  ·exact ⟨0,0,fun h=>absurd h0 h,fun j hj=>by subst h0; simp at hj⟩
  ·obtain ⟨b,off,cs,ty',fz',ha,hwb,_,hrow⟩:=hbb (by simpa using h0)
   refine ⟨b,off,fun _=>⟨ha,(Array.getElem?_eq_some_iff.1 hwb).1⟩,fun j hj=>?_⟩
   have h2:=hrow j 0 (by simpa using hj) (by decide)
   have h3:=hcv j 0 (by simpa using hj) (by decide)
   have e : ((l.map fun n=>[AV.I n]).getD j []).getD 0 .dead = .I l[j]:=by simp [List.getD,hj]
   rw [e] at h3
   have h4:=za7 h3 rfl
   rw [h4] at h2
   simp only [World.cell?,hwb]
   simpa using h2
 obtain ⟨b,off,hab,hcs⟩:=hcell
 rw [← callsIn_wide (n:=2)]
 refine (zjt Fence.wide 2 trivial trivial rfl (by omega) Bs B0 b off cap a l (fun h=>(hab h).1) hl w ?_ hBl (fun h=>(hab h).2) hcs).mono ?_
 ·simp only [World.cell?,hb]
  exact hB
 rintro e w' ⟨v,rfl,⟨_,hown⟩,hbel⟩
 have hpr : Pres T w T w':=⟨fun _=>Nat.le_refl _,fun b' cs' ty' fz' h=>⟨cs',fz',by rw [hbel.block b' (Array.getElem?_eq_some_iff.1 h).1]; exact h,rfl,fun _ _=>rfl⟩⟩
 have hT0 : ∀ b',w.heap.size ≤ b' → T b' = 0:=fun b' hb'=>by
  rcases Nat.eq_zero_or_pos (T b') with e | e
  ·exact e
  ·obtain ⟨cells,ty,fz,h1,_⟩:=htok b' e
   have:=(Array.getElem?_eq_some_iff.1 h1).1
   omega
 have htok' : TOk T w':=fun b' hb'=>by
  obtain ⟨cells,ty,fz,h1,h2⟩:=htok b' hb'
  exact ⟨cells,ty,fz,by rw [hbel.block b' (Array.getElem?_eq_some_iff.1 h1).1]; exact h1,h2⟩
 have fin : ∀ g : GE,(∀ b,g.blk = some b → w.heap.size ≤ b) → zld T w' (fun k=>if k = 0 then some g else none) ⟨1,zah l,0⟩ g → Rep T w' (fun k=>if k = 0 then some g else none) (.rs 0 0 l.length) v →
   ∃ v' T' M',Ending.returned v = .returned v' ∧ Rep T' w' M' (.rs 0 0 l.length) v' ∧ HsOk T' w' M' (zh1 [some ⟨1,zah l,0⟩]) ∧ zgc 0 T M w T' M' w':=by
  intro g hg ent hv
  refine ⟨v,T,_,rfl,hv,?_,⟨htok',fun _ _ _=>rfl,fun k hk=>absurd hk (Nat.not_lt_zero k),hbel.os,hbel.tape,hbel.output,hbel.size,fun b' hb' _=>hbel.block b' hb',hpr,fun k g1 b1 _ h1 h2=>?_⟩⟩
  ·rw [show ([some ⟨1,zah l,0⟩] : List (Option Ent)) = List.map some [⟨1,zah l,0⟩] from rfl,zgC]
   have z : ∀ id e,hpOf [(⟨1,zah l,0⟩ : Ent)] id = some e → id = 0 ∧ e = ⟨1,zah l,0⟩:=by
    intro id e he
    cases id with
    | zero=>simp [hpOf] at he; exact ⟨rfl,he.symm⟩
    | succ k=>simp [hpOf] at he
   refine ⟨fun id e he=>?_,fun id id' e e' _ _ _ h1 h2 _ _ _ _=>by rw [(z _ _ h1).1,(z _ _ h2).1]⟩
   obtain ⟨rfl,rfl⟩:=z _ _ he
   exact ⟨g,rfl,ent⟩
  ·by_cases hk : k = 0
   ·subst hk
    simp at h1
    subst h1
    exact .inr (hg b1 h2)
   ·simp [hk] at h1
 have hwide : ∀ row ∈ zah l,row.length = 1:=by intro row hr; simp at hr; obtain ⟨x,_,rfl⟩:=hr; rfl
 rcases hown with ⟨rfl,h0⟩ | ⟨g,cp,cur,rfl,hg,hgw,hle2,hcm,hcsz,htk⟩
 ·have h0' : l = []:=List.length_eq_zero_iff.1 h0
  subst h0'
  exact fin ⟨none,0,1⟩ (by simp) ⟨rfl,Nat.zero_le _,fun _=>hwide,(fun _=>rfl),(fun hz=>absurd hz (Nat.succ_ne_zero 0)),fun _ b' hb'=>by cases hb'⟩ (.rs _ _ _ _ _ _ _ rfl (Nat.succ_ne_zero 0) (Nat.le_refl _) (fun _=>⟨rfl,rfl⟩) fun b' hb'=>by cases hb')
 ·refine fin ⟨some g,0,1⟩ (fun b' hb'=>by cases hb'; exact hg) ⟨rfl,Nat.zero_le _,fun _=>hwide,(fun hn=>by cases hn),(fun hz=>absurd hz (Nat.succ_ne_zero 0)),fun _ b' hb'=>?_⟩ (.rs _ _ _ _ cp _ _ rfl (Nat.succ_ne_zero 0) hle2 (fun hn=>by cases hn) fun b' hb'=>?_)
  ·obtain rfl:=Option.some.inj hb'
   refine ⟨cur,3,hgw,by rw [hT0 g hg]; exact Nat.zero_le _,by simp; omega,fun i j hi hj=>?_⟩
   have hi' : i < l.length:=by simpa using hi
   obtain rfl : j = 0:=by simpa using hj
   refine ⟨.int .i64 l[i],?_,rfl,?_⟩
   ·have : (cur.toList.take (l.length * 1))[i]? = (l.map encZ)[i]?:=by rw [htk]
    rw [List.getElem?_take,if_pos (by omega)] at this
    simpa [hi',zqq] using this
   ·have e : ((zah l).getD i []).getD 0 .dead = .I l[i]:=by simp [List.getD,hi']
    rw [e]
    exact .sc _ _ rfl
  ·obtain rfl:=Option.some.inj hb'
   exact ⟨.inr (by simp),cur,3,(0,0),hgw,by simp; omega⟩
section
variable {P : Program} {np id : Nat} {h : Nat → Option Ent} {K : AV → List Nat → List (Nat × Option Ent) → Prop} {f : FuncId} {first capt args args' : List AV} {res : AV}
end
abbrev seqF (l : List Int) : AV:=.fn (.func zba) [] [.pv [ints l]]
theorem zpO (l : List Int) : zaj Tryz.prog zbp [ints l] [] (seqF l) []:=by
 refine zee.acalls (nbz rfl) (nbz rfl) (Nat.le_refl _) ?_
 show awp _ 0 _ _ ⟨4,[(0,ints l)],[],16⟩
 refine rk (s:=?s1) [1] [16] rfl ?o1 ?q1
 case o1=>simp; rfl
 refine rk (s:=?s2) [2] [16] rfl ?o2 ?q2
 case o2=>simp; rfl
 refine zag ?_
 exact ⟨.inr rfl,zam.out [] [16] rfl (by simp) (by simp) (by simp) (by simp)⟩
theorem znV (l : List Int) (hl : l.length ≤ 1099511627776) : zaj Tryz.prog zb4 [seqF l] [] (.rs 0 0 l.length) [some ⟨1,zah l,0⟩]:=by
 refine zfr.acalls (nbz rfl) (nbz rfl) (Nat.zero_le _) ?_
 show awp _ 0 _ _ ⟨5,[(0,seqF l)],[],16⟩
 refine rk (s:=?s1) [0] [] rfl ?o1 ?q1
 case o1=>simp; rfl
 refine rk (s:=?s2) [2] [32] rfl ?o2 ?q2
 case o2 =>
  simp
  refine zdK (zkA l hl) (by simp) ?_
  simp [fcd]
  rfl
 refine zag ?_
 exact ⟨.inr rfl,zam.out [32] [] rfl (by simp) (by simp) (by simp) (by simp [fcd])⟩
theorem zoi (l : List Int) (hl : l.length ≤ 1099511627776) : zaj Tryz.prog zbF [seqF l] [] (.rs 0 0 l.length) [some ⟨1,zah (zeQ l),0⟩]:=by
 refine zfK.acalls (nbz rfl) (nbz rfl) (Nat.zero_le _) ?_
 show awp _ 0 _ _ ⟨9,[(0,seqF l)],[],16⟩
 refine rk (s:=?s1) [0] [] rfl ?o1 ?q1
 case o1=>simp; rfl
 refine rk (s:=?s2) [3] [32] rfl ?o2 ?q2
 case o2 =>
  simp
  refine zdK (znV l hl) (by simp) ?_
  simp [fcd]
  rfl
 refine rk (s:=?s3) [3] [32] rfl ?o3 ?q3
 case o3 =>
  simp
  refine zbw (i:=32) rfl (e':=⟨1,zdi l,0⟩) (by simp [fcd,zdi]) (zoJ l (by omega)) (by simp) (by simp) ?_
  simp [fcd,zdi]
  rfl
 refine rk (s:=?s4) [2] [32] rfl ?o4 ?q4
 case o4=>simp; rfl
 refine zag ?_
 exact ⟨.inr rfl,zam.out [32] [] rfl (by simp) (by simp) (by simp) (by simp [fcd])⟩
section
variable {P : Program} {np id : Nat} {h : Nat → Option Ent} {K : AV → List Nat → List (Nat × Option Ent) → Prop} {s s' l k : Nat} {f : Bool} {rows : List (List AV)}
@[simp] theorem ztY : aK P np id (.slc s true true false) [.vs s' f rows,.sc (.int .i64 (l : Int)),.sc (.int .i64 (k : Int))] h K = (l ≤ k ∧ k ≤ rows.length ∧ s' = s ∧ K (.vs s false ((rows.drop l).take (k - l))) [] []):=by
 rw [zjM]
 refine propext ⟨?_,?_⟩
 ·rintro ⟨l',r,m,n,h1,h2,h4,h5,h6,h7,h3,h10,h8,h9⟩
  simp at h4 h1
  subst h1
  obtain ⟨rfl,rfl⟩ : l = l' ∧ k = r:=by omega
  exact ⟨h2,h3,h8,by simpa using h9⟩
 ·rintro ⟨h1,h2,h3,h4⟩
  exact ⟨l,k,0,rows.length,rfl,h1,by simp,(fun h=>by cases h),(fun h=>by cases h),(fun h=>by cases h),h2,(fun h=>by cases h),h3,by simpa using h4⟩
end
theorem zqo {g : Gr} {S : List Int} (hg : 0 ≤ g.size) : (ordL g S).length ≤ g.size.toNat:=by
 have h:=zbM (a:=ordL g S) (b:=(List.range g.size.toNat).map fun (i : Nat)=>(i : Int)) (zb9 g S) fun x hx=>by
  have:=zgx hx
  exact List.mem_map.2 ⟨x.toNat,List.mem_range.2 (by omega),by show ((x.toNat : Nat) : Int) = x; omega⟩
 simpa using h
variable {g : Gr} {S : List Int} {key : Int}
variable {g : Gr} {S : List Int} {key : Int}
section
variable {P : Program} {np id : Nat} {h : Nat → Option Ent} {K : AV → List Nat → List (Nat × Option Ent) → Prop}
end
structure BSt where
 D : List Int
 b : List Int
 Z : List Int
 off : Nat
 q : Nat
structure BInv (N : Nat) (A : List Ed) (f : List Int) (s : BSt) (m : Nat) : Prop where
 bfs : Bfs N A f s.D s.b
 z : s.off + s.q = s.Z.length
 d : m + s.q = s.D.length
 same : s.Z.drop s.off = s.D.drop m
section
variable {N : Nat} {A : List Ed} {f : List Int}
theorem BInv.more {s : BSt} {m : Nat} (h : BInv N A f s m) {x : Int} {b' : List Int} (hb : Bfs N A f (s.D ++ [x]) b') : BInv N A f ⟨s.D ++ [x],b',s.Z.drop s.off ++ [x],0,s.q + 1⟩ m:=by
 have h1:=h.z
 have h2:=h.d
 refine ⟨hb,?_,?_,?_⟩
 ·simp only [List.length_append,List.length_drop,List.length_singleton]; omega
 ·simp only [List.length_append,List.length_singleton]; omega
 ·simp only [List.drop_zero]
  rw [h.same,List.drop_append_of_le_length (by omega)]
end
theorem zpZ {α : Type} {l : List α} (h : l.Nodup) : l.reverse.Nodup:=List.pairwise_reverse.2 (h.imp fun hne e=>hne e.symm)
theorem zr6 {v : Int} (hv : v ≠ 0) : encS (decS v) = v:=by
 unfold decS encS
 by_cases h : 0 < v
 ·rw [if_pos h]; simp; omega
 ·rw [if_neg h]; simp; omega
variable {N : Nat} {A : List Ed} {f D b : List Int}
structure zoz (N : Nat) (A : List Ed) (f b : List Int) (l : List Stp) : Prop where
 way : WayS A 0 l 1
 nodup : (l.map (·.1)).Nodup
 at_ : ∀ j (h : j < l.length),l[j].1 < A.length ∧ 0 < zdM A f l[j] ∧ stT A l[j] ≠ 0 ∧ 0 ≤ stT A l[j] ∧ stT A l[j] < N ∧ b.getD (stT A l[j]).toNat 0 = encS l[j]
theorem Bfs.chain (h : Bfs N A f D b) (h1 : (1 : Int) ∈ D) : ∃ l,zoz N A f b l:=by
 obtain ⟨j,hj,hx⟩:=List.mem_iff_getElem.1 h1
 obtain ⟨l,l1,l2,l3⟩:=h.tree.way j j hj (Nat.le_refl _)
 rw [hx] at l1
 refine ⟨l,l1,l2,fun i hi=>?_⟩
 obtain ⟨q1,q2,q3,q4,_,q5⟩:=l3 _ (List.getElem_mem hi)
 have hm:=List.mem_of_mem_take q5
 have hr:=h.rng _ hm
 have hne:=h.inn _ hm q4
 refine ⟨q1,q2,q4,hr.1,hr.2,?_⟩
 rw [← zr6 hne,q3]
def zqQ (v : Int) (f : List Int) (l : List Stp) (j : Nat) : List Int:=zgb v f (l.drop j).reverse
theorem zpu {v : Int} {l : List Stp} (hn : (l.map (·.1)).Nodup) (hr : ∀ s ∈ l,s.1 < f.length) : zqQ v f l 0 = zgb v f l:=by
 unfold zqQ
 rw [List.drop_zero]
 have hn' : (l.reverse.map (·.1)).Nodup:=by rw [List.map_reverse]; exact zpZ hn
 have hr' : ∀ s ∈ l.reverse,s.1 < f.length:=fun s hs=>hr s (List.mem_reverse.1 hs)
 apply List.ext_getElem (by rw [zfO,zfO])
 intro i h1 h2
 have e : ∀ (L : List Int) (h : i < L.length),L[i] = L.getD i 0:=fun L h=>by rw [List.getD_eq_getElem?_getD,List.getElem?_eq_getElem h,Option.getD_some]
 rw [e _ h1,e _ h2]
 have g1:=zfR (δ:=v) (f:=f) (i:=i) hn' hr'
 have g2:=zfR (δ:=v) (f:=f) (i:=i) hn hr
 by_cases hm : i ∈ l.map (·.1)
 ·obtain ⟨s,hs,rfl⟩:=List.mem_map.1 hm
  rw [g1.2 s.2 (List.mem_reverse.2 hs),g2.2 s.2 hs]
 ·rw [g1.1 (by rw [List.map_reverse,List.mem_reverse]; exact hm),g2.1 hm]
theorem zoz.push {l : List Stp} (hn : zdP N A) (hf : zaY N A f) (h : zoz N A f b l) {v : Int} (h0 : 0 ≤ v) (hv : ∀ s ∈ l,v ≤ zdM A f s) : zaY N A (zqQ v f l 0) ∧ valF A (zqQ v f l 0) = valF A f + v:=by
 have hr : ∀ s ∈ l,s.1 < A.length:=fun s hs=>by
  obtain ⟨i,hi,rfl⟩:=List.mem_iff_getElem.1 hs
  exact (h.at_ i hi).1
 rw [zpu h.nodup fun s hs=>by rw [hf.fit.len]; exact hr s hs]
 exact zr9 hn hf h0 h.way h.nodup fun s hs=>⟨hr s hs,hv s hs⟩
theorem zoH {P Q : List (List Int)} (h : P.Perm Q) (k : Int) : begC P k = begC Q k:=h.countP_eq _
theorem zpo {P Q : List (List Int)} (h : P.Perm Q) (k : Int) : useC P k = useC Q k:=(h.flatMap_right _).count_eq k
theorem zqs {P Q : List (List Int)} (h : P.Sublist Q) (k : Int) : begC P k ≤ begC Q k:=h.countP_le
theorem zqE {P Q : List (List Int)} (h : P.Sublist Q) (k : Int) : useC P k ≤ useC Q k:=by
 unfold useC
 induction h with
 | slnil=>exact Nat.le_refl _
 | cons a _ ih=>rw [List.flatMap_cons,List.count_append]; omega
 | cons_cons a _ ih=>rw [List.flatMap_cons,List.flatMap_cons,List.count_append,List.count_append]; omega
theorem zjx.perm {c : List Int} {P Q : List (List Int)} (h : zjx c P) (hp : P.Perm Q) : zjx c Q:=fun k hk=>by
 rw [← zoH hp,← zpo hp]
 exact h k hk
theorem zjx.sub {c : List Int} {P Q : List (List Int)} (h : zjx c Q) (hs : P.Sublist Q) : zjx c P:=fun k hk=>by
 have h1:=h k hk
 have h2:=zqs hs k
 have h3:=zqE hs k
 omega
theorem zn8 {P Q : List (List Int)} (h : P.Perm Q) : (zgr P).Perm (zgr Q):=h.filterMap _
theorem zgl.perm {g : Gr} {lv : Int} {seeds order c : List Int} {P Q : List (List Int)} {ends ends' : List Int} (h : zgl g lv seeds order c P ends) (hp : P.Perm Q) (he : ends.Perm ends') : zgl g lv seeds order c Q ends' :=
 ⟨fun w hw=>h.1 w (hp.mem_iff.2 hw),h.2.1.perm hp,zdQ.2 (((zn8 hp).symm.trans (zdQ.1 h.2.2)).trans he)⟩
theorem zlv {N : Nat} {A : List Ed} (hn : zdP N A) : zaY N A (A.map fun _=>0):=by
 have hs : ∀ (φ : Ed → Int → Int),(∀ e,φ e 0 = 0) → ∀ A : List Ed,sumF φ A (A.map fun _=>0) = 0:=by
  intro φ hφ A
  induction A with
  | nil=>simp [sumF]
  | cons e A ih=>simp only [List.map_cons,sumF]; rw [hφ,ih]; omega
 refine ⟨?_,fun x _ _=>?_⟩
 ·have h0 : ∀ B : List Ed,(∀ e ∈ B,0 ≤ e.v) → Fit2 B (B.map fun _=>0):=by
   intro B
   induction B with
   | nil=>intro _; exact True.intro
   | cons e B ih=>intro h; exact ⟨⟨Int.le_refl _,h e (List.mem_cons_self ..)⟩,ih fun x hx=>h x (List.mem_cons_of_mem _ hx)⟩
  exact h0 A fun e he=>(hn.arc e he).2.2.2.2.2.2.2
 ·unfold outF inF
  rw [hs _ fun e=>by split <;> rfl,hs _ fun e=>by split <;> rfl]
theorem zfg {N : Nat} {A : List Ed} (hn : zdP N A) : ∃ f,zaY N A f ∧ ∀ f',zaY N A f' → valF A f' ≤ valF A f:=by
 have hb : ∀ f,zaY N A f → valF A f ≤ capS (fun x=>decide (x = 0)) A:=fun f hf=>ze0 hn hf (by simp) (by simp)
 have key : ∀ (n : Nat) (f : List Int),zaY N A f → capS (fun x=>decide (x = 0)) A - valF A f ≤ n → ∃ f,zaY N A f ∧ ∀ f',zaY N A f' → valF A f' ≤ valF A f:=by
  intro n
  induction n with
  | zero =>
    intro f hf h
    exact ⟨f,hf,fun f' hf'=>by have:=hb f' hf'; omega⟩
  | succ n ih =>
    intro f hf h
    by_cases hm : ∀ f',zaY N A f' → valF A f' ≤ valF A f
    ·exact ⟨f,hf,hm⟩
    ·obtain ⟨f',hf'⟩:=Classical.not_forall.1 hm
     obtain ⟨h1,h2⟩:=Classical.not_imp.1 hf'
     exact ih f' h1 (by omega)
 exact key _ _ (zlv hn) (Int.self_le_toNat _)
noncomputable def maxF (N : Nat) (A : List Ed) : Int:=open Classical in if h : ∃ f,zaY N A f ∧ ∀ f',zaY N A f' → valF A f' ≤ valF A f then valF A h.choose else 0
theorem zlP {N : Nat} {A : List Ed} {f : List Int} (hf : zaY N A f) (hm : ∀ f',zaY N A f' → valF A f' ≤ valF A f) : maxF N A = valF A f:=by
 have h : ∃ f,zaY N A f ∧ ∀ f',zaY N A f' → valF A f' ≤ valF A f:=⟨f,hf,hm⟩
 unfold maxF
 rw [dif_pos h]
 have h1:=h.choose_spec
 have h2:=hm _ h1.1
 have h3:=h1.2 _ hf
 omega
theorem zr5 {N : Nat} {A : List Ed} (hn : zdP N A) {f : List Int} (hf : zaY N A f) : valF A f ≤ maxF N A:=by
 obtain ⟨m,h1,h2⟩:=zfg hn
 rw [zlP h1 h2]
 exact h2 f hf
theorem zmC {N : Nat} {A : List Ed} (hn : zdP N A) : ∃ f,zaY N A f ∧ valF A f = maxF N A:=by
 obtain ⟨m,h1,h2⟩:=zfg hn
 exact ⟨m,h1,(zlP h1 h2).symm⟩
variable {N : Nat} {A : List Ed} {f : List Int}
theorem znt {g : Gr} {p : Pol} {sinks : List Int} (hg : GrOk g) (hp : zbx g.size p) (hk : ∀ x ∈ sinks,0 ≤ x ∧ x < g.size) : zdP (2 + 2 * g.size).toNat (zbB g p (zbW g p) sinks):=by
 have hs0:=hg.1.1
 have hse:=hp.2.1.nodup
 have hle:=zgf hg p.lv
 have hcl : (zbW g p).length = g.size.toNat:=by unfold zbW; rw [List.length_map,zkb]; rfl
 refine ⟨by omega,fun a ha=>?_⟩
 unfold zbB at ha
 rcases List.mem_append.1 ha with ha | ha
 ·rcases List.mem_append.1 ha with ha | ha
  ·rcases List.mem_append.1 ha with ha | ha
   ·obtain ⟨x,hx,rfl⟩:=List.mem_map.1 ha
    have h1:=List.mem_filter.1 hx
    have h2:=hse.2 x h1.1
    have h3 : 0 < (zbW g p).getD x.toNat 0:=by simpa using h1.2
    simp only
    omega
   ·obtain ⟨i,hx,rfl⟩:=List.mem_map.1 ha
    have h1:=List.mem_filter.1 hx
    have h2:=List.mem_range.1 h1.1
    have h3 : 0 < (zbW g p).getD i 0:=by simpa using h1.2
    simp only
    omega
  ·obtain ⟨x,hx,rfl⟩:=List.mem_map.1 ha
   have h2:=hk x (List.mem_filter.1 hx).1
   simp only
   omega
 ·obtain ⟨e,hx,rfl⟩:=List.mem_map.1 ha
  have h2:=hle.2 e (List.mem_filter.1 hx).1
  simp only
  omega
section
variable {P : Program} {np id : Nat} {h : Nat → Option Ent} {K : AV → List Nat → List (Nat × Option Ent) → Prop} {f : FuncId} {first capt args args' : List AV} {res : AV}
theorem zrL {i j : Nat} {e1 e2 e1' e2' : Ent} {hs' : List (Option Ent)} (hij : i ≠ j) (h1 : h i = some e1) (h2 : h j = some e2) (he1 : zaz [(i,0),(j,1)] [] h 4 e1 = e1') (he2 : zaz [(i,0),(j,1)] [] h 4 e2 = e2')
  (hc : zaj P f args' [e1',e2'] res hs') (h8 : hs'.length ≤ 10) (he : (first ++ args ++ capt).map (conv [(i,0),(j,1)] [] h 4) = args')
  (hk : K (conv (swp [i,j] id) [] (fun _=>none) 4 res) [i,j] (hs'.zipIdx.map fun (e,k)=>((i :: j :: (List.range 8).map (id + ·)).getD k 0,e.map (zaz (swp [i,j] id) [] (fun _=>none) 4)))) : aK P np id .call (.fn (.func f) first capt :: args) h K :=
 ⟨[i,j],[],true,args',[e1',e2'],res,hs',by simp [hij],by simp,by simp,by rw [show [i,j].zipIdx = [(i,0),(j,1)] from rfl,he]; exact zck _,by
  rw [show [i,j].zipIdx = [(i,0),(j,1)] from rfl]
  simp only [List.map_cons,List.map_nil,h1,h2,Option.map_some,he1,he2],hc,by simpa using h8,.inl rfl,by simpa [swp] using hk⟩
end
instance (g : Gr) (lv f t : Int) : Decidable (zmP g lv f t):=by unfold zmP; infer_instance
def netN (g : Gr) : Nat:=(2 + 2 * g.size).toNat
theorem zqX {g : Gr} (hg : GrOk g) : ((netN g : Nat) : Int) = 2 + 2 * g.size:=by unfold netN; have:=hg.1.1; omega
abbrev netA (g : Gr) (p : Pol) (ks : List Int) : List Ed:=zbB g p (zbW g p) ks
def zaA (g : Gr) (p : Pol) (ks : List Int) : Prop:=maxF (netN g) (netA g p ks) = ks.length
theorem zmc {g : Gr} {p : Pol} {ks : List Int} (hg : GrOk g) (hp : zbx g.size p) (hk : ∀ x ∈ ks,0 ≤ x ∧ x < g.size) : zdP (netN g) (netA g p ks):=znt hg hp hk
structure ztv (g : Gr) (p : Pol) (ks f : List Int) : Prop where
 ok : zaY (netN g) (netA g p ks) f
 most : ∀ f',zaY (netN g) (netA g p ks) f' → valF (netA g p ks) f' ≤ valF (netA g p ks) f
 val : valF (netA g p ks) f = maxF (netN g) (netA g p ks)
section
variable {P : Program} {np id : Nat} {h : Nat → Option Ent} {K : AV → List Nat → List (Nat × Option Ent) → Prop} {f : FuncId} {first capt args args' : List AV} {res : AV}
end
def lowN : List Int → Int → Nat
 | [],_=>0
 | x :: l,k=>if x < k then lowN l k + 1 else 0
def putL (l : List Int) (k : Int) : List Int:=if l[lowN l k]? = some k then l else l.take (lowN l k) ++ k :: l.drop (lowN l k)
theorem zjH : ∀ (l : List Int) (k : Int),lowN l k ≤ l.length
 | [],_=>Nat.le_refl _
 | x :: l,k=>by unfold lowN; have:=zjH l k; split <;> simp <;> omega
theorem zlX : ∀ {l : List Int} {k : Int} {i : Nat} (h : i < l.length),i < lowN l k → l[i] < k
 | x :: l,k,0,_,h=>by
   unfold lowN at h
   split at h
   ·simpa
   ·omega
 | x :: l,k,i + 1,hi,h=>by
   unfold lowN at h
   split at h
   ·simpa using zlX (l:=l) (by simpa using hi) (by omega)
   ·omega
theorem zhm : ∀ {l : List Int} {k : Int} (h : lowN l k < l.length),¬ l[lowN l k] < k
 | x :: l,k,h=>by
   by_cases hx : x < k
   ·have e : lowN (x :: l) k = lowN l k + 1:=by simp [lowN,hx]
    simp only [e,List.getElem_cons_succ]
    exact zhm (by rw [e] at h; simpa using h)
   ·have e : lowN (x :: l) k = 0:=by simp [lowN,hx]
    simp only [e,List.getElem_cons_zero]
    exact hx
theorem zso {l : List Int} {k : Int} {i : Nat} (hi : i ≤ l.length) (h1 : ∀ j (h : j < l.length),j < i → l[j] < k) (h2 : ∀ h : i < l.length,¬ l[i] < k) : lowN l k = i:=by
 rcases Nat.lt_trichotomy (lowN l k) i with h | h | h
 ·exact absurd (h1 _ (by omega) h) (zhm (by omega))
 ·exact h
 ·have hl:=zjH l k
  exact absurd (zlX (by omega) h) (h2 (by omega))
theorem zri (l : List Int) (k : Int) : (putL l k).length ≤ l.length + 1:=by
 unfold putL
 split
 ·omega
 ·simp; have:=zjH l k; omega
theorem znq {l : List Int} {k x : Int} : x ∈ putL l k ↔ x ∈ l ∨ x = k:=by
 unfold putL
 split
 ·rename_i h
  constructor
  ·exact .inl
  ·rintro (h1 | rfl)
   ·exact h1
   ·exact List.mem_of_getElem? h
 ·rw [List.mem_append,List.mem_cons]
  conv=>rhs; rw [← List.take_append_drop (lowN l k) l,List.mem_append]
  constructor
  ·rintro (h | rfl | h)
   ·exact .inl (.inl h)
   ·exact .inr rfl
   ·exact .inl (.inr h)
  ·rintro ((h | h) | rfl)
   ·exact .inl h
   ·exact .inr (.inr h)
   ·exact .inr (.inl rfl)
theorem zpG {l : List Int} {k : Int} (h : l.Pairwise (· < ·)) : (putL l k).Pairwise (· < ·):=by
 unfold putL
 split
 ·exact h
 ·rename_i hne
  have hd : ∀ y ∈ l.drop (lowN l k),k < y:=by
   intro y hy
   obtain ⟨i,hi,rfl⟩:=List.getElem_of_mem hy
   rw [List.length_drop] at hi
   rw [List.getElem_drop]
   have h0 : lowN l k < l.length:=by omega
   have h1:=zhm h0
   have h2 : l[lowN l k] ≠ k:=fun e=>hne (by rw [List.getElem?_eq_getElem h0,e])
   rcases Nat.eq_zero_or_pos i with rfl | hp
   ·simp only [Nat.add_zero]; omega
   ·have:=(List.pairwise_iff_getElem.1 h) (lowN l k) (lowN l k + i) h0 (by omega) (by omega)
    omega
  have ht : ∀ y ∈ l.take (lowN l k),y < k:=by
   intro y hy
   obtain ⟨i,hi,rfl⟩:=List.getElem_of_mem hy
   rw [List.length_take] at hi
   rw [List.getElem_take]
   exact zlX (by omega) (by omega)
  rw [List.pairwise_append,List.pairwise_cons]
  refine ⟨h.sublist (List.take_sublist ..),⟨hd,h.sublist (List.drop_sublist ..)⟩,fun x hx y hy=>?_⟩
  rcases List.mem_cons.1 hy with rfl | hy
  ·exact ht x hx
  ·have:=ht x hx; have:=hd y hy; omega
theorem zlw {l : List Int} {n : Int} (h : l.Pairwise (· < ·)) (hr : ∀ k ∈ l,0 ≤ k ∧ k < n) : Rise l 0 (n - 1):=by
 intro i hi
 have:=hr _ (List.getElem_mem hi)
 refine ⟨by omega,by omega,fun hp=>?_⟩
 exact (List.pairwise_iff_getElem.1 h) (i - 1) i (by omega) hi (by omega)
theorem zsW (l : List Int) (k : Int) (hl : l.length ≤ 1000000) : zaj Tryz.prog zgA [ints l,.I k] [] (.rs 0 0 (putL l k).length) [some ⟨1,zah (putL l k),0⟩]:=by
 refine zof.acalls (nbz rfl) (nbz rfl) (Nat.zero_le _) ?_
 show awp _ 0 _ _ ⟨45,[(0,ints l),(1,.I k)],[],16⟩
 refine rx (s:=?s1) [0,1] [] [] rfl ?o1 ?q1
 case o1=>simp; rfl
 refine rx (s:=?s2) [0,1,5] [] [] rfl ?o2 ?q2
 case o2=>simp; rfl
 refine zat (ι:=Nat) (fun i=>⟨45,[(0,ints l),(1,.I k),(5,.I i)],[],200⟩) (fun i=>i = lowN l k) ?_ fun i hil=>?_
 ·refine zaf ?_
  refine zan (ι:=Nat) (fun i=>⟨45,[(0,ints l),(1,.I k),(5,.I i)],[],32⟩) (fun i=>i ≤ l.length ∧ ∀ j (h : j < l.length),j < i → l[j] < k) (fun i=>l.length - i) 0 (by simp) (LeH [] []) ?_
  rintro i ⟨hi,hp⟩
  refine zaa ?_
  refine zab ⟨45,[(0,ints l),(1,.I k),(5,.I i),(17,.B (decide (∃ h : i < l.length,l[i] < k)))],[],200⟩ rfl ?_ ?_
  ·by_cases h1 : i < l.length
   ·simp [h1]
    exact Le.snap [] rfl rfl (by simp [h1])
   ·have hno : ¬ ∃ h : i < l.length,l[i] < k:=fun ⟨h,_⟩=>h1 h
    rw [decide_eq_false hno]
    simp [h1]
    exact Le.snap [] rfl rfl (by simp)
  refine zad _ rfl (fun h2=>?_) fun h2=>?_
  ·rw [decide_eq_true_eq] at h2
   obtain ⟨h1,h2⟩:=h2
   have hw : IntKind.i64.wrap ((i : Int) + 1) = (i : Int) + 1:=w64 (by omega) (by omega)
   refine zae ?_
   refine zaf ?_
   refine zac (s:=?s5) rfl ?o5 ?q5
   case o5=>simp; rfl
   refine ⟨i + 1,⟨h1,fun j hj hji=>?_⟩,by omega,Le.go [] [] rfl rfl (by simp [hw]) (by simp)⟩
   rcases Nat.lt_succ_iff_lt_or_eq.1 hji with h | rfl
   ·exact hp j hj h
   ·exact h2
  ·rw [decide_eq_false_iff_not] at h2
   refine zak ?_
   refine hit ?_
   exact ⟨i,(zso hi hp fun h h3=>h2 ⟨h,h3⟩).symm,LeH [] []⟩
 have hlo:=zjH l k
 rw [← hil] at hlo
 refine zaa ?_
 refine zab ⟨45,[(0,ints l),(1,.I k),(5,.I i),(31,.B (decide (l[i]? = some k)))],[],400⟩ rfl ?_ ?_
 ·by_cases h1 : i < l.length
  ·simp [h1]
   exact Le.snap [] rfl rfl (by simp [h1]; exact wkB (by rw [Bool.eq_iff_iff]; simp))
  ·have hno : ¬ l[i]? = some k:=by rw [List.getElem?_eq_none (by omega)]; simp
   rw [decide_eq_false hno]
   simp [h1]
   exact Le.snap [] rfl rfl (by simp)
 refine zad _ rfl (fun h2=>?_) fun h2=>?_
 ·rw [decide_eq_true_eq] at h2
  have hput : putL l k = l:=by unfold putL; rw [← hil,if_pos h2]
  rw [hput]
  refine rk (s:=?s6) [4] [408] rfl ?o6 ?q6
  case o6=>simp; refine ⟨by omega,by omega,?_⟩; rfl
  refine zag ?_
  exact ⟨.inr rfl,zam.out [408] [] rfl (by simp) (by simp) (by simp) (by simp [fcd])⟩
 rw [decide_eq_false_iff_not] at h2
 have hput : putL l k = l.take i ++ k :: l.drop i:=by unfold putL; rw [← hil,if_neg h2]
 have hpl : (putL l k).length = l.length + 1:=by rw [hput]; simp; omega
 have hpl2 : (putL l k).length = i + 1 + (l.length - i):=by omega
 refine zae ?_
 refine zaO ⟨45,[(4,.rs 480 0 (putL l k).length)],[(480,some ⟨1,zah (putL l k),0⟩)],600⟩ rfl ?_ ?_
 ·simp [hlo]
  refine ⟨by omega,by omega,by omega,by omega,by omega,by omega,rfl,Le.go [(480,480)] [] rfl rfl (by simp [hpl2]) (by simp [hput,fcd,List.take_of_length_le,hlo])⟩
 refine zag ?_
 exact ⟨.inr rfl,zam.out [480] [] rfl (by simp) (by simp) (by simp) (by simp [fcd])⟩
theorem zrU (L : List Int) (a : Nat) {l : List Int} (h : 0 < l.length) : ofD L a l ∈ l:=by
 have:=zdn (L:=L) (a:=a) (n:=l.length) (by omega)
 obtain ⟨q,hq⟩ : ∃ q : Nat,(zas L a l.length).1 = q:=⟨(zas L a l.length).1.toNat,by omega⟩
 have hql : q < l.length:=by omega
 unfold ofD
 rw [hq]
 simp [hql]
theorem zhi (L : List Int) (a : Nat) (n : Int) (hl : L.length ≤ 400) (ha : a ≤ L.length) (h0 : 0 < n) (hn : n ≤ 1000000) : ∃ (x : Nat) (b : Nat),(b ≤ L.length ∧ (x : Int) < n) ∧ zaj Tryz.prog zau [.pt 0 0 0,.I n] [dice L a] (.I x) [some (dice L b)]:=by
 have:=zdn (L:=L) (a:=a) h0
 obtain ⟨q,hq⟩ : ∃ q : Nat,(zas L a n).1 = q:=⟨(zas L a n).1.toNat,by omega⟩
 exact ⟨q,_,⟨zbs ha,by omega⟩,by rw [← hq]; exact zja L a n (by omega) ha (by omega)⟩
theorem Of_a (L : List Int) (a : Nat) (l : List Int) (hl : L.length ≤ 400) (ha : a ≤ L.length) (h0 : 0 < l.length) (hl2 : l.length ≤ 100) : ∃ (x : Int) (b : Nat),(b ≤ L.length ∧ x ∈ l) ∧ zaj Tryz.prog zbP [.pt 0 0 0,ints l] [dice L a] (.I x) [some (dice L b)] :=
 ⟨_,_,⟨zbs ha,zrU L a h0⟩,zut L a l (by omega) ha h0 (by omega)⟩
theorem zuK (L : List Int) (a : Nat) (n : Int) (hl : L.length ≤ 400) (ha : a ≤ L.length) (hn0 : 0 ≤ n) (hn : n ≤ 1000000) : ∃ (x : Bool) (b : Nat),b ≤ L.length ∧ zaj Tryz.prog zbX [.pt 0 0 0,.I n] [dice L a] (.B x) [some (dice L b)] :=
 ⟨_,_,zbs ha,zrJ L a n (by omega) ha hn0 (by omega)⟩
section
variable {P : Program} {np id : Nat} {h : Nat → Option Ent} {K : AV → List Nat → List (Nat × Option Ent) → Prop} {f : FuncId} {first capt args args' : List AV} {res : AV}
theorem zre {j : Nat} {e ej : Ent} (hnp : np ≤ j) (hj : h j = some ej) (hc : zaj P f args' [] res [some e]) (he : (first ++ args ++ capt).map (conv [] [j] h 4) = args')
  (hk : K (conv (swp [] id) [] (fun _=>none) 4 res) [j] [(id,some (zaz (swp [] id) [] (fun _=>none) 4 e)),(j,some { ej with ro:=ej.rows.length })]) : aK P np id .call (.fn (.func f) first capt :: args) h K :=
 ⟨[],[j],true,args',[],res,[some e],by simp,by simp,by simpa using hnp,by rw [List.zipIdx_nil,he]; exact zck _,rfl,hc,by simp,.inl rfl,by simpa [swp,hj] using hk⟩
end
def TabL (t : List Int) : Prop:=∀ i (h : i < t.length),1 ≤ t[i] ∧ t[i] ≤ 1000 ∧ (0 < i → t[i] ≤ t[i - 1])
theorem zpz {t : List Int} {v : Int} (h : TabL t) (h1 : 1 ≤ v) (h2 : v ≤ 1000) (h3 : ∀ x ∈ t,v ≤ x) : TabL (t ++ [v]):=by
 intro i hi
 rw [List.length_append,List.length_singleton] at hi
 by_cases hit : i < t.length
 ·rw [List.getElem_append_left hit]
  obtain ⟨a,b,c⟩:=h i hit
  refine ⟨a,b,fun hp=>?_⟩
  rw [List.getElem_append_left (by omega)]
  exact c hp
 ·obtain rfl : i = t.length:=by omega
  simp only [List.getElem_concat_length]
  refine ⟨h1,h2,fun hp=>?_⟩
  rw [List.getElem_append_left (by omega)]
  exact h3 _ (List.getElem_mem _)
set_option maxRecDepth 100000 in
set_option maxHeartbeats 4000000 in
theorem zq3 (L : List Int) (a : Nat) (g : Gr) (hl : L.length ≤ 400) (ha : a ≤ L.length) (h0 : 0 < g.size) (hn : g.size ≤ 1000) :
  ∃ x : Pol × Nat,(zbx g.size x.1 ∧ x.1.seeds.length ≤ 2 ∧ x.1.table.length ≤ 4 ∧ x.2 ≤ L.length) ∧ zaj Tryz.prog zcv [.pt 0 0 0,eG g] [dice L a] (eP x.1) [some (dice L x.2)]:=by
 refine zgv.acallsX (args:=[.pt 0 0 0,eG g]) (hs:=[dice L a]) (fun x=>eP x.1) (fun x=>[some (dice L x.2)]) (fun x : Pol × Nat=>zbx g.size x.1 ∧ x.1.seeds.length ≤ 2 ∧ x.1.table.length ≤ 4 ∧ x.2 ≤ L.length) (nbz rfl) (nbz rfl) (fun _=>by simp) ?_
 show awp _ 1 _ _ ⟨50,[(0,.pt 0 0 0),(1,eG g)],[(0,some (dice L a))],16⟩
 obtain ⟨k1,b1,⟨hb1,hk1⟩,hc1⟩:=zhi L a g.size hl ha h0 (by omega)
 obtain ⟨lv,b2,⟨hb2,hlv⟩,hc2⟩:=Of_a L b1 [1,1,2,3] hl hb1 (by simp) (by simp)
 have hlv' : 1 ≤ lv ∧ lv ≤ 3:=by simp at hlv; omega
 obtain ⟨o,b3,hb3,hc3⟩:=zuK L b2 3 hl hb2 (by omega) (by omega)
 refine zab ⟨50,[(0,.pt 0 0 0),(3,.pv (gC g)),(4,.pt 24 0 0)],[(0,some (dice L a)),(24,some ⟨3,[[.nilS,.nilS,.I 0]],0⟩)],32⟩ rfl ?_ ?_
 ·simp
  exact LeH [(0,0),(24,24)] [16]
 refine zab ⟨50,[(0,.pt 0 0 0),(3,.pv (gC g)),(4,.pt 24 0 0),(5,.pt 104 0 0)],[(0,some (dice L b2)),(24,some ⟨3,[[.nilS,.nilS,.I 0]],0⟩),(104,some ⟨3,[[.rs 17 0 1,.nilS,.I lv]],0⟩),(17,some ⟨1,zah [(k1 : Int)],0⟩)],120⟩ rfl ?_ ?_
 ·simp
  refine zbw (i:=0) rfl (e':=dice L a) (by simp) hc1 (by simp) (by simp) ?_
  simp
  refine zjd (i:=0) (j:=80) (by decide) (by decide) rfl rfl (e':=dice L b1) (by simp) hc2 (by simp) (by simp) ?_
  simp
  exact LeH [(0,0),(24,24),(104,104),(64,17)] []
 refine zat (ι:=List Int × Nat) (fun s=>⟨50,[(0,.pt 0 0 0),(4,.pt 24 0 0),(5,.pt 104 0 0)],[(0,some (dice L s.2)),(24,some ⟨3,[[.nilS,.nilS,.I 0]],0⟩),(104,some ⟨3,[[.rs 17 0 s.1.length,.nilS,.I lv]],0⟩),(17,some ⟨1,zah s.1,0⟩)],300⟩)
  (fun s=>s.2 ≤ L.length ∧ s.1 ≠ [] ∧ s.1.length ≤ 2 ∧ s.1.Pairwise (· < ·) ∧ ∀ k ∈ s.1,0 ≤ k ∧ k < g.size) ?_ fun s hs=>?_
 ·refine zab ⟨50,[(0,.pt 0 0 0),(3,.pv (gC g)),(4,.pt 24 0 0),(5,.pt 104 0 0),(18,.B o)],[(0,some (dice L b3)),(24,some ⟨3,[[.nilS,.nilS,.I 0]],0⟩),(104,some ⟨3,[[.rs 17 0 1,.nilS,.I lv]],0⟩),(17,some ⟨1,zah [(k1 : Int)],0⟩)],136⟩ rfl ?_ ?_
  ·simp
   refine zbw (i:=0) rfl (e':=dice L b2) (by simp) hc3 (by simp) (by simp) ?_
   simp
   exact Le.keep rfl (Nat.le_refl _) (by simp) (by simp)
  cases o with
  | true =>
    refine zad _ rfl (fun _=>?_) fun h=>by cases h
    obtain ⟨k2,b4,⟨hb4,hk2⟩,hc4⟩:=zhi L b3 g.size hl hb3 h0 (by omega)
    have hput:=zsW [(k1 : Int)] k2 (by simp)
    obtain ⟨S,hS⟩ : ∃ S,S = putL [(k1 : Int)] k2:=⟨_,rfl⟩
    rw [← hS] at hput
    refine zcj rfl ?_
    simp
    refine zbw (i:=0) rfl (e':=dice L b3) (by simp) hc4 (by simp) (by simp) ?_
    simp
    refine zre (j:=17) (by decide) rfl hput (by simp) ?_
    simp [fcd]
    refine ⟨rfl,S,b4,⟨hb4,?_,?_,?_,fun k hk=>?_⟩,LeI [(0,0),(24,24),(104,104),(184,17)] []⟩
    ·intro h
     have : (k1 : Int) ∈ S:=by rw [hS]; exact znq.2 (.inl (by simp))
     rw [h] at this
     cases this
    ·rw [hS]; exact zri _ _
    ·rw [hS]; exact zpG (by simp)
    ·rw [hS] at hk
     rcases znq.1 hk with h | h
     ·simp at h; omega
     ·omega
  | false =>
    refine zad _ rfl (fun h=>by cases h) fun _=>?_
    refine zae ?_
    exact ⟨([(k1 : Int)],b3),⟨hb3,by simp,by simp,by simp,by simp; omega⟩,LeH [(0,0),(24,24),(104,104),(17,17)] []⟩
 obtain ⟨S,b4⟩:=s
 obtain ⟨hb4,hS1,hS2,hS3,hS4⟩:=hs
 simp only at hb4 hS1 hS2 hS3 hS4
 obtain ⟨v0,b5,⟨hb5,hv0⟩,hc5⟩:=Of_a L b4 [3,2,1,6,0] hl hb4 (by simp) (by simp)
 have hv0' : 0 ≤ v0 ∧ v0 ≤ 6:=by simp at hv0; omega
 have hwv : IntKind.i64.wrap (1 + v0) = 1 + v0:=w64 (by omega) (by omega)
 obtain ⟨n0,b6,⟨hb6,hn0⟩,hc6⟩:=zhi L b5 4 hl hb5 (by omega) (by omega)
 have hwn : IntKind.i64.wrap (1 + (n0 : Int)) = ((n0 + 1 : Nat) : Int):=by rw [w64 (by omega) (by omega)]; omega
 refine zab ⟨50,[(0,.pt 0 0 0),(4,.pt 24 0 0),(5,.pt 104 0 0),(6,.I (1 + v0))],[(0,some (dice L b5)),(24,some ⟨3,[[.nilS,.nilS,.I 0]],0⟩),(104,some ⟨3,[[.rs 17 0 S.length,.nilS,.I lv]],0⟩),(17,some ⟨1,zah S,0⟩)],400⟩ rfl ?_ ?_
 ·simp
  refine zjd (i:=0) (j:=308) (by decide) (by decide) rfl rfl (e':=dice L b4) (by simp) hc5 (by simp) (by simp) ?_
  simp [hwv]
  exact LeI [(0,0),(24,24),(104,104),(17,17)] []
 refine zaa ?_
 refine zab ⟨50,[(0,.pt 0 0 0),(4,.pt 24 0 0),(5,.pt 104 0 0),(6,.I (1 + v0)),(7,.I (n0 + 1 : Nat))],[(0,some (dice L b6)),(24,some ⟨3,[[.nilS,.nilS,.I 0]],0⟩),(104,some ⟨3,[[.rs 17 0 S.length,.nilS,.I lv]],0⟩),(17,some ⟨1,zah S,0⟩)],432⟩ rfl ?_ ?_
 ·simp
  refine zbw (i:=0) rfl (e':=dice L b5) (by simp) hc6 (by simp) (by simp) ?_
  simp [hwn]
  exact LeI [(0,0),(24,24),(104,104),(17,17)] []
 refine zaf ?_
 refine zan (ι:=(List Int × Int) × (Nat × Nat)) (fun s=>⟨50,[(0,.pt 0 0 0),(4,.pt 24 0 0),(5,.pt 104 0 0),(6,.I s.1.2),(7,.I s.2.1)],[(0,some (dice L s.2.2)),(24,some ⟨3,[[.nilS,.nilS,.I 0]],0⟩),(104,some ⟨3,[[.rs 17 0 S.length,.rs 18 0 s.1.1.length,.I lv]],0⟩),(17,some ⟨1,zah S,0⟩),(18,some ⟨1,zah s.1.1,0⟩)],432⟩)
  (fun s=>s.1.1.length + s.2.1 = n0 + 1 ∧ TabL s.1.1 ∧ (1 ≤ s.1.2 ∧ s.1.2 ≤ 7) ∧ (∀ x ∈ s.1.1,s.1.2 ≤ x) ∧ s.2.2 ≤ L.length) (fun s=>s.2.1) (([],1 + v0),(n0 + 1,b6)) ⟨by simp,fun i h=>by simp at h,⟨by simp only; omega,by simp only; omega⟩,by simp,hb6⟩
  (Le.lst [(0,0),(24,24),(104,104),(17,17)] [] [(18,1)] rfl (by simp) (by simp) (by simp) (by simp) (by simp) (by simp) (by simp) (by simp [Up]) (by simp [fcd]; exact ⟨zaD.rfl' (by simp),zaD.rfl' (by simp),zaD.row rfl (by omega) (by simp [UpL,Up]),zaD.rfl' (by simp)⟩)) ?_
 rintro ⟨⟨T,v⟩,n,b⟩ ⟨hTn,hT,hv,hTv,hb⟩
 simp only at hTn hT hv hTv hb
 refine zaa ?_
 refine rk (s:=?s7) [0,4,5,6,7,35] [0,24,104,17,18] rfl ?o7 ?q7
 case o7=>simp; rfl
 refine zad _ rfl (fun h8=>?_) fun h8=>?_
 ·simp at h8
  obtain ⟨m,rfl⟩ : ∃ m,n = m + 1:=⟨n - 1,by omega⟩
  have hwm : IntKind.i64.wrap (((m + 1 : Nat) : Int) - 1) = (m : Int):=by rw [w64 (by omega) (by omega)]; omega
  have hwm2 : IntKind.i64.wrap (m : Int) = (m : Int):=w64 (by omega) (by omega)
  obtain ⟨d,b',⟨hb',hd⟩,hc7⟩:=zhi L b 3 hl hb (by omega) (by omega)
  have hwd : IntKind.i64.wrap (v - (d : Int)) = v - (d : Int):=w64 (by omega) (by omega)
  have htl : ∀ f : Int → List AV,List.take T.length (List.map f T) = List.map f T:=fun f=>List.take_of_length_le (by simp)
  refine zae ?_
  refine zaa ?_
  refine zaf ?_
  refine zab ⟨50,[(0,.pt 0 0 0),(4,.pt 24 0 0),(5,.pt 104 0 0),(6,.I v),(7,.I (m + 1 : Nat))],[(0,some (dice L b)),(24,some ⟨3,[[.nilS,.nilS,.I 0]],0⟩),(104,some ⟨3,[[.rs 17 0 S.length,.rs 18 0 (T ++ [v]).length,.I lv]],0⟩),(17,some ⟨1,zah S,0⟩),(18,some ⟨1,zah (T ++ [v]),0⟩)],512⟩ rfl ?_ ?_
  ·simp [htl]
   refine ⟨by omega,by omega,?_⟩
   exact LeI [(0,0),(24,24),(104,104),(17,17),(480,18)] []
  refine zac (s:=?s9) rfl ?o9 ?q9
  case o9 =>
   simp
   refine zbw (i:=0) rfl (e':=dice L b) (by simp) hc7 (by simp) (by simp) ?_
   simp [hwd]
   rfl
  refine zac (s:=?s10) rfl ?o10 ?q10
  case o10=>simp; rfl
  refine ⟨((T ++ [v],if 1 < v - d then v - d else 1),(m,b')),⟨by simp only [List.length_append,List.length_singleton]; omega,zpz hT hv.1 (by omega) hTv,⟨by simp only; split <;> omega,by simp only; split <;> omega⟩,fun x hx=>?_,hb'⟩,by simp only; omega,Le.go [(0,0),(24,24),(104,104),(17,17),(18,18)] [] rfl rfl (by simp [hwm2]) (by simp [fcd])⟩
  have : v ≤ x:=by
   rcases List.mem_append.1 hx with h | h
   ·exact hTv x h
   ·rw [List.mem_singleton] at h; omega
  simp only
  split <;> omega
 simp at h8
 obtain rfl : n = 0:=by omega
 refine zak ?_
 refine hit ?_
 refine rk (s:=?s11) [4] [0,24,17,18] rfl ?o11 ?q11
 case o11=>simp; rfl
 refine zag ?_
 refine znu.mk (.inr rfl) (⟨S,T,lv⟩,b) ⟨⟨hS1,zlw hS3 hS4,by simp only; omega,by simp only; omega,hlv'.1,hlv'.2,hT⟩,hS2,by simp only; omega,hb⟩ ?_
 refine ⟨_,rfl,[],[17,18],by simp [List.range,List.range.loop],by simp,by simp,?_,?_⟩
 ·simp [List.range,List.range.loop,fcd,zaI]
 ·simp [List.range,List.range.loop]
open Classical in
noncomputable def accR (g : Gr) (p : Pol) (o : List Int) : List Int:=o.foldl (fun acc k=>if zaA g p (za2 (acc ++ [k])) then acc ++ [k] else acc) []
variable {g : Gr} {p : Pol}
theorem zqO : accR g p [] = []:=rfl
open Classical in
theorem zfX {o : List Int} {k : Int} (h : zaA g p (za2 (accR g p o ++ [k]))) : accR g p (o ++ [k]) = accR g p o ++ [k]:=by
 have h2 : accR g p (o ++ [k]) = if zaA g p (za2 (accR g p o ++ [k])) then accR g p o ++ [k] else accR g p o:=by unfold accR; rw [List.foldl_append]; rfl
 rw [h2,if_pos h]
open Classical in
theorem zjn {o : List Int} {k : Int} (h : ¬ zaA g p (za2 (accR g p o ++ [k]))) : accR g p (o ++ [k]) = accR g p o:=by
 have h2 : accR g p (o ++ [k]) = if zaA g p (za2 (accR g p o ++ [k])) then accR g p o ++ [k] else accR g p o:=by unfold accR; rw [List.foldl_append]; rfl
 rw [h2,if_neg h]
theorem zkY (o : List Int) (k : Int) : accR g p (o ++ [k]) = accR g p o ∨ accR g p (o ++ [k]) = accR g p o ++ [k]:=by
 by_cases h : zaA g p (za2 (accR g p o ++ [k]))
 ·exact .inr (zfX h)
 ·exact .inl (zjn h)
theorem zi4 : ∀ (n : Nat) (o : List Int),o.length = n → (accR g p o).Sublist o
 | 0,o,h=>by
   obtain rfl:=List.eq_nil_of_length_eq_zero h
   exact List.nil_sublist _
 | n + 1,o,h=>by
   have hne : o ≠ []:=fun e=>by rw [e] at h; cases h
   rw [← List.dropLast_concat_getLast hne]
   have ih:=zi4 n o.dropLast (by rw [List.length_dropLast,h]; rfl)
   rcases zkY (g:=g) (p:=p) o.dropLast (o.getLast hne) with e | e
   ·rw [e]; exact ih.trans (List.sublist_append_left _ _)
   ·rw [e]; exact ih.append (List.Sublist.refl _)
theorem znb {o : List Int} {x : Int} (h : x ∈ accR g p o) : x ∈ o:=(zi4 _ o rfl).subset h
open Classical in
noncomputable def zq8 (N : Nat) (A : List Ed) : List Int:=((List.range N).map fun k : Nat=>(k : Int)).filter fun k=>decide (∀ S : Int → Bool,S 0 = true → S 1 = false → capS S A = maxF N A → S k = true)
open Classical in
noncomputable def refS (g : Gr) (p : Pol) (o : List Int) : List Int × List (Int × List Int) :=
 o.foldl (fun s k=>if zaA g p (za2 (s.1 ++ [k])) then (s.1 ++ [k],s.2) else (s.1,s.2 ++ [(k,zq8 (netN g) (netA g p (za2 (s.1 ++ [k]))))])) ([],[])
noncomputable def refR (g : Gr) (p : Pol) (o : List Int) : List (Int × List Int):=(refS g p o).2
open Classical in
theorem zhR (o : List Int) (k : Int) : refS g p (o ++ [k]) = if zaA g p (za2 ((refS g p o).1 ++ [k])) then ((refS g p o).1 ++ [k],(refS g p o).2) else ((refS g p o).1,(refS g p o).2 ++ [(k,zq8 (netN g) (netA g p (za2 ((refS g p o).1 ++ [k]))))]):=by
 unfold refS
 rw [List.foldl_append]
 rfl
theorem zjJ : ∀ (n : Nat) (o : List Int),o.length = n → (refS g p o).1 = accR g p o
 | 0,o,h=>by
   obtain rfl:=List.eq_nil_of_length_eq_zero h
   rfl
 | n + 1,o,h=>by
   have hne : o ≠ []:=fun e=>by rw [e] at h; cases h
   rw [← List.dropLast_concat_getLast hne]
   have ih:=zjJ n o.dropLast (by rw [List.length_dropLast,h]; rfl)
   rw [zhR,ih]
   split
   ·rename_i h1
    rw [zfX h1]
   ·rename_i h1
    rw [zjn h1]
theorem zqJ {o : List Int} {k : Int} (h : zaA g p (za2 (accR g p o ++ [k]))) : refR g p (o ++ [k]) = refR g p o:=by
 unfold refR
 rw [zhR,zjJ _ o rfl,if_pos h]
theorem zsH {o : List Int} {k : Int} (h : ¬ zaA g p (za2 (accR g p o ++ [k]))) : refR g p (o ++ [k]) = refR g p o ++ [(k,zq8 (netN g) (netA g p (za2 (accR g p o ++ [k]))))]:=by
 unfold refR
 rw [zhR,zjJ _ o rfl,if_neg h]
structure zrS (g : Gr) (p : Pol) (acc : List Int) (k : Int) (side : List Int) : Prop where
 no : ¬ zaA g p (za2 (acc ++ [k]))
 ok : zrF ⟨netN g,netA g p (za2 (acc ++ [k]))⟩ side
 cut : cutV (netA g p (za2 (acc ++ [k]))) side = maxF (netN g) (netA g p (za2 (acc ++ [k])))
 len : side.length ≤ 130
 eq : side = zq8 (netN g) (netA g p (za2 (acc ++ [k])))
structure zjQ (g : Gr) (p : Pol) (o : List Int) (R : List (Int × List Int)) : Prop where
 all : ∀ i (h : i < o.length),o[i] ∉ accR g p (o.take (i + 1)) → ∃ side,(o[i],side) ∈ R
 right : ∀ r ∈ R,∃ i,∃ h : i < o.length,o[i] = r.1 ∧ zrS g p (accR g p (o.take i)) r.1 r.2
 len : R.length ≤ o.length
 eq : R = refR g p o
theorem zjQ.nil : zjQ g p [] []:=⟨fun i h=>absurd h (Nat.not_lt_zero _),(fun r h=>nomatch h),Nat.le_refl _,rfl⟩
theorem zjQ.yes {o : List Int} {k : Int} {R : List (Int × List Int)} (hr : zjQ g p o R) (h : zaA g p (za2 (accR g p o ++ [k]))) : zjQ g p (o ++ [k]) R:=by
 refine ⟨fun i hi hn=>?_,fun r hr'=>?_,Nat.le_trans hr.len (by simp),by rw [zqJ h]; exact hr.eq⟩
 ·rw [List.length_append,List.length_singleton] at hi
  by_cases hio : i < o.length
  ·rw [List.getElem_append_left hio] at hn ⊢
   rw [List.take_append_of_le_length (by omega)] at hn
   exact hr.all i hio hn
  ·obtain rfl : i = o.length:=by omega
   refine absurd ?_ hn
   rw [List.take_of_length_le (by simp),zfX h]
   simp
 ·obtain ⟨i,hi,h1,h2⟩:=hr.right r hr'
  refine ⟨i,by simp; omega,by rw [List.getElem_append_left hi]; exact h1,?_⟩
  rw [List.take_append_of_le_length (by omega)]
  exact h2
theorem zjQ.no {o : List Int} {k : Int} {R : List (Int × List Int)} {side : List Int} (hr : zjQ g p o R) (h : zrS g p (accR g p o) k side) : zjQ g p (o ++ [k]) (R ++ [(k,side)]):=by
 refine ⟨fun i hi hn=>?_,fun r hr'=>?_,by have:=hr.len; simp; omega,by rw [zsH h.no,← hr.eq,← h.eq]⟩
 ·rw [List.length_append,List.length_singleton] at hi
  by_cases hio : i < o.length
  ·rw [List.getElem_append_left hio] at hn ⊢
   rw [List.take_append_of_le_length (by omega)] at hn
   obtain ⟨s,hs⟩:=hr.all i hio hn
   exact ⟨s,List.mem_append_left _ hs⟩
  ·obtain rfl : i = o.length:=by omega
   exact ⟨side,by simp⟩
 ·rcases List.mem_append.1 hr' with h3 | h3
  ·obtain ⟨i,hi,h1,h2⟩:=hr.right r h3
   refine ⟨i,by simp; omega,by rw [List.getElem_append_left hi]; exact h1,?_⟩
   rw [List.take_append_of_le_length (by omega)]
   exact h2
  ·rw [List.mem_singleton] at h3
   subst h3
   refine ⟨o.length,by simp,by simp,?_⟩
   rw [List.take_append_of_le_length (Nat.le_refl _),List.take_length]
   exact h
section
variable {H : Type} {P : Program} {tI tIs tE tEs tP tR tRs tA : TypeId}
theorem zoP {n : Nat} (hI : P.underlying tI = some (.int .i64)) (hIs : P.underlying tIs = some (.slice tI)) (cI : P.cellsOf tI = 1) {d : DataW H} {cs : List AV} (h : avs P (n + 2) tIs d = some cs) : ∃ (l : List Int) (x : AV),cs = [x] ∧ Wk x (ints l):=by
 obtain ⟨l,y,rfl,hw⟩:=zm4 hIs (fun x : Int=>[AV.I x]) (fun d row h=>by obtain ⟨x,h,_⟩:=zna hI h; exact ⟨x,h⟩) h
 rw [cI] at hw
 exact ⟨l,y,rfl,hw⟩
theorem zkz {n : Nat} (hI : P.underlying tI = some (.int .i64)) (hIs : P.underlying tIs = some (.slice tI)) (cI : P.cellsOf tI = 1) (hP : St3 P tP tIs tIs tI) {d : DataW H} {x : AV} (h : zes P (n + 3) tP d = some x) : ∃ p : Pol,Wk x (eP p):=by
 have h' : ∃ cs,avs P (n + 3) tP d = some cs ∧ .agg cs = x:=by
  obtain ⟨f1,f2,f3,hu,_⟩:=hP
  simpa only [zes,hu,Option.map_eq_some_iff] using h
 clear h
 obtain ⟨cs,h,rfl⟩:=h'
 obtain ⟨d1,d2,d3,c1,c2,c3,h1,h2,h3,rfl⟩:=zqt hP h
 obtain ⟨l1,y1,rfl,w1⟩:=zoP hI hIs cI h1
 obtain ⟨l2,y2,rfl,w2⟩:=zoP hI hIs cI h2
 obtain ⟨x3,rfl,_⟩:=zna hI h3
 exact ⟨⟨l1,l2,x3⟩,wkA3 w1 w2 (.refl _)⟩
end
def sg (k : Nat) : Int:=if k % 2 = 0 then 1 else -1
theorem zoD (k : Nat) : sg (k + 1) = - sg k:=by
 unfold sg
 rcases Nat.mod_two_eq_zero_or_one k with h | h
 ·have h' : ¬ (k + 1) % 2 = 0:=by omega
  rw [if_pos h,if_neg h']
 ·have h' : (k + 1) % 2 = 0:=by omega
  have h'' : ¬ k % 2 = 0:=by omega
  rw [if_neg h'',if_pos h']
  rfl
abbrev Vec:=Nat → Int
def lapS (F : List Vec → Int) (r : Nat) : List Vec → List Vec → Int
 | _,[]=>0
 | pre,c :: rest=>sg pre.length * c r * F (pre ++ rest) + lapS F r (pre ++ [c]) rest
def detC : Nat → Nat → List Vec → Int
 | 0,_,_=>1
 | n + 1,r,cs=>lapS (detC n (r + 1)) r [] cs
def LinC (n : Nat) (F : List Vec → Int) : Prop:=∀ (x y : Int) (u v : Vec) (pre post : List Vec),pre.length + 1 + post.length = n → F (pre ++ (fun i=>x * u i + y * v i) :: post) = x * F (pre ++ u :: post) + y * F (pre ++ v :: post)
def Alt (n : Nat) (F : List Vec → Int) : Prop:=∀ (u : Vec) (pre post : List Vec),pre.length + 2 + post.length = n → F (pre ++ u :: u :: post) = 0
section
variable {F : List Vec → Int} {n r : Nat} {u v w : Vec} {x y : Int}
theorem zkU (hF : LinC n F) : ∀ (rest p1 p2 : List Vec),p1.length + 1 + p2.length + rest.length = n + 1 → lapS F r (p1 ++ (fun i=>x * u i + y * v i) :: p2) rest = x * lapS F r (p1 ++ u :: p2) rest + y * lapS F r (p1 ++ v :: p2) rest
 | [],_,_,_=>by simp [lapS]
 | c :: rest,p1,p2,hl=>by
   simp only [List.length_cons] at hl
   have h1:=zkU hF rest p1 (p2 ++ [c]) (by simp; omega)
   have h2:=hF x y u v p1 (p2 ++ rest) (by simp; omega)
   simp only [lapS,List.append_assoc,List.cons_append,List.length_append,List.length_cons] at *
   rw [h1,h2]
   grind
theorem zkX (hF : LinC n F) : ∀ (pre pre0 post : List Vec),pre0.length + pre.length + 1 + post.length = n + 1 → lapS F r pre0 (pre ++ (fun i=>x * u i + y * v i) :: post) = x * lapS F r pre0 (pre ++ u :: post) + y * lapS F r pre0 (pre ++ v :: post)
 | [],pre0,post,hl=>by
   simp only [List.length_nil] at hl
   have h1:=zkU (r:=r) (x:=x) (y:=y) (u:=u) (v:=v) hF post pre0 [] (by simp; omega)
   simp only [lapS,List.nil_append]
   rw [h1]
   grind
 | c :: pre,pre0,post,hl=>by
   simp only [List.length_cons] at hl
   have h1:=zkX hF pre (pre0 ++ [c]) post (by simp; omega)
   have h2:=hF x y u v (pre0 ++ pre) post (by simp; omega)
   simp only [lapS,List.append_assoc,List.cons_append] at *
   rw [h1,h2]
   grind
theorem zkM (hF : Alt n F) : ∀ (rest p1 p2 : List Vec),p1.length + 2 + p2.length + rest.length = n + 1 → lapS F r (p1 ++ u :: u :: p2) rest = 0
 | [],_,_,_=>by simp [lapS]
 | c :: rest,p1,p2,hl=>by
   simp only [List.length_cons] at hl
   have h1:=zkM hF rest p1 (p2 ++ [c]) (by simp; omega)
   have h2:=hF u p1 (p2 ++ rest) (by simp; omega)
   simp only [lapS,List.append_assoc,List.cons_append,List.length_append,List.length_cons] at *
   rw [h1,h2]
   simp
theorem zki (hF : Alt n F) : ∀ (pre pre0 post : List Vec),pre0.length + pre.length + 2 + post.length = n + 1 → lapS F r pre0 (pre ++ u :: u :: post) = 0
 | [],pre0,post,hl=>by
   simp only [List.length_nil] at hl
   have h1:=zkM (r:=r) (u:=u) hF post pre0 [] (by simp; omega)
   simp only [lapS,List.nil_append,List.append_assoc,List.cons_append,List.length_append,List.length_cons,List.length_nil,Nat.zero_add] at *
   rw [h1,zoD]
   grind
 | c :: pre,pre0,post,hl=>by
   simp only [List.length_cons] at hl
   have h1:=zki hF pre (pre0 ++ [c]) post (by simp; omega)
   have h2:=hF u (pre0 ++ pre) post (by simp; omega)
   simp only [lapS,List.append_assoc,List.cons_append] at *
   rw [h1,h2]
   simp
end
theorem zmD : ∀ (n r : Nat),LinC n (detC n r)
 | 0,_=>fun _ _ _ _ pre post h=>by omega
 | n + 1,r=>fun x y u v pre post h=>zkX (zmD n (r + 1)) pre [] post (by simpa using h)
theorem zm5 : ∀ (n r : Nat),Alt n (detC n r)
 | 0,_=>fun _ pre post h=>by omega
 | n + 1,r=>fun u pre post h=>zki (zm5 n (r + 1)) pre [] post (by simpa using h)
section
variable {F : List Vec → Int} {n : Nat}
theorem zqp (hL : LinC n F) (hA : Alt n F) (u v : Vec) (pre post : List Vec) (h : pre.length + 2 + post.length = n) : F (pre ++ u :: v :: post) = - F (pre ++ v :: u :: post):=by
 have e1:=hA (fun i=>1 * u i + 1 * v i) pre post h
 have e2:=hL 1 1 u v pre ((fun i=>1 * u i + 1 * v i) :: post) (by simp; omega)
 have e3:=hL 1 1 u v (pre ++ [u]) post (by simp; omega)
 have e4:=hL 1 1 u v (pre ++ [v]) post (by simp; omega)
 have e5:=hA u pre post h
 have e6:=hA v pre post h
 simp only [List.append_assoc,List.cons_append,List.nil_append] at *
 rw [e2,e3,e4,e5,e6] at e1
 omega
theorem zop (hL : LinC n F) (hA : Alt n F) (u : Vec) : ∀ (mid pre post : List Vec),pre.length + 2 + mid.length + post.length = n → F (pre ++ u :: mid ++ u :: post) = 0
 | [],pre,post,h=>by
   have:=hA u pre post (by simpa using h)
   simpa using this
 | c :: mid,pre,post,h=>by
   simp only [List.length_cons] at h
   have h1:=zop hL hA u mid (pre ++ [c]) post (by simp; omega)
   have h2:=zqp hL hA u c pre (mid ++ u :: post) (by simp; omega)
   simp only [List.append_assoc,List.cons_append,List.nil_append] at *
   rw [h2,h1]
   rfl
theorem zmZ (hL : LinC n F) (hA : Alt n F) (c : Vec) (a : Int) (lam : Vec → Int) : ∀ (rest pre : List Vec),pre.length + 1 + rest.length = n →
  F (c :: pre ++ rest.map fun v=>fun i=>a * v i + - lam v * c i) = a ^ rest.length * F (c :: pre ++ rest)
 | [],pre,_=>by simp
 | v :: rest,pre,h=>by
   simp only [List.length_cons] at h
   have h1:=zmZ hL hA c a lam rest (pre ++ [fun i=>a * v i + - lam v * c i]) (by simp; omega)
   have h2:=hL a (- lam v) v c (c :: pre) rest (by simp; omega)
   have h3:=zop hL hA c pre [] rest (by simp; omega)
   simp only [List.append_assoc,List.cons_append,List.nil_append,List.map_cons,List.length_cons] at *
   rw [h1,h2,h3]
   grind
end
theorem zkQ {F : List Vec → Int} {r : Nat} : ∀ (rest pre : List Vec),(∀ v ∈ rest,v r = 0) → lapS F r pre rest = 0
 | [],_,_=>rfl
 | c :: rest,pre,h=>by
   simp only [lapS]
   rw [h c (by simp),zkQ rest (pre ++ [c]) fun v hv=>h v (by simp [hv])]
   simp
theorem zp7 (n r : Nat) (c : Vec) (cs : List Vec) (h : cs.length = n) : c r ^ n * detC (n + 1) r (c :: cs) = c r * detC n (r + 1) (cs.map fun v=>fun i=>c r * v i + - v r * c i):=by
 have h1:=zmZ (zmD (n + 1) r) (zm5 (n + 1) r) c (c r) (fun v=>v r) cs [] (by simp; omega)
 simp only [List.cons_append,List.nil_append] at h1
 rw [h] at h1
 rw [← h1]
 simp only [detC,lapS,List.length_nil,List.nil_append]
 rw [zkQ _ [c] fun v hv=>by
  obtain ⟨w,_,rfl⟩:=List.mem_map.1 hv
  grind]
 simp [sg]
theorem ziK {F G : List Vec → Int} {r : Nat} (s : Vec → Vec) (hs : ∀ v,v (r + 1) = s v r) : ∀ (rest pre : List Vec),(∀ l : List Vec,l.length + 1 = pre.length + rest.length → F l = G (l.map s)) → lapS F (r + 1) pre rest = lapS G r (pre.map s) (rest.map s)
 | [],_,_=>rfl
 | c :: rest,pre,h=>by
   simp only [List.length_cons] at h
   have h1:=ziK s hs rest (pre ++ [c]) (fun l hl=>h l (by simp at hl; omega))
   have h2:=h (pre ++ rest) (by simp; omega)
   simp only [lapS,List.map_cons,List.length_map]
   rw [h1,h2,hs c]
   simp
theorem ziG : ∀ (n r : Nat) (cs : List Vec),detC n (r + 1) cs = detC n r (cs.map fun v=>fun i=>v (i + 1))
 | 0,_,_=>rfl
 | n + 1,r,cs=>by
   simp only [detC]
   exact ziK (fun v=>fun i=>v (i + 1)) (fun _=>rfl) cs [] fun l _=>ziG n (r + 1) l
abbrev Mat:=Nat → Nat → Int
def detM (n : Nat) (A : Mat) : Int:=detC n 0 ((List.range n).map fun j=>fun i=>A i j)
def chio (A : Mat) : Mat:=fun i j=>A 0 0 * A (i + 1) (j + 1) - A 0 (j + 1) * A (i + 1) 0
theorem zhD (n : Nat) (A : Mat) : A 0 0 ^ n * detM (n + 1) A = A 0 0 * detM n (chio A):=by
 unfold detM
 rw [List.range_succ_eq_map,List.map_cons]
 have h:=zp7 n 0 (fun i=>A i 0) (((List.range n).map Nat.succ).map fun j=>fun i=>A i j) (by simp)
 rw [h,ziG]
 congr 2
 rw [List.map_map,List.map_map,List.map_map]
 refine List.map_congr_left fun j _=>?_
 funext i
 simp only [Function.comp_apply,chio,Nat.succ_eq_add_one]
 grind
def smN : Nat → (Nat → Int) → Int
 | 0,_=>0
 | n + 1,f=>f 0 + smN n fun i=>f (i + 1)
theorem zbn : ∀ (n : Nat) {f g : Nat → Int},(∀ i,i < n → f i = g i) → smN n f = smN n g
 | 0,_,_,_=>rfl
 | n + 1,f,g,h=>by
   simp only [smN]
   rw [h 0 (by omega),zbn n fun i hi=>h (i + 1) (by omega)]
theorem zjT (a b : Int) : ∀ (n : Nat) (f g : Nat → Int),smN n (fun j=>a * f j - b * g j) = a * smN n f - b * smN n g
 | 0,_,_=>by simp [smN]
 | n + 1,f,g=>by
   simp only [smN]
   rw [zjT a b n]
   grind
theorem zg9 : ∀ (n : Nat),smN n (fun _=>0) = 0
 | 0=>rfl
 | n + 1=>by simp only [smN]; rw [zg9 n]; rfl
def zdk : Nat → (Nat → Int) → Int
 | 0,_=>1
 | n + 1,f=>f 0 * zdk n fun i=>f (i + 1)
def inR (n : Nat) (A : Mat) (S : Nat → Bool) (i : Nat) : Int:=smN n fun j=>if S j then A i j else 0
structure MM (n : Nat) (A : Mat) : Prop where
 off : ∀ i j,i < n → j < n → i ≠ j → A i j ≤ 0
 non : ∀ (S : Nat → Bool) (i : Nat),i < n → S i = true → 0 ≤ inR n A S i
 leak : ∀ S : Nat → Bool,(∃ i,i < n ∧ S i = true) → ∃ i,i < n ∧ S i = true ∧ 0 < inR n A S i
def zgE (b : Bool) (S : Nat → Bool) : Nat → Bool
 | 0=>b
 | j + 1=>S j
section
variable {n : Nat} {A : Mat}
theorem zha (S : Nat → Bool) (i : Nat) : inR (n + 1) A (zgE true S) i = A i 0 + smN n fun j=>if S j then A i (j + 1) else 0:=by
 rfl
theorem zpI (S : Nat → Bool) (i : Nat) : inR (n + 1) A (zgE false S) i = smN n fun j=>if S j then A i (j + 1) else 0:=by
 show (0 : Int) + smN n (fun j=>if S j then A i (j + 1) else 0) = _
 rw [Int.zero_add]
theorem MM.pos (h : MM (n + 1) A) : 0 < A 0 0:=by
 obtain ⟨i,hi,hs,hp⟩:=h.leak (zgE true fun _=>false) ⟨0,by omega,rfl⟩
 cases i with
 | zero =>
   rw [zha] at hp
   simp [zg9] at hp
   exact hp
 | succ i=>simp [zgE] at hs
theorem zhc (S : Nat → Bool) (i : Nat) : inR n (chio A) S i = A 0 0 * inR (n + 1) A (zgE true S) (i + 1) - A (i + 1) 0 * inR (n + 1) A (zgE true S) 0:=by
 rw [zha,zha]
 have h:=zjT (A 0 0) (A (i + 1) 0) n (fun j=>if S j then A (i + 1) (j + 1) else 0) (fun j=>if S j then A 0 (j + 1) else 0)
 have h2 : inR n (chio A) S i = smN n (fun j=>A 0 0 * (if S j then A (i + 1) (j + 1) else 0) - A (i + 1) 0 * (if S j then A 0 (j + 1) else 0)):=by
  unfold inR
  refine zbn n fun j _=>?_
  cases S j
  ·simp
  ·simp [chio]; grind
 rw [h2,h]
 grind
theorem MM.chio (h : MM (n + 1) A) : MM n (chio A):=by
 have h0:=h.pos
 refine ⟨fun i j hi hj hne=>?_,fun S i hi hs=>?_,fun S hS=>?_⟩
 ·have h1:=h.off (i + 1) (j + 1) (by omega) (by omega) (by omega)
  have h2:=h.off 0 (j + 1) (by omega) (by omega) (by omega)
  have h3:=h.off (i + 1) 0 (by omega) (by omega) (by omega)
  have h4:=Int.mul_nonneg_of_nonpos_of_nonpos h2 h3
  have h5:=Int.mul_nonneg (Int.le_of_lt h0) (Int.neg_nonneg_of_nonpos h1)
  rw [Int.mul_neg] at h5
  unfold Go.Proofs.YtfdbhehkkobfgaaGreat.chio
  omega
 ·rw [zhc]
  have h1:=h.non (zgE true S) (i + 1) (by omega) hs
  have h2:=h.non (zgE true S) 0 (by omega) rfl
  have h3:=h.off (i + 1) 0 (by omega) (by omega) (by omega)
  have h4:=Int.mul_nonneg (Int.le_of_lt h0) h1
  have h5:=Int.mul_nonneg (Int.neg_nonneg_of_nonpos h3) h2
  rw [Int.neg_mul] at h5
  omega
 ·obtain ⟨k,hk,hks⟩:=hS
  obtain ⟨i,hi,hs,hp⟩:=h.leak (zgE true S) ⟨0,by omega,rfl⟩
  have h2:=h.non (zgE true S) 0 (by omega) rfl
  cases i with
  | succ i =>
    refine ⟨i,by omega,hs,?_⟩
    rw [zhc]
    have h3:=h.off (i + 1) 0 (by omega) (by omega) (by omega)
    have h4:=Int.mul_pos h0 hp
    have h5:=Int.mul_nonneg (Int.neg_nonneg_of_nonpos h3) h2
    rw [Int.neg_mul] at h5
    omega
  | zero =>
    by_cases hex : ∃ j,j < n ∧ S j = true ∧ A (j + 1) 0 ≠ 0
    ·obtain ⟨j,hj,hjs,hjn⟩:=hex
     refine ⟨j,hj,hjs,?_⟩
     rw [zhc]
     have h1:=h.non (zgE true S) (j + 1) (by omega) hjs
     have h3:=h.off (j + 1) 0 (by omega) (by omega) (by omega)
     have h4:=Int.mul_nonneg (Int.le_of_lt h0) h1
     have h5:=Int.mul_pos (a:=- A (j + 1) 0) (by omega) hp
     rw [Int.neg_mul] at h5
     omega
    ·obtain ⟨i,hi,hs,hp⟩:=h.leak (zgE false S) ⟨k + 1,by omega,hks⟩
     cases i with
     | zero=>simp [zgE] at hs
     | succ i =>
       refine ⟨i,by omega,hs,?_⟩
       have hz : A (i + 1) 0 = 0:=Classical.byContradiction fun hz=>hex ⟨i,by omega,hs,hz⟩
       rw [zhc,hz,zha,hz]
       rw [zpI] at hp
       have h4:=Int.mul_pos h0 hp
       simpa using h4
theorem zhe : ∀ (n : Nat) {A : Mat},MM n A → 0 < detM n A
 | 0,_,_=>by show (0 : Int) < 1; decide
 | n + 1,A,h=>by
   have h0:=h.pos
   have h1:=zhe n h.chio
   have h2:=zhD n A
   have h3 : 0 < A 0 0 ^ n:=Int.pow_pos h0
   have h4:=Int.mul_pos h0 h1
   rw [← h2] at h4
   exact Int.pos_of_mul_pos_right h4 h3
theorem zgt : ∀ (n : Nat) (f : Nat → Int) (i : Nat),i < n → (smN n fun j=>if decide (j = i) then f j else 0) = f i
 | n + 1,f,0,_=>by
   have h:=zbn n (f:=fun j=>if decide (j + 1 = 0) then f (j + 1) else 0) (g:=fun _=>0) fun j _=>by simp
   simp only [smN]
   rw [h,zg9]
   simp
 | n + 1,f,i + 1,hi=>by
   have h:=zgt n (fun j=>f (j + 1)) i (by omega)
   have h2:=zbn n (f:=fun j=>if decide (j + 1 = i + 1) then f (j + 1) else 0) (g:=fun j=>if decide (j = i) then f (j + 1) else 0) fun j _=>by simp
   simp only [smN]
   rw [h2,h]
   simp
theorem MM.diag (h : MM n A) : ∀ i,i < n → 0 ≤ A i i:=fun i hi=>by
 have h1:=h.non (fun j=>decide (j = i)) i hi (by simp)
 unfold inR at h1
 rw [zgt n (fun j=>A i j) i hi] at h1
 exact h1
theorem zeF : ∀ (n : Nat) {f : Nat → Int},(∀ i,i < n → 0 ≤ f i) → 0 ≤ zdk n f
 | 0,_,_=>by show (0 : Int) ≤ 1; decide
 | n + 1,f,h=>Int.mul_nonneg (h 0 (by omega)) (zeF n fun i hi=>h (i + 1) (by omega))
theorem ziV : ∀ (n : Nat) {f g : Nat → Int},(∀ i,i < n → 0 ≤ f i ∧ f i ≤ g i) → zdk n f ≤ zdk n g
 | 0,_,_,_=>Int.le_refl _
 | n + 1,f,g,h=>by
   have h0:=h 0 (by omega)
   have h1:=ziV n (f:=fun i=>f (i + 1)) (g:=fun i=>g (i + 1)) fun i hi=>h (i + 1) (by omega)
   have h2:=zeF n (f:=fun i=>f (i + 1)) fun i hi=>(h (i + 1) (by omega)).1
   exact Int.mul_le_mul h0.2 h1 h2 (by omega)
theorem zh2 (a : Int) : ∀ (n : Nat) (f : Nat → Int),zdk n (fun i=>a * f i) = a ^ n * zdk n f
 | 0,_=>by simp [zdk]
 | n + 1,f=>by
   simp only [zdk]
   rw [zh2 a n]
   grind
theorem zjP : ∀ (n : Nat) {A : Mat},MM n A → detM n A ≤ zdk n fun i=>A i i
 | 0,_,_=>Int.le_refl _
 | n + 1,A,h=>by
   have h0:=h.pos
   have h1:=zjP n h.chio
   have h2:=zhD n A
   have h3 : 0 < A 0 0 ^ n:=Int.pow_pos h0
   have hd:=h.chio.diag
   have hm : (zdk n fun i=>Go.Proofs.YtfdbhehkkobfgaaGreat.chio A i i) ≤ zdk n fun i=>A 0 0 * A (i + 1) (i + 1):=ziV n fun i hi=>by
    refine ⟨hd i hi,?_⟩
    have h4:=h.off 0 (i + 1) (by omega) (by omega) (by omega)
    have h5:=h.off (i + 1) 0 (by omega) (by omega) (by omega)
    have h6:=Int.mul_nonneg_of_nonpos_of_nonpos h4 h5
    unfold Go.Proofs.YtfdbhehkkobfgaaGreat.chio
    omega
   rw [zh2 (A 0 0) n fun i=>A (i + 1) (i + 1)] at hm
   have h7 : A 0 0 ^ n * detM (n + 1) A ≤ A 0 0 ^ n * (A 0 0 * zdk n fun i=>A (i + 1) (i + 1)):=by
    rw [h2]
    have h8:=Int.mul_le_mul_of_nonneg_left (Int.le_trans h1 hm) (Int.le_of_lt h0)
    grind
   exact Int.le_of_mul_le_mul_left h7 h3
end
end Go.Proofs.YtfdbhehkkobfgaaGreat
