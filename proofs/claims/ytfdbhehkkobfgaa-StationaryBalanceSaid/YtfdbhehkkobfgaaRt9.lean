/- Texts of this claim,merged. -/
import Derived.Test.YtfdbhehkkobfgaaRt8
import Derived.Test.YtfdbhehkkobfgaaRt7
import Derived.Test.YtfdbhehkkobfgaaRt6
set_option linter.unusedSimpArgs false
set_option linter.unusedVariables false
set_option linter.unusedSectionVars false
namespace Go.Proofs.Ytfdbhehkkobfgaa
open Go
def zm7 (g : Gr) (lv f t : Int) : Prop:=∃ e ∈ g.edges,e.f = f ∧ e.t = t ∧ lv ≤ e.v
theorem zcr : ∀ {a b : List Int},a.Nodup → (∀ x ∈ a,x ∈ b) → b.length ≤ a.length → a.Perm b
 | [],b,_,_,hl=>by
   have : b = []:=List.length_eq_zero_iff.1 (by simpa using hl)
   rw [this]
 | x :: a,b,hn,hs,hl=>by
   have hx : x ∈ b:=hs x (List.mem_cons_self ..)
   rw [List.nodup_cons] at hn
   have hb:=List.perm_cons_erase hx
   have hlb : (b.erase x).length + 1 = b.length:=by have:=hb.length_eq; simp at this; omega
   refine (List.Perm.cons x (zcr hn.2 (fun y hy=>?_) ?_)).trans hb.symm
   ·have hy2:=hs y (List.mem_cons_of_mem _ hy)
    have hne : y ≠ x:=fun e=>hn.1 (e ▸ hy)
    exact (List.mem_erase_of_ne hne).2 hy2
   ·rw [List.length_cons] at hl
    omega
def srt (l : List Int) : List Int:=l.mergeSort fun x y=>decide (x ≤ y)
theorem zcN (l : List Int) : (srt l).Perm l:=List.mergeSort_perm ..
theorem zmS (l : List Int) : (srt l).Pairwise (· ≤ ·):=by
 have h:=List.pairwise_mergeSort (le:=fun x y : Int=>decide (x ≤ y)) (fun a b c h1 h2=>by simp at *; omega) (fun a b=>by simp; omega) l
 exact h.imp fun {a b} h=>by simpa using h
theorem zdF {a b : List Int} : srt a = srt b ↔ a.Perm b:=by
 constructor
 ·intro h
  exact (zcN a).symm.trans (h ▸ zcN b)
 ·intro h
  exact List.Perm.eq_of_pairwise (le:=(· ≤ ·)) (fun x y _ _ h1 h2=>by omega) (zmS a) (zmS b) (((zcN a).trans h).trans (zcN b).symm)
def zqJ (g : Gr) (lv : Int) (seeds order w : List Int) : Prop :=
 (∃ k,w.head? = some k ∧ k ∈ seeds) ∧ (∀ k ∈ w,k ∈ order) ∧ w.Nodup ∧ ∀ i (h : i + 1 < w.length),zm7 g lv w[i] w[i + 1]
def begC (P : List (List Int)) (k : Int) : Nat:=P.countP fun w=>decide (w.head? = some k)
def useC (P : List (List Int)) (k : Int) : Nat:=(P.flatMap List.dropLast).count k
def zjj (c : List Int) (P : List (List Int)) : Prop:=∀ k (h : k < c.length),(begC P k : Int) ≤ c[k] ∧ (useC P k : Int) ≤ max 0 (c[k] - 1)
def zgm (P : List (List Int)) : List Int:=P.filterMap List.getLast?
def zga (g : Gr) (lv : Int) (seeds order c : List Int) (P : List (List Int)) (ends : List Int) : Prop :=
 (∀ w ∈ P,zqJ g lv seeds order w) ∧ zjj c P ∧ srt (zgm P) = srt ends
def zhD (g : Gr) (lv : Int) (seeds order c : List Int) (P : List (List Int)) (ends : List Int) : Prop :=
 P.length = ends.length ∧ ends.Nodup ∧ (∀ w ∈ P,zqJ g lv seeds order w) ∧ (∀ k ∈ zgm P,k ∈ ends) ∧ (zgm P).Nodup ∧ zjj c P
theorem zqJ.ne {g : Gr} {lv : Int} {seeds order w : List Int} (h : zqJ g lv seeds order w) : w ≠ []:=by
 rintro rfl
 obtain ⟨k,hk,_⟩:=h.1
 cases hk
theorem zkE {P : List (List Int)} (h : ∀ w ∈ P,w ≠ []) : (zgm P).length = P.length:=by
 unfold zgm
 induction P with
 | nil=>rfl
 | cons w P ih =>
   have hw:=h w (List.mem_cons_self ..)
   rw [List.filterMap_cons,List.getLast?_eq_some_getLast hw]
   simp only [List.length_cons]
   rw [ih fun x hx=>h x (List.mem_cons_of_mem _ hx)]
theorem ziE {g : Gr} {lv : Int} {seeds order c : List Int} {P : List (List Int)} {ends : List Int} (hn : ends.Nodup) : zga g lv seeds order c P ends ↔ zhD g lv seeds order c P ends:=by
 constructor
 ·rintro ⟨h1,h2,h3⟩
  have hp:=zdF.1 h3
  have hl:=zkE fun w hw=>(h1 w hw).ne
  exact ⟨by rw [← hl,hp.length_eq],hn,h1,fun k hk=>hp.mem_iff.1 hk,hp.nodup_iff.2 hn,h2⟩
 ·rintro ⟨h0,_,h1,h2,h3,h4⟩
  have hl:=zkE fun w hw=>(h1 w hw).ne
  exact ⟨h1,h4,zdF.2 (zcr h3 h2 (by omega))⟩
def zfO (order : List Int) (key : Int) : List Int:=order.takeWhile fun x=>decide (x ≠ key)
theorem zl0 (x : Int) (o : List Int) (key : Int) : zfO (x :: o) key = if x = key then [] else x :: zfO o key:=by
 unfold zfO
 rw [List.takeWhile_cons]
 by_cases h : x = key <;> simp [h]
def zet (order l : List Int) (key : Int) : Prop:=l.Sublist (zfO order key)
theorem zij (order : List Int) (key : Int) : key ∉ zfO order key:=by
 induction order with
 | nil=>simp [zfO]
 | cons x o ih =>
   rw [zl0]
   split
   ·simp
   ·rename_i h
    simp only [List.mem_cons,not_or]
    exact ⟨fun e=>h e.symm,ih⟩
theorem zet.nodup {order l : List Int} {key : Int} (h : zet order l key) (hn : order.Nodup) : (l ++ [key]).Nodup:=by
 rw [List.nodup_append]
 refine ⟨(hn.sublist (List.takeWhile_sublist _)).sublist h,by simp,fun x hx y hy=>?_⟩
 rw [List.mem_singleton] at hy
 subst hy
 rintro rfl
 exact zij order x (h.subset hx)
structure zfx (A : List Ed) (E : Int → Int → Prop) (seeds sinks : List Int) (c : Int → Int) : Prop where
 kind : ∀ i,i < A.length → (∃ x,x ∈ seeds ∧ 0 ≤ x ∧ arcD A i = ⟨0,2 + 2 * x,c x⟩) ∨ (∃ x,0 ≤ x ∧ arcD A i = ⟨2 + 2 * x,3 + 2 * x,c x - 1⟩) ∨ (∃ x,x ∈ sinks ∧ 0 ≤ x ∧ arcD A i = ⟨2 + 2 * x,1,1⟩) ∨ (∃ x y,0 ≤ x ∧ 0 ≤ y ∧ E x y ∧ arcD A i = ⟨3 + 2 * x,2 + 2 * y,64⟩)
 uniq : ∀ i j,i < A.length → j < A.length → (arcD A i).f = (arcD A j).f → (arcD A i).t = (arcD A j).t → i = j
inductive zfj (A : List Ed) (E : Int → Int → Prop) (sinks : List Int) (c : Int → Int) : Int → List Nat → List Int → Prop
 | last (k : Int) (i : Nat) : i < A.length → arcD A i = ⟨2 + 2 * k,1,1⟩ → k ∈ sinks → zfj A E sinks c k [i] []
 | more (k y : Int) (i j : Nat) (l : List Nat) (ks : List Int) : i < A.length → arcD A i = ⟨2 + 2 * k,3 + 2 * k,c k - 1⟩ → arcD A j = ⟨3 + 2 * k,2 + 2 * y,64⟩ → E k y → 0 ≤ y → zfj A E sinks c y l ks → zfj A E sinks c k (i :: j :: l) (y :: ks)
variable {A : List Ed} {E : Int → Int → Prop} {seeds sinks : List Int} {c : Int → Int}
theorem zfx.sinkless (h : zfx A E seeds sinks c) {i : Nat} (hi : i < A.length) : (arcD A i).f ≠ 1:=by
 rcases h.kind i hi with ⟨x,_,hx,e⟩ | ⟨x,hx,e⟩ | ⟨x,_,hx,e⟩ | ⟨x,y,hx,hy,_,e⟩ <;> rw [e] <;> simp only <;> omega
theorem zfx.path (h : zfx A E seeds sinks c) : ∀ (n : Nat) (l : List Nat) (k : Int),l.length ≤ n → 0 ≤ k → WayA A (2 + 2 * k) l 1 → ∃ ks,zfj A E sinks c k l ks
 | _,[],k,_,hk,hw=>by
   have : 2 + 2 * k = 1:=hw
   omega
 | n,[i],k,_,hk,hw=>by
   obtain ⟨h1,h2,h3⟩:=hw
   have h3' : (arcD A i).t = 1:=h3
   rcases h.kind i h1 with ⟨x,_,hx,e⟩ | ⟨x,hx,e⟩ | ⟨x,hs,hx,e⟩ | ⟨x,y,hx,hy,_,e⟩ <;> rw [e] at h2 h3' <;> simp only at h2 h3'
   ·omega
   ·omega
   ·have : x = k:=by omega
    subst this
    exact ⟨[],.last _ i h1 e hs⟩
   ·omega
 | 0,_ :: _ :: _,_,hn,_,_=>by simp at hn
 | n + 1,i :: j :: l,k,hn,hk,hw=>by
   obtain ⟨h1,h2,h4,h5,h6⟩:=hw
   rcases h.kind i h1 with ⟨x,_,hx,e⟩ | ⟨x,hx,e⟩ | ⟨x,hs,hx,e⟩ | ⟨x,y,hx,hy,_,e⟩
   ·rw [e] at h2; simp only at h2; omega
   ·rw [e] at h2 h5
    simp only at h2 h5
    have : x = k:=by omega
    subst this
    rcases h.kind j h4 with ⟨z,_,hz,e'⟩ | ⟨z,hz,e'⟩ | ⟨z,hs,hz,e'⟩ | ⟨z,y,hz,hy,hE,e'⟩
    ·rw [e'] at h5; simp only at h5; omega
    ·rw [e'] at h5; simp only at h5; omega
    ·rw [e'] at h5; simp only at h5; omega
    ·rw [e'] at h5 h6
     simp only at h5 h6
     have : z = x:=by omega
     subst this
     obtain ⟨ks,hp⟩:=h.path n l y (by simp at hn; omega) hy h6
     exact ⟨y :: ks,.more _ y i j l ks h1 e e' hE hy hp⟩
   ·rw [e] at h5
    simp only at h5
    exact absurd h5 (h.sinkless h4)
   ·rw [e] at h2; simp only at h2; omega
def keyT (t : Int) : Option Int:=if 2 ≤ t ∧ t % 2 = 0 then some ((t - 2) / 2) else none
def zca (A : List Ed) (l : List Nat) : List Int:=(metA A l).filterMap keyT
theorem ziI {k : Int} (h : 0 ≤ k) : keyT (2 + 2 * k) = some k:=by
 unfold keyT
 rw [if_pos ⟨by omega,by omega⟩]
 congr 1
 omega
theorem zn6 (k : Int) : keyT (3 + 2 * k) = none:=if_neg (by omega)
theorem zo2 : keyT 1 = none:=if_neg (by omega)
theorem zfj.keys {k : Int} {l : List Nat} {ks : List Int} (h : zfj A E sinks c k l ks) : zca A l = ks:=by
 induction h with
 | last k i h1 h2 h3 =>
   unfold zca metA
   rw [List.map_cons,List.map_nil,List.filterMap_cons,h2]
   simp only
   rw [zo2]
   rfl
 | more k y i j l ks h1 h2 h3 h4 h5 h6 ih =>
   unfold zca metA at ih ⊢
   rw [List.map_cons,List.map_cons,List.filterMap_cons,h2]
   simp only
   rw [zn6,List.filterMap_cons,h3]
   simp only
   rw [ziI h5,ih]
theorem zfj.edges {k : Int} {l : List Nat} {ks : List Int} (h : zfj A E sinks c k l ks) : ∀ i (hi : i + 1 < (k :: ks).length),E (k :: ks)[i] (k :: ks)[i + 1]:=by
 induction h with
 | last k i h1 h2 h3=>intro i hi; simp at hi
 | more k y i j l ks h1 h2 h3 h4 h5 h6 ih =>
   intro n hn
   cases n with
   | zero=>exact h4
   | succ n=>exact ih n (by simpa using hn)
theorem zfj.ends {k : Int} {l : List Nat} {ks : List Int} (h : zfj A E sinks c k l ks) : ∃ z,(k :: ks).getLast? = some z ∧ z ∈ sinks ∧ ∃ i ∈ l,i < A.length ∧ arcD A i = ⟨2 + 2 * z,1,1⟩:=by
 induction h with
 | last k i h1 h2 h3=>exact ⟨k,rfl,h3,i,List.mem_singleton.2 rfl,h1,h2⟩
 | more k y i j l ks h1 h2 h3 h4 h5 h6 ih =>
   obtain ⟨z,hz,hs,m,hm,hm2,hm3⟩:=ih
   exact ⟨z,by rw [List.getLast?_cons_cons]; exact hz,hs,m,List.mem_cons_of_mem _ (List.mem_cons_of_mem _ hm),hm2,hm3⟩
theorem zfj.uses (hu : ∀ i j,i < A.length → j < A.length → (arcD A i).f = (arcD A j).f → (arcD A i).t = (arcD A j).t → i = j) {k : Int} {l : List Nat} {ks : List Int} (h : zfj A E sinks c k l ks) {m : Int} {n : Nat} (hn : n < A.length) (hm : arcD A n = ⟨2 + 2 * m,3 + 2 * m,c m - 1⟩) : (k :: ks).dropLast.count m ≤ l.count n:=by
 induction h with
 | last k i h1 h2 h3=>simp
 | more k y i j l ks h1 h2 h3 h4 h5 h6 ih =>
   rw [List.dropLast_cons_of_ne_nil (by simp),List.count_cons]
   have h7 : l.count n ≤ (j :: l).count n:=by rw [List.count_cons]; omega
   rw [List.count_cons]
   by_cases hk : k = m
   ·subst hk
    have : i = n:=hu i n h1 hn (by rw [h2,hm]) (by rw [h2,hm])
    subst this
    simp only [beq_self_eq_true,if_true]
    omega
   ·have hk' : (k == m) = false:=by simpa using hk
    rw [hk']
    simp only [Bool.false_eq_true,if_false]
    omega
theorem zfj.mids {k : Int} {l : List Nat} {ks : List Int} (h : zfj A E sinks c k l ks) {m : Int} (hm : m ∈ (k :: ks).dropLast) : ∃ n,n < A.length ∧ arcD A n = ⟨2 + 2 * m,3 + 2 * m,c m - 1⟩:=by
 induction h with
 | last k i h1 h2 h3=>simp at hm
 | more k y i j l ks h1 h2 h3 h4 h5 h6 ih =>
   rw [List.dropLast_cons_of_ne_nil (by simp)] at hm
   rcases List.mem_cons.1 hm with rfl | hm
   ·exact ⟨i,h1,h2⟩
   ·exact ih hm
theorem zfx.whole (h : zfx A E seeds sinks c) {l : List Nat} (hw : WayA A 0 l 1) : ∃ x i l' ks,l = i :: l' ∧ i < A.length ∧ x ∈ seeds ∧ 0 ≤ x ∧ arcD A i = ⟨0,2 + 2 * x,c x⟩ ∧ zfj A E sinks c x l' ks ∧ zca A l = x :: ks:=by
 cases l with
 | nil=>have : (0 : Int) = 1:=hw; omega
 | cons i l =>
   obtain ⟨h1,h2,h3⟩:=hw
   rcases h.kind i h1 with ⟨x,hs,hx,e⟩ | ⟨x,hx,e⟩ | ⟨x,hs,hx,e⟩ | ⟨x,y,hx,hy,_,e⟩
   ·rw [e] at h3
    obtain ⟨ks,hp⟩:=h.path l.length l x (Nat.le_refl _) hx h3
    refine ⟨x,i,l,ks,rfl,h1,hs,hx,e,hp,?_⟩
    have hk:=hp.keys
    unfold zca metA at hk ⊢
    rw [List.map_cons,List.filterMap_cons,e]
    simp only
    rw [ziI hx,hk]
   ·rw [e] at h2; simp only at h2; omega
   ·rw [e] at h2; simp only at h2; omega
   ·rw [e] at h2; simp only at h2; omega
theorem zlK {l : List Nat} (h : (metA A l).Nodup) : (zca A l).Nodup:=by
 unfold zca
 refine List.Pairwise.filterMap _ (fun a a' hne b hb b' hb'=>?_) h
 unfold keyT at hb hb'
 split at hb <;> split at hb' <;> simp at hb hb' <;> omega
def sumN (g : List Nat → Nat) (W : List (List Nat)) : Nat:=(W.map g).sum
theorem zg6 (g : List Nat → Nat) (w : List Nat) (W : List (List Nat)) : sumN g (w :: W) = g w + sumN g W:=by simp [sumN]
theorem zib {l : List Int} (h : ∀ x,l.count x ≤ 1) : l.Nodup:=by
 induction l with
 | nil=>exact List.nodup_nil
 | cons x l ih =>
   rw [List.nodup_cons]
   refine ⟨fun hm=>?_,ih fun y=>?_⟩
   ·have h1:=h x
    rw [List.count_cons_self] at h1
    have h2:=List.count_pos_iff.2 hm
    omega
   ·have h1:=h y
    rw [List.count_cons] at h1
    omega
theorem zoC {A : List Ed} {n : Nat} {k : Int} : ∀ {W : List (List Nat)},(∀ w ∈ W,(zca A w).head? = some k → 1 ≤ w.count n) → begC (W.map (zca A)) k ≤ sumN (List.count n) W
 | [],_=>by simp [begC,sumN]
 | w :: W,h=>by
   have ih:=zoC (n:=n) (k:=k) fun x hx=>h x (List.mem_cons_of_mem w hx)
   have h1:=h w (List.mem_cons_self ..)
   unfold begC at ih ⊢
   rw [List.map_cons,List.countP_cons,zg6]
   by_cases hk : (zca A w).head? = some k
   ·have:=h1 hk
    simp only [hk,decide_true,if_true]
    omega
   ·simp only [hk,decide_false,Bool.false_eq_true,if_false]
    omega
theorem zk5 {A : List Ed} {k : Int} : ∀ {W : List (List Nat)},begC (W.map (zca A)) k = 0 ∨ ∃ w ∈ W,(zca A w).head? = some k
 | []=>.inl rfl
 | w :: W=>by
   by_cases hk : (zca A w).head? = some k
   ·exact .inr ⟨w,List.mem_cons_self ..,hk⟩
   ·rcases zk5 (A:=A) (k:=k) (W:=W) with h | ⟨x,hx,hx2⟩
    ·left
     unfold begC at h ⊢
     rw [List.map_cons,List.countP_cons,h]
     simp [hk]
    ·exact .inr ⟨x,List.mem_cons_of_mem _ hx,hx2⟩
theorem zoL {A : List Ed} {n : Nat} {k : Int} : ∀ {W : List (List Nat)},(∀ w ∈ W,(zca A w).dropLast.count k ≤ w.count n) → useC (W.map (zca A)) k ≤ sumN (List.count n) W
 | [],_=>by simp [useC,sumN]
 | w :: W,h=>by
   have ih:=zoL (n:=n) (k:=k) fun x hx=>h x (List.mem_cons_of_mem w hx)
   have h1:=h w (List.mem_cons_self ..)
   unfold useC at ih ⊢
   rw [List.map_cons,List.flatMap_cons,List.count_append,zg6]
   omega
theorem zlb {A : List Ed} {k : Int} : ∀ {W : List (List Nat)},useC (W.map (zca A)) k = 0 ∨ ∃ w ∈ W,k ∈ (zca A w).dropLast
 | []=>.inl rfl
 | w :: W=>by
   by_cases hk : k ∈ (zca A w).dropLast
   ·exact .inr ⟨w,List.mem_cons_self ..,hk⟩
   ·rcases zlb (A:=A) (k:=k) (W:=W) with h | ⟨x,hx,hx2⟩
    ·left
     unfold useC at h ⊢
     rw [List.map_cons,List.flatMap_cons,List.count_append,h,List.count_eq_zero.2 hk]
    ·exact .inr ⟨x,List.mem_cons_of_mem _ hx,hx2⟩
theorem zmq {A : List Ed} {n : Nat} {k : Int} : ∀ {W : List (List Nat)},(∀ w ∈ W,(zca A w).getLast? = some k → 1 ≤ w.count n) → (zgm (W.map (zca A))).count k ≤ sumN (List.count n) W
 | [],_=>by simp [zgm,sumN]
 | w :: W,h=>by
   have ih:=zmq (n:=n) (k:=k) fun x hx=>h x (List.mem_cons_of_mem w hx)
   have h1:=h w (List.mem_cons_self ..)
   unfold zgm at ih ⊢
   rw [List.map_cons,List.filterMap_cons,zg6]
   cases hl : (zca A w).getLast? with
   | none=>simp only; omega
   | some z =>
     simp only [List.count_cons]
     by_cases hz : z = k
     ·subst hz
      have:=h1 hl
      simp only [beq_self_eq_true,if_true]
      omega
     ·have : (z == k) = false:=by simpa using hz
      rw [this]
      simp only [Bool.false_eq_true,if_false]
      omega
theorem znK {A : List Ed} {E : Int → Int → Prop} {seeds sinks : List Int} {cl : List Int} {f : List Int} {W : List (List Nat)}
  (hk : zfx A E seeds sinks fun x=>cl.getD x.toNat 0) (hf : Fit2 A f) (hw : ∀ w ∈ W,WayA A 0 w 1 ∧ (metA A w).Nodup) (hs : ∀ i,i < A.length → (sumN (List.count i) W : Int) ≤ f.getD i 0) (hc : ∀ x ∈ cl,0 ≤ x) :
  zjj cl (W.map (zca A)) ∧ (zgm (W.map (zca A))).Nodup ∧ (∀ k ∈ zgm (W.map (zca A)),k ∈ sinks) ∧
  ∀ p ∈ W.map (zca A),(∃ k,p.head? = some k ∧ k ∈ seeds) ∧ p.Nodup ∧ ∀ i (h : i + 1 < p.length),E p[i] p[i + 1]:=by
 have hfit:=(zi7.1 hf).2
 have hlast : ∀ w ∈ W,∃ z,(zca A w).getLast? = some z ∧ z ∈ sinks ∧ ∃ i ∈ w,i < A.length ∧ arcD A i = ⟨2 + 2 * z,1,1⟩:=fun w hwW=>by
  obtain ⟨x,i,l',ks,rfl,hi,hxs,hx0,he,hp,hkk⟩:=hk.whole (hw w hwW).1
  obtain ⟨z,hz,hzs,m,hm,hm2,hm3⟩:=hp.ends
  exact ⟨z,by rw [hkk]; exact hz,hzs,m,List.mem_cons_of_mem _ hm,hm2,hm3⟩
 refine ⟨fun k hkl=>⟨?_,?_⟩,zib fun z=>?_,fun z hz=>?_,fun p hp=>?_⟩
 ·have hck:=hc _ (List.getElem_mem hkl)
  have hcg : cl.getD k 0 = cl[k]:=by rw [List.getD_eq_getElem?_getD,List.getElem?_eq_getElem hkl,Option.getD_some]
  rcases zk5 (A:=A) (k:=(k : Int)) (W:=W) with h | ⟨w,hwW,hh⟩
  ·rw [h]; exact hck
  ·obtain ⟨x,i,l',ks,rfl,hi,hxs,hx0,he,hp,hkk⟩:=hk.whole (hw w hwW).1
   rw [hkk] at hh
   have hxk : x = k:=Option.some.inj hh
   subst hxk
   have h1:=zoC (A:=A) (n:=i) (k:=(k : Int)) (W:=W) fun v hvW hvk=>by
    obtain ⟨y,j,l2,ks2,rfl,hj,_,_,he2,_,hkk2⟩:=hk.whole (hw v hvW).1
    rw [hkk2] at hvk
    have hyk : y = k:=Option.some.inj hvk
    have : j = i:=hk.uniq j i hj hi (by rw [he2,he]) (by rw [he2,he,hyk])
    subst this
    rw [List.count_cons_self]
    omega
   have h2:=hs i hi
   have h3:=(hfit i hi).2
   rw [he] at h3
   simp only [Int.toNat_natCast] at h3
   rw [hcg] at h3
   omega
 ·have hck:=hc _ (List.getElem_mem hkl)
  have hcg : cl.getD k 0 = cl[k]:=by rw [List.getD_eq_getElem?_getD,List.getElem?_eq_getElem hkl,Option.getD_some]
  rcases zlb (A:=A) (k:=(k : Int)) (W:=W) with h | ⟨w,hwW,hh⟩
  ·rw [h]; omega
  ·obtain ⟨x,i,l',ks,rfl,hi,hxs,hx0,he,hp,hkk⟩:=hk.whole (hw w hwW).1
   rw [hkk] at hh
   obtain ⟨n,hn,hnA⟩:=hp.mids hh
   have h1:=zoL (A:=A) (n:=n) (k:=(k : Int)) (W:=W) fun v hvW=>by
    obtain ⟨y,j,l2,ks2,rfl,hj,_,_,he2,hp2,hkk2⟩:=hk.whole (hw v hvW).1
    rw [hkk2,List.count_cons]
    have:=hp2.uses hk.uniq hn hnA
    omega
   have h2:=hs n hn
   have h3:=(hfit n hn).2
   rw [hnA] at h3
   simp only [Int.toNat_natCast] at h3
   rw [hcg] at h3
   omega
 ·by_cases hz : z ∈ zgm (W.map (zca A))
  ·obtain ⟨p,hp,hpz⟩:=List.mem_filterMap.1 hz
   obtain ⟨w,hwW,rfl⟩:=List.mem_map.1 hp
   obtain ⟨y,hy,hys,i,hiw,hi,hiA⟩:=hlast w hwW
   rw [hpz] at hy
   have hzy : z = y:=Option.some.inj hy
   subst hzy
   have h1:=zmq (A:=A) (n:=i) (k:=z) (W:=W) fun v hvW hvz=>by
    obtain ⟨y,hy,_,j,hjv,hj,hjA⟩:=hlast v hvW
    rw [hvz] at hy
    have hzy : z = y:=Option.some.inj hy
    have : j = i:=hk.uniq j i hj hi (by rw [hjA,hiA,hzy]) (by rw [hjA,hiA])
    subst this
    exact List.count_pos_iff.2 hjv
   have h2:=hs i hi
   have h3:=(hfit i hi).2
   rw [hiA] at h3
   simp only at h3
   omega
  ·rw [List.count_eq_zero.2 hz]
   omega
 ·obtain ⟨p,hp,hpz⟩:=List.mem_filterMap.1 hz
  obtain ⟨w,hwW,rfl⟩:=List.mem_map.1 hp
  obtain ⟨y,hy,hys,_⟩:=hlast w hwW
  rw [hpz] at hy
  rw [Option.some.inj hy]
  exact hys
 ·obtain ⟨w,hwW,rfl⟩:=List.mem_map.1 hp
  refine ⟨?_,zlK (hw w hwW).2,?_⟩
  ·obtain ⟨x,i,l',ks,rfl,hi,hxs,hx0,he,hp,hkk⟩:=hk.whole (hw w hwW).1
   exact ⟨x,by rw [hkk]; rfl,hxs⟩
  ·obtain ⟨x,i,l',ks,rfl,hi,hxs,hx0,he,hp,hkk⟩:=hk.whole (hw w hwW).1
   have:=hp.edges
   intro n hn
   simp only [hkk] at hn ⊢
   exact this n hn
theorem znh (l : List Ed) (key : Int) : (outs l key).length = l.countP fun e=>decide (e.f = key):=by
 induction l with
 | nil=>rfl
 | cons e l ih =>
   unfold outs at *
   by_cases h : e.f = key <;> simp [List.filterMap_cons,List.countP_cons,h,ih]
theorem GrOk.fits {g : Gr} (h : GrOk g) : ∀ e ∈ g.edges,Fits g e:=by
 intro e he
 obtain ⟨i,hi,rfl⟩:=List.mem_iff_getElem.1 he
 exact (h.2 i hi).1
theorem EqG.rfl' (a : Gr) : EqG a a:=⟨rfl,rfl,rfl⟩
abbrev zeP (l : List Int) : List Int:=l.mergeSort fun x y=>decide (x ≤ y)
theorem zf4 (l : List Int) : (zeP l).length = l.length:=List.length_mergeSort ..
theorem znQ {l : List Int} {x : Int} : x ∈ zeP l ↔ x ∈ l:=List.mem_mergeSort
theorem GrOk.pair {g : Gr} (h : GrOk g) : g.edges.Pairwise Bef:=by
 rw [List.pairwise_iff_getElem]
 intro i j hi hj hij
 exact h.lt j i hi hj hij
theorem zfZ {st st' : St} {i j : Nat} {sn : List Nat} {e e' : Ent} (hsz : st'.sz = st.sz) (hh : st'.h = [(j,some e')]) (hj : j < st'.n) (hs : ∀ k ∈ sn,k ≠ i) (he : st.hp i = some e) (hee : zaA [(i,j)] sn st.hp 4 e = e') (hr : e'.ro ≤ e'.rows.length) (ht : ∀ p ∈ st'.t,Wk (conv [(i,j)] sn st.hp 4 (st.get p.1)) p.2) : Le 0 st st' :=
 Le.ents [(i,j)] sn hsz (by simp) (by simp) (by simpa using hj) (by simpa using hs) (Nat.zero_le _) ht (fun p hp=>by
  rw [hh] at hp
  simp at hp
  subst hp
  exact ⟨i,e,e',rfl,by simp,he,zaH.eq hee hr⟩)
theorem zjg (f : FuncId) (capt : List AV) (q : Int → Bool) (l : List Int) (hl : l.length ≤ 1099511627776) (hs : zkq capt) (hc : ∀ e ∈ l,zaj Try.prog f (AV.I e :: capt) [] (.B (q e)) []) : zaj Try.prog za5 [ints l,.fn (.func f) [] capt] [] (.I (idxQ l q)) []:=by
 have hs2 : ∀ ρ sn h,capt.map (conv ρ sn h 2) = capt:=fun _ _ _=>hs _ _ _ 1
 have hs3 : ∀ ρ sn h,capt.map (conv ρ sn h 3) = capt:=fun _ _ _=>hs _ _ _ 2
 have hs4 : ∀ ρ sn h,capt.map (conv ρ sn h 4) = capt:=fun _ _ _=>hs _ _ _ 3
 refine zc9.acalls (nbz rfl) (nbz rfl) (Nat.le_refl _) ?_
 show awp _ 0 _ _ ⟨19,[(0,ints l),(1,.fn (.func f) [] capt)],[],16⟩
 refine zaa ?_
 refine zac (s:=?s1) rfl ?o1 ?q1
 case o1=>simp; rfl
 refine zaa ?_
 refine zaa ?_
 refine zac (s:=?s2) rfl ?o2 ?q2
 case o2=>simp; rfl
 refine zaf ?_
 refine zap (ι:=Nat) (fun k=>⟨19,[(0,ints l),(1,.fn (.func f) [] capt),(7,.I l.length),(8,.I k)],[],16⟩) (fun k=>k ≤ l.length ∧ ∀ i,i < k → ∀ h : i < l.length,q l[i] = false) (fun k=>l.length - k) (0) ?_ (Le.snap [] rfl rfl (by simp [hs2,hs3,hs4])) ?_
 ·simp
 rintro k ⟨hk,hp⟩
 refine zaa ?_
 refine zac (s:=?s3) rfl ?o3 ?q3
 case o3=>simp; rfl
 refine zaa ?_
 refine zad _ rfl (fun h4=>?_) fun h4=>?_
 ·try simp at h4
  have hw2 : IntKind.i64.wrap ((k : Int) + 1) = (k : Int) + 1:=w64 (by omega) (by omega)
  have hck:=hc l[k] (List.getElem_mem h4)
  refine zae ?_
  refine zaa ?_
  refine zaf ?_
  refine zaa ?_
  refine zac (s:=?s5) rfl ?o5 ?q5
  case o5=>simp [h4,hw2]; rfl
  refine zaa ?_
  refine zac (s:=?s6) rfl ?o6 ?q6
  case o6 =>
   simp [h4,hw2]
   refine zan hck ?_ ?_
   ·simp [hs2,hs3,hs4]
   simp [h4,hw2]; rfl
  refine zad _ rfl (fun h7=>?_) fun h7=>?_
  ·try simp at h7
   refine zaa ?_
   refine zac (s:=?s8) rfl ?o8 ?q8
   case o8=>simp [h4,hw2]; rfl
   refine zag ?_
   exact ⟨.inr rfl,zao.one (by simp [zoc h4 hp h7])⟩
  try simp at h7
  refine zae ?_
  refine zac (s:=?s9) rfl ?o9 ?q9
  case o9=>simp [h4,hw2]; rfl
  refine ⟨k + 1,⟨h4,fun i hi=>?_⟩,by omega,Le.snap [] rfl rfl (by simp [h4,hw2,hs2,hs3,hs4])⟩
  rcases Nat.lt_succ_iff_lt_or_eq.1 hi with h | rfl
  ·exact hp i h
  ·exact fun _=>h7
 try simp at h4
 have hall : ∀ i,i < l.length → ∀ h : i < l.length,q l[i] = false:=fun i hi=>hp i (by omega)
 refine zal ?_
 refine hit ?_
 refine zaa ?_
 refine zac (s:=?s10) rfl ?o10 ?q10
 case o10=>simp; rfl
 refine zag ?_
 exact ⟨.inr rfl,zao.one (by simp [zoi hall])⟩
abbrev zai (l : List Int) : List (List AV):=l.map fun e=>[AV.I e]
theorem ze4 {l : List Int} {q : Int → Bool} (h : ∀ i,i < l.length → ∀ h : i < l.length,q l[i] = false) : l.filter (fun e=>!q e) = l:=by
 rw [List.filter_eq_self]
 intro x hx
 obtain ⟨i,hi,rfl⟩:=List.mem_iff_getElem.1 hx
 simp [h i hi hi]
theorem zdD (l : List Int) (q : Int → Bool) (j : Nat) (h : j < l.length) : (l.take (j + 1)).filter (fun e=>!q e) = (l.take j).filter (fun e=>!q e) ++ if q l[j] = true then [] else [l[j]]:=by
 rw [← List.take_concat_get h,List.concat_eq_append,List.filter_append]
 congr 1
 cases hq : q l[j] <;> simp [hq]
set_option maxRecDepth 100000 in
theorem zh9 (f : FuncId) (capt : List AV) (q : Int → Bool) (l : List Int) (n m : Nat) (hn : l.length = n) (hm : (l.filter fun e=>!q e).length = m) (hl : n ≤ 1099511627776) (hs : zkq capt) (hc : ∀ e ∈ l,zaj Try.prog f (AV.I e :: capt) [] (.B (q e)) []) :
  zaj Try.prog za1 [.rs 0 0 n,.fn (.func f) [] capt] [⟨1,zai l,0⟩] (.rs 0 0 m) [some ⟨1,zai (l.filter fun e=>!q e) ++ List.replicate (n - m) [.I 0],0⟩]:=by
 have hs2 : ∀ ρ sn h,capt.map (conv ρ sn h 2) = capt:=fun _ _ _=>hs _ _ _ 1
 have hs3 : ∀ ρ sn h,capt.map (conv ρ sn h 3) = capt:=fun _ _ _=>hs _ _ _ 2
 have hs4 : ∀ ρ sn h,capt.map (conv ρ sn h 4) = capt:=fun _ _ _=>hs _ _ _ 3
 refine zc7.acalls (nbz rfl) (nbz rfl) (nbz rfl) ?_
 show awp _ 1 _ _ ⟨42,[(0,.rs 0 0 n),(1,.fn (.func f) [] capt)],[(0,some ⟨1,zai l,0⟩)],16⟩
 have hmn : m ≤ n:=by rw [← hm,← hn]; exact List.length_filter_le _ _
 refine zab ⟨42,[(0,.rs 0 0 n),(1,.fn (.func f) [] capt)],[(0,some ⟨1,zai l,0⟩)],24⟩ rfl ?_ ?_
 ·simp
  exact Le.keep rfl (Nat.le_refl _) (by simp) (by simp)
 refine zab ⟨42,[(0,.rs 0 0 n),(1,.fn (.func f) [] capt),(5,.I (idxQ l q))],[(0,some ⟨1,zai l,0⟩)],56⟩ rfl ?_ ?_
 ·simp
  refine zmC [0] (zjg f capt q l (by omega) hs hc) ?_ (.sc _) ?_
  ·simp [hs2,hs3,hs4,← hn,fcd,zaD]
  simp
  exact Le.keep rfl (Nat.le_refl _) (by simp) (by simp)
 refine zaa ?_
 refine zab ⟨42,[(0,.rs 0 0 n),(1,.fn (.func f) [] capt),(5,.I (idxQ l q)),(12,.B (decide (idxQ l q = -1)))],[(0,some ⟨1,zai l,0⟩)],72⟩ rfl ?_ ?_
 ·simp
  exact Le.keep rfl (Nat.le_refl _) (by simp <;> rw [Bool.eq_iff_iff] <;> simp) (by simp)
 refine zad _ rfl (fun h=>?_) fun h=>zae ?_
 ·simp only [decide_eq_true_eq] at h
  have hno : ∀ i,i < l.length → ∀ h : i < l.length,q l[i] = false:=by
   intro i hi _
   unfold idxQ at h
   split at h
   ·omega
   ·rename_i hnl
    have : l.findIdx q = l.length:=by have:=List.findIdx_le_length (xs:=l) (p:=q); omega
    rw [List.findIdx_eq_length] at this
    exact this _ (List.getElem_mem hi)
  have hf:=ze4 hno
  rw [hf] at hm ⊢
  obtain rfl : n = m:=by omega
  refine zaa ?_
  refine zac (s:=?s1) rfl ?o1 ?q1
  case o1=>simp; rfl
  refine zag ?_
  refine ⟨.inr rfl,⟨[.rs 0 0 n],rfl,[],[],by simp [List.range,List.range.loop],by simp,by simp,?_,?_⟩⟩
  ·simp [List.range,List.range.loop]
  ·simp [List.range,List.range.loop,fcd]
 simp only [decide_eq_false_iff_not] at h
 obtain ⟨i0,hi0,hlt,hbef,hat⟩ : ∃ i0 : Nat,idxQ l q = i0 ∧ i0 < l.length ∧ (∀ i,i < i0 → ∀ h : i < l.length,q l[i] = false) ∧ ∀ h : i0 < l.length,q l[i0] = true:=by
  unfold idxQ at h ⊢
  split at h
  ·rename_i hlt
   refine ⟨l.findIdx q,by rw [if_pos hlt],hlt,fun i hi _=>?_,fun h=>List.findIdx_getElem (w:=h)⟩
   simpa using List.not_of_lt_findIdx hi
  ·omega
 rw [hi0]
 have hA0 : (l.take (i0 + 1)).filter (fun e=>!q e) = l.take i0:=by
  rw [zdD l q i0 hlt,if_pos (hat hlt),List.append_nil]
  refine ze4 fun i hi h=>?_
  rw [List.length_take] at hi
  simp only [List.getElem_take]
  exact hbef i (by omega) (by omega)
 have hw0 : IntKind.i64.wrap ((i0 : Int) + 1) = ((i0 + 1 : Nat) : Int):=by rw [w64 (by omega) (by omega)]; omega
 let C : Nat × List Int → St:=fun p=>⟨42,[(0,.rs 0 0 n),(1,.fn (.func f) [] capt),(5,.I ((l.take p.1).filter fun e=>!q e).length),(6,.I p.1)],[(0,some ⟨1,zai ((l.take p.1).filter (fun e=>!q e) ++ p.2 ++ l.drop p.1),0⟩)],96⟩
 refine zaa ?_
 refine zab (C (i0 + 1,[l[i0]])) rfl ?_ ?_
 ·simp [hw0]
  refine Le.keep rfl (Nat.le_refl _) ?_ ?_
  ·simp only [C,hA0]
   simp
   omega
  ·simp only [C,hA0]
   simp
 refine zaf ?_
 refine zap C (fun p : Nat × List Int=>p.1 ≤ n ∧ p.2 ≠ [] ∧ ((l.take p.1).filter fun e=>!q e).length + p.2.length = p.1) (fun p : Nat × List Int=>n - p.1) (i0 + 1,[l[i0]]) ?_ (Le.refl _ _) ?_
 ·simp only [hA0]
  simp
  omega
 rintro ⟨j,M⟩ ⟨hj,hM,hlen⟩
 simp only at hj hM hlen ⊢
 obtain ⟨A,hA⟩ : ∃ A,A = (l.take j).filter fun e=>!q e:=⟨_,rfl⟩
 rw [← hA] at hlen
 have hC : C (j,M) = ⟨42,[(0,.rs 0 0 n),(1,.fn (.func f) [] capt),(5,.I A.length),(6,.I j)],[(0,some ⟨1,zai (A ++ M ++ l.drop j),0⟩)],96⟩:=by subst hA; rfl
 rw [hC]
 refine zaa ?_
 refine zab ⟨42,[(0,.rs 0 0 n),(1,.fn (.func f) [] capt),(5,.I A.length),(6,.I j),(19,.B (decide (j < n)))],[(0,some ⟨1,zai (A ++ M ++ l.drop j),0⟩)],128⟩ rfl ?_ ?_
 ·simp
  exact Le.keep rfl (Nat.le_refl _) (by simp) (by simp)
 refine zad _ rfl (fun h=>zae ?_) fun h=>zal (hit ?_)
 ·simp only [decide_eq_true_eq] at h
  have hjl : j < l.length:=by omega
  match M,hM,hlen with
  | m0 :: M1,_,hlen =>
  simp only [List.length_cons] at hlen
  have hnext:=zdD l q j hjl
  rw [← hA] at hnext
  have hget : (zai (A ++ m0 :: M1 ++ l.drop j))[j]? = some [AV.I l[j]]:=by
   rw [List.getElem?_map,List.getElem?_append_right (by simp; omega),List.getElem?_drop,show j + (j - (A ++ m0 :: M1).length) = j by simp; omega,List.getElem?_eq_getElem hjl]
   rfl
  have hget2 : (zai (A ++ m0 :: M1 ++ l.drop j))[A.length]? = some [AV.I m0]:=by
   rw [List.getElem?_map,List.append_assoc,List.getElem?_append_right (by omega)]
   simp
  have hset : (zai (A ++ m0 :: M1 ++ l.drop j)).set A.length [AV.I l[j]] = zai ((A ++ [l[j]]) ++ (M1 ++ [l[j]]) ++ l.drop (j + 1)):=by
   have e1 : l.drop j = l[j] :: l.drop (j + 1):=List.drop_eq_getElem_cons hjl
   rw [e1]
   simp [zai,List.set_append]
  have hmore : A ++ m0 :: M1 ++ l.drop j = A ++ (m0 :: M1 ++ [l[j]]) ++ l.drop (j + 1):=by
   have e1 : l.drop j = l[j] :: l.drop (j + 1):=List.drop_eq_getElem_cons hjl
   rw [e1]
   simp
  generalize hrows : zai (A ++ m0 :: M1 ++ l.drop j) = R at *
  have hRl : R.length = n:=by rw [← hrows]; simp; omega
  have hck:=hc l[j] (List.getElem_mem hjl)
  generalize hv : l[j] = v at *
  refine zaw (ι:=List Int × List Int) (fun p=>⟨42,[(0,.rs 0 0 n),(1,.fn (.func f) [] capt),(5,.I p.1.length),(6,.I j)],[(0,some ⟨1,zai (p.1 ++ p.2 ++ l.drop (j + 1)),0⟩)],272⟩)
   (fun p=>p.1 = (l.take (j + 1)).filter (fun e=>!q e) ∧ p.2 ≠ [] ∧ p.1.length + p.2.length = j + 1) ?_ ?_
  ·refine zaf ?_
   refine zab ⟨42,[(0,.rs 0 0 n),(1,.fn (.func f) [] capt),(5,.I A.length),(6,.I j),(7,.I v)],[(0,some ⟨1,R,0⟩)],168⟩ rfl ?_ ?_
   ·simp [h,hget]
    exact Le.keep rfl (Nat.le_refl _) (by simp) (by simp)
   refine zab ⟨42,[(0,.rs 0 0 n),(1,.fn (.func f) [] capt),(5,.I A.length),(6,.I j),(7,.I v),(29,.B (!q v))],[(0,some ⟨1,R,0⟩)],200⟩ rfl ?_ ?_
   ·simp
    refine zan hck ?_ ?_
    ·simp [hs2,hs3,hs4]
    simp
    exact Le.keep rfl (Nat.le_refl _) (by simp) (by simp)
   refine zad _ rfl (fun h5=>?_) fun h5=>zae ?_
   ·simp only [Bool.not_eq_true'] at h5
    rw [h5] at hnext
    refine zab ⟨42,[(0,.rs 0 0 n),(1,.fn (.func f) [] capt),(5,.I A.length),(6,.I j)],[(0,some ⟨1,zai ((A ++ [v]) ++ (M1 ++ [v]) ++ l.drop (j + 1)),0⟩)],240⟩ rfl ?_ ?_
    ·simp [hget2,show A.length < n by omega,zbJ,hset]
     exact Le.keep rfl (Nat.le_refl _) (by simp) (by simp)
    have hwA : IntKind.i64.wrap ((A.length : Int) + 1) = ((A.length + 1 : Nat) : Int):=by rw [w64 (by omega) (by omega)]; omega
    refine zaC rfl ?_
    simp [hwA]
    refine ⟨A ++ [v],M1 ++ [v],⟨by rw [hnext]; simp,by simp,by simp; omega⟩,Le.keep rfl (nbz rfl) (by simp) (by simp)⟩
   ·simp only [Bool.not_eq_false'] at h5
    rw [h5] at hnext
    refine ⟨(A,m0 :: M1 ++ [v]),⟨by rw [hnext]; simp,by simp,by simp; omega⟩,Le.keep rfl (nbz rfl) (by simp) ?_⟩
    rw [← hmore,hrows]
    simp
  rintro ⟨A',M'⟩ ⟨p1,p2,p3⟩
  simp only at p1 p2 p3 ⊢
  have hwj : IntKind.i64.wrap ((j : Int) + 1) = ((j + 1 : Nat) : Int):=by rw [w64 (by omega) (by omega)]; omega
  refine zaC rfl ?_
  simp [hwj]
  refine ⟨j + 1,M',⟨by omega,p2,by rw [← p1]; omega⟩,by omega,?_⟩
  have hD : C (j + 1,M') = ⟨42,[(0,.rs 0 0 n),(1,.fn (.func f) [] capt),(5,.I A'.length),(6,.I ((j + 1 : Nat) : Int))],[(0,some ⟨1,zai (A' ++ M' ++ l.drop (j + 1)),0⟩)],96⟩:=by rw [p1]
  rw [hD]
  refine Le.ents [(0,0)] [] rfl (by simp) (by simp) (by simp) (by simp) (by simp) (by simp [hs2,hs3,hs4]) fun p hp=>?_
  simp at hp
  subst hp
  exact ⟨0,_,_,rfl,by simp,rfl,zaH.eq (by simp [fcd]) (by simp)⟩
 simp only [decide_eq_false_iff_not] at h
 obtain rfl : j = n:=by omega
 have hd : l.drop j = []:=List.drop_eq_nil_of_le (by omega)
 have ht : l.take j = l:=List.take_of_length_le (by omega)
 rw [ht] at hA
 rw [hd,List.append_nil]
 rw [← hA] at hm ⊢
 subst hm
 have hAM : (zai (A ++ M)).take A.length = zai A:=by simp [zai]
 have hAd : (zai (A ++ M)).drop (A.length + (j - A.length)) = []:=List.drop_eq_nil_of_le (by simp; omega)
 have hAl : (zai (A ++ M)).length = j:=by simp; omega
 generalize zai (A ++ M) = R at *
 refine zab ⟨42,[(0,.rs 0 0 j),(5,.I A.length)],[(0,some ⟨1,zai A ++ List.replicate (j - A.length) [.I 0],0⟩)],160⟩ rfl ?_ ?_
 ·simp
  refine ⟨by omega,by omega,?_⟩
  rw [hAM,hAd]
  exact Le.keep rfl (Nat.le_refl _) (by simp) (by simp)
 refine zaa ?_
 refine zac (s:=?s2) rfl ?o2 ?q2
 case o2 =>
  simp
  refine ⟨by omega,?_⟩
  rfl
 refine zag ?_
 refine ⟨.inr rfl,⟨[.rs 0 0 A.length],rfl,[],[],by simp [List.range,List.range.loop],by simp,by simp,?_,?_⟩⟩
 ·simp [List.range,List.range.loop]
 ·simp [List.range,List.range.loop,fcd]
def zaX (n : Nat) (q : Int → Bool) : List Int:=((List.range n).map fun (i : Nat)=>(i : Int)).filter q
theorem zhl (n : Nat) (q : Int → Bool) : zaX (n + 1) q = zaX n q ++ if q n = true then [(n : Int)] else []:=by
 unfold zaX
 rw [List.range_succ,List.map_append,List.filter_append]
 congr 1
 cases hq : q n <;> simp [hq]
theorem zeF (n : Nat) (q : Int → Bool) : (zaX n q).length ≤ n:=by
 unfold zaX
 have:=List.length_filter_le q ((List.range n).map fun (i : Nat)=>(i : Int))
 simpa using this
set_option maxRecDepth 100000 in
theorem zm3 (f : FuncId) (capt : List AV) (q : Int → Bool) (N : Int) (hN : N ≤ 1000000) (hs : zkq capt) (hc : ∀ k : Nat,(k : Int) < N → zaj Try.prog f (AV.I k :: capt) [] (.B (q k)) []) :
  zaj Try.prog zcD [.I N,.fn (.func f) [] capt] [] (.rs 0 0 (zaX N.toNat q).length) [some ⟨1,zai (zaX N.toNat q),0⟩]:=by
 have hs2 : ∀ ρ sn h,capt.map (conv ρ sn h 2) = capt:=fun _ _ _=>hs _ _ _ 1
 have hs3 : ∀ ρ sn h,capt.map (conv ρ sn h 3) = capt:=fun _ _ _=>hs _ _ _ 2
 have hs4 : ∀ ρ sn h,capt.map (conv ρ sn h 4) = capt:=fun _ _ _=>hs _ _ _ 3
 refine zkt.acalls (nbz rfl) (nbz rfl) (Nat.zero_le _) ?_
 show awp _ 0 _ _ ⟨20,[(0,.I N),(1,.fn (.func f) [] capt)],[],16⟩
 refine zaa ?_
 refine zac (s:=?s0) rfl ?o0 ?q0
 case o0=>simp; rfl
 refine zaa ?_
 refine zac (s:=?s1) rfl ?o1 ?q1
 case o1=>simp; rfl
 refine zaa ?_
 refine zaa ?_
 refine zac (s:=?s2) rfl ?o2 ?q2
 case o2=>simp; rfl
 refine zaf ?_
 let C : Nat → St:=fun k=>⟨20,[(1,.fn (.func f) [] capt),(5,.rs 16 0 (zaX k q).length),(7,.I N),(8,.I k)],[(16,some ⟨1,zai (zaX k q),0⟩)],24⟩
 refine zap C (fun k=>k ≤ N.toNat) (fun k=>N.toNat - k) 0 (Nat.zero_le _) (Le.lst [] [] [(16,1)] rfl (by simp) (by simp) (by simp) (by simp [C]) (by simp) (by simp) (by simp) (by simp [C,Up,zaX,hs2,hs3,hs4]) (by simp [C,zaX])) ?_
 intro k hk
 have hwl:=zeF k q
 have hCk : C k = ⟨20,[(1,.fn (.func f) [] capt),(5,.rs 16 0 (zaX k q).length),(7,.I N),(8,.I k)],[(16,some ⟨1,zai (zaX k q),0⟩)],24⟩:=rfl
 rw [hCk]
 refine zab ⟨20,[(1,.fn (.func f) [] capt),(5,.rs 16 0 (zaX k q).length),(7,.I N),(8,.I k),(9,.B (decide ((k : Int) < N)))],[(16,some ⟨1,zai (zaX k q),0⟩)],32⟩ rfl ?_ ?_
 ·simp
  exact Le.keep rfl (Nat.le_refl _) (by simp) (by simp)
 refine zaa ?_
 refine zad _ rfl (fun h=>zae ?_) fun h=>zal (hit ?_)
 ·simp only [decide_eq_true_eq] at h
  have hck:=hc k h
  have hnext:=zhl k q
  have hw2 : IntKind.i64.wrap ((k : Int) + 1) = ((k + 1 : Nat) : Int):=by rw [w64 (by omega) (by omega)]; omega
  refine zaw (ι:=Unit) (fun _=>⟨20,[(1,.fn (.func f) [] capt),(5,.rs 16 0 (zaX (k + 1) q).length),(7,.I N),(8,.I k)],[(16,some ⟨1,zai (zaX (k + 1) q),0⟩)],24⟩) (fun _=>True) ?_ fun _ _=>?_
  ·rw [hnext]
   generalize zaX k q = W at *
   refine zaf ?_
   refine zaa ?_
   refine zac (s:=?s3) rfl ?o3 ?q3
   case o3=>simp; rfl
   refine zab ⟨20,[(1,.fn (.func f) [] capt),(5,.rs 16 0 W.length),(6,.I k),(7,.I N),(8,.I k),(13,.B (q k))],[(16,some ⟨1,zai W,0⟩)],72⟩ rfl ?_ ?_
   ·simp
    refine zan hck ?_ ?_
    ·simp [hs2,hs3,hs4]
    simp
    exact Le.keep rfl (Nat.le_refl _) (by simp) (by simp)
   refine zad _ rfl (fun h5=>?_) fun h5=>zae ?_
   ·rw [if_pos h5]
    refine zaC rfl ?_
    simp [List.replicate]
    refine ⟨by omega,by omega,zfZ (i:=96) (sn:=[]) rfl rfl (by simp) (by simp) rfl (by simp [fcd,zaD]) (by simp) (by simp [hs2,hs3,hs4])⟩
   ·rw [if_neg (by simp [h5]),List.append_nil]
    exact ⟨(),trivial,zfZ (i:=16) (sn:=[]) rfl rfl (by simp) (by simp) rfl (by simp [fcd]) (by simp) (by simp [hs2,hs3,hs4])⟩
  refine zaC rfl ?_
  simp [hw2]
  exact ⟨k + 1,by omega,by omega,zfZ (i:=16) (sn:=[]) rfl rfl (by simp [C]) (by simp) rfl (by simp [fcd]) (by simp) (by simp [C,hs2,hs3,hs4])⟩
 simp only [decide_eq_false_iff_not] at h
 obtain rfl : k = N.toNat:=by omega
 generalize zaX N.toNat q = W at *
 refine zaa ?_
 refine zac (s:=?s9) rfl ?o9 ?q9
 case o9=>simp; rfl
 refine zag ?_
 exact ⟨.inr rfl,zao.out [16] [] rfl (by simp) (by simp) (by simp) (by simp [fcd])⟩
theorem wu64 {x : Int} (h1 : 0 ≤ x) (h2 : x < 18446744073709551616) : IntKind.u64.wrap x = x:=by rw [IntKind.wrap_u64]; omega
theorem zry (n : Nat) (h : n < 4294967296) : binV .and (.int .u64 (n : Int)) (.int .u64 4294967295) = some (.int .u64 (n : Int)):=by
 have e : (BitVec.ofInt 64 (n : Int) &&& BitVec.ofInt 64 4294967295).toNat = n:=by
  have h1 : (BitVec.ofInt 64 (n : Int)).toNat = n:=by
   rw [BitVec.toNat_ofInt]
   omega
  have h2 : (BitVec.ofInt 64 (4294967295 : Int)).toNat = 2 ^ 32 - 1:=rfl
  rw [BitVec.toNat_and,h1,h2,Nat.and_two_pow_sub_one_eq_mod]
  omega
 show some (Value.int .u64 (IntKind.u64.wrap ((BitVec.ofInt 64 (n : Int) &&& BitVec.ofInt 64 4294967295).toNat : Int))) = _
 rw [e,wu64 (by omega) (by omega)]
theorem zr1 (n : Nat) (h : n < 4294967296) : binV .shr (.int .u64 (n : Int)) (.int .u64 32) = some (.int .u64 0):=by
 show (if (0 : Int) ≤ 32 then some (Value.int .u64 ((n : Int).fdiv (2 ^ (min (32 : Int).toNat 64)))) else none) = _
 rw [if_pos (by omega)]
 congr 2
 have : (2 : Int) ^ (min (32 : Int).toNat 64) = 4294967296:=rfl
 rw [this,Int.fdiv_eq_ediv_of_nonneg _ (by omega)]
 omega
abbrev U (n : Int) : AV:=.sc (.int .u64 n)
theorem zqv (n : Nat) (h : n < 4294967296) : zaj Try.prog zbs [U 1,U n] [] (.tup [U 0,U n]) []:=by
 refine zeb.acalls (nbz rfl) (nbz rfl) (Nat.le_refl _) ?_
 show awp _ 0 _ _ ⟨51,[(0,U 1),(1,U n)],[],16⟩
 have a1 : binV .and (.int .u64 1) (.int .u64 4294967295) = some (.int .u64 1):=zry 1 (by omega)
 have a0 : binV .and (.int .u64 0) (.int .u64 4294967295) = some (.int .u64 0):=zry 0 (by omega)
 have an:=zry n h
 have s1 : binV .shr (.int .u64 1) (.int .u64 32) = some (.int .u64 0):=zr1 1 (by omega)
 have s0 : binV .shr (.int .u64 0) (.int .u64 32) = some (.int .u64 0):=zr1 0 (by omega)
 have sn:=zr1 n h
 have m1 : ∀ a : Int,binV .mul (.int .u64 0) (.int .u64 a) = some (.int .u64 0):=fun a=>by
  show some (Value.int .u64 (IntKind.u64.wrap (0 * a))) = _
  rw [Int.zero_mul]
  rfl
 have m2 : binV .mul (.int .u64 1) (.int .u64 (n : Int)) = some (.int .u64 (n : Int)):=by
  show some (Value.int .u64 (IntKind.u64.wrap (1 * (n : Int)))) = _
  rw [Int.one_mul,wu64 (by omega) (by omega)]
 have m3 : binV .mul (.int .u64 1) (.int .u64 0) = some (.int .u64 0):=rfl
 have d0 : binV .add (.int .u64 0) (.int .u64 0) = some (.int .u64 0):=rfl
 refine zaa ?_
 refine zac (s:=?z1) rfl ?p1 ?r1
 case p1=>simp; rfl
 refine zaa ?_
 refine zac (s:=?z2) rfl ?p2 ?r2
 case p2=>simp [-binV,a1]; rfl
 refine zaa ?_
 refine zac (s:=?z3) rfl ?p3 ?r3
 case p3=>simp [-binV,s1]; rfl
 refine zaa ?_
 refine zac (s:=?z4) rfl ?p4 ?r4
 case p4=>simp [-binV,an]; rfl
 refine zaa ?_
 refine zac (s:=?z5) rfl ?p5 ?r5
 case p5=>simp [-binV,sn]; rfl
 refine zaa ?_
 refine zac (s:=?z6) rfl ?p6 ?r6
 case p6=>simp [-binV,m2]; rfl
 refine zaa ?_
 refine zac (s:=?z7) rfl ?p7 ?r7
 case p7=>simp [-binV,m1,sn,d0]; rfl
 refine zaa ?_
 refine zac (s:=?z8) rfl ?p8 ?r8
 case p8=>simp [-binV,a0]; rfl
 refine zaa ?_
 refine zac (s:=?z9) rfl ?p9 ?r9
 case p9=>simp [-binV,s0]; rfl
 refine zaa ?_
 refine zac (s:=?z10) rfl ?p10 ?r10
 case p10=>simp [-binV,m3,d0]; rfl
 refine zaa ?_
 refine zac (s:=?z11) rfl ?p11 ?r11
 case p11=>simp [-binV,m1,d0,s0]; rfl
 refine zaa ?_
 refine zac (s:=?z12) rfl ?p12 ?r12
 case p12=>simp [-binV,m2]; rfl
 refine zag ?_
 exact ⟨.inr rfl,zao.out [] [] rfl (by simp) (by simp) (by simp) (by simp)⟩
theorem zsT (n : Nat) (h : n < 4294967296) : zaj Try.prog zdr [U 1,U n] [] (.tup [U 0,U n]) []:=by
 refine zit.acalls (nbz rfl) (nbz rfl) (Nat.le_refl _) ?_
 show awp _ 0 _ _ ⟨30,[(0,U 1),(1,U n)],[],16⟩
 refine zaa ?_
 refine zac (s:=?z1) rfl ?p1 ?r1
 case p1=>simp; rfl
 refine zaa ?_
 refine zad _ rfl (fun h=>by cases h) fun _=>zae ?_
 refine zaa ?_
 refine zac (s:=?z2) rfl ?p2 ?r2
 case p2=>simp; refine zan (zqv n h) rfl ?_; simp; rfl
 refine zaa ?_
 refine zac (s:=?z3) rfl ?p3 ?r3
 case p3=>simp; rfl
 refine zag ?_
 exact ⟨.inr rfl,zao.out [] [] rfl (by simp) (by simp) (by simp) (by simp)⟩
set_option maxRecDepth 100000 in
theorem zpM (v : Int) (n : Nat) (hn : n ≤ 1000000) : zaj Try.prog zbl [ints [v],.I n] [] (.rs 0 0 n) [some ⟨1,List.replicate n [AV.I v],0⟩]:=by
 refine zd4.acalls (nbz rfl) (nbz rfl) (Nat.zero_le _) ?_
 show awp _ 0 _ _ ⟨48,[(0,ints [v]),(1,.I n)],[],16⟩
 have hu1 : IntKind.u64.wrap 1 = 1:=rfl
 have hun : IntKind.u64.wrap (n : Int) = n:=wu64 (by omega) (by omega)
 have hin : IntKind.i64.wrap (n : Int) = n:=w64 (by omega) (by omega)
 refine zaa ?_
 refine zac (s:=?z1) rfl ?p1 ?r1
 case p1=>simp; rfl
 refine zaa ?_
 refine zab ⟨48,[(0,ints [v]),(1,.I n),(10,.B false)],[],40⟩ rfl ?_ ?_
 ·simp
  exact Le.keep rfl (Nat.le_refl _) (by simp) (by simp)
 refine zad _ rfl (fun h=>by cases h) fun _=>zae ?_
 refine zab ⟨48,[(0,ints [v]),(1,.I n),(5,U 0),(6,U n)],[],128⟩ rfl ?_ ?_
 ·simp [hu1,hun]
  refine zan (zsT n (by omega)) rfl ?_
  simp
  exact Le.keep rfl (Nat.le_refl _) (by simp) (by simp)
 refine zaa ?_
 refine zab ⟨48,[(0,ints [v]),(1,.I n),(5,U 0),(6,U n),(26,.B false)],[],176⟩ rfl ?_ ?_
 ·simp
  exact Le.keep rfl (Nat.le_refl _) (by simp; omega) (by simp)
 refine zad _ rfl (fun h=>by cases h) fun _=>zae ?_
 refine zab ⟨48,[(0,ints [v]),(7,.rs 192 0 n)],[(192,some ⟨1,List.replicate n [.I 0],0⟩)],208⟩ rfl ?_ ?_
 ·simp [hin]
  exact ⟨by omega,by omega,Le.keep rfl (Nat.le_refl _) (by simp) (by simp)⟩
 let R : Nat → List (List AV):=fun m=>List.replicate m [AV.I v] ++ List.replicate (n - m) [AV.I 0]
 have hRl : ∀ m,m ≤ n → (R m).length = n:=fun m hm=>by simp [R]; omega
 refine zab ⟨48,[(7,.rs 192 0 n),(8,.I (min 1 n : Nat))],[(192,some ⟨1,R (min 1 n),0⟩)],240⟩ rfl ?_ ?_
 ·simp
  refine Le.keep rfl (Nat.le_refl _) (by simp) ?_
  cases n with
  | zero=>simp [R]
  | succ n=>simp [R,List.replicate]
 refine zaa ?_
 refine zaf ?_
 refine zap (ι:=Nat) (fun m=>⟨48,[(7,.rs 192 0 n),(8,.I m)],[(192,some ⟨1,R m,0⟩)],240⟩) (fun m=>m ≤ n ∧ (m = 0 → n = 0)) (fun m=>n - m) (min 1 n) ⟨by omega,by omega⟩ (Le.refl _ _) ?_
 rintro m ⟨hm,hm0⟩
 refine zaa ?_
 refine zab ⟨48,[(7,.rs 192 0 n),(8,.I m),(37,.B (decide (m < n)))],[(192,some ⟨1,R m,0⟩)],272⟩ rfl ?_ ?_
 ·simp
  exact Le.keep rfl (Nat.le_refl _) (by simp) (by simp)
 refine zad _ rfl (fun h=>zae ?_) fun h=>zal (hit ?_)
 ·simp only [decide_eq_true_eq] at h
  obtain ⟨k,hk⟩ : ∃ k,k = min m (n - m):=⟨_,rfl⟩
  have hw : IntKind.i64.wrap ((m : Int) + (k : Int)) = ((m + k : Nat) : Int):=by rw [w64 (by omega) (by omega)]; omega
  have ht : (R m).take m = List.replicate m [AV.I v]:=by simp [R]
  have hd : (R m).drop (m + k) = List.replicate (n - (m + k)) [AV.I 0]:=by
   simp only [R]
   rw [List.drop_append,List.drop_eq_nil_of_le (by simp),List.nil_append,List.drop_replicate]
   simp
   omega
  have hl:=hRl m hm
  have hnew : List.replicate m [AV.I v] ++ (List.replicate k [AV.I v] ++ List.replicate (n - (m + k)) [AV.I 0]) = R (m + k):=by
   simp only [R]
   rw [← List.append_assoc,List.replicate_append_replicate]
  refine zaf ?_
  refine zc3 rfl ?_
  generalize R m = X at *
  simp [hl,ht]
  refine ⟨by omega,by omega,_,⟨by omega,rfl⟩,rfl,m + k,⟨by omega,by omega⟩,by omega,?_⟩
  have e1 : min (List.replicate m (([AV.I v] : List AV))).length (n - m) = k:=by simp [hk]
  rw [e1,hw,hd,List.take_replicate,show min k m = k by omega,hnew]
  exact zfZ (i:=192) (sn:=[]) rfl rfl (by simp) (by simp) rfl (by simp [R]) (by simp) (by simp)
 obtain rfl : m = n:=by simp at h; omega
 refine zaa ?_
 refine zac (s:=?z9) rfl ?p9 ?r9
 case p9=>simp; rfl
 refine zag ?_
 exact ⟨.inr rfl,zao.out [192] [] rfl (by simp) (by simp) (by simp) (by simp [R])⟩
def zbS (g : Gr) (S : List Int) (k : Int) : Bool:=S.contains k && !g.gone.contains k
def dl (g : Gr) (S : List Int) : Nat → Int → Int
 | 0,k=>if zbS g S k = true then 0 else -1
 | n + 1,k=>if 0 ≤ dl g S n k then dl g S n k else if g.edges.any (fun e=>decide (e.t = k) && decide (dl g S n e.f = n)) = true then (n : Int) + 1 else -1
def Key (g : Gr) (k : Int) : Prop:=0 ≤ k ∧ k < g.size
variable {g : Gr} {S : List Int}
theorem zba (n : Nat) (k : Int) : -1 ≤ dl g S n k ∧ dl g S n k ≤ n:=by
 induction n with
 | zero=>unfold dl; split <;> omega
 | succ n ih=>unfold dl; split <;> (try split) <;> omega
theorem zd1 {n : Nat} {k : Int} (h : 0 ≤ dl g S n k) : dl g S (n + 1) k = dl g S n k:=by
 rw [dl,if_pos h]
theorem zme {n m : Nat} {k : Int} (hnm : n ≤ m) (h : 0 ≤ dl g S n k) : dl g S m k = dl g S n k:=by
 induction m with
 | zero=>obtain rfl : n = 0:=by omega
         rfl
 | succ m ih =>
   rcases Nat.lt_or_ge n (m + 1) with h1 | h1
   ·have:=ih (by omega)
    rw [zd1 (by omega),this]
   ·obtain rfl : n = m + 1:=by omega
    rfl
theorem ziT {n : Nat} {k : Int} (h : 0 ≤ dl g S (n + 1) k) (h2 : ¬ 0 ≤ dl g S n k) : dl g S (n + 1) k = n + 1 ∧ ∃ e ∈ g.edges,e.t = k ∧ dl g S n e.f = n:=by
 rw [dl,if_neg h2] at h ⊢
 split at h
 ·rename_i ha
  rw [if_pos ha]
  rw [List.any_eq_true] at ha
  obtain ⟨e,he,ha⟩:=ha
  simp at ha
  exact ⟨rfl,e,he,ha.1,ha.2⟩
 ·omega
theorem zrD {n : Nat} {k : Int} (h : 0 ≤ dl g S n k) : dl g S (dl g S n k).toNat k = dl g S n k:=by
 induction n with
 | zero =>
   have:=zba (g:=g) (S:=S) 0 k
   have e : dl g S 0 k = 0:=by omega
   rw [e]; exact e
 | succ n ih =>
   by_cases h2 : 0 ≤ dl g S n k
   ·rw [zd1 h2]; exact ih h2
   ·obtain ⟨e,_⟩:=ziT h h2
    rw [e]
    have : ((n : Int) + 1).toNat = n + 1:=by omega
    rw [this]; exact e
theorem zpO {n : Nat} {e : Ed} (he : e ∈ g.edges) (h : 0 ≤ dl g S n e.f) : 0 ≤ dl g S (n + 1) e.t ∧ dl g S (n + 1) e.t ≤ dl g S n e.f + 1:=by
 have hat:=zrD h
 have hr:=zba (g:=g) (S:=S) n e.f
 obtain ⟨m,hm⟩ : ∃ m : Nat,dl g S n e.f = m:=⟨(dl g S n e.f).toNat,by omega⟩
 rw [hm] at hat hr ⊢
 simp at hat
 have key : 0 ≤ dl g S (m + 1) e.t ∧ dl g S (m + 1) e.t ≤ m + 1:=by
  have hr2:=zba (g:=g) (S:=S) (m + 1) e.t
  refine ⟨?_,by omega⟩
  rw [dl]
  split
  ·assumption
  ·rw [if_pos]
   ·omega
   ·rw [List.any_eq_true]
    exact ⟨e,he,by simp [hat]⟩
 have:=zme (g:=g) (S:=S) (n:=m + 1) (m:=n + 1) (by omega) key.1
 rw [this]
 exact key
theorem zl5 (h : GrOk g) {n : Nat} (hn : ∀ k,Key g k → dl g S n k ≠ n) : ∀ (m : Nat),n ≤ m → ∀ k,Key g k → dl g S m k = dl g S n k ∧ dl g S m k ≠ m:=by
 intro m
 induction m with
 | zero =>
   intro hm k hk
   obtain rfl : n = 0:=by omega
   exact ⟨rfl,hn k hk⟩
 | succ m ih =>
   intro hm k hk
   rcases Nat.lt_or_ge n (m + 1) with h1 | h1
   ·have ihm:=ih (by omega)
    have e : dl g S (m + 1) k = dl g S m k:=by
     by_cases h2 : 0 ≤ dl g S m k
     ·exact zd1 h2
     ·have hr:=zba (g:=g) (S:=S) m k
      by_cases h3 : 0 ≤ dl g S (m + 1) k
      ·obtain ⟨_,e,he,_,h5⟩:=ziT h3 h2
       have hf:=h.fits e he
       exact absurd h5 (ihm e.f ⟨hf.1,by have:=hf.2.1; omega⟩).2
      ·have hr2:=zba (g:=g) (S:=S) (m + 1) k
       omega
    have hr:=zba (g:=g) (S:=S) m k
    rw [e,(ihm k hk).1]
    refine ⟨rfl,?_⟩
    rw [(ihm k hk).1] at hr
    omega
   ·obtain rfl : n = m + 1:=by omega
    exact ⟨rfl,hn k hk⟩
def reach (g : Gr) (S : List Int) (n : Nat) : Nat:=(List.range g.size.toNat).countP fun (i : Nat)=>decide (0 ≤ dl g S n (i : Int))
theorem zlk {α : Type} {p q : α → Bool} : ∀ {l : List α},(∀ x ∈ l,p x = true → q x = true) → (∃ x ∈ l,q x = true ∧ p x = false) → l.countP p < l.countP q
 | [],_,h=>by obtain ⟨_,h,_⟩:=h; simp at h
 | a :: l,h1,h2=>by
   have hle : l.countP p ≤ l.countP q:=List.countP_mono_left fun x hx=>h1 x (List.mem_cons_of_mem _ hx)
   simp only [List.countP_cons]
   obtain ⟨x,hx,hq,hp⟩:=h2
   rcases List.mem_cons.1 hx with rfl | hx
   ·rw [hq,hp]
    simp
    omega
   ·have ih:=zlk (fun x hx=>h1 x (List.mem_cons_of_mem _ hx)) ⟨x,hx,hq,hp⟩
    have ha:=h1 a List.mem_cons_self
    cases hpa : p a <;> cases hqa : q a <;> simp_all <;> omega
theorem zlB {n : Nat} {k : Int} (hk : Key g k) (h : dl g S (n + 1) k = n + 1) : reach g S n < reach g S (n + 1):=by
 refine zlk (fun i _ hi=>?_) ⟨k.toNat,by simp; have:=hk.1; have:=hk.2; omega,?_,?_⟩
 ·simp at hi ⊢
  rw [zd1 hi]; exact hi
 ·have e : ((k.toNat : Nat) : Int) = k:=by have:=hk.1; omega
  simp [e,h]
  omega
 ·have e : ((k.toNat : Nat) : Int) = k:=by have:=hk.1; omega
  simp only [e,decide_eq_false_iff_not]
  intro h2
  rw [zd1 h2] at h
  have:=zba (g:=g) (S:=S) n k
  omega
theorem zrQ (h : GrOk g) {n : Nat} {k : Int} (hd : dl g S (n + 1) k = n + 1) : ∃ k',Key g k' ∧ dl g S n k' = n:=by
 have h2 : ¬ 0 ≤ dl g S n k:=by
  intro h2
  rw [zd1 h2] at hd
  have:=zba (g:=g) (S:=S) n k
  omega
 obtain ⟨_,e,he,_,h5⟩:=ziT (by omega) h2
 have hf:=h.fits e he
 exact ⟨e.f,⟨hf.1,by have:=hf.2.1; omega⟩,h5⟩
theorem zmG (h : GrOk g) : ∀ {n : Nat} {k : Int},Key g k → dl g S n k = n → n + 1 ≤ reach g S n
 | 0,k,hk,hd=>by
   have : 0 < reach g S 0:=List.countP_pos_iff.2 ⟨k.toNat,by simp; have:=hk.1; have:=hk.2; omega,by
    have e : ((k.toNat : Nat) : Int) = k:=by have:=hk.1; omega
    simp [e]
    omega⟩
   omega
 | n + 1,k,hk,hd=>by
   have hd' : dl g S (n + 1) k = (n : Int) + 1:=by simpa using hd
   obtain ⟨k',hk',h'⟩:=zrQ h hd'
   have:=zmG h hk' h'
   have:=zlB hk hd'
   omega
theorem zqi (n : Nat) : reach g S n ≤ g.size.toNat:=by
 have:=List.countP_le_length (p:=fun (i : Nat)=>decide (0 ≤ dl g S n (i : Int))) (l:=List.range g.size.toNat)
 simpa [reach] using this
theorem zmv (h : GrOk g) {n : Nat} {k : Int} (hk : Key g k) (hd : dl g S n k = n) : (n : Int) < g.size:=by
 have h1:=zmG h hk hd
 have h2:=zqi (g:=g) (S:=S) n
 omega
def dist (g : Gr) (S : List Int) (k : Int) : Int:=dl g S g.size.toNat k
theorem zld (h : GrOk g) {n : Nat} (hn : ∀ k,Key g k → dl g S n k ≠ n) (k : Int) (hk : Key g k) : dl g S n k = dist g S k:=by
 unfold dist
 rcases Nat.le_total n g.size.toNat with h1 | h1
 ·exact ((zl5 h hn _ h1 k hk).1).symm
 ·have hN : ∀ k,Key g k → dl g S g.size.toNat k ≠ g.size.toNat:=by
   intro k hk hd
   have:=zmv h hk hd
   omega
  exact (zl5 h hN _ h1 k hk).1
theorem ziS (k : Int) : -1 ≤ dist g S k ∧ dist g S k ≤ g.size.toNat:=zba _ _
theorem zog (h : GrOk g) {k : Int} (hk : Key g k) : dist g S k < g.size ∨ g.size ≤ 0:=by
 have h1:=ziS (g:=g) (S:=S) k
 by_cases h2 : dist g S k = g.size.toNat
 ·have:=zmv h hk h2
  omega
 ·have:=hk.1; have:=hk.2; omega
theorem zc2 (h : GrOk g) {k : Int} : dist g S k = 0 ↔ zbS g S k = true:=by
 unfold dist
 constructor
 ·intro hd
  have:=zrD (g:=g) (S:=S) (n:=g.size.toNat) (k:=k) (by omega)
  rw [hd] at this
  simp at this
  rw [dl] at this
  split at this
  ·assumption
  ·omega
 ·intro hs
  have h0 : dl g S 0 k = 0:=by rw [dl,if_pos hs]
  rw [zme (Nat.zero_le _) (by omega),h0]
theorem zfL (h : GrOk g) {e : Ed} (he : e ∈ g.edges) (hf : 0 ≤ dist g S e.f) : 0 ≤ dist g S e.t ∧ dist g S e.t ≤ dist g S e.f + 1:=by
 have hfit:=h.fits e he
 have h1:=zpO (S:=S) he hf
 have hN : ∀ k,Key g k → dl g S g.size.toNat k ≠ g.size.toNat:=by
  intro k hk hd
  have:=zmv h hk hd
  omega
 have h2:=(zl5 h hN (g.size.toNat + 1) (by omega) e.t ⟨hfit.2.2.1,by have:=hfit.2.2.2.1; omega⟩).1
 rw [h2] at h1
 exact h1
theorem zhG (h : GrOk g) {k : Int} {n : Nat} (hd : dist g S k = (n : Int) + 1) : ∃ e ∈ g.edges,e.t = k ∧ dist g S e.f = n:=by
 have hat:=zrD (g:=g) (S:=S) (n:=g.size.toNat) (k:=k) (by show 0 ≤ dist g S k; omega)
 have hd' : dl g S g.size.toNat k = (n : Int) + 1:=hd
 rw [hd'] at hat
 have e1 : ((n : Int) + 1).toNat = n + 1:=by omega
 rw [e1] at hat
 have h2 : ¬ 0 ≤ dl g S n k:=by
  intro h2
  rw [zd1 h2] at hat
  have:=zba (g:=g) (S:=S) n k
  omega
 obtain ⟨_,e,he,h4,h5⟩:=ziT (by omega) h2
 refine ⟨e,he,h4,?_⟩
 have hr:=ziS (g:=g) (S:=S) k
 have : dist g S e.f = dl g S n e.f:=zme (by omega) (by omega)
 omega
section
variable {P : Program} {np id : Nat} {h : Nat → Option Ent} {K : AV → List Nat → List (Nat × Option Ent) → Prop} {f : FuncId} {first capt args args' : List AV} {res : AV}
theorem zsb {i : Nat} (sn : List Nat) {e e' : Ent} {hs' : List (Option Ent)} (hij : ∀ j ∈ sn,j ≠ i) (hi : h i = some e) (hee : zaA [(i,0)] sn h 4 e = e') (hc : zaj P f args' [e'] res hs') (h8 : hs'.length ≤ 9) (he : (first ++ args ++ capt).map (conv [(i,0)] sn h 4) = args')
  (hp : Plain res) (hpe : ∀ e,some e ∈ hs' → ziQ e)
  (hk : K (conv (swp [i] id) [] (fun _=>none) 4 res) (i :: sn) ((hs'.zipIdx.map fun (e,k)=>((i :: (List.range 8).map (id + ·)).getD k 0,e.map (zaA (swp [i] id) [] (fun _=>none) 4))) ++ [])) : aK P np id .call (.fn (.func f) first capt :: args) h K :=
 ⟨[i],sn,false,args',[e'],res,hs',by simp,by simpa using hij,by simp,by rw [show [i].zipIdx = [(i,0)] from rfl,he]; exact zcB _,by rw [show [i].zipIdx = [(i,0)] from rfl]; simpa [hi] using hee,hc,by simpa using h8,.inr ⟨hp,hpe⟩,by simpa [swp] using hk⟩
theorem zon {j : Nat} {e ej : Ent} (hnp : np ≤ j) (hj : h j = some ej) (hc : zaj P f args' [] res [some e]) (he : (first ++ args ++ capt).map (conv [] [j] h 4) = args')
  (hk : K (conv (swp [] id) [] (fun _=>none) 4 res) [j] [(id,some (zaA (swp [] id) [] (fun _=>none) 4 e)),(j,some { ej with ro:=ej.rows.length })]) : aK P np id .call (.fn (.func f) first capt :: args) h K :=
 ⟨[],[j],true,args',[],res,[some e],by simp,by simp,by simpa using hnp,by rw [List.zipIdx_nil,he]; exact zcB _,rfl,hc,by simp,.inl rfl,by simpa [swp,hj] using hk⟩
end
theorem zlx {l : List Int} {z : Nat} : ziQ ⟨1,zai l ++ List.replicate z [AV.I 0],0⟩:=by
 intro row hrow x hx
 simp only [List.mem_append,List.mem_map,List.mem_replicate] at hrow
 rcases hrow with ⟨y,_,rfl⟩ | ⟨_,rfl⟩
 ·simp at hx; subst hx; exact .sc _
 ·simp at hx; subst hx; exact .sc _
theorem zq2 (g : Gr) (S : List Int) (k : Int) (hS : S.length ≤ 1099511627776) (hg : g.gone.length ≤ 1099511627776) : zaj Try.prog zc1 [eG g,ints S,.I k] [] (.B (zbS g S k)) []:=by
 refine zhI.acalls (nbz rfl) (nbz rfl) (Nat.le_refl _) ?_
 show awp _ 0 _ _ ⟨17,[(0,eG g),(1,ints S),(2,.I k)],[],16⟩
 refine zab ⟨17,[(1,ints S),(2,.I k),(3,.pv (gC g))],[],16⟩ rfl ?_ ?_
 ·simp
  exact Le.snap [16] rfl rfl (by simp)
 refine zab ⟨17,[(6,.B (zbS g S k))],[],16⟩ rfl ?_ ?_
 ·simp
  refine zdE zaq rfl ?_
  refine zan (zdR S k (by omega)) rfl ?_
  simp
  refine zeS (fun hb=>?_) (fun hb=>?_)
  ·simp [hb]
   refine zdE zaq rfl ?_
   refine zan (zdR g.gone k (by omega)) rfl ?_
   simp [hb]
   exact Le.snap [] rfl rfl (by simp [zbS] <;> exact wkB (by simp_all))
  ·simp [hb]
   exact Le.snap [] rfl rfl (by simp [zbS] <;> exact wkB (by simp_all))
 refine zag ?_
 exact ⟨.inr rfl,zao.one (by simp)⟩
theorem zoK (g : Gr) (S : List Int) (k : Int) (hS : S.length ≤ 1099511627776) (hg : g.gone.length ≤ 1099511627776) : zaj Try.prog zbY [.I k,.pv (gC g),.pv [ints S]] [] (.B (zbS g S k)) []:=by
 refine zgH.acalls (nbz rfl) (nbz rfl) (Nat.le_refl _) ?_
 show awp _ 0 _ _ ⟨9,[(0,.I k),(1,.pv (gC g)),(2,.pv [ints S])],[],16⟩
 refine zaa ?_
 refine zac (s:=?s0) rfl ?o0 ?q0
 case o0=>simp; rfl
 refine zaa ?_
 refine zac (s:=?s1) rfl ?o1 ?q1
 case o1=>simp; refine zan (zq2 g S k hS hg) rfl ?_; simp; rfl
 refine zag ?_
 exact ⟨.inr rfl,zao.one (by simp)⟩
def offQ (D : List Int) (x : Int) : Bool:=!decide (0 ≤ x ∧ x < D.length) || decide (0 ≤ D.getD x.toNat 0)
theorem zob (D : List Int) (x : Int) (hD : D.length ≤ 1000000) : zaj Try.prog zbW [.I x,.pv [ints D]] [] (.B (offQ D x)) []:=by
 refine zgR.acalls (nbz rfl) (nbz rfl) (Nat.le_refl _) ?_
 show awp _ 0 _ _ ⟨17,[(0,.I x),(1,.pv [ints D])],[],16⟩
 have hw : IntKind.i64.wrap ((D.length : Int) - 1) = (D.length : Int) - 1:=w64 (by omega) (by omega)
 refine zaa ?_
 refine zac (s:=?s0) rfl ?o0 ?q0
 case o0=>simp; rfl
 refine zab ⟨17,[(3,.B (offQ D x))],[],16⟩ rfl ?_ ?_
 ·simp [hw]
  refine zdE zaV rfl ?_
  refine zan (zb0 ..) rfl ?_
  simp
  by_cases hx : 0 ≤ x ∧ x < D.length
  ·obtain ⟨k,rfl⟩ : ∃ k : Nat,x = k:=⟨x.toNat,by omega⟩
   have hk : k < D.length:=by omega
   have hb : (!decide (0 ≤ (k : Int)) || !decide ((k : Int) ≤ (D.length : Int) - 1)) = false:=by simp; omega
   have ho : offQ D k = decide (0 ≤ D[k]):=by
    unfold offQ
    rw [decide_eq_true hx]
    simp [hk]
   rw [hb,ho]
   simp [hk]
   exact Le.snap [] rfl rfl (by simp)
  ·have hb : (!decide (0 ≤ x) || !decide (x ≤ (D.length : Int) - 1)) = true:=by simp; omega
   have ho : offQ D x = true:=by
    unfold offQ
    rw [decide_eq_false hx]
    rfl
   rw [hb,ho]
   simp
   exact Le.snap [] rfl rfl (by simp)
 refine zag ?_
 exact ⟨.inr rfl,zao.one (by simp)⟩
def zce (g : Gr) (S : List Int) : List Int:=(List.range g.size.toNat).map fun (i : Nat)=>dist g S (i : Int)
def outL (g : Gr) (S : List Int) (d : Nat) : List Int:=(List.range g.size.toNat).map fun (i : Nat)=>if 0 ≤ dl g S d i ∧ dl g S d i < d then dl g S d i else -1
def outP (g : Gr) (S : List Int) (d : Nat) (F : List Int) : List Int:=(List.range g.size.toNat).map fun (i : Nat)=>if 0 ≤ dl g S d i ∧ dl g S d i < d then dl g S d i else if (i : Int) ∈ F then (d : Int) else -1
theorem zjn (g : Gr) (S : List Int) (d : Nat) : outP g S d [] = outL g S d:=by
 unfold outP outL
 simp
theorem zop {g : Gr} {S : List Int} (d : Nat) (F : List Int) (hF : ∀ x,x ∈ F ↔ Key g x ∧ dl g S d x = d) : outP g S d F = outL g S (d + 1):=by
 unfold outP outL
 refine List.map_congr_left fun i hi=>?_
 simp at hi
 have hkey : Key g i:=⟨by omega,by omega⟩
 have hr:=zba (g:=g) (S:=S) d i
 have hr2:=zba (g:=g) (S:=S) (d + 1) i
 have hm : (i : Int) ∈ F ↔ dl g S d i = d:=by rw [hF]; exact ⟨fun h=>h.2,fun h=>⟨hkey,h⟩⟩
 simp only [hm]
 by_cases h0 : 0 ≤ dl g S d i
 ·have e:=zd1 h0
  rw [e]
  by_cases h1 : dl g S d i < d
  ·rw [if_pos ⟨h0,h1⟩,if_pos ⟨h0,by omega⟩]
  ·have h2 : dl g S d i = d:=by omega
   rw [if_neg (by omega),if_pos h2,if_pos ⟨h0,by omega⟩,h2]
 ·rw [if_neg (by omega),if_neg (by omega)]
  by_cases h3 : 0 ≤ dl g S (d + 1) i
  ·have:=(ziT h3 h0).1
   rw [if_neg (by omega)]
  ·rw [if_neg (by omega)]
theorem zfB (g : Gr) (S : List Int) (d : Nat) (F : List Int) : (outP g S d F).length = g.size.toNat:=by simp [outP]
theorem zmE (g : Gr) (S : List Int) (d : Nat) : (outL g S d).length = g.size.toNat:=by simp [outL]
theorem zp9 {g : Gr} {S : List Int} {d : Nat} {F : List Int} {k : Nat} (hk : k < g.size.toNat) (hd : dl g S d k = d) : (outP g S d F)[k]'(by rw [zfB]; exact hk) = if (k : Int) ∈ F then (d : Int) else -1:=by
 unfold outP
 simp only [List.getElem_map,List.getElem_range]
 rw [if_neg (by omega)]
theorem zpE {g : Gr} {S : List Int} {d : Nat} (F : List Int) {i : Nat} (hi : i < g.size.toNat) : (outP g S d F)[i]? = some (if 0 ≤ dl g S d i ∧ dl g S d i < d then dl g S d i else if (i : Int) ∈ F then (d : Int) else -1):=by
 simp [outP,hi]
theorem zqs {g : Gr} {S : List Int} {d : Nat} {F : List Int} {k : Nat} (hk : k < g.size.toNat) (hd : dl g S d k = d) : (outP g S d F).set k d = outP g S d (F ++ [(k : Int)]):=by
 apply List.ext_getElem?
 intro i
 by_cases hi : i < g.size.toNat
 ·rw [zpE _ hi,List.getElem?_set]
  by_cases hki : k = i
  ·subst hki
   rw [if_pos rfl,if_pos (by rw [zfB]; exact hk),if_neg (by omega),if_pos (by simp)]
  ·rw [if_neg hki,zpE _ hi]
   have : (i : Int) ∈ F ++ [(k : Int)] ↔ (i : Int) ∈ F:=by
    simp
    omega
   simp only [this]
 ·rw [List.getElem?_eq_none (by rw [List.length_set,zfB]; omega),List.getElem?_eq_none (by rw [zfB]; omega)]
theorem zmp {g : Gr} {S : List Int} {d : Nat} {F F' : List Int} (h : ∀ x,x ∈ F ↔ x ∈ F') : outP g S d F = outP g S d F':=by
 unfold outP
 simp only [h]
theorem znR {l : List Ed} {F : List Int} {x : Int} (hx : x ∉ F) : (l.countP fun e=>decide (e.f ∈ F ++ [x])) = (l.countP fun e=>decide (e.f ∈ F)) + (outs l x).length:=by
 rw [znh]
 induction l with
 | nil=>rfl
 | cons e l ih =>
   have e1 : decide (e.f ∈ F ++ [x]) = (decide (e.f ∈ F) || decide (e.f = x)):=by simp
   simp only [List.countP_cons,ih,e1]
   by_cases h1 : e.f ∈ F <;> by_cases h2 : e.f = x
   ·rw [h2] at h1; exact absurd h1 hx
   all_goals
    simp only [hx,h1,h2,decide_true,decide_false,Bool.or_true,Bool.or_false,Bool.true_or,Bool.false_or,if_true,Bool.false_eq_true,if_false]
    omega
structure Pol where
 seeds : List Int
 table : List Int
 lv : Int
def zb9 (n : Int) (p : Pol) : Prop :=
 p.seeds ≠ [] ∧ Rise p.seeds 0 (n - 1) ∧ 1 ≤ p.table.length ∧ p.table.length ≤ 8 ∧ 1 ≤ p.lv ∧ p.lv ≤ 3 ∧ ∀ i (h : i < p.table.length),1 ≤ p.table[i] ∧ p.table[i] ≤ 1000 ∧ (0 < i → p.table[i] ≤ p.table[i - 1])
def zjc (p : Pol) (d : Int) : Int:=if d < 0 then 0 else p.table.getD d.toNat 1
theorem zkI {p : Pol} {d : Int} (h : d < 0) : zjc p d = 0:=if_pos h
theorem zmO {p : Pol} {n : Int} (hp : zb9 n p) {d : Int} (h : 0 ≤ d) : 1 ≤ zjc p d ∧ zjc p d ≤ 1000:=by
 unfold zjc
 rw [if_neg (by omega)]
 by_cases hd : d.toNat < p.table.length
 ·rw [List.getD_eq_getElem?_getD,List.getElem?_eq_getElem hd,Option.getD_some]
  have:=hp.2.2.2.2.2.2 d.toNat hd
  omega
 ·rw [List.getD_eq_getElem?_getD,List.getElem?_eq_none (by omega),Option.getD_none]
  omega
theorem zpu {p : Pol} {n : Int} (hp : zb9 n p) {d : Int} : 0 < zjc p d ↔ 0 ≤ d:=by
 constructor
 ·intro h
  refine Decidable.byContradiction fun h1=>?_
  rw [zkI (by omega)] at h
  omega
 ·intro h
  have:=zmO hp h
  omega
theorem zlT {p : Pol} {n : Int} (hp : zb9 n p) (d : Int) : 0 ≤ zjc p d ∧ zjc p d ≤ 1000:=by
 by_cases h : 0 ≤ d
 ·have:=zmO hp h; omega
 ·rw [zkI (by omega)]; omega
theorem zk9 (g : Gr) (v : Int) : zam (zam g v) v = zam g v:=by
 unfold zam
 simp only [List.filter_filter,Bool.and_self]
def zbV (g : Gr) (p : Pol) : List Int:=(zce (zam g p.lv) p.seeds).map (zjc p)
def zbv (g : Gr) (p : Pol) (c : List Int) (sinks : List Int) : List Ed :=
 ((p.seeds.filter fun x=>decide (0 < c.getD x.toNat 0)).map fun x=>⟨0,2 + 2 * x,c.getD x.toNat 0⟩)
 ++ ((List.range c.length).filter fun i=>decide (0 < c.getD i 0)).map (fun i=>⟨2 + 2 * (i : Int),3 + 2 * (i : Int),c.getD i 0 - 1⟩)
 ++ ((sinks.filter fun x=>decide (0 < c.getD x.toNat 0)).map fun x=>⟨2 + 2 * x,1,1⟩)
 ++ (((zam g p.lv).edges.filter fun e=>decide (0 < c.getD e.f.toNat 0)).map fun e=>⟨3 + 2 * e.f,2 + 2 * e.t,64⟩)
structure Net where
 nodes : Int
 arcs : List Ed
def zrG (n : Int) (a : Ed) : Prop:=0 ≤ a.f ∧ a.f ≤ n - 1 ∧ 0 ≤ a.t ∧ a.t ≤ n - 1 ∧ a.f ≠ a.t ∧ a.t ≠ 0 ∧ a.f ≠ 1 ∧ 0 ≤ a.v ∧ a.v ≤ 1048576
instance (n : Int) (a : Ed) : Decidable (zrG n a):=by unfold zrG; infer_instance
def zo8 (n : Net) : Prop:=2 ≤ n.nodes ∧ n.nodes ≤ 130 ∧ n.arcs.length ≤ 1200 ∧ ∀ a ∈ n.arcs,zrG n.nodes a
instance (n : Net) : Decidable (zo8 n):=by unfold zo8; infer_instance
def zrp (n : Net) (side : List Int) : Prop:=zo8 n ∧ Rise side 0 (n.nodes - 1) ∧ (0 : Int) ∈ side ∧ (1 : Int) ∉ side
def cutV (arcs : List Ed) (side : List Int) : Int:=(arcs.map fun a=>if a.f ∈ side ∧ a.t ∉ side then a.v else 0).sum
def zlI (n : Net) (side : List Int) (most : Int) : Prop:=zrp n side ∧ cutV n.arcs side ≤ most
def za3 (a : List Int) : List Int:=((List.range 64).map Int.ofNat).filter fun x=>decide (x ∈ a)
theorem zhg {a : List Int} {x : Int} : x ∈ za3 a ↔ x ∈ a ∧ 0 ≤ x ∧ x < 64:=by
 unfold za3
 simp only [List.mem_filter,List.mem_map,List.mem_range,decide_eq_true_eq]
 constructor
 ·rintro ⟨⟨i,hi,rfl⟩,h⟩
  exact ⟨h,Int.natCast_nonneg _,by show (i : Int) < 64; omega⟩
 ·rintro ⟨h,h0,h1⟩
  exact ⟨⟨x.toNat,by omega,by show ((x.toNat : Nat) : Int) = x; omega⟩,h⟩
theorem zjp (a : List Int) : (za3 a).Pairwise (· < ·):=by
 unfold za3
 refine List.Pairwise.filter _ ?_
 rw [List.pairwise_map]
 exact List.pairwise_lt_range.imp fun {a b} h=>by show (a : Int) < (b : Int); omega
theorem zbG : ∀ {a b : List Int},a.Nodup → (∀ x ∈ a,x ∈ b) → a.length ≤ b.length
 | [],_,_,_=>Nat.zero_le _
 | x :: a,b,hn,hs=>by
   have hx : x ∈ b:=hs x (List.mem_cons_self ..)
   rw [List.nodup_cons] at hn
   have hb:=List.perm_cons_erase hx
   have hlb : (b.erase x).length + 1 = b.length:=by have:=hb.length_eq; simp at this; omega
   have:=zbG (b:=b.erase x) hn.2 fun y hy=>by
    have hne : y ≠ x:=fun e=>hn.1 (e ▸ hy)
    exact (List.mem_erase_of_ne hne).2 (hs y (List.mem_cons_of_mem _ hy))
   rw [List.length_cons]
   omega
theorem zmJ {a : List Int} (hn : a.Nodup) (hr : ∀ k ∈ a,0 ≤ k ∧ k < 64) : srt a = za3 a:=by
 have h1 : (za3 a).Nodup:=(zjp a).imp fun {x y} h=>by omega
 have h2 : a.Perm (za3 a):=zcr hn (fun x hx=>zhg.2 ⟨hx,hr x hx⟩) (zbG h1 fun x hx=>(zhg.1 hx).1)
 exact List.Perm.eq_of_pairwise (le:=(· ≤ ·)) (fun x y _ _ h1 h2=>by omega) (zmS a) ((zjp a).imp fun {x y} h=>by omega) ((zcN a).trans h2)
def zdb (e : Ed) : Int × Int:=(e.f,e.t)
theorem zj2 {A : List Ed} (h : (A.map zdb).Nodup) {i j : Nat} (hi : i < A.length) (hj : j < A.length) (h1 : (arcD A i).f = (arcD A j).f) (h2 : (arcD A i).t = (arcD A j).t) : i = j:=by
 have hg : ∀ k (hk : k < A.length),(A.map zdb)[k]'(by simpa using hk) = zdb (arcD A k):=fun k hk=>by
  rw [List.getElem_map]
  unfold arcD
  rw [List.getD_eq_getElem?_getD,List.getElem?_eq_getElem hk,Option.getD_some]
 have he : zdb (arcD A i) = zdb (arcD A j):=by unfold zdb; rw [h1,h2]
 rcases Nat.lt_trichotomy i j with hlt | heq | hgt
 ·exact absurd ((hg i hi).trans (he.trans (hg j hj).symm)) (List.pairwise_iff_getElem.1 h i j (by simpa using hi) (by simpa using hj) hlt)
 ·exact heq
 ·exact absurd ((hg j hj).trans (he.symm.trans (hg i hi).symm)) (List.pairwise_iff_getElem.1 h j i (by simpa using hj) (by simpa using hi) hgt)
theorem zey {α β : Type} {φ : α → β} {l : List α} (h : l.Nodup) (hi : ∀ a ∈ l,∀ b ∈ l,φ a = φ b → a = b) : (l.map φ).Nodup:=by
 rw [List.Nodup,List.pairwise_map]
 exact List.Pairwise.imp_of_mem (fun {a b} ha hb hab he=>hab (hi a ha b hb he)) h
theorem zlr {g : Gr} {p : Pol} {c sinks seeds' : List Int} {E : Int → Int → Prop} (hE : ∀ e ∈ (zam g p.lv).edges,0 < c.getD e.f.toNat 0 → E e.f e.t) (hS : ∀ x ∈ p.seeds,0 < c.getD x.toNat 0 → x ∈ seeds') (hs : p.seeds.Nodup) (hs0 : ∀ x ∈ p.seeds,0 ≤ x) (hk : sinks.Nodup) (hk0 : ∀ x ∈ sinks,0 ≤ x) (he : ((zam g p.lv).edges.map zdb).Nodup) (he0 : ∀ e ∈ (zam g p.lv).edges,0 ≤ e.f ∧ 0 ≤ e.t) :
  zfx (zbv g p c sinks) E seeds' sinks fun x=>c.getD x.toNat 0:=by
 refine ⟨fun i hi=>?_,fun i j hi hj=>zj2 ?_ hi hj⟩
 ·have hm:=zjD hi
  revert hm
  generalize arcD (zbv g p c sinks) i = a
  intro hm
  unfold zbv at hm
  rcases List.mem_append.1 hm with hm | hm
  ·rcases List.mem_append.1 hm with hm | hm
   ·rcases List.mem_append.1 hm with hm | hm
    ·obtain ⟨x,hx,rfl⟩:=List.mem_map.1 hm
     have hx:=List.mem_filter.1 hx
     exact .inl ⟨x,hS x hx.1 (by simpa using hx.2),hs0 x hx.1,rfl⟩
    ·obtain ⟨x,hx,rfl⟩:=List.mem_map.1 hm
     exact .inr (.inl ⟨x,Int.natCast_nonneg _,by simp⟩)
   ·obtain ⟨x,hx,rfl⟩:=List.mem_map.1 hm
    have hx:=(List.mem_filter.1 hx).1
    exact .inr (.inr (.inl ⟨x,hx,hk0 x hx,rfl⟩))
  ·obtain ⟨e,hx,rfl⟩:=List.mem_map.1 hm
   have hx:=List.mem_filter.1 hx
   have h0:=he0 e hx.1
   exact .inr (.inr (.inr ⟨e.f,e.t,h0.1,h0.2,hE e hx.1 (by simpa using hx.2),rfl⟩))
 ·unfold zbv
  simp only [List.map_append,List.map_map]
  refine List.nodup_append.2 ⟨List.nodup_append.2 ⟨List.nodup_append.2 ⟨?_,?_,?_⟩,?_,?_⟩,?_,?_⟩
  ·exact zey (hs.filter _) fun a _ b _ h=>by simp [zdb] at h; omega
  ·exact zey (List.nodup_range.filter _) fun a _ b _ h=>by simp [zdb] at h; omega
  ·intro a ha b hb
   obtain ⟨x,hx,rfl⟩:=List.mem_map.1 ha
   obtain ⟨y,hy,rfl⟩:=List.mem_map.1 hb
   intro h
   simp [zdb] at h
   omega
  ·exact zey (hk.filter _) fun a _ b _ h=>by simp [zdb] at h; omega
  ·intro a ha b hb
   obtain ⟨y,hy,rfl⟩:=List.mem_map.1 hb
   have hy0:=hk0 y (List.mem_filter.1 hy).1
   rcases List.mem_append.1 ha with ha | ha
   ·obtain ⟨x,hx,rfl⟩:=List.mem_map.1 ha
    intro h
    simp [zdb] at h
    omega
   ·obtain ⟨x,hx,rfl⟩:=List.mem_map.1 ha
    intro h
    simp [zdb] at h
    omega
  ·have h1 : ((zam g p.lv).edges.filter fun e=>decide (0 < c.getD e.f.toNat 0)).Pairwise fun a b=>zdb a ≠ zdb b:=by
    rw [List.Nodup,List.pairwise_map] at he
    exact he.filter _
   rw [List.Nodup,List.pairwise_map]
   refine h1.imp fun {a b} hab h=>hab ?_
   simp [zdb] at h
   unfold zdb
   rw [show a.f = b.f by omega,show a.t = b.t by omega]
  ·intro a ha b hb
   obtain ⟨e,hy,rfl⟩:=List.mem_map.1 hb
   have hy0:=he0 e (List.mem_filter.1 hy).1
   rcases List.mem_append.1 ha with ha | ha
   ·rcases List.mem_append.1 ha with ha | ha
    ·obtain ⟨x,hx,rfl⟩:=List.mem_map.1 ha
     intro h
     simp [zdb] at h
     omega
    ·obtain ⟨x,hx,rfl⟩:=List.mem_map.1 ha
     intro h
     simp [zdb] at h
     omega
   ·obtain ⟨x,hx,rfl⟩:=List.mem_map.1 ha
    intro h
    simp [zdb] at h
    omega
theorem Le.dn {st st' : St} {D D' : List (List AV)} (N : Nat) (i j i' j' : Nat) (sn : List Nat) (hsz : st'.sz = st.sz) (hh : st'.h = [(i',some ⟨1,[[.rs j' 0 N]],0⟩),(j',some ⟨1,D',0⟩)]) (hi : i' < st'.n) (hj : j' < st'.n) (hij : i ≠ j) (hij' : i' ≠ j') (hs : ∀ k ∈ sn,k ≠ i ∧ k ≠ j)
  (h1 : st.hp i = some ⟨1,[[.rs j 0 N]],0⟩) (h2 : st.hp j = some ⟨1,D,0⟩) (hD : D.map (·.map (conv [(i,i'),(j,j')] sn st.hp 4)) = D') (ht : ∀ p ∈ st'.t,Wk (conv [(i,i'),(j,j')] sn st.hp 4 (st.get p.1)) p.2) : Le 0 st st' :=
 Le.ents [(i,i'),(j,j')] sn hsz (by simpa using hij) (by simpa using hij') (by simp [hi,hj]) (by simpa using hs) (Nat.zero_le _) ht fun p hp=>by
  rw [hh] at hp
  simp at hp
  rcases hp with rfl | rfl
  ·exact ⟨i,_,_,rfl,by simp,h1,zaH.eq (by simp [hij]) (by simp)⟩
  ·exact ⟨j,_,_,rfl,by simp,h2,zaH.eq (by simp only [zaA,hD]) (by simp)⟩
theorem zmA {l : List Int} {lo hi : Int} (h : Rise l lo hi) : ∀ (i : Nat) (hi : i < l.length),lo + i ≤ l[i]
 | 0,hi=>by have:=(h 0 hi).1; simp; omega
 | i + 1,hi=>by
   have h1:=zmA h i (by omega)
   have h2:=(h (i + 1) hi).2.2 (by omega)
   simp only [Nat.add_sub_cancel] at h2
   omega
theorem GrOk.gone_le {g : Gr} (h : GrOk g) : g.gone.length ≤ 64:=by
 have hr:=h.1.2.2.2
 have h1:=h.1.1
 have h2:=h.1.2.1
 rcases Nat.eq_zero_or_pos g.gone.length with h0 | h0
 ·omega
 ·have h3:=zmA hr (g.gone.length - 1) (by omega)
  have h4:=(hr (g.gone.length - 1) (by omega)).2.1
  omega
theorem zm0 {l : List Ed} {x t : Int} : t ∈ outs l x ↔ ∃ e ∈ l,e.f = x ∧ e.t = t:=by
 unfold outs
 simp only [List.mem_filterMap]
 constructor
 ·rintro ⟨e,he,h⟩
  split at h
  ·exact ⟨e,he,by assumption,by simpa using h⟩
  ·cases h
 ·rintro ⟨e,he,h1,h2⟩
  exact ⟨e,he,by rw [if_pos h1,h2]⟩
theorem znc {g : Gr} {S : List Int} {d : Nat} {F X : List Int} (hg : GrOk g) (hF : ∀ x,x ∈ F ↔ Key g x ∧ dl g S d x = d) (hX : ∀ t,t ∈ X ↔ ∃ x ∈ F,t ∈ outs g.edges x) (x : Int) :
  x ∈ X.filter (fun e=>!offQ (outL g S (d + 1)) e) ↔ Key g x ∧ dl g S (d + 1) x = (d + 1 : Nat):=by
 rw [List.mem_filter,hX]
 have hlen:=zmE g S (d + 1)
 have hsz:=hg.1.1
 constructor
 ·rintro ⟨⟨y,hy,hxy⟩,ho⟩
  obtain ⟨e,he,rfl,rfl⟩:=zm0.1 hxy
  have hyF:=(hF e.f).1 hy
  simp only [offQ,Bool.not_or,Bool.not_not,Bool.and_eq_true,decide_eq_true_eq,hlen] at ho
  have hk : Key g e.t:=⟨ho.1.1,by omega⟩
  have h1:=zpO (S:=S) (n:=d) he (by omega)
  refine ⟨hk,?_⟩
  have ho2:=ho.2
  obtain ⟨k,hk2⟩ : ∃ k : Nat,e.t = k:=⟨e.t.toNat,by have:=hk.1; omega⟩
  rw [hk2] at ho2 h1 ⊢
  have hkN : k < g.size.toNat:=by have:=hk.2; omega
  have hget : (outL g S (d + 1)).getD k 0 = if 0 ≤ dl g S (d + 1) k ∧ dl g S (d + 1) k < (d + 1 : Nat) then dl g S (d + 1) k else -1:=by
   simp [outL,List.getD,hkN]
  simp only [Int.toNat_natCast,hget] at ho2
  simp at ho2
  split at ho2 <;> omega
 ·rintro ⟨hk,hd⟩
  have h2 : ¬ 0 ≤ dl g S d x:=by
   intro h2
   rw [zd1 h2] at hd
   have:=zba (g:=g) (S:=S) d x
   omega
  obtain ⟨_,e,he,h4,h5⟩:=ziT (g:=g) (S:=S) (n:=d) (k:=x) (by omega) h2
  have hf:=hg.fits e he
  refine ⟨⟨e.f,(hF _).2 ⟨⟨hf.1,by have:=hf.2.1; omega⟩,h5⟩,zm0.2 ⟨e,he,rfl,h4⟩⟩,?_⟩
  obtain ⟨k,rfl⟩ : ∃ k : Nat,x = k:=⟨x.toNat,by have:=hk.1; omega⟩
  have hkN : k < g.size.toNat:=by have:=hk.2; omega
  have hget : (outL g S (d + 1)).getD k 0 = if 0 ≤ dl g S (d + 1) k ∧ dl g S (d + 1) k < (d + 1 : Nat) then dl g S (d + 1) k else -1:=by
   simp [outL,List.getD,hkN]
  simp only [offQ,Int.toNat_natCast,hget,hlen]
  rw [if_neg (by omega)]
  simp
  omega
theorem zjZ {F : List Int} {i : Nat} (h : i < F.length) (x : Int) : x ∈ F.take (i + 1) ↔ x ∈ F.take i ++ [F[i]]:=by
 rw [← List.take_concat_get h,List.concat_eq_append]
set_option maxHeartbeats 4000000 in
set_option maxRecDepth 100000 in
theorem zg4 (g : Gr) (S : List Int) (hg : GrOk g) (hS : S.length ≤ 1099511627776) : zaj Try.prog zd5 [eG g,ints S] [] (.rs 0 0 g.size.toNat) [some ⟨1,zai (zce g S),0⟩]:=by
 refine zjC.acalls (nbz rfl) (nbz rfl) (Nat.zero_le _) ?_
 show awp _ 0 _ _ ⟨50,[(0,eG g),(1,ints S)],[],16⟩
 have hsz:=hg.1.1
 have hsz2:=hg.1.2.1
 have h500:=hg.1.2.2.1
 have hgone : g.gone.length ≤ 1000000:=Nat.le_trans hg.gone_le (by omega)
 obtain ⟨N,hN⟩ : ∃ N : Nat,N = g.size.toNat:=⟨_,rfl⟩
 have hNs : (if 0 < g.size then g.size else 0) = (N : Int):=by split <;> omega
 refine zab ⟨50,[(2,.pv (gC g)),(3,.pv [ints S])],[],40⟩ rfl ?_ ?_
 ·simp
  exact Le.snap [16,24] rfl rfl (by simp)
 refine zab ⟨50,[(2,.pv (gC g)),(3,.pv [ints S]),(5,.pt 80 0 0)],[(80,some ⟨1,[[.rs 72 0 N]],0⟩),(72,some ⟨1,List.replicate N [.I (-1)],0⟩)],96⟩ rfl ?_ ?_
 ·simp [hNs]
  refine zon (j:=40) (Nat.zero_le _) rfl (zpM (-1) N (by omega)) ?_ ?_
  ·simp
  simp
  exact Le.keep rfl (Nat.le_refl _) (by simp) (by simp)
 have h0 : List.replicate N [AV.I (-1)] = zai (outL g S 0):=by
  unfold outL zai
  rw [List.map_map]
  apply List.ext_getElem
  ·simp [hN]
  ·intro i h1 h2
   simp
   omega
 rw [h0]
 obtain ⟨F0,hF0⟩ : ∃ F,F = zaX N (zbS g S):=⟨_,rfl⟩
 have hF0m : ∀ x,x ∈ F0 ↔ Key g x ∧ dl g S 0 x = ((0 : Nat) : Int):=by
  intro x
  rw [hF0]
  unfold zaX
  simp only [List.mem_filter,List.mem_map,List.mem_range]
  constructor
  ·rintro ⟨⟨i,hi,rfl⟩,hs⟩
   exact ⟨⟨by omega,by omega⟩,by rw [dl,if_pos hs]; rfl⟩
  ·rintro ⟨⟨k1,k2⟩,hs⟩
   refine ⟨⟨x.toNat,by omega,by omega⟩,?_⟩
   rw [dl] at hs
   split at hs
   ·assumption
   ·simp at hs
 have hF0l : F0.length ≤ 500:=by have:=zeF N (zbS g S); rw [hF0]; omega
 refine zab ⟨50,[(2,.pv (gC g)),(5,.pt 80 0 0),(6,ints F0)],[(80,some ⟨1,[[.rs 72 0 N]],0⟩),(72,some ⟨1,zai (outL g S 0),0⟩)],136⟩ rfl ?_ ?_
 ·simp
  refine zcC (zm3 zbY [.pv (gC g),.pv [ints S]] (zbS g S) g.size (by omega) (fun ρ sn h n=>by simp) (fun k _=>zoK g S k hS (by omega))) (by simp) ?_
  rw [← hN,← hF0]
  simp [fcd]
  exact Le.dn N 80 72 80 72 [120] rfl rfl (by simp) (by simp) (by decide) (by decide) (by simp) rfl rfl (by simp [fcd]) (by simp [fcd,zaD])
 refine zaa ?_
 refine zab ⟨50,[(2,.pv (gC g)),(5,.pt 80 0 0),(6,ints F0),(7,.I 0)],[(80,some ⟨1,[[.rs 72 0 N]],0⟩),(72,some ⟨1,zai (outL g S 0),0⟩)],144⟩ rfl ?_ ?_
 ·simp
  exact Le.keep rfl (Nat.le_refl _) (by simp) (by simp)
 refine zaf ?_
 refine zap (ι:=Nat × List Int) (fun p=>⟨50,[(2,.pv (gC g)),(5,.pt 80 0 0),(6,ints p.2),(7,.I p.1)],[(80,some ⟨1,[[.rs 72 0 N]],0⟩),(72,some ⟨1,zai (outL g S p.1),0⟩)],144⟩) (fun p=>p.1 ≤ 64 ∧ p.2.length ≤ 500 ∧ ∀ x,x ∈ p.2 ↔ Key g x ∧ dl g S p.1 x = p.1) (fun p=>64 - p.1) (0,F0) ⟨by simp,hF0l,hF0m⟩ (Le.refl _ _) ?_
 rintro ⟨d,F⟩ ⟨hd,hFl,hFm⟩
 simp only at hd hFl hFm ⊢
 refine zaa ?_
 refine zab ⟨50,[(2,.pv (gC g)),(5,.pt 80 0 0),(6,ints F),(7,.I d),(22,.B (decide (0 < F.length)))],[(80,some ⟨1,[[.rs 72 0 N]],0⟩),(72,some ⟨1,zai (outL g S d),0⟩)],168⟩ rfl ?_ ?_
 ·simp
  exact Le.keep rfl (Nat.le_refl _) (by simp <;> rw [Bool.eq_iff_iff] <;> simp) (by simp)
 refine zad _ rfl (fun h=>zae ?_) fun h=>zal (hit ?_)
 ·simp only [decide_eq_true_eq] at h
  have hdlt : (d : Int) < g.size:=by
   have:=hFm F[0]
   have h1:=(this.1 (List.getElem_mem _))
   exact zmv hg h1.1 h1.2
  refine zaw (ι:=List Int) (fun F'=>⟨50,[(2,.pv (gC g)),(5,.pt 80 0 0),(6,ints F'),(7,.I d)],[(80,some ⟨1,[[.rs 72 0 N]],0⟩),(72,some ⟨1,zai (outL g S (d + 1)),0⟩)],144⟩) (fun F'=>F'.length ≤ 500 ∧ ∀ x,x ∈ F' ↔ Key g x ∧ dl g S (d + 1) x = (d + 1 : Nat)) ?_ ?_
  ·refine zaf ?_
   refine zab ⟨50,[(2,.pv (gC g)),(5,.pt 80 0 0),(6,ints F),(7,.I d),(8,.nilS)],[(80,some ⟨1,[[.rs 72 0 N]],0⟩),(72,some ⟨1,zai (outL g S d),0⟩)],176⟩ rfl ?_ ?_
   ·simp
    exact Le.keep rfl (Nat.le_refl _) (by simp) (by simp)
   rw [← zjn]
   refine zaa ?_
   refine zaa ?_
   refine zac (s:=?s2) rfl ?o2 ?q2
   case o2=>simp; rfl
   refine zaf ?_
   let C : Nat × List Int → St:=fun p=>⟨50,[(2,.pv (gC g)),(5,.pt 80 0 0),(7,.I d),(8,.rs 16 0 p.2.length),(25,ints F),(26,.I F.length),(27,.I p.1)],[(80,some ⟨1,[[.rs 72 0 N]],0⟩),(72,some ⟨1,zai (outP g S d (F.take p.1)),0⟩),(16,some ⟨1,zai p.2,0⟩)],200⟩
   refine zap C (fun p : Nat × List Int=>p.1 ≤ F.length ∧ (∀ t,t ∈ p.2 ↔ ∃ x ∈ F.take p.1,t ∈ outs g.edges x) ∧ p.2.length = g.edges.countP fun e=>decide (e.f ∈ F.take p.1)) (fun p : Nat × List Int=>F.length - p.1) (0,[]) ⟨Nat.zero_le _,by simp,by simp⟩ ?_ ?_
   ·refine Le.lst [(80,80),(72,72)] [] [(16,1)] rfl (by simp) (by simp) (by simp [C]) (by simp [C]) (by simp) (by simp) (by simp) (by simp [C,Up]) fun p hp e' he'=>?_
    simp [C] at hp
    rcases hp with rfl | rfl | rfl
    ·cases he'
     exact .inl ⟨(80,80),by simp,rfl,_,rfl,zaH.eq (by simp) (by simp)⟩
    ·cases he'
     exact .inl ⟨(72,72),by simp,rfl,_,rfl,zaH.eq (by simp [fcd,zjn]) (by simp)⟩
    ·cases he'
     exact .inr ⟨by simp,by simp,rfl⟩
   rintro ⟨i,X⟩ ⟨hi,hXm,hXl⟩
   simp only at hi hXm hXl ⊢
   have hXle : X.length ≤ 500:=by rw [hXl]; exact Nat.le_trans List.countP_le_length h500
   have hC : C (i,X) = ⟨50,[(2,.pv (gC g)),(5,.pt 80 0 0),(7,.I d),(8,.rs 16 0 X.length),(25,ints F),(26,.I F.length),(27,.I i)],[(80,some ⟨1,[[.rs 72 0 N]],0⟩),(72,some ⟨1,zai (outP g S d (F.take i)),0⟩),(16,some ⟨1,zai X,0⟩)],200⟩:=rfl
   rw [hC]
   refine zab ⟨50,[(2,.pv (gC g)),(5,.pt 80 0 0),(7,.I d),(8,.rs 16 0 X.length),(25,ints F),(26,.I F.length),(27,.I i),(28,.B (decide (i < F.length)))],[(80,some ⟨1,[[.rs 72 0 N]],0⟩),(72,some ⟨1,zai (outP g S d (F.take i)),0⟩),(16,some ⟨1,zai X,0⟩)],208⟩ rfl ?_ ?_
   ·simp
    exact Le.keep rfl (Nat.le_refl _) (by simp) (by simp)
   refine zaa ?_
   refine zad _ rfl (fun h2=>zae ?_) fun h2=>zal (hit ?_)
   ·simp only [decide_eq_true_eq] at h2
    have hx:=(hFm F[i]).1 (List.getElem_mem h2)
    obtain ⟨k,hk⟩ : ∃ k : Nat,F[i] = k:=⟨F[i].toNat,by have:=hx.1.1; omega⟩
    have hkN : k < g.size.toNat:=by have:=hx.1.2; omega
    have hkd : dl g S d k = d:=by rw [← hk]; exact hx.2
    have hmt:=zjZ h2
    rw [hk] at hmt
    refine zaw (ι:=List Int) (fun X'=>⟨50,[(2,.pv (gC g)),(5,.pt 80 0 0),(7,.I d),(8,.rs 16 0 X'.length),(25,ints F),(26,.I F.length),(27,.I i)],[(80,some ⟨1,[[.rs 72 0 N]],0⟩),(72,some ⟨1,zai (outP g S d (F.take (i + 1))),0⟩),(16,some ⟨1,zai X',0⟩)],200⟩) (fun X'=>(∀ t,t ∈ X' ↔ ∃ x ∈ F.take (i + 1),t ∈ outs g.edges x) ∧ X'.length = g.edges.countP fun e=>decide (e.f ∈ F.take (i + 1))) ?_ ?_
    ·have hOlen : (outP g S d (F.take i)).length = N:=by rw [zfB,hN]
     have hOget:=zp9 (g:=g) (S:=S) (d:=d) (F:=F.take i) hkN hkd
     have hOset0 : zai ((outP g S d (F.take i)).set k d) = zai (outP g S d (F.take (i + 1))):=by
      rw [zqs hkN hkd]
      congr 1
      exact zmp fun x=>(hmt x).symm
     have hOset : (zai (outP g S d (F.take i))).set k [AV.I d] = zai (outP g S d (F.take (i + 1))):=by
      rw [← hOset0,zai,zai,List.map_set]
     clear hOset0
     have hrow : (zai (outP g S d (F.take i)))[k]? = some [AV.I (if (k : Int) ∈ F.take i then (d : Int) else -1)]:=by
      rw [List.getElem?_map,List.getElem?_eq_getElem (by omega),hOget]
      rfl
     have hOl : (zai (outP g S d (F.take i))).length = N:=by simp [hOlen]
     generalize hO : zai (outP g S d (F.take i)) = O at *
     refine zaf ?_
     refine zab ⟨50,[(2,.pv (gC g)),(5,.pt 80 0 0),(7,.I d),(8,.rs 16 0 X.length),(25,ints F),(26,.I F.length),(27,.I i),(10,.I k)],[(80,some ⟨1,[[.rs 72 0 N]],0⟩),(72,some ⟨1,O,0⟩),(16,some ⟨1,zai X,0⟩)],232⟩ rfl ?_ ?_
     ·simp [h2,hk]
      exact Le.keep rfl (Nat.le_refl _) (by simp) (by simp)
     refine zaa ?_
     refine zab ⟨50,[(2,.pv (gC g)),(5,.pt 80 0 0),(7,.I d),(8,.rs 16 0 X.length),(25,ints F),(26,.I F.length),(27,.I i),(10,.I k),(35,.B (decide ((k : Int) ∈ F.take i)))],[(80,some ⟨1,[[.rs 72 0 N]],0⟩),(72,some ⟨1,O,0⟩),(16,some ⟨1,zai X,0⟩)],272⟩ rfl ?_ ?_
     ·simp [hrow,show k < N by omega]
      refine Le.keep rfl (Nat.le_refl _) ?_ (by simp)
      by_cases hin : (k : Int) ∈ F.take i <;> simp [hin]
     refine zad _ rfl (fun h3=>zal (hit ?_)) fun h3=>zae ?_
     ·simp only [decide_eq_true_eq] at h3
      have hsame : ∀ x,x ∈ F.take (i + 1) ↔ x ∈ F.take i:=by
       intro x
       rw [hmt x]
       simp
       rintro rfl
       exact h3
      refine ⟨X,⟨fun t=>?_,?_⟩,?_⟩
      ·rw [hXm]
       simp only [hsame]
      ·rw [hXl]
       simp only [hsame]
      ·rw [zmp hsame,hO]
       refine Le.ents [(80,80),(72,72),(16,16)] [] rfl (by simp) (by simp) (by simp) (by simp) (by simp) (by simp) fun p hp=>?_
       simp at hp
       rcases hp with rfl | rfl | rfl
       ·exact ⟨80,_,_,rfl,by simp,rfl,zaH.eq (by simp) (by simp)⟩
       ·exact ⟨72,_,_,rfl,by simp,rfl,zaH.eq (by rw [← hO]; simp [fcd]) (by simp)⟩
       ·exact ⟨16,_,_,rfl,by simp,rfl,zaH.eq (by simp [fcd]) (by simp)⟩
     simp only [decide_eq_false_iff_not] at h3
     refine zab ⟨50,[(2,.pv (gC g)),(5,.pt 80 0 0),(7,.I d),(8,.rs 16 0 X.length),(25,ints F),(26,.I F.length),(27,.I i),(10,.I k)],[(80,some ⟨1,[[.rs 72 0 N]],0⟩),(72,some ⟨1,zai (outP g S d (F.take (i + 1))),0⟩),(16,some ⟨1,zai X,0⟩)],312⟩ rfl ?_ ?_
     ·simp [hrow,show k < N by omega,zbJ]
      exact Le.keep rfl (Nat.le_refl _) (by simp) (by simp; exact hOset)
     have hcount:=znR (l:=g.edges) h3
     have hol:=zlC g.edges k
     refine zaC rfl ?_
     simp
     refine zcC (zk3 g k (by omega)) rfl ?_
     simp [fcd]
     have hcm : (fun e : Ed=>decide (e.f ∈ F.take (i + 1))) = fun e : Ed=>decide (e.f ∈ F.take i ++ [(k : Int)]):=by
      funext e
      simp only [hmt]
     refine ⟨by omega,by omega,X ++ zeP (outs g.edges k),⟨fun t=>?_,?_⟩,?_⟩
     ·rw [List.mem_append,znQ,hXm]
      simp only [hmt,List.mem_append,List.mem_singleton]
      constructor
      ·rintro (⟨x,hx,ht⟩ | ht)
       ·exact ⟨x,.inl hx,ht⟩
       ·exact ⟨k,.inr rfl,ht⟩
      ·rintro ⟨x,hx | rfl,ht⟩
       ·exact .inl ⟨x,hx,ht⟩
       ·exact .inr ht
     ·rw [List.length_append,zf4,hXl,hcm,hcount]
     ·have e1 : List.take X.length (zai X) = zai X:=List.take_of_length_le (by simp)
      have e2 : List.take (outs g.edges k).length (zai (zeP (outs g.edges k))) = zai (zeP (outs g.edges k)):=List.take_of_length_le (by rw [zai,List.length_map,zf4]; exact Nat.le_refl _)
      have e3 : (X ++ zeP (outs g.edges k)).length = X.length + (outs g.edges k).length:=by rw [List.length_append,zf4]
      rw [e1,e3]
      refine Le.ents [(80,80),(72,72),(344,16)] [] rfl (by simp) (by simp) (by simp) (by simp) (by simp) (by simp) fun p hp=>?_
      simp at hp
      rcases hp with rfl | rfl | rfl
      ·exact ⟨80,_,_,rfl,by simp,rfl,zaH.eq (by simp) (by simp)⟩
      ·exact ⟨72,_,_,rfl,by simp,rfl,zaH.eq (by simp [fcd]) (by simp)⟩
      ·refine ⟨344,_,_,rfl,by simp,rfl,zaH.eq ?_ (by simp)⟩
       have e4 : zai X ++ List.take (outs g.edges k).length (zai (zeP (outs g.edges k))) = zai X ++ zai (zeP (outs g.edges k)):=by rw [e2]
       have e5 : (⟨1,zai X ++ List.take (outs g.edges k).length (zai (zeP (outs g.edges k))),0⟩ : Ent) = ⟨1,zai X ++ zai (zeP (outs g.edges k)),0⟩:=by rw [e4]
       refine (congrArg _ e5).trans ?_
       simp [fcd]
    rintro X' ⟨k1,k2⟩
    have hwi : IntKind.i64.wrap ((i : Int) + 1) = ((i + 1 : Nat) : Int):=by rw [w64 (by omega) (by omega)]; omega
    refine zaC rfl ?_
    simp [hwi]
    refine ⟨i + 1,X',⟨by omega,k1,k2⟩,by omega,Le.ents [(80,80),(72,72),(16,16)] [] rfl (by simp) (by simp) (by simp [C]) (by simp) (by simp [C]) (by simp [C]) fun p hp=>?_⟩
    simp [C] at hp
    rcases hp with rfl | rfl | rfl
    ·exact ⟨80,_,_,rfl,by simp,rfl,zaH.eq (by simp) (by simp)⟩
    ·exact ⟨72,_,_,rfl,by simp,rfl,zaH.eq (by simp [fcd]) (by simp)⟩
    ·exact ⟨16,_,_,rfl,by simp,rfl,zaH.eq (by simp [fcd]) (by simp)⟩
   simp only [decide_eq_false_iff_not] at h2
   obtain rfl : i = F.length:=by omega
   rw [List.take_of_length_le (Nat.le_refl _)] at hXm hXl ⊢
   rw [zop d F hFm]
   obtain ⟨F',hF'⟩ : ∃ F',F' = X.filter fun e=>!offQ (outL g S (d + 1)) e:=⟨_,rfl⟩
   have hF'l : F'.length ≤ X.length:=by rw [hF']; exact List.length_filter_le _ _
   have hDl:=zmE g S (d + 1)
   have hdel:=zh9 zbW [.pv [ints (outL g S (d + 1))]] (offQ (outL g S (d + 1))) X X.length F'.length rfl (by rw [hF']) (by omega) (fun ρ sn h n=>by simp) (fun e _=>zob (outL g S (d + 1)) e (by rw [hDl]; omega))
   rw [← hF'] at hdel
   have htk : List.take N (zai (outL g S (d + 1))) = zai (outL g S (d + 1)):=List.take_of_length_le (by rw [zai,List.length_map,hDl]; omega)
   have hle : N ≤ (zai (outL g S (d + 1))).length:=by rw [zai,List.length_map,hDl]; omega
   have hnf:=fun x=>znc hg hFm hXm x
   rw [← hF'] at hnf
   generalize hO : outL g S (d + 1) = O at *
   refine zaC rfl ?_
   simp
   refine zsb (i:=16) [80,72] (by simp) rfl (e':=⟨1,zai X,0⟩) (by simp [fcd]) hdel (by simp) ?_ (.rs _ _ _) (by
    intro e he
    simp at he
    subst he
    exact zlx) ?_
   ·have hle2 : N ≤ O.length:=by simpa using hle
    have htk2 : List.take N (List.map (fun x=>[AV.I x]) O) = List.map (fun x=>[AV.I x]) O:=htk
    simp [fcd,hle2,htk2]
   simp [fcd]
   refine ⟨F',⟨by omega,hnf⟩,?_⟩
   rw [zjn,hO]
   exact Le.dn N 80 72 80 72 [16] rfl rfl (by simp) (by simp) (by decide) (by decide) (by simp) rfl rfl (by simp [fcd]) (by simp [fcd,zaD])
  rintro F' ⟨k1,k2⟩
  have hwd : IntKind.i64.wrap ((d : Int) + 1) = ((d + 1 : Nat) : Int):=by rw [w64 (by omega) (by omega)]; omega
  refine zaC rfl ?_
  simp [hwd]
  exact ⟨d + 1,F',⟨by omega,k1,k2⟩,by omega,Le.dn N 80 72 80 72 [] rfl rfl (by simp) (by simp) (by decide) (by decide) (by simp) rfl rfl (by simp [fcd]) (by simp)⟩
 simp only [decide_eq_false_iff_not] at h
 have hnil : F = []:=List.eq_nil_of_length_eq_zero (by omega)
 have hstop : ∀ k,Key g k → dl g S d k ≠ d:=by
  intro k hk he
  have:=(hFm k).2 ⟨hk,he⟩
  rw [hnil] at this
  simp at this
 have hout : outL g S d = zce g S:=by
  unfold outL zce
  refine List.map_congr_left fun i hi=>?_
  simp at hi
  have hkey : Key g i:=⟨by omega,by omega⟩
  rw [zld hg hstop i hkey]
  have hr:=zba (g:=g) (S:=S) d i
  have:=hstop i hkey
  rw [zld hg hstop i hkey] at this hr
  split <;> omega
 rw [hout]
 refine zaa ?_
 refine zac (s:=?z9) rfl ?p9 ?r9
 case p9=>simp; rfl
 refine zag ?_
 rw [← hN]
 exact ⟨.inr rfl,zao.out [72] [] rfl (by simp) (by simp) (by simp) (by simp [fcd])⟩
end Go.Proofs.Ytfdbhehkkobfgaa
