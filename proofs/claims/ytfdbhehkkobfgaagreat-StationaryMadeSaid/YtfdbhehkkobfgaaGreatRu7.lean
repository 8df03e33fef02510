/- Texts of this claim,merged. -/
import Derived.Test.YtfdbhehkkobfgaaGreatRu6
import Derived.Shelf.Sort.Plain
import Derived.Test.YtfdbhehkkobfgaaGreatProg
import Derived.Shelf.Slices.In.SortNone
import Derived.Test.YtfdbhehkkobfgaaGreatRu5
import Derived.KernelRfl
set_option linter.unusedSimpArgs false
set_option linter.unusedVariables false
set_option linter.unusedSectionVars false
namespace Go.Proofs.YtfdbhehkkobfgaaGreat
open Go
def sumF (φ : Ed → Int → Int) : List Ed → List Int → Int
 | e :: A,v :: f=>φ e v + sumF φ A f
 | _,_=>0
def outF (A : List Ed) (f : List Int) (x : Int) : Int:=sumF (fun e v=>if e.f = x then v else 0) A f
def inF (A : List Ed) (f : List Int) (x : Int) : Int:=sumF (fun e v=>if e.t = x then v else 0) A f
structure zdP (N : Nat) (A : List Ed) : Prop where
 two : 2 ≤ N
 arc : ∀ e ∈ A,0 ≤ e.f ∧ e.f < N ∧ 0 ≤ e.t ∧ e.t < N ∧ e.f ≠ e.t ∧ e.t ≠ 0 ∧ e.f ≠ 1 ∧ 0 ≤ e.v
def Fit2 : List Ed → List Int → Prop
 | e :: A,v :: f=>(0 ≤ v ∧ v ≤ e.v) ∧ Fit2 A f
 | [],[]=>True
 | _,_=>False
structure zaY (N : Nat) (A : List Ed) (f : List Int) : Prop where
 fit : Fit2 A f
 bal : ∀ x : Nat,2 ≤ x → x < N → outF A f x = inF A f x
def valF (A : List Ed) (f : List Int) : Int:=outF A f 0
theorem Fit2.len : ∀ {A : List Ed} {f : List Int},Fit2 A f → f.length = A.length
 | [],[],_=>rfl
 | _ :: _,_ :: _,h=>by simp [h.2.len]
 | [],_ :: _,h=>h.elim
 | _ :: _,[],h=>h.elim
theorem znr (φ ψ : Ed → Int → Int) : ∀ (A : List Ed) (f : List Int),sumF (fun e v=>φ e v + ψ e v) A f = sumF φ A f + sumF ψ A f
 | [],_=>by simp [sumF]
 | _ :: _,[]=>by simp [sumF]
 | e :: A,v :: f=>by
   simp only [sumF]
   rw [znr φ ψ A f]
   omega
theorem zjX (φ ψ : Ed → Int → Int) : ∀ (A : List Ed) (f : List Int),sumF (fun e v=>φ e v - ψ e v) A f = sumF φ A f - sumF ψ A f
 | [],_=>by simp [sumF]
 | _ :: _,[]=>by simp [sumF]
 | e :: A,v :: f=>by
   simp only [sumF]
   rw [zjX φ ψ A f]
   omega
theorem zcB {φ ψ : Ed → Int → Int} : ∀ {A : List Ed} {f : List Int},(∀ e ∈ A,∀ v,φ e v = ψ e v) → sumF φ A f = sumF ψ A f
 | [],_,_=>by simp [sumF]
 | _ :: _,[],_=>by simp [sumF]
 | e :: A,v :: f,h=>by
   simp only [sumF]
   rw [h e List.mem_cons_self v,zcB fun x hx=>h x (List.mem_cons_of_mem _ hx)]
theorem zeJ : ∀ {A : List Ed} {f : List Int},sumF (fun _ _=>0) A f = 0
 | [],_=>by simp [sumF]
 | _ :: _,[]=>by simp [sumF]
 | e :: A,v :: f=>by simp [sumF,zeJ (A:=A) (f:=f)]
theorem zlZ {φ ψ : Ed → Int → Int} : ∀ {A : List Ed} {f : List Int},Fit2 A f → (∀ e ∈ A,∀ v,0 ≤ v → v ≤ e.v → φ e v ≤ ψ e v) → sumF φ A f ≤ sumF ψ A f
 | [],[],_,_=>by simp [sumF]
 | [],_ :: _,h,_=>h.elim
 | _ :: _,[],h,_=>h.elim
 | e :: A,v :: f,h,hh=>by
   simp only [sumF]
   have h1:=hh e List.mem_cons_self v h.1.1 h.1.2
   have h2:=zlZ h.2 fun x hx=>hh x (List.mem_cons_of_mem _ hx)
   omega
def zcP (S : Int → Bool) (g : Int → Int) : Nat → Int
 | 0=>0
 | n + 1=>zcP S g n + if S n then g n else 0
theorem zh3 (S : Int → Bool) (g h : Int → Int) : ∀ n,zcP S (fun x=>g x - h x) n = zcP S g n - zcP S h n
 | 0=>rfl
 | n + 1=>by
   simp only [zcP]
   rw [zh3 S g h n]
   split <;> omega
theorem zfs (S : Int → Bool) (A : List Ed) (f : List Int) (π : Ed → Int) : ∀ n : Nat,(∀ e ∈ A,0 ≤ π e) → zcP S (fun x=>sumF (fun e v=>if π e = x then v else 0) A f) n = sumF (fun e v=>if π e < n ∧ S (π e) = true then v else 0) A f
 | 0,h=>by
   rw [zcB (ψ:=fun _ _=>0) fun e he v=>if_neg fun h2=>by have:=h e he; omega,zeJ]
   rfl
 | n + 1,h=>by
   have ih:=zfs S A f π n h
   simp only [zcP]
   rw [ih]
   by_cases hs : S n = true
   ·rw [if_pos hs,← znr]
    refine zcB fun e he v=>?_
    have h0:=h e he
    by_cases h1 : π e = n
    ·have h2 : ¬ (π e < (n : Int) ∧ S (π e) = true):=by omega
     have h3 : π e < ((n + 1 : Nat) : Int) ∧ S (π e) = true:=⟨by omega,by rw [h1]; exact hs⟩
     rw [if_neg h2,if_pos h1,if_pos h3,Int.zero_add]
    ·rw [if_neg h1,Int.add_zero]
     by_cases h2 : π e < (n : Int) ∧ S (π e) = true
     ·rw [if_pos h2,if_pos ⟨by omega,h2.2⟩]
     ·rw [if_neg h2,if_neg fun h3=>h2 ⟨by omega,h3.2⟩]
   ·rw [if_neg hs,Int.add_zero]
    refine zcB fun e he v=>?_
    have h0:=h e he
    by_cases h2 : π e < (n : Int) ∧ S (π e) = true
    ·rw [if_pos h2,if_pos ⟨by omega,h2.2⟩]
    ·rw [if_neg h2,if_neg fun h3=>h2 ⟨?_,h3.2⟩]
     have h4 : π e ≠ n:=fun h5=>hs (h5 ▸ h3.2)
     omega
def outS (S : Int → Bool) (A : List Ed) (f : List Int) : Int:=sumF (fun e v=>if S e.f = true ∧ S e.t = false then v else 0) A f
def inS (S : Int → Bool) (A : List Ed) (f : List Int) : Int:=sumF (fun e v=>if S e.f = false ∧ S e.t = true then v else 0) A f
def capS (S : Int → Bool) (A : List Ed) : Int:=sumF (fun e _=>if S e.f = true ∧ S e.t = false then e.v else 0) A (A.map fun _=>0)
theorem zht (S : Int → Bool) (g : Int → Int) (N : Nat) (h0 : S 0 = true) (h1 : S 1 = false) (hg : ∀ x : Nat,2 ≤ x → x < N → g x = 0) : ∀ n,n ≤ N → 1 ≤ n → zcP S g n = g 0
 | 0,_,h=>by omega
 | 1,_,_=>by simp [zcP,h0]
 | n + 2,h,_=>by
   have ih:=zht S g N h0 h1 hg (n + 1) (by omega) (by omega)
   simp only [zcP] at ih ⊢
   rw [ih]
   cases n with
   | zero=>simp [h1]
   | succ n =>
     have:=hg (n + 1 + 1) (by omega) (by omega)
     split <;> omega
theorem zjS {N : Nat} {A : List Ed} {f : List Int} (hn : zdP N A) (hf : zaY N A f) {S : Int → Bool} (h0 : S 0 = true) (h1 : S 1 = false) : valF A f = outS S A f - inS S A f:=by
 have e1:=zht S (fun x=>outF A f x - inF A f x) N h0 h1 (fun x h2 h3=>by have:=hf.bal x h2 h3; omega) N (Nat.le_refl _) (by have:=hn.two; omega)
 have e2 : inF A f 0 = 0:=by
  unfold inF
  rw [zcB (ψ:=fun _ _=>0) fun e he v=>if_neg (hn.arc e he).2.2.2.2.2.1,zeJ]
 rw [zh3] at e1
 have e3:=zfs S A f (·.f) N fun e he=>(hn.arc e he).1
 have e4:=zfs S A f (·.t) N fun e he=>(hn.arc e he).2.2.1
 have e5 : zcP S (outF A f) N = _:=e3
 have e6 : zcP S (inF A f) N = _:=e4
 rw [e5,e6,← zjX] at e1
 unfold valF outS inS
 rw [← zjX]
 have e7 : outF A f 0 = outF A f 0 - inF A f 0:=by omega
 rw [e7,← e1]
 refine zcB fun e he v=>?_
 obtain ⟨q1,q2,q3,q4,_⟩:=hn.arc e he
 cases hf1 : S e.f <;> cases ht1 : S e.t <;> simp [q2,q4]
theorem zlJ {A : List Ed} {f : List Int} (hf : Fit2 A f) (S : Int → Bool) : outS S A f ≤ capS S A:=by
 have key : ∀ {A : List Ed} {f : List Int},Fit2 A f → sumF (fun e _=>if S e.f = true ∧ S e.t = false then e.v else 0) A (A.map fun _=>0) = sumF (fun e _=>if S e.f = true ∧ S e.t = false then e.v else 0) A f:=by
  intro A
  induction A with
  | nil=>intro f _; simp [sumF]
  | cons e A ih =>
    intro f h
    cases f with
    | nil=>exact h.elim
    | cons v f=>simp only [sumF,List.map_cons]; rw [ih h.2]
 unfold outS capS
 rw [key hf]
 exact zlZ hf fun e _ v h1 h2=>by split <;> omega
theorem zf6 {A : List Ed} {f : List Int} (hf : Fit2 A f) (S : Int → Bool) : 0 ≤ inS S A f:=by
 have : sumF (fun _ _=>0) A f ≤ inS S A f:=zlZ hf fun e _ v h1 h2=>by split <;> omega
 rw [zeJ] at this
 exact this
theorem ze0 {N : Nat} {A : List Ed} {f : List Int} (hn : zdP N A) (hf : zaY N A f) {S : Int → Bool} (h0 : S 0 = true) (h1 : S 1 = false) : valF A f ≤ capS S A:=by
 rw [zjS hn hf h0 h1]
 have:=zlJ hf.fit S
 have:=zf6 hf.fit S
 omega
def arcD (A : List Ed) (i : Nat) : Ed:=A.getD i ⟨0,0,0⟩
theorem zjs {A : List Ed} {i : Nat} (h : i < A.length) : arcD A i ∈ A:=by
 unfold arcD
 rw [List.getD_eq_getElem?_getD,List.getElem?_eq_getElem h]
 exact List.getElem_mem h
abbrev Stp:=Nat × Bool
def stF (A : List Ed) (s : Stp) : Int:=if s.2 then (arcD A s.1).t else (arcD A s.1).f
def stT (A : List Ed) (s : Stp) : Int:=if s.2 then (arcD A s.1).f else (arcD A s.1).t
def zdM (A : List Ed) (f : List Int) (s : Stp) : Int:=if s.2 then f.getD s.1 0 else (arcD A s.1).v - f.getD s.1 0
def zg4 (δ : Int) (f : List Int) (s : Stp) : List Int:=f.set s.1 (f.getD s.1 0 + if s.2 then -δ else δ)
def zgb (δ : Int) (f : List Int) (l : List Stp) : List Int:=l.foldl (zg4 δ) f
theorem zjh (φ : Ed → Int → Int) : ∀ (A : List Ed) (f : List Int) (i : Nat) (v : Int),i < A.length → f.length = A.length → sumF φ A (f.set i v) = sumF φ A f + (φ (arcD A i) v - φ (arcD A i) (f.getD i 0))
 | [],_,_,_,h,_=>by simp at h
 | _ :: _,[],_,_,_,h=>by simp at h
 | e :: A,w :: f,0,v,_,_=>by
   simp only [List.set_cons_zero,sumF]
   have h1 : arcD (e :: A) 0 = e:=rfl
   have h2 : (w :: f).getD 0 0 = w:=rfl
   rw [h1,h2]
   omega
 | e :: A,w :: f,i + 1,v,h,hl=>by
   simp only [List.set_cons_succ,sumF]
   have h1 : arcD (e :: A) (i + 1) = arcD A i:=by simp [arcD]
   have h2 : (w :: f).getD (i + 1) 0 = f.getD i 0:=by simp
   rw [zjh φ A f i v (by simpa using h) (by simpa using hl),h1,h2]
   omega
def exF (A : List Ed) (f : List Int) (x : Int) : Int:=outF A f x - inF A f x
theorem zhQ {δ : Int} {f : List Int} {s : Stp} : (zg4 δ f s).length = f.length:=List.length_set ..
theorem zfO {δ : Int} : ∀ {l : List Stp} {f : List Int},(zgb δ f l).length = f.length
 | [],_=>rfl
 | s :: l,f=>by
   show (zgb δ (zg4 δ f s) l).length = _
   rw [zfO,zhQ]
theorem znl {A : List Ed} {f : List Int} {δ : Int} {s : Stp} (hs : s.1 < A.length) (hl : f.length = A.length) (x : Int) :
  exF A (zg4 δ f s) x = exF A f x + (if stF A s = x then δ else 0) - if stT A s = x then δ else 0:=by
 unfold exF outF inF zg4
 rw [zjh _ A f s.1 _ hs hl,zjh _ A f s.1 _ hs hl]
 unfold stF stT
 generalize arcD A s.1 = e
 generalize f.getD s.1 0 = v
 generalize sumF _ A f = p
 generalize sumF _ A f = q
 obtain ⟨i,b⟩:=s
 cases b
 ·simp only [Bool.false_eq_true,if_false]
  by_cases h1 : e.f = x <;> by_cases h2 : e.t = x <;> simp only [h1,h2,if_true,if_false] <;> omega
 ·simp only [if_true]
  by_cases h1 : e.f = x <;> by_cases h2 : e.t = x <;> simp only [h1,h2,if_true,if_false] <;> omega
def WayS (A : List Ed) : Int → List Stp → Int → Prop
 | u,[],w=>u = w
 | u,s :: l,w=>s.1 < A.length ∧ stF A s = u ∧ WayS A (stT A s) l w
theorem zmW {A : List Ed} {δ : Int} (x w : Int) : ∀ {l : List Stp} {f : List Int} {u : Int},f.length = A.length → WayS A u l w → exF A (zgb δ f l) x = exF A f x + (if u = x then δ else 0) - if w = x then δ else 0
 | [],f,u,_,h=>by
   have h' : u = w:=h
   subst h'
   show exF A f x = _
   omega
 | s :: l,f,u,hl,h=>by
   obtain ⟨h1,h2,h3⟩:=h
   show exF A (zgb δ (zg4 δ f s) l) x = _
   rw [zmW x w (by rw [zhQ,hl]) h3,znl h1 hl x,h2]
   omega
theorem zjV {A : List Ed} {f : List Int} : Fit2 A f ↔ f.length = A.length ∧ ∀ i,i < A.length → 0 ≤ f.getD i 0 ∧ f.getD i 0 ≤ (arcD A i).v:=by
 induction A generalizing f with
 | nil =>
   cases f with
   | nil=>simp [Fit2]
   | cons v f=>simp [Fit2]
 | cons e A ih =>
   cases f with
   | nil=>simp [Fit2]
   | cons v f =>
     show (0 ≤ v ∧ v ≤ e.v) ∧ Fit2 A f ↔ _
     rw [ih]
     constructor
     ·rintro ⟨h1,h2,h3⟩
      refine ⟨by simp [h2],fun i hi=>?_⟩
      cases i with
      | zero=>exact h1
      | succ i =>
        have:=h3 i (by simpa using hi)
        simpa [arcD] using this
     ·rintro ⟨h1,h2⟩
      refine ⟨h2 0 (by simp),by simpa using h1,fun i hi=>?_⟩
      have:=h2 (i + 1) (by simpa using hi)
      simpa [arcD] using this
theorem zfR {δ : Int} : ∀ {l : List Stp} {f : List Int} {i : Nat},(l.map (·.1)).Nodup → (∀ s ∈ l,s.1 < f.length) →
  (i ∉ l.map (·.1) → (zgb δ f l).getD i 0 = f.getD i 0) ∧ ∀ b,(i,b) ∈ l → (zgb δ f l).getD i 0 = f.getD i 0 + if b then -δ else δ
 | [],f,i,_,_=>⟨fun _=>rfl,fun b hb=>by simp at hb⟩
 | s :: l,f,i,hn,hr=>by
   rw [List.map_cons,List.nodup_cons] at hn
   have ih:=zfR (δ:=δ) (l:=l) (f:=zg4 δ f s) (i:=i) hn.2 fun x hx=>by rw [zhQ]; exact hr x (List.mem_cons_of_mem _ hx)
   have hs:=hr s (List.mem_cons_self ..)
   have hget : ∀ j,(zg4 δ f s).getD j 0 = if s.1 = j then f.getD j 0 + (if s.2 then -δ else δ) else f.getD j 0:=fun j=>by
    unfold zg4
    by_cases hj : s.1 = j
    ·subst hj
     rw [if_pos rfl,List.getD_eq_getElem?_getD,List.getElem?_set_self hs,Option.getD_some]
    ·rw [if_neg hj,List.getD_eq_getElem?_getD,List.getElem?_set_ne hj,List.getD_eq_getElem?_getD]
   refine ⟨fun hi=>?_,fun b hb=>?_⟩
   ·rw [List.map_cons,List.mem_cons,not_or] at hi
    show (zgb δ (zg4 δ f s) l).getD i 0 = _
    rw [ih.1 hi.2,hget,if_neg fun e=>hi.1 e.symm]
   ·show (zgb δ (zg4 δ f s) l).getD i 0 = _
    rcases List.mem_cons.1 hb with hb | hb
    ·subst hb
     rw [ih.1 hn.1,hget,if_pos rfl]
    ·have hne : s.1 ≠ i:=fun e=>hn.1 (e ▸ List.mem_map.2 ⟨_,hb,rfl⟩)
     rw [ih.2 b hb,hget,if_neg hne]
theorem zpY {A : List Ed} {f : List Int} {δ : Int} {l : List Stp} (hf : Fit2 A f) (h0 : 0 ≤ δ) (hn : (l.map (·.1)).Nodup) (hr : ∀ s ∈ l,s.1 < A.length ∧ δ ≤ zdM A f s) : Fit2 A (zgb δ f l):=by
 rw [zjV] at hf ⊢
 refine ⟨by rw [zfO,hf.1],fun i hi=>?_⟩
 have hg:=zfR (δ:=δ) (f:=f) (i:=i) hn fun s hs=>by rw [hf.1]; exact (hr s hs).1
 have hfi:=hf.2 i hi
 by_cases hm : i ∈ l.map (·.1)
 ·obtain ⟨⟨j,b⟩,hs,rfl⟩:=List.mem_map.1 hm
  have h1:=hg.2 b hs
  have h2:=(hr _ hs).2
  simp only at h1 h2 hfi ⊢
  rw [h1]
  unfold zdM at h2
  cases b
  ·simp only [Bool.false_eq_true,if_false] at h2 ⊢
   omega
  ·simp only [if_true] at h2 ⊢
   omega
 ·rw [hg.1 hm]
  exact hfi
theorem zkW {N : Nat} {A : List Ed} (hn : zdP N A) (f : List Int) : inF A f 0 = 0:=by
 unfold inF
 rw [zcB (ψ:=fun _ _=>0) fun e he v=>if_neg (hn.arc e he).2.2.2.2.2.1,zeJ]
theorem zr9 {N : Nat} {A : List Ed} {f : List Int} {δ : Int} {l : List Stp} (hn : zdP N A) (hf : zaY N A f) (h0 : 0 ≤ δ) (hw : WayS A 0 l 1) (hd : (l.map (·.1)).Nodup) (hr : ∀ s ∈ l,s.1 < A.length ∧ δ ≤ zdM A f s) :
  zaY N A (zgb δ f l) ∧ valF A (zgb δ f l) = valF A f + δ:=by
 have hl:=hf.fit.len
 have hx:=fun x=>zmW (A:=A) (δ:=δ) x 1 (l:=l) (f:=f) hl hw
 refine ⟨⟨zpY hf.fit h0 hd hr,fun x h2 hN=>?_⟩,?_⟩
 ·have h3:=hx x
  have h4:=hf.bal x h2 hN
  rw [if_neg (by omega),if_neg (by omega)] at h3
  unfold exF at h3
  omega
 ·have h3:=hx 0
  rw [if_pos rfl,if_neg (by omega)] at h3
  unfold exF at h3
  rw [zkW hn,zkW hn] at h3
  unfold valF
  omega
theorem znO {N : Nat} {A : List Ed} {f : List Int} (hn : zdP N A) (hf : zaY N A f) {S : Int → Bool} (h0 : S 0 = true) (h1 : S 1 = false)
  (hc : ∀ s : Stp,s.1 < A.length → S (stF A s) = true → 0 < zdM A f s → S (stT A s) = true) : valF A f = capS S A:=by
 rw [zjS hn hf h0 h1]
 have key : ∀ {A : List Ed} {f : List Int},Fit2 A f → (∀ s : Stp,s.1 < A.length → S (stF A s) = true → 0 < zdM A f s → S (stT A s) = true) → outS S A f = capS S A ∧ inS S A f = 0:=by
  intro A
  induction A with
  | nil=>intro f _ _; simp [outS,inS,capS,sumF]
  | cons e A ih =>
    intro f hf hc
    cases f with
    | nil=>exact hf.elim
    | cons v f =>
      have h2:=ih hf.2 fun s hs hsf hr=>by
       have:=hc (s.1 + 1,s.2) (by simpa using hs) (by simpa [stF,arcD] using hsf) (by simpa [zdM,arcD] using hr)
       simpa [stT,arcD] using this
      have ha:=hc (0,false) (by simp)
      have hb:=hc (0,true) (by simp)
      simp [stF,stT,zdM,arcD] at ha hb
      have hv:=hf.1
      unfold outS inS capS at h2 ⊢
      simp only [sumF,List.map_cons]
      obtain ⟨p1,p2⟩:=h2
      rw [p1,p2]
      cases hF : S e.f <;> cases hT : S e.t <;> simp [hF,hT] at ha hb ⊢ <;> omega
 obtain ⟨p1,p2⟩:=key hf.fit hc
 rw [p1,p2]
 omega
theorem WayS.snoc {A : List Ed} : ∀ {l : List Stp} {u w : Int} {s : Stp},WayS A u l w → s.1 < A.length → stF A s = w → WayS A u (l ++ [s]) (stT A s)
 | [],u,w,s,h,h1,h2=>⟨h1,by rw [h2]; exact (show u = w from h).symm,rfl⟩
 | t :: l,u,w,s,h,h1,h2=>⟨h.1,h.2.1,WayS.snoc h.2.2 h1 h2⟩
structure zqW (A : List Ed) (f : List Int) (D : List Int) (by_ : Int → Stp) : Prop where
 zero : D.head? = some 0
 nodup : D.Nodup
 step : ∀ j (h : j < D.length),0 < j → (by_ D[j]).1 < A.length ∧ stT A (by_ D[j]) = D[j] ∧ stF A (by_ D[j]) ∈ D.take j ∧ 0 < zdM A f (by_ D[j])
theorem zlV {A : List Ed} {s t : Stp} (h : s.1 = t.1) : (stF A s = stF A t ∧ stT A s = stT A t) ∨ (stF A s = stT A t ∧ stT A s = stF A t):=by
 obtain ⟨i,b⟩:=s
 obtain ⟨j,c⟩:=t
 simp only at h
 subst h
 unfold stF stT
 cases b <;> cases c <;> simp
theorem zqW.way {A : List Ed} {f D : List Int} {by_ : Int → Stp} (h : zqW A f D by_) : ∀ (n j : Nat) (hj : j < D.length),j ≤ n →
  ∃ l,WayS A 0 l D[j] ∧ (l.map (·.1)).Nodup ∧ ∀ s ∈ l,s.1 < A.length ∧ 0 < zdM A f s ∧ by_ (stT A s) = s ∧ stT A s ≠ 0 ∧ stF A s ∈ D.take (j + 1) ∧ stT A s ∈ D.take (j + 1)
 | n,0,hj,_=>by
   refine ⟨[],?_,by simp,by simp⟩
   show (0 : Int) = D[0]
   have h0:=h.zero
   rw [List.head?_eq_getElem?,List.getElem?_eq_getElem hj] at h0
   exact (Option.some.inj h0).symm
 | 0,j + 1,_,hn=>by omega
 | n + 1,j + 1,hj,hn=>by
   obtain ⟨h1,h2,h3,h4⟩:=h.step (j + 1) hj (by omega)
   obtain ⟨i,hi,hiF⟩:=List.mem_iff_getElem.1 h3
   rw [List.length_take] at hi
   rw [List.getElem_take] at hiF
   have hij : i < j + 1:=by omega
   obtain ⟨l,w1,w2,w3⟩:=h.way n i (by omega) (by omega)
   have hne : ∀ (k m : Nat) (hk : k < D.length) (hm : m < D.length),k ≠ m → D[k] ≠ D[m]:=fun k m hk hm hkm he=>by
    rcases Nat.lt_or_ge k m with hlt | hge
    ·exact List.pairwise_iff_getElem.1 h.nodup k m hk hm hlt he
    ·exact List.pairwise_iff_getElem.1 h.nodup m k hm hk (by omega) he.symm
   have hnot : D[j + 1] ∉ D.take (i + 1):=fun hm=>by
    obtain ⟨k,hk,hkD⟩:=List.mem_iff_getElem.1 hm
    rw [List.length_take] at hk
    rw [List.getElem_take] at hkD
    exact hne k (j + 1) (by omega) hj (by omega) hkD
   have hup : ∀ x,x ∈ D.take (i + 1) → x ∈ D.take (j + 1 + 1):=fun x hx=>(List.take_sublist_take_left (by omega : i + 1 ≤ j + 1 + 1)).subset hx
   have h0 : D[j + 1] ≠ 0:=fun he=>by
    have hz:=h.zero
    rw [List.head?_eq_getElem?,List.getElem?_eq_getElem (by omega)] at hz
    exact hne 0 (j + 1) (by omega) hj (by omega) ((Option.some.inj hz).trans he.symm)
   refine ⟨l ++ [by_ D[j + 1]],?_,?_,fun s hs=>?_⟩
   ·have:=WayS.snoc (s:=by_ D[j + 1]) w1 h1 hiF.symm
    rw [h2] at this
    exact this
   ·rw [List.map_append,List.nodup_append]
    refine ⟨w2,by simp,fun a ha b hb=>?_⟩
    obtain ⟨t,ht,rfl⟩:=List.mem_map.1 ha
    simp only [List.map_cons,List.map_nil,List.mem_singleton] at hb
    subst hb
    intro he
    obtain ⟨_,_,_,_,q1,q2⟩:=w3 t ht
    rcases zlV (A:=A) he with ⟨e1,e2⟩ | ⟨e1,e2⟩
    ·rw [e2,h2] at q2
     exact hnot q2
    ·rw [e1,h2] at q1
     exact hnot q1
   ·rcases List.mem_append.1 hs with hs | hs
    ·obtain ⟨p1,p2,p3,p4,p5,p6⟩:=w3 s hs
     exact ⟨p1,p2,p3,p4,hup _ p5,hup _ p6⟩
    ·rw [List.mem_singleton] at hs
     subst hs
     refine ⟨h1,h4,by rw [h2],by rw [h2]; exact h0,?_,?_⟩
     ·exact (List.take_sublist_take_left (by omega : j + 1 ≤ j + 1 + 1)).subset h3
     ·rw [h2]
      refine List.mem_iff_getElem.2 ⟨j + 1,by rw [List.length_take]; omega,by rw [List.getElem_take]⟩
def zh7 (A : List Ed) (f D : List Int) : Prop:=∀ s : Stp,s.1 < A.length → stF A s ∈ D → 0 < zdM A f s → stT A s ∈ D
theorem zqn {N : Nat} {A : List Ed} {f D : List Int} (hn : zdP N A) (hf : zaY N A f) (h0 : (0 : Int) ∈ D) (h1 : (1 : Int) ∉ D) (hc : zh7 A f D) : valF A f = capS (fun x=>decide (x ∈ D)) A ∧ ∀ f',zaY N A f' → valF A f' ≤ valF A f:=by
 have e:=znO (S:=fun x=>decide (x ∈ D)) hn hf (by simpa using h0) (by simpa using h1) fun s hs hF hr=>by
  have:=hc s hs (by simpa using hF) hr
  simpa using this
 refine ⟨e,fun f' hf'=>?_⟩
 rw [e]
 exact ze0 hn hf' (by simpa using h0) (by simpa using h1)
theorem zoa {N : Nat} {A : List Ed} {f D : List Int} {by_ : Int → Stp} (hn : zdP N A) (hf : zaY N A f) (ht : zqW A f D by_) {S : Int → Bool} (h0 : S 0 = true) (h1 : S 1 = false) (hS : capS S A = valF A f) : ∀ x ∈ D,S x = true:=by
 have hv:=zjS hn hf h0 h1
 have ho:=zlJ hf.fit S
 have hi:=zf6 hf.fit S
 have ho2 : outS S A f = capS S A:=by omega
 have hi2 : inS S A f = 0:=by omega
 have key : ∀ {A : List Ed} {f : List Int},Fit2 A f → outS S A f = capS S A → inS S A f = 0 → ∀ s : Stp,s.1 < A.length → S (stF A s) = true → 0 < zdM A f s → S (stT A s) = true:=by
  intro A
  induction A with
  | nil=>intro f _ _ _ s hs; simp at hs
  | cons e A ih =>
    intro f hf ho hi s hs hF hr
    cases f with
    | nil=>exact hf.elim
    | cons v f =>
      have k1:=zlJ hf.2 S
      have k2:=zf6 hf.2 S
      have hv:=hf.1
      have e1 : outS S (e :: A) (v :: f) = (if S e.f = true ∧ S e.t = false then v else 0) + outS S A f:=rfl
      have e2 : inS S (e :: A) (v :: f) = (if S e.f = false ∧ S e.t = true then v else 0) + inS S A f:=rfl
      have e3 : capS S (e :: A) = (if S e.f = true ∧ S e.t = false then e.v else 0) + capS S A:=rfl
      rw [e1,e3] at ho
      rw [e2] at hi
      obtain ⟨i,b⟩:=s
      cases i with
      | zero =>
        cases b
        ·simp [stF,stT,zdM,arcD] at hF hr ⊢
         cases hT : S e.t
         ·simp [hF,hT] at ho
          omega
         ·rfl
        ·simp [stF,stT,zdM,arcD] at hF hr ⊢
         cases hT : S e.f
         ·simp [hF,hT] at hi
          omega
         ·rfl
      | succ i =>
        have q1 : outS S A f = capS S A:=by
         split at ho <;> omega
        have q2 : inS S A f = 0:=by
         split at hi <;> omega
        have:=ih hf.2 q1 q2 (i,b) (by simpa using hs) (by simpa [stF,arcD] using hF) (by simpa [zdM,arcD] using hr)
        simpa [stT,arcD] using this
 have hcl:=key hf.fit ho2 hi2
 have hind : ∀ (n j : Nat) (hj : j < D.length),j ≤ n → S D[j] = true:=by
  intro n
  induction n with
  | zero =>
    intro j hj hn
    have hj0 : j = 0:=by omega
    subst hj0
    have hz:=ht.zero
    rw [List.head?_eq_getElem?,List.getElem?_eq_getElem hj] at hz
    rw [Option.some.inj hz]
    exact h0
  | succ n ih =>
    intro j hj hn
    rcases Nat.eq_zero_or_pos j with hj0 | hj0
    ·exact ih j hj (by omega)
    ·obtain ⟨q1,q2,q3,q4⟩:=ht.step j hj hj0
     obtain ⟨i,hi,hiF⟩:=List.mem_iff_getElem.1 q3
     rw [List.length_take] at hi
     rw [List.getElem_take] at hiF
     have:=hcl _ q1 (by rw [← hiF]; exact ih i (by omega) (by omega)) q4
     rw [q2] at this
     exact this
 intro x hx
 obtain ⟨j,hj,rfl⟩:=List.mem_iff_getElem.1 hx
 exact hind j j hj (Nat.le_refl _)
theorem zaI {α β : Type} (f : α → β) (l : List α) : List.take l.length (List.map f l) = List.map f l:=List.take_of_length_le (by simp)
def zcR : Gr:=⟨0,[],[]⟩
def zii (g : Gr) (e : Ed) : Gr:=⟨g.size,g.edges.take (idxE g.edges ⟨e.f,e.t,0⟩) ++ e :: g.edges.drop (idxE g.edges ⟨e.f,e.t,0⟩),g.gone⟩
open Classical in
noncomputable def zcm (g : Gr) (e : Ed) : Gr × Int :=
 if ¬ GrOk g then (zcR,14) else if ¬ Fits g e then (zcR,4) else if ¬ (1 ≤ e.v ∧ e.v ≤ 3) then (zcR,2)
 else if AtE g.edges (idxE g.edges ⟨e.f,e.t,0⟩) e.f e.t then (zcR,19) else if g.edges.length = 500 then (zcR,3) else (zii g e,0)
open Classical in
theorem zfW (g : Gr) (e : Ed) (hl : g.edges.length * 24 ≤ 140737488355328) (hl2 : g.gone.length * 8 ≤ 140737488355328) : zaj Tryz.prog zdU [eG g,eE e] [] (.tup [eG (zcm g e).1,.I (zcm g e).2]) []:=by
 refine zlW.acalls (nbz rfl) (nbz rfl) (Nat.le_refl _) ?_
 show awp _ 0 _ _ ⟨103,[(0,eG g),(1,eE e)],[],16⟩
 refine zab ⟨103,[(2,.pv (gC g)),(3,.pv (eC e)),(4,.pt 32 0 0)],[(32,some ⟨3,[[.I 0,.nilS,.nilS]],0⟩)],40⟩ rfl ?_ ?_
 ·simp
  exact Le.var1 32 [16,24] rfl rfl (nbz rfl) (by decide) rfl (by simp) (by simp) (by simp)
 refine zaa ?_
 refine zaa ?_
 refine zac (s:=?s1) rfl ?o1 ?q1
 case o1=>simp; refine zal (ze9 g (by omega) (by omega)) rfl ?_; simp; rfl
 refine zad _ rfl (fun h2=>?_) fun h2=>?_
 ·have hg : ¬ GrOk g:=by
   intro hg
   simp [hg] at h2
  refine zaa ?_
  refine zac (s:=?s3) rfl ?o3 ?q3
  case o3=>simp; rfl
  refine zag ?_
  refine ⟨.inr rfl,?_⟩
  show zam [(4,some (true,3)),(5,none)] 0 _ _ _
  refine zam.out (vs:=[.agg [.I 0,.nilS,.nilS],.I 14]) [] [] (by simp) (by simp) (by simp) ?_ (by simp)
  have hr : zcm g e = (zcR,14):=by grind [zcm]
  simp [hr,zcR]
  exact wkT2 (wkA3 (.refl _) (.nil _ _) (.nil _ _)) (.refl _)
 have hg : GrOk g:=by
  rcases Classical.em (GrOk g) with h | h
  ·exact h
  ·simp [h] at h2
 refine zae ?_
 refine zaa ?_
 refine zac (s:=?s4) rfl ?o4 ?q4
 case o4=>simp; refine zal (zio g _ _ (by omega)) rfl ?_; simp; rfl
 refine zaa ?_
 refine zaf ?_
 refine zab ⟨103,[(2,.pv (gC g)),(3,.pv (eC e)),(4,.pt 32 0 0),(6,.I (idxE g.edges ⟨e.f,e.t,0⟩)),(7,.B (decide (AtE g.edges (idxE g.edges ⟨e.f,e.t,0⟩) e.f e.t))),(22,.B (decide (¬ Fits g e)))],[(32,some ⟨3,[[.I 0,.nilS,.nilS]],0⟩)],40⟩ rfl ?_ ?_
 ·simp
  repeat' first
   | (refine zdw zaZ rfl ?_; refine zal (zkT _ _ (by omega)) rfl ?_; simp)
   | (refine zd3 (fun hb=>?_) (fun hb=>?_) <;> (try rw [hb]) <;> (try simp at hb) <;> simp [*])
  all_goals exact Le.var1 32 [] rfl rfl (nbz rfl) (by decide) rfl (by simp) (by simp) (by simp <;> exact wkB (by (try simp at *); grind [Fits]))
 refine zad _ rfl (fun h5=>?_) fun h5=>?_
 ·try simp at h5
  refine zaa ?_
  refine zac (s:=?s6) rfl ?o6 ?q6
  case o6=>simp; rfl
  refine zag ?_
  refine ⟨.inr rfl,?_⟩
  show zam [(4,some (true,3)),(5,none)] 0 _ _ _
  refine zam.out (vs:=[.agg [.I 0,.nilS,.nilS],.I 4]) [] [] (by simp) (by simp) (by simp) ?_ (by simp)
  have hr : zcm g e = (zcR,4):=by grind [zcm]
  simp [hr,zcR]
  exact wkT2 (wkA3 (.refl _) (.nil _ _) (.nil _ _)) (.refl _)
 try simp at h5
 refine zab ⟨103,[(2,.pv (gC g)),(3,.pv (eC e)),(4,.pt 32 0 0),(6,.I (idxE g.edges ⟨e.f,e.t,0⟩)),(7,.B (decide (AtE g.edges (idxE g.edges ⟨e.f,e.t,0⟩) e.f e.t))),(67,.B (decide (¬ (1 ≤ e.v ∧ e.v ≤ 3))))],[(32,some ⟨3,[[.I 0,.nilS,.nilS]],0⟩)],40⟩ rfl ?_ ?_
 ·simp
  repeat' first
   | (refine zd3 (fun hb=>?_) (fun hb=>?_) <;> (try rw [hb]) <;> (try simp at hb) <;> simp [*])
  all_goals exact Le.var1 32 [] rfl rfl (nbz rfl) (by decide) rfl (by simp) (by simp) (by simp <;> exact wkB (by (try simp at *); grind [Fits]))
 refine zad _ rfl (fun h7=>?_) fun h7=>?_
 ·try simp at h7
  refine zaa ?_
  refine zac (s:=?s8) rfl ?o8 ?q8
  case o8=>simp; rfl
  refine zag ?_
  refine ⟨.inr rfl,?_⟩
  show zam [(4,some (true,3)),(5,none)] 0 _ _ _
  refine zam.out (vs:=[.agg [.I 0,.nilS,.nilS],.I 2]) [] [] (by simp) (by simp) (by simp) ?_ (by simp)
  have hr : zcm g e = (zcR,2):=by grind [zcm]
  simp [hr,zcR]
  exact wkT2 (wkA3 (.refl _) (.nil _ _) (.nil _ _)) (.refl _)
 try simp at h7
 refine zaa ?_
 refine zac (s:=?s9) rfl ?o9 ?q9
 case o9=>simp; rfl
 refine zad _ rfl (fun h10=>?_) fun h10=>?_
 ·try simp at h10
  refine zaa ?_
  refine zac (s:=?s11) rfl ?o11 ?q11
  case o11=>simp; rfl
  refine zag ?_
  refine ⟨.inr rfl,?_⟩
  show zam [(4,some (true,3)),(5,none)] 0 _ _ _
  refine zam.out (vs:=[.agg [.I 0,.nilS,.nilS],.I 19]) [] [] (by simp) (by simp) (by simp) ?_ (by simp)
  have hr : zcm g e = (zcR,19):=by grind [zcm]
  simp [hr,zcR]
  exact wkT2 (wkA3 (.refl _) (.nil _ _) (.nil _ _)) (.refl _)
 try simp at h10
 refine zaa ?_
 refine zac (s:=?s12) rfl ?o12 ?q12
 case o12=>simp; rfl
 refine zad _ rfl (fun h13=>?_) fun h13=>?_
 ·try simp at h13
  refine zaa ?_
  refine zac (s:=?s14) rfl ?o14 ?q14
  case o14=>simp; rfl
  refine zag ?_
  refine ⟨.inr rfl,?_⟩
  show zam [(4,some (true,3)),(5,none)] 0 _ _ _
  refine zam.out (vs:=[.agg [.I 0,.nilS,.nilS],.I 3]) [] [] (by simp) (by simp) (by simp) ?_ (by simp)
  have hr : zcm g e = (zcR,3):=by grind [zcm]
  simp [hr,zcR]
  exact wkT2 (wkA3 (.refl _) (.nil _ _) (.nil _ _)) (.refl _)
 try simp at h13
 refine zae ?_
 have hle:=zor g.edges ⟨e.f,e.t,0⟩
 refine zaa ?_
 refine zac (s:=?s20) rfl ?o20 ?q20
 case o20=>simp; refine zoY (zfy g hl hl2) rfl ?_; simp [fcd]; rfl
 have h500 : g.edges.length ≤ 500:=hg.1.2.2.1
 have hmin : min (idxE g.edges ⟨e.f,e.t,0⟩) g.edges.length = idxE g.edges ⟨e.f,e.t,0⟩:=Nat.min_eq_left hle
 have hr : zcm g e = (zii g e,0):=by grind [zcm]
 rw [hr]
 unfold zii
 generalize idxE g.edges ⟨e.f,e.t,0⟩ = k at *
 have htk : List.take (k + 1) (List.take k (List.map (fun e : Ed=>[AV.I e.f,AV.I e.t,AV.I e.v]) g.edges) ++ [[AV.I e.f,AV.I e.t,AV.I e.v]]) = List.take k (List.map (fun e : Ed=>[AV.I e.f,AV.I e.t,AV.I e.v]) g.edges) ++ [[AV.I e.f,AV.I e.t,AV.I e.v]]:=List.take_of_length_le (by simp; exact Nat.min_le_left _ _)
 obtain ⟨E,hE⟩ : ∃ E,E = g.edges.take k ++ e :: g.edges.drop k:=⟨_,rfl⟩
 have hEl : k + 1 + (g.edges.length - k) = E.length:=by subst hE; simp; omega
 have hrows : List.take k (List.map (fun e : Ed=>[AV.I e.f,AV.I e.t,AV.I e.v]) g.edges) ++ [AV.I e.f,AV.I e.t,AV.I e.v] :: List.drop k (List.map (fun e : Ed=>[AV.I e.f,AV.I e.t,AV.I e.v]) g.edges) = E.map fun e : Ed=>[AV.I e.f,AV.I e.t,AV.I e.v]:=by subst hE; simp [List.map_take,List.map_drop]
 rw [← hE]
 refine zaa ?_
 refine zcU (s:=?s15) (tr:=?t15) rfl ?o15 ?r15 ?q15
 case o15 =>
  simp [hmin,hle,htk,hEl,hrows]
  repeat' apply And.intro
  all_goals first | omega | rfl
 case r15=>rfl
 refine zaa ?_
 refine zac (s:=?s16) rfl ?o16 ?q16
 case o16=>simp; rfl
 refine zag ?_
 refine ⟨.inr rfl,?_⟩
 show zam [(4,some (true,3)),(5,none)] 0 _ _ _
 refine zam.out (vs:=[.agg [.I g.size,.rs 224 0 E.length,.rs 105 0 g.gone.length],.I 0]) [] [224,105] (by simp) (by simp) (by simp) ?_ (by simp)
 simp [fcd,zaI]
end Go.Proofs.YtfdbhehkkobfgaaGreat
namespace Go.Proofs
open Go.Shelf
def Tryz.lays189_ren : Go.Shelf.Ren:=⟨fun | 189=>142 | 125=>125 | 257=>177 | 128=>163 | 129=>164 | 294=>198 | 295=>199 | 296=>200 | 297=>201 | 298=>202 | 299=>203 | 216=>204 | 300=>205 | 301=>206 | 328=>214 | 329=>190 | 330=>191 | 331=>215 | 332=>216 | 215=>126 | 343=>227 | n=>n,fun | 28=>22 | 3=>3 | 46=>118 | 0=>0 | 51=>179 | 53=>149 | 4=>4 | 183=>173 | 182=>172 | 131=>85 | 5=>5 | 9=>9 | 218=>202 | 222=>206 | 228=>218 | 229=>190 | n=>n,fun | n=>n⟩
theorem Tryz.lays189 : Go.Proofs.Lays.n189 Tryz.prog Tryz.lays189_ren:={
 mixed:=by kernel_rfl
 f125:=Tryz.func125.trans (congrArg some (by kernel_rfl))
 f128:=Tryz.func163.trans (congrArg some (by kernel_rfl))
 f129:=Tryz.func164.trans (congrArg some (by kernel_rfl))
 f189:=Tryz.func142.trans (congrArg some (by kernel_rfl))
 f215:=Tryz.func126.trans (congrArg some (by kernel_rfl))
 f216:=Tryz.func204.trans (congrArg some (by kernel_rfl))
 f257:=Tryz.func177.trans (congrArg some (by kernel_rfl))
 f294:=Tryz.func198.trans (congrArg some (by kernel_rfl))
 f295:=Tryz.func199.trans (congrArg some (by kernel_rfl))
 f296:=Tryz.func200.trans (congrArg some (by kernel_rfl))
 f297:=Tryz.func201.trans (congrArg some (by kernel_rfl))
 f298:=Tryz.func202.trans (congrArg some (by kernel_rfl))
 f299:=Tryz.func203.trans (congrArg some (by kernel_rfl))
 f300:=Tryz.func205.trans (congrArg some (by kernel_rfl))
 f301:=Tryz.func206.trans (congrArg some (by kernel_rfl))
 f328:=Tryz.func214.trans (congrArg some (by kernel_rfl))
 f329:=Tryz.func190.trans (congrArg some (by kernel_rfl))
 f330:=Tryz.func191.trans (congrArg some (by kernel_rfl))
 f331:=Tryz.func215.trans (congrArg some (by kernel_rfl))
 f332:=Tryz.func216.trans (congrArg some (by kernel_rfl))
 f343:=Tryz.func227.trans (congrArg some (by kernel_rfl))
 t0:=Tryz.underlying0
 a0:=Tryz.isAgg0
 z0:=Tryz.sizeOf0
 v0:=Tryz.zeroValue0
 t3:=Tryz.underlying3
 a3:=Tryz.isAgg3
 z3:=Tryz.sizeOf3
 v3:=Tryz.zeroValue3
 t4:=Tryz.underlying4
 a4:=Tryz.isAgg4
 z4:=Tryz.sizeOf4
 v4:=Tryz.zeroValue4
 t5:=Tryz.underlying5
 a5:=Tryz.isAgg5
 z5:=Tryz.sizeOf5
 v5:=Tryz.zeroValue5
 t9:=Tryz.underlying9
 a9:=Tryz.isAgg9
 z9:=Tryz.sizeOf9
 v9:=Tryz.zeroValue9
 t28:=Tryz.underlying22
 a28:=Tryz.isAgg22
 z28:=Tryz.sizeOf22
 v28:=Tryz.zeroValue22
 t46:=Tryz.underlying118
 a46:=Tryz.isAgg118
 z46:=Tryz.sizeOf118
 v46:=Tryz.zeroValue118
 t51:=Tryz.underlying179
 a51:=Tryz.isAgg179
 z51:=Tryz.sizeOf179
 v51:=Tryz.zeroValue179
 t53:=Tryz.underlying149
 a53:=Tryz.isAgg149
 z53:=Tryz.sizeOf149
 v53:=Tryz.zeroValue149
 t131:=Tryz.underlying85
 a131:=Tryz.isAgg85
 z131:=Tryz.sizeOf85
 v131:=Tryz.zeroValue85
 t182:=Tryz.underlying172
 a182:=Tryz.isAgg172
 z182:=Tryz.sizeOf172
 v182:=Tryz.zeroValue172
 t183:=Tryz.underlying173
 a183:=Tryz.isAgg173
 z183:=Tryz.sizeOf173
 v183:=Tryz.zeroValue173
 t218:=Tryz.underlying202
 a218:=Tryz.isAgg202
 z218:=Tryz.sizeOf202
 v218:=Tryz.zeroValue202
 t222:=Tryz.underlying206
 a222:=Tryz.isAgg206
 z222:=Tryz.sizeOf206
 v222:=Tryz.zeroValue206
 t228:=Tryz.underlying218
 a228:=Tryz.isAgg218
 z228:=Tryz.sizeOf218
 v228:=Tryz.zeroValue218
 t229:=Tryz.underlying190
 a229:=Tryz.isAgg190
 z229:=Tryz.sizeOf190
 v229:=Tryz.zeroValue190 }
end Go.Proofs
namespace Go.Proofs.YtfdbhehkkobfgaaGreat
open Go
def zdi (l : List Int) : List (List AV):=l.map fun n=>[AV.I n]
theorem Src.body {P : Program} {f : FuncId} {af : AFun} (s : Src P f af) : ∃ fn c,P.funcs[f]? = some fn ∧ fn.body = some c ∧ fn.name ≠ "runtime.NumGoroutine":=by
 obtain ⟨_,fn,hf,hc,hn⟩:=s
 unfold zpF at hc
 cases hb : fn.body with
 | none=>rw [hb] at hc; cases hc
 | some c=>exact ⟨fn,c,hf,hb,hn⟩
theorem zoy (zs : List Int) (h0 : zs ≠ []) (hl : zs.length < 4611686018427387904) :
  zaj Tryz.prog zaT [.rs 0 0 zs.length] [{ s:=1,rows:=zdi zs }] (.tup []) ([{ s:=1,rows:=zdi (zs.mergeSort fun x y=>decide (x ≤ y)) }].map some):=by
 refine ⟨zcH.body,by simp,fun T M w vs htok hhs hdom hrep=>?_⟩
 have hpos : 0 < zs.length:=List.length_pos_iff.2 h0
 obtain ⟨hsz,hr⟩:=hrep
 have hr0:=hr 0 (by simp)
 simp only [List.getD_cons_zero] at hr0
 have hvs : vs = #[vs.getD 0 undef]:=by
  apply Array.ext
  ·simpa using hsz
  ·intro i h1 h2
   have : i = 0:=by simp at h2; omega
   subst this
   simp [Array.getD,h1]
 rw [hvs]
 generalize vs.getD 0 undef = v at hr0
 cases hr0 with
 | rs _ _ _ _ cap a g hg hgz hlc hn hb =>
 obtain ⟨g',hg',ent⟩:=hhs.ent 0 _ rfl
 rw [hg] at hg'
 obtain rfl:=Option.some.inj hg'
 have hrl : (zdi zs).length = zs.length:=by simp [zdi]
 cases hblk : g.blk with
 | none =>
   have:=ent.none hblk
   simp [zdi] at this
   exact absurd this h0
 | some b =>
 obtain ⟨hcap,c0,t0,f0,hc0,hle0⟩:=hb b hblk
 obtain ⟨cells,ty,hw,htb,hlen,hrows⟩:=ent.blk (Nat.succ_ne_zero 0) b hblk
 have ha : a = some ⟨b,g.base + 0 * g.s,none⟩:=by
  rcases hcap with h | h
  ·omega
  ·exact h
 subst ha
 simp only [Nat.zero_mul,Nat.add_zero] at *
 have hcell : ∀ i,(hi : i < zs.length) → cells[g.base + i]? = some (.int .i64 zs[i]):=by
  intro i hi
  obtain ⟨u,hu,_,hru⟩:=hrows i 0 (by rw [hrl]; exact hi) (by decide)
  simp only [Nat.mul_one,Nat.add_zero] at hu
  rw [hu]
  have : ((zdi zs).getD i []).getD 0 .dead = .I zs[i]:=by simp [zdi,List.getD,hi]
  rw [this] at hru
  cases hru
  rfl
 have hb' : b < w.heap.size:=(Array.getElem?_eq_some_iff.1 hw).1
 refine (Any.slices_Sort_int Tryz.lays189 b g.base cap zs w ?_ hb' hl).mono ?_
 ·intro j hj
  have hj' : j < zs.length:=by simpa using hj
  constructor
  ·show w.cell? _ = _
   unfold World.cell?
   simp only [hw]
   rw [hcell j hj']
   simp [hj']
  ·unfold World.frozen?
   simp only [hw]
   simp
 ·rintro e w' ⟨rfl,n,os,rfl⟩
  have hsl : (zs.mergeSort fun x y=>decide (x ≤ y)).length = zs.length:=List.length_mergeSort zs
  generalize (zs.mergeSort fun x y=>decide (x ≤ y)) = ys at hsl
  have hh : ∀ b',b' < w.heap.size → (Go.Sort.grow (Go.Sort.putRow (Value.int .i64) (Go.Sort.ahead w n) b g.base ys.toArray) os).heap[b']? = if b' = b then some (.cells (Go.Sort.putCells (Value.int .i64) g.base ys.toArray cells) ty (0,0)) else w.heap[b']?:=by
   intro b' hb1
   have hsz' : (w.heap.modify b (Go.Sort.onCells (Go.Sort.putCells (Value.int .i64) g.base ys.toArray))).size = w.heap.size:=Array.size_modify
   show ((w.heap.modify b (Go.Sort.onCells (Go.Sort.putCells (Value.int .i64) g.base ys.toArray))) ++ os)[b']? = _
   rw [Array.getElem?_append_left (by rw [hsz']; exact hb1),Array.getElem?_modify]
   by_cases hbb : b = b'
   ·subst hbb
    rw [if_pos rfl,if_pos rfl,hw]
    rfl
   ·rw [if_neg hbb,if_neg (Ne.symm hbb)]
  have hput : ∀ o,(o < g.base ∨ g.base + ys.length ≤ o) → (Go.Sort.putCells (Value.int .i64) g.base ys.toArray cells)[o]? = cells[o]?:=by
   intro o ho
   unfold Go.Sort.putCells
   rw [Array.getElem?_mapIdx]
   cases hc : cells[o]? with
   | none=>rfl
   | some u =>
     simp only [Option.map_some]
     rw [if_neg]
     simp
     omega
  have hput2 : ∀ i,(hi : i < ys.length) → (Go.Sort.putCells (Value.int .i64) g.base ys.toArray cells)[g.base + i]? = some (.int .i64 ys[i]):=by
   intro i hi
   unfold Go.Sort.putCells
   rw [Array.getElem?_mapIdx,hcell i (by omega)]
   simp only [Option.map_some]
   rw [if_pos (by simp; omega)]
   simp [hi]
  have hcs : (Go.Sort.putCells (Value.int .i64) g.base ys.toArray cells).size = cells.size:=by
   unfold Go.Sort.putCells
   exact Array.size_mapIdx
  have hbig : w.heap.size ≤ (Go.Sort.grow (Go.Sort.putRow (Value.int .i64) (Go.Sort.ahead w n) b g.base ys.toArray) os).heap.size:=by
   show w.heap.size ≤ ((w.heap.modify b _) ++ os).size
   rw [Array.size_append,Array.size_modify]
   omega
  have htb' : T b ≤ g.base:=by simpa using htb
  generalize hw' : (Go.Sort.grow (Go.Sort.putRow (Value.int .i64) (Go.Sort.ahead w n) b g.base ys.toArray) os) = w' at hh hbig
  have hlt : ∀ b' o,w.heap[b']? = some o → b' < w.heap.size:=fun b' o h=>(Array.getElem?_eq_some_iff.1 h).1
  have hpr : Pres T w T w':=by
   refine ⟨fun _=>Nat.le_refl _,fun b' cs' ty' fz' h=>?_⟩
   rw [hh b' (hlt _ _ h)]
   by_cases hbb : b' = b
   ·subst hbb
    rw [hw] at h
    cases h
    exact ⟨_,_,if_pos rfl,hcs,fun o ho=>hput o (.inl (by omega))⟩
   ·exact ⟨cs',fz',by rw [if_neg hbb]; exact h,rfl,fun _ _=>rfl⟩
  rw [zgC]
  refine ⟨_,T,M,rfl,.tup M [] #[] rfl (fun i hi=>by simp at hi),⟨fun id e he=>?_,fun id id' e e' g1 g2 b' h1 h2 h3 h4 h5 h6=>?_⟩,⟨fun b' hb1=>?_,fun _ _ _=>rfl,fun _ _=>rfl,?_,?_,?_,hbig,fun b' hb1 hb2=>?_,hpr,fun k g1 b' hk hg1 _=>?_⟩⟩
  ·have hid : id = 0:=by
    cases id with
    | zero=>rfl
    | succ k=>simp [hpOf] at he
   subst hid
   simp only [hpOf,List.getElem?_cons_zero,Option.some.injEq] at he
   subst he
   refine ⟨g,hg,⟨ent.s,Nat.zero_le _,fun _ row hr=>?_,fun hn=>(by rw [hblk] at hn; cases hn),fun hz=>absurd hz (Nat.succ_ne_zero 0),fun _ b' hb1=>?_⟩⟩
   ·simp [zdi] at hr
    obtain ⟨x,_,rfl⟩:=hr
    rfl
   ·rw [hblk] at hb1
    obtain rfl:=Option.some.inj hb1
    refine ⟨_,ty,by rw [hh _ hb',if_pos rfl],by simpa using htb',by simp [zdi,hcs,hsl]; simpa [zdi] using hlen,fun i j hi hj=>?_⟩
    have hi' : i < ys.length:=by simpa [zdi] using hi
    have hj' : j = 0:=by simp at hj; omega
    subst hj'
    refine ⟨.int .i64 ys[i],by simpa using hput2 i hi',rfl,?_⟩
    have : ((zdi ys).getD i []).getD 0 .dead = .I ys[i]:=by simp [zdi,List.getD,hi']
    rw [this]
    exact .sc _ _ rfl
  ·have h0 : ∀ id e,hpOf [({ s:=1,rows:=zdi ys } : Ent)] id = some e → id = 0:=by
    intro id e he
    cases id with
    | zero=>rfl
    | succ k=>simp [hpOf] at he
   rw [h0 _ _ h1,h0 _ _ h2]
  ·obtain ⟨c1,ty1,fz1,h1,h2⟩:=htok b' hb1
   obtain ⟨c2,fz2,h3,h4,_⟩:=hpr.cell b' c1 ty1 fz1 h1
   exact ⟨c2,ty1,fz2,h3,by omega⟩
  ·rw [← hw']; rfl
  ·rw [← hw']; rfl
  ·rw [← hw']; rfl
  ·rw [hh b' hb1,if_neg]
   intro hbb
   exact hb2 ⟨0,g,by simp,hg,by rw [hblk,hbb]⟩
  ·rw [hdom k hk] at hg1
   cases hg1
theorem zgc.refl {n : Nat} {T : Nat → Nat} {M : GM} {w : World} (htok : TOk T w) (hdom : ∀ k,n ≤ k → M k = none) : zgc n T M w T M w :=
 ⟨htok,fun _ _ _=>rfl,fun _ _=>rfl,rfl,rfl,rfl,Nat.le_refl _,fun _ _ _=>rfl,⟨fun _=>Nat.le_refl _,fun _ cells _ fz h=>⟨cells,fz,h,rfl,fun _ _=>rfl⟩⟩,fun k g b hk h=>by rw [hdom k hk] at h; cases h⟩
theorem arr1 {vs : Array Value} (h : vs.size = 1) : vs = #[vs.getD 0 undef]:=by
 apply Array.ext
 ·simpa using h
 ·intro i h1 h2
  have : i = 0:=by simp at h2; omega
  subst this
  simp [Array.getD,h1]
theorem zoJ (zs : List Int) (hl : zs.length < 4611686018427387904) :
  zaj Tryz.prog zaT [.rs 0 0 zs.length] [{ s:=1,rows:=zdi zs }] (.tup []) ([{ s:=1,rows:=zdi (zs.mergeSort fun x y=>decide (x ≤ y)) }].map some):=by
 by_cases h0 : zs = []
 ·subst h0
  refine ⟨zcH.body,by simp,fun T M w vs htok hhs hdom hrep=>?_⟩
  obtain ⟨hsz,hr⟩:=hrep
  have hr0:=hr 0 (by simp)
  simp only [List.getD_cons_zero] at hr0
  rw [arr1 hsz]
  generalize vs.getD 0 undef = v at hr0
  cases hr0 with
  | rs _ _ _ _ cap a g hg hgz hlc hn hb =>
  refine (Any.slices_Sort_int_none Tryz.lays189 a cap w).mono ?_
  rintro e w' ⟨rfl,rfl⟩
  exact ⟨_,T,M,rfl,.tup M [] #[] rfl (fun i hi=>by simp at hi),by rw [zgC]; simpa using hhs,zgc.refl htok hdom⟩
 ·exact zoy zs h0 hl
def outs (l : List Ed) (key : Int) : List Int:=l.filterMap fun e=>if e.f = key then some e.t else none
theorem zkq (l : List Ed) (key : Int) (k : Nat) (h : k < l.length) : outs (l.take (k + 1)) key = outs (l.take k) key ++ if l[k].f = key then [l[k].t] else []:=by
 unfold outs
 rw [← List.take_concat_get h,List.concat_eq_append,List.filterMap_append]
 congr 1
 by_cases hc : l[k].f = key <;> simp [hc]
theorem zlB (l : List Ed) (key : Int) : (outs l key).length ≤ l.length:=List.length_filterMap_le _ _
theorem zj9 (g : Gr) (key : Int) (hl : g.edges.length ≤ 1099511627776) : zaj Tryz.prog zgp [eG g,.I key] [] (.rs 0 0 (outs g.edges key).length) [some ⟨1,((outs g.edges key).mergeSort fun x y=>decide (x ≤ y)).map fun n=>[AV.I n],0⟩]:=by
 refine znL.acalls (nbz rfl) (nbz rfl) (Nat.zero_le _) ?_
 show awp _ 0 _ _ ⟨28,[(0,eG g),(1,.I key)],[],16⟩
 refine zaa ?_
 refine zac (s:=?s0) rfl ?o0 ?q0
 case o0=>simp; rfl
 refine zaa ?_
 refine zac (s:=?s1) rfl ?o1 ?q1
 case o1=>simp; rfl
 refine zaa ?_
 refine zaa ?_
 refine zac (s:=?s2) rfl ?o2 ?q2
 case o2=>simp; rfl
 refine zaf ?_
 refine zan (ι:=Nat) (fun k=>⟨28,[(1,.I key),(5,.rs 16 0 (outs (g.edges.take k) key).length),(9,eEs g.edges),(10,.I g.edges.length),(11,.I k)],[(16,some ⟨1,(outs (g.edges.take k) key).map fun n=>[AV.I n],0⟩)],24⟩) (fun k=>k ≤ g.edges.length) (fun k=>g.edges.length - k) (0) ?_ (Le.lst [] [] [(16,1)] rfl (by simp) (by simp) (by simp) (by simp) (by simp) (by simp) (by simp) (by simp [Up,outs]) (by simp [outs])) ?_
 ·simp
 rintro k hk
 have hol : (outs (g.edges.take k) key).length ≤ k:=Nat.le_trans (zlB _ _) (by simp; exact Nat.min_le_left _ _)
 refine zaa ?_
 refine zac (s:=?s3) rfl ?o3 ?q3
 case o3=>simp; rfl
 refine zaa ?_
 refine zad _ rfl (fun h4=>?_) fun h4=>?_
 ·try simp at h4
  have hw2 : IntKind.i64.wrap ((k : Int) + 1) = (k : Int) + 1:=w64 (by omega) (by omega)
  have hwp : 0 < k → IntKind.i64.wrap ((k : Int) - 1) = ((k - 1 : Nat) : Int):=fun h=>by rw [w64 (by omega) (by omega)]; omega
  have hkp : k - 1 < g.edges.length:=by omega
  refine zae ?_
  refine zaa ?_
  refine zaf ?_
  refine zab ⟨28,[(1,.I key),(5,.rs 16 0 (outs (g.edges.take k) key).length),(7,.pv (eC g.edges[k])),(9,eEs g.edges),(10,.I g.edges.length),(11,.I k)],[(16,some ⟨1,(outs (g.edges.take k) key).map fun n=>[AV.I n],0⟩)],24⟩ rfl ?_ ?_
  ·simp [h4,hw2,hwp,hkp]
   exact Le.var1 16 [48] rfl rfl (nbz rfl) (by decide) rfl (by simp [fcd]) (by simp) (by simp [h4,hw2,hwp,hkp])
  refine zaa ?_
  refine zac (s:=?s5) rfl ?o5 ?q5
  case o5=>simp [h4,hw2,hwp,hkp]; rfl
  refine zad _ rfl (fun h6=>?_) fun h6=>?_
  ·try simp at h6
   refine zac (s:=?s7) rfl ?o7 ?q7
   case o7 =>
    simp [h4,hw2,hwp,hkp,List.replicate]
    refine ⟨by omega,by omega,?_⟩
    rfl
   refine zac (s:=?s8) rfl ?o8 ?q8
   case o8=>simp [h4,hw2,hwp,hkp]; rfl
   have hs:=zkq g.edges key k h4
   rw [if_pos h6] at hs
   refine ⟨k + 1,h4,by omega,Le.ren1 88 16 [] rfl rfl (nbz rfl) (by decide) rfl (by simp [hs,fcd,zaI]) (by simp) (by simp [hs,hw2])⟩
  try simp at h6
  refine zae ?_
  refine zac (s:=?s9) rfl ?o9 ?q9
  case o9=>simp [h4,hw2,hwp,hkp]; rfl
  have hs:=zkq g.edges key k h4
  rw [if_neg h6,List.append_nil] at hs
  refine ⟨k + 1,h4,by omega,Le.var1 16 [] rfl rfl (nbz rfl) (by decide) rfl (by simp [hs,fcd,zaI]) (by simp) (by simp [hs,hw2])⟩
 try simp at h4
 have hkl : k = g.edges.length:=by omega
 subst hkl
 have hol2:=zlB g.edges key
 refine zak ?_
 refine hit ?_
 refine zaa ?_
 refine zac (s:=?s10) rfl ?o10 ?q10
 case o10 =>
  simp
  refine zbw (i:=16) rfl (e':=⟨1,zdi (outs g.edges key),0⟩) (by simp [zdi,fcd]) (zoJ (outs g.edges key) (by omega)) (by simp) (by simp) ?_
  simp [zdi,fcd]
  rfl
 refine zaa ?_
 refine zac (s:=?s11) rfl ?o11 ?q11
 case o11=>simp; rfl
 refine zag ?_
 exact ⟨.inr rfl,zam.out [16] [] rfl (by simp) (by simp) (by simp) (by simp [fcd])⟩
@[simp] theorem zui {ρ : List (Nat × Nat)} {sn : List Nat} {h : Nat → Option Ent} {n : Nat} {f : Fn} {a b : List AV} : conv ρ sn h (n + 1) (.fn f a b) = .fn f (a.map (conv ρ sn h n)) (b.map (conv ρ sn h n)):=(rfl)
set_option maxRecDepth 100000
def zeK : AFun:=⟨107,[(6,none)],
 (sr [oo 6 .mv [.c (.bool false)]]
 (.seq (.seq
 (rg [ma 15 0,ca 16 zdR [.t 15],oo 17 (.un .not) [.t 16],ma 18 17,mh 19 1 18,oh 20 .len [.t 19] 18,oh 21 (.bin .gtr) [.t 20,ki 70] 18,oo 22 .pick [.t 18,.c (.bool true),.t 21]])
 (.cond (.t 22)
 (sr [ca 23 zcc [],ma 6 23]
 .ret)
 .skip))
 (sr [ma 24 0,ca 25 ze4 [.t 24],ma 7 25]
 (sr [ma 26 7,ca 27 zbv [.t 26],oo 8 (.alloc [v0,vn,vn]) [],ou (.st 3) [.t 8,.t 27]]
 (sr [ma 28 7,oo 29 (.ld true 3) [.t 8],ca 30 zcv [.t 28,.t 29],oo 9 (.alloc [vn,vn,v0]) [],ou (.st 3) [.t 9,.t 30]]
 (sr [ma 31 7,ca 32 zau [.t 31,ki 5],oo 33 (.bin .add) [ki 1,.t 32],ma 10 33]
 (sr [oo 35 (.ld true 3) [.t 8],oo 36 (.ld true 3) [.t 9],ma 37 10,ca 38 zaX [.t 35,.t 36,.t 37],ma 34 38,oo 39 (.ext 0) [.t 34],oo 40 (.ext 1) [.t 34],ma 11 39,ma 12 40]
 (sr [ma 41 11,oo 42 (.app 1 8) [kn,.t 41],ma 11 42]
 (.seq (.seq
 (rg [ma 43 11,oo 44 .len [.t 43],oo 45 (.bin .gtr) [.t 44,ki 0]])
 (.cond (.t 45)
 (.reg true [ma 46 11,ma 47 2,ma 48 11,oo 49 .len [.t 48],ca 50 zeP [.t 47,.t 49],oo 51 (.iad 1) [.t 46,.t 50],la 52 51,ma 53 7,ca 54 zau [.t 53,ki 3],oo 55 (.bin .sub) [.t 54,ki 1],oo 56 (.bin .add) [.t 52,.t 55],oo 57 (.iad 1) [.t 46,.t 50],ou (.st 1) [.t 57,.t 56]] [[],[],[],[2],[1,3],[0,4],[5],[],[7,4],[8],[6,9],[0,4,0,1,2,3,4,5,6,7,8,9,10],[11,10,8,0,1,2,3,4,5,6,7,8,9,10]])
 .skip))
 (sr [oo 58 (.build [v0,vn,vn] [(0,1)]) [ki 12],oo 13 (.alloc [v0,vn,vn]) [],ou (.st 3) [.t 13,.t 58]]
 (.seq (.seq
 (rg [oo 14 .mv [ki 1]])
 (.block 0 (.loop
 (.seq (.seq
 (rg [ma 59 14,ma 60 7,ca 61 zau [.t 60,ki 3],oo 62 (.bin .add) [ki 9,.t 61],oo 63 (.bin .lss) [.t 59,.t 62]])
 (.cond (.t 63)
 .skip
 (.exit 0)))
 (.seq (.block 1 (rg [oo 67 (.ld true 3) [.t 13],ma 68 14,oo 69 (.build [v0,v0,v0] [(0,1),(1,1),(2,1)]) [ki 0,.t 68,ki 3],ca 70 zdU [.t 67,.t 69],ma 66 70,oo 71 (.ext 0) [.t 66],oo 72 (.ext 1) [.t 66],ou (.st 3) [.t 13,.t 71]]))
 (rg [ma 64 14,oo 65 (.bin .add) [.t 64,ki 1],ma 14 65]))))))
 (.seq (.reg true [ca 73 zcc [],ma 74 73,og 75 (.ld true 3) [.t 8] 74,og 76 (.ld true 3) [.t 9] 74,mg 77 10 74,mg 78 1 74,og 79 .call [.f zbc,.t 75,.t 76,.t 77,.t 78] 74,oo 80 .pick [.t 74,.t 79,.c (.bool false)],ma 81 80,og 82 (.ld true 3) [.t 8] 81,og 83 (.ld true 3) [.t 9] 81,mg 84 10 81,mg 85 11 81,og 86 .call [.f zbc,.t 82,.t 83,.t 84,.t 85] 81,oo 87 .pick [.t 81,.t 86,.c (.bool false)],ma 88 87,og 89 (.ld true 3) [.t 8] 88,og 90 (.ld true 3) [.t 9] 88,mg 91 7 88,mg 92 2 88,og 93 (.bsl 1 3 [v0] [0,1,2]) [ki 0,ki 6,.t 92] 88,og 94 .call [.f zbP,.t 91,.t 93] 88,mg 95 1 88,og 96 .call [.f zbc,.t 89,.t 90,.t 94,.t 95] 88,oo 97 .pick [.t 88,.t 96,.c (.bool false)],ma 98 97,og 99 (.ld true 3) [.t 13] 98,og 100 (.bsl 1 1 [v0] [0]) [ki 0] 98,og 101 (.bsl 1 1 [v0] [0]) [ki 2] 98,og 102 (.build [vn,vn,v0] [(0,1),(1,1),(2,1)]) [.t 100,.t 101,ki 1] 98,mg 103 10 98,mg 104 1 98,og 105 .call [.f zbc,.t 99,.t 102,.t 103,.t 104] 98,oo 106 .pick [.t 98,.t 105,.c (.bool false)],ma 6 106] [[],[0,0],[1],[1],[1],[1],[2,3,4,5,1,1],[1,6],[7,6],[8],[8],[8],[8],[9,10,11,12,8,8],[8,13],[14,13],[15],[15],[15],[15],[19,15],[18,20,15,15],[15],[16,17,21,22,21,15],[15,23],[24,23],[25],[25],[25],[27,28,25],[25],[25],[26,29,30,31,25,25],[25,32],[33,32,0,1,2,3,4,5,6,7,8,9,10,11,12,13,14,15,16,17,18,19,20,21,22,23,24,25,26,27,28,29,30,31,32,33]])
 .ret))))))))))))⟩
def zea : AFun:=⟨44,[(6,none)],
 (sr [oo 4 (.box 3) [.t 1],oo 6 .mv [.c (.bool false)]]
 (.seq (.seq
 (rg [ma 9 0,ca 10 zdR [.t 9],oo 11 (.un .not) [.t 10],ma 12 11,fh 13 0 4 12,lh 14 13 12,oh 15 .len [.t 14] 12,oh 16 (.bin .gtr) [.t 15,ki 70] 12,oo 17 .pick [.t 12,.c (.bool true),.t 16],ma 18 17,fh 19 1 4 18,lh 20 19 18,oh 21 .len [.t 20] 18,oh 22 (.bin .gtr) [.t 21,ki 20] 18,oo 23 .pick [.t 18,.c (.bool true),.t 22]])
 (.cond (.t 23)
 (sr [ca 24 zcc [],ma 6 24]
 .ret)
 .skip))
 (sr [ma 25 0,ca 26 ze4 [.t 25],ma 7 26]
 (sr [ma 27 7,ca 28 zbv [.t 27],oo 8 (.alloc [v0,vn,vn]) [],ou (.st 3) [.t 8,.t 28]]
 (.seq (.reg true [ca 29 zcc [],ma 30 29,og 31 (.ld true 3) [.t 8] 30,og 32 (.ld true 3) [.t 4] 30,mg 33 2 30,og 34 .call [.f zbc,.t 31,.t 32,.t 33,kn] 30,oo 35 .pick [.t 30,.t 34,.c (.bool false)],ma 36 35,og 37 (.ld true 3) [.t 8] 36,og 38 (.ld true 3) [.t 4] 36,mg 39 2 36,og 40 .call [.f zeP,.t 39,ki 5] 36,og 41 (.bin .add) [ki 1,.t 40] 36,og 42 .call [.f zbc,.t 37,.t 38,.t 41,kn] 36,oo 43 .pick [.t 36,.t 42,.c (.bool false)],ma 6 43] [[],[0,0],[1],[1],[1],[2,3,4,1,1],[1,5],[6,5],[7],[7],[7],[10,7,7],[11,7],[8,9,12,11,7],[7,13],[14,13,0,1,2,3,4,5,6,7,8,9,10,11,12,13,14]])
 .ret)))))⟩
def zkJ : AFun:=⟨55,[(0,none)],
 (sr [oo 0 .mv [.c (.bool false)]]
 (sr [oo 5 (.build [v0,v0,v0] [(0,1),(1,1),(2,1)]) [ki 0,ki 1,ki 1],oo 6 (.bsl 3 1 [v0,v0,v0] [0]) [.t 5],oo 7 (.build [v0,vn,vn] [(0,1),(1,1)]) [ki 2,.t 6],oo 1 (.alloc [v0,vn,vn]) [],ou (.st 3) [.t 1,.t 7]]
 (sr [oo 8 (.bsl 1 1 [v0] [0]) [ki 0],oo 9 (.bsl 1 1 [v0] [0]) [ki 2],oo 10 (.build [vn,vn,v0] [(0,1),(1,1),(2,1)]) [.t 8,.t 9,ki 1],oo 2 (.alloc [vn,vn,v0]) [],ou (.st 3) [.t 2,.t 10]]
 (sr [oo 12 (.ld true 3) [.t 1],oo 13 (.ld true 3) [.t 2],ca 14 zaG [.t 12,.t 13,ki 1],ma 11 14,oo 15 (.ext 0) [.t 11],oo 16 (.ext 1) [.t 11],ma 3 15,ma 4 16]
 (sr [ma 17 4,oo 18 (.bin .eql) [.t 17,ki 0],ma 19 18,mg 20 3 19,og 21 .len [.t 20] 19,og 22 (.bin .eql) [.t 21,ki 2] 19,oo 23 .pick [.t 19,.t 22,.c (.bool false)],ma 24 23,mg 25 3 24,og 26 (.iad 1) [.t 25,ki 0] 24,lg 27 26 24,og 28 (.bin .eql) [.t 27,ki 2] 24,oo 29 .pick [.t 24,.t 28,.c (.bool false)],ma 30 29,mg 31 3 30,og 32 (.iad 1) [.t 31,ki 1] 30,lg 33 32 30,og 34 (.bin .eql) [.t 33,ki 1] 30,oo 35 .pick [.t 30,.t 34,.c (.bool false)],ma 36 35,og 37 (.ld true 3) [.t 1] 36,og 38 (.ld true 3) [.t 2] 36,og 39 .call [.f zbb,.t 37,.t 38,ki 1,ki 0] 36,og 40 (.bin .eql) [.t 39,ki 2] 36,oo 41 .pick [.t 36,.t 40,.c (.bool false)],ma 42 41,og 43 (.ld true 3) [.t 1] 42,og 44 (.ld true 3) [.t 2] 42,mg 45 3 42,og 46 .call [.f zaS,.t 43,.t 44,ki 1,.t 45] 42,oo 47 .pick [.t 42,.t 46,.c (.bool false)],ma 48 47,og 49 (.ld true 3) [.t 1] 48,og 50 (.ld true 3) [.t 2] 48,og 51 (.bsl 1 2 [v0] [0,1]) [ki 4,ki 2] 48,og 52 .call [.f zaS,.t 49,.t 50,ki 1,.t 51] 48,og 53 (.un .not) [.t 52] 48,oo 54 .pick [.t 48,.t 53,.c (.bool false)],ma 0 54]
 .ret)))))⟩
def zf9 : AFun:=⟨50,[(4,some (true,3))],
 (sr [oo 3 (.box 3) [.t 1],oo 4 (.alloc [vn,vn,v0]) []]
 (sr [ma 8 0,fa 9 0 3,la 10 9,ca 11 zau [.t 8,.t 10],oo 12 (.bsl 1 1 [v0] [0]) [.t 11],ma 13 0,oo 14 (.bsl 1 4 [v0] [0,1,2,3]) [ki 1,ki 1,ki 2,ki 3],ca 15 zbP [.t 13,.t 14],oo 16 (.build [vn,vn,v0] [(0,1),(2,1)]) [.t 12,.t 15],oo 5 (.alloc [vn,vn,v0]) [],ou (.st 3) [.t 5,.t 16]]
 (.seq (.seq
 (rg [ma 17 0,ca 18 zbX [.t 17,ki 3]])
 (.cond (.t 18)
 (.reg true [fa 19 0 5,la 20 19,ma 21 0,fa 22 0 3,la 23 22,ca 24 zau [.t 21,.t 23],ca 25 zgA [.t 20,.t 24],fa 26 0 5,ou (.st 1) [.t 26,.t 25]] [[],[0],[],[],[3],[2,4],[1,5,5],[0,1,2,3,4,5,6],[7,6,6,0,1,2,3,4,5,6]])
 .skip))
 (sr [ma 27 0,oo 28 (.bsl 1 5 [v0] [0,1,2,3,4]) [ki 3,ki 2,ki 1,ki 6,ki 0],ca 29 zbP [.t 27,.t 28],oo 30 (.bin .add) [ki 1,.t 29],ma 6 30]
 (.seq (.seq
 (rg [ma 31 0,ca 32 zau [.t 31,ki 4],oo 33 (.bin .add) [ki 1,.t 32],ma 7 33])
 (.block 0 (.loop
 (.seq (.seq
 (rg [ma 34 7,oo 35 (.bin .gtr) [.t 34,ki 0]])
 (.cond (.t 35)
 .skip
 (.exit 0)))
 (.seq (.block 1 (sr [fa 38 1 5,la 39 38,ma 40 6,oo 41 (.bsl 1 1 [v0] [0]) [.t 40],oo 42 (.app 1 8) [.t 39,.t 41],fa 43 1 5,ou (.st 1) [.t 43,.t 42]]
 (rg [ma 44 6,ma 45 0,ca 46 zau [.t 45,ki 3],oo 47 (.bin .sub) [.t 44,.t 46],oo 48 .mx2 [ki 1,.t 47],ma 6 48])))
 (rg [ma 36 7,oo 37 (.bin .sub) [.t 36,ki 1],ma 7 37]))))))
 (sr [oo 49 (.ld true 3) [.t 5],ou (.st 3) [.t 4,.t 49]]
 .ret))))))⟩
def ziz : AFun:=⟨90,[(6,none),(7,none)],
 (sr [oo 3 (.box 3) [.t 0],oo 4 (.box 3) [.t 1],oo 6 .mv [kn],oo 7 .mv [ki 0]]
 (.seq (.seq
 (rg [oo 15 (.ld true 3) [.t 3],oo 16 (.ld true 3) [.t 4],ca 17 zb6 [.t 15,.t 16],ma 8 17])
 (sr [ma 18 8,oo 19 (.bin .neq) [.t 18,ki 0]]
 (.cond (.t 19)
 (sr [ma 20 8,oo 6 .mv [kn],ma 7 20]
 .ret)
 .skip)))
 (.seq (.seq
 (rg [ma 21 2,oo 22 (.bin .lss) [.t 21,ki 1],ma 23 22,mh 24 2 23,oh 25 (.bin .gtr) [.t 24,ki 5] 23,oo 26 .pick [.t 23,.c (.bool true),.t 25]])
 (.cond (.t 26)
 (sr [oo 6 .mv [kn],oo 7 .mv [ki 2]]
 .ret)
 .skip))
 (sr [oo 28 (.ld true 3) [.t 3],oo 29 (.ld true 3) [.t 4],ma 30 2,ca 31 zdq [.t 28,.t 29,.t 30],ma 27 31,oo 32 (.ext 0) [.t 27],oo 33 (.ext 1) [.t 27],ma 9 32,ma 10 33]
 (.seq (.seq
 (rg [ma 34 9,oo 35 .len [.t 34],oo 36 (.bin .eql) [.t 35,ki 0]])
 (.cond (.t 36)
 (sr [oo 6 .mv [kn],oo 7 .mv [ki 11]]
 .ret)
 .skip))
 (.seq (.seq
 (rg [ma 37 9,oo 38 .len [.t 37],oo 39 (.bin .gtr) [.t 38,ki 9]])
 (.cond (.t 39)
 (sr [oo 6 .mv [kn],oo 7 .mv [ki 3]]
 .ret)
 .skip))
 (sr [fa 40 0 3,la 41 40,oo 42 (.mks 1 8 [v0]) [.t 41,.t 41],ma 11 42]
 (sr [oo 12 .mv [ki 0]]
 (.seq (.seq
 (rg [oo 13 .mv [ki 0]])
 (.block 0 (.loop
 (.seq (.seq
 (rg [ma 43 13,ma 44 9,oo 45 .len [.t 44],oo 46 (.bin .lss) [.t 43,.t 45]])
 (.cond (.t 46)
 .skip
 (.exit 0)))
 (.seq (.block 1 (.seq (.reg true [ma 49 11,ma 50 9,ma 51 13,oo 52 (.iad 1) [.t 50,.t 51],la 53 52,ma 54 10,ma 55 13,ca 56 zdp [.t 54,.t 55],ma 57 10,ma 58 13,oo 59 (.iad 1) [.t 57,.t 58],la 60 59,ca 61 zbH [.t 60],oo 62 (.bin .mul) [.t 56,.t 61],oo 63 (.iad 1) [.t 49,.t 53],ou (.st 1) [.t 63,.t 62]] [[],[],[],[1,2],[3],[],[],[5,6],[],[],[8,9],[10],[11,7],[7,12],[0,4,0,1,2,3,4,5,6,7,8,9,10,11,12,13],[14,13,12,0,1,2,3,4,5,6,7,8,9,10,11,12,13]])
 (rg [ma 64 11,ma 65 9,ma 66 13,oo 67 (.iad 1) [.t 65,.t 66],la 68 67,oo 69 (.iad 1) [.t 64,.t 68],la 70 69,ma 71 12,ca 72 zgn [.t 70,.t 71],ma 12 72])))
 (rg [ma 47 13,oo 48 (.bin .add) [.t 47,ki 1],ma 13 48]))))))
 (.seq (.seq
 (rg [oo 14 .mv [ki 0]])
 (.block 2 (.loop
 (.seq (.seq
 (rg [ma 73 14,ma 74 9,oo 75 .len [.t 74],oo 76 (.bin .lss) [.t 73,.t 75]])
 (.cond (.t 76)
 .skip
 (.exit 2)))
 (.seq (.block 3 (rg [ma 79 11,ma 80 9,ma 81 14,oo 82 (.iad 1) [.t 80,.t 81],la 83 82,oo 84 (.iad 1) [.t 79,.t 83],la 85 84,ma 86 12,oo 87 (.bin .quo) [.t 85,.t 86],oo 88 (.iad 1) [.t 79,.t 83],ou (.st 1) [.t 88,.t 87]]))
 (rg [ma 77 14,oo 78 (.bin .add) [.t 77,ki 1],ma 14 78]))))))
 (sr [ma 89 11,ma 6 89,oo 7 .mv [ki 0]]
 .ret)))))))))))⟩
def zle : AFun:=⟨77,[(8,none)],
 (sr [oo 4 (.box 3) [.t 0],oo 5 (.box 3) [.t 1],oo 8 .mv [.c (.bool false)]]
 (sr [oo 15 (.ld true 3) [.t 4],oo 16 (.ld true 3) [.t 5],ma 17 2,ca 18 zaG [.t 15,.t 16,.t 17],ma 14 18,oo 19 (.ext 0) [.t 14],oo 20 (.ext 1) [.t 14],ma 9 19,ma 10 20]
 (sr [oo 22 (.ld true 3) [.t 4],oo 23 (.ld true 3) [.t 5],ma 24 2,ca 25 zaX [.t 22,.t 23,.t 24],ma 21 25,oo 26 (.ext 0) [.t 21],oo 27 (.ext 1) [.t 21],ma 11 26,ma 12 27]
 (.seq (.seq
 (rg [oo 13 .mv [ki (-1)]])
 (.block 0 (.loop
 (.seq (.seq
 (rg [ma 28 13,oo 29 (.bin .lss) [.t 28,ki 10]])
 (.cond (.t 29)
 .skip
 (.exit 0)))
 (.seq (.block 1 (.seq (.reg true [oo 32 (.ld true 3) [.t 4],oo 33 (.ld true 3) [.t 5],ma 34 2,ma 35 13,ca 36 zbb [.t 32,.t 33,.t 34,.t 35],oo 37 (.ld true 3) [.t 4],oo 38 (.ld true 3) [.t 5],ma 39 2,ma 40 13,ca 41 zc7 [.t 37,.t 38,.t 39,.t 40],oo 42 (.bin .neq) [.t 36,.t 41]] [[],[],[],[],[0,1,2,3],[],[],[],[],[5,6,7,8,4],[4,9]])
 (.cond (.t 42)
 (sr [oo 8 .mv [.c (.bool false)]]
 .ret)
 .skip)))
 (rg [ma 30 13,oo 31 (.bin .add) [.t 30,ki 1],ma 13 31]))))))
 (.seq (.reg true [ma 43 10,ma 44 12,oo 45 (.bin .eql) [.t 43,.t 44],ma 46 45,mg 47 9 46,mg 48 11 46,og 49 .call [.f zda,.t 47,.t 48] 46,oo 50 .pick [.t 46,.t 49,.c (.bool false)],ma 51 50,og 52 (.ld true 3) [.t 4] 51,og 53 (.ld true 3) [.t 5] 51,mg 54 2 51,mg 55 3 51,og 56 .call [.f zaS,.t 52,.t 53,.t 54,.t 55] 51,og 57 (.ld true 3) [.t 4] 51,og 58 (.ld true 3) [.t 5] 51,mg 59 2 51,mg 60 3 51,og 61 .call [.f zds,.t 57,.t 58,.t 59,.t 60] 51,og 62 (.beq false) [.t 56,.t 61] 51,oo 63 .pick [.t 51,.t 62,.c (.bool false)],ma 64 63,og 65 (.ld true 3) [.t 4] 64,og 66 (.ld true 3) [.t 5] 64,mg 67 2 64,mg 68 11 64,og 69 .call [.f zaS,.t 65,.t 66,.t 67,.t 68] 64,og 70 (.ld true 3) [.t 4] 64,og 71 (.ld true 3) [.t 5] 64,mg 72 2 64,mg 73 11 64,og 74 .call [.f zds,.t 70,.t 71,.t 72,.t 73] 64,og 75 (.beq false) [.t 69,.t 74] 64,oo 76 .pick [.t 64,.t 75,.c (.bool false)],ma 8 76] [[],[],[0,1],[2],[3],[3],[4,5,3,3],[3,6],[7,6],[8],[8],[8],[8],[9,10,11,12,8,8],[8],[8],[8],[8],[14,15,16,17,13,8],[13,18,8],[8,19],[20,18],[21],[21],[21],[21],[22,23,24,25,21,21],[21],[21],[21],[21],[27,28,29,30,26,21],[26,31,21],[21,32],[33,31,0,1,2,3,4,5,6,7,8,9,10,11,12,13,14,15,16,17,18,19,20,21,22,23,24,25,26,27,28,29,30,31,32,33]])
 .ret)))))⟩
def zfm : AFun:=⟨81,[(6,none),(7,none)],
 (sr [oo 3 (.box 3) [.t 0],oo 4 (.box 3) [.t 1],oo 6 .mv [kn],oo 7 .mv [ki 0]]
 (sr [oo 17 (.ld true 3) [.t 3],oo 18 (.ld true 3) [.t 4],ma 19 2,ca 20 zbm [.t 17,.t 18,.t 19],ma 16 20,oo 21 (.ext 0) [.t 16],oo 22 (.ext 1) [.t 16],oo 8 (.alloc [vn,vn]) [],ou (.st 2) [.t 8,.t 21],ma 9 22]
 (.seq (.block 0 (sr [ma 24 9,oo 25 (.bin .neq) [.t 24,ki 0],ma 23 25]
 (.cond (.t 23)
 (sr [ma 26 9,oo 6 .mv [kn],ma 7 26]
 .ret)
 (sr [fa 28 0 8,la 29 28,oo 30 .len [.t 29],oo 31 (.bin .eql) [.t 30,ki 0],ma 27 31]
 (.cond (.t 27)
 (sr [oo 6 .mv [kn],oo 7 .mv [ki 11]]
 .ret)
 (sr [fa 33 0 8,la 34 33,oo 35 .len [.t 34],oo 36 (.bin .gtr) [.t 35,ki 9],ma 32 36]
 (.cond (.t 32)
 (sr [oo 6 .mv [kn],oo 7 .mv [ki 3]]
 .ret)
 .skip)))))))
 (sr [fa 37 0 3,la 38 37,oo 39 (.mks 1 8 [v0]) [.t 38,.t 38],ma 10 39]
 (sr [oo 11 .mv [ki 0]]
 (.seq (.seq
 (rg [fa 40 0 8,la 41 40,oo 42 .len [.t 41],oo 43 .mv [ki 0]])
 (.block 1 (.loop
 (sr [oo 44 (.bin .lss) [.t 43,.t 42]]
 (.seq (.cond (.t 44)
 .skip
 (.exit 1))
 (.seq (.block 2 (sr [ma 45 43,oo 46 (.iad 1) [.t 41,.t 43],la 47 46,ma 12 45,ma 13 47]
 (.seq (.reg true [ma 48 10,ma 49 13,oo 50 (.ld true 2) [.t 8],ma 51 12,ca 52 zaF [.t 50,.t 51],oo 53 (.ld true 2) [.t 8],ma 54 12,ca 55 za5 [.t 53,.t 54],oo 56 (.bin .mul) [.t 52,.t 55],oo 57 (.iad 1) [.t 48,.t 49],ou (.st 1) [.t 57,.t 56]] [[],[],[],[],[2,3],[],[],[5,6,4],[4,7],[0,1,0,1,2,3,4,5,6,7,8],[9,8,7,0,1,2,3,4,5,6,7,8]])
 (rg [ma 58 11,ma 59 10,ma 60 13,oo 61 (.iad 1) [.t 59,.t 60],la 62 61,ca 63 zcf [.t 58,.t 62],ma 11 63]))))
 (rg [oo 64 (.bin .add) [.t 43,ki 1],ma 43 64])))))))
 (.seq (.seq
 (rg [fa 65 0 8,la 66 65,oo 67 .len [.t 66],oo 68 .mv [ki 0]])
 (.block 3 (.loop
 (sr [oo 69 (.bin .lss) [.t 68,.t 67]]
 (.seq (.cond (.t 69)
 .skip
 (.exit 3))
 (.seq (.block 4 (sr [oo 70 (.iad 1) [.t 66,.t 68],la 71 70,ma 15 71]
 (rg [ma 72 10,ma 73 15,oo 74 (.iad 1) [.t 72,.t 73],la 75 74,ma 76 11,oo 77 (.bin .quo) [.t 75,.t 76],oo 78 (.iad 1) [.t 72,.t 73],ou (.st 1) [.t 78,.t 77]])))
 (rg [oo 79 (.bin .add) [.t 68,ki 1],ma 68 79])))))))
 (sr [ma 80 10,ma 6 80,oo 7 .mv [ki 0]]
 .ret))))))))⟩
def zg2 : AFun:=⟨32,[(8,none)],
 (sr [oo 4 (.box 3) [.t 0],oo 5 (.box 3) [.t 1],oo 8 .mv [ki 0]]
 (sr [oo 13 (.ld true 3) [.t 4],oo 14 (.ld true 3) [.t 5],ma 15 2,ca 16 zbm [.t 13,.t 14,.t 15],ma 12 16,oo 17 (.ext 0) [.t 12],oo 18 (.ext 1) [.t 12],oo 9 (.alloc [vn,vn]) [],ou (.st 2) [.t 9,.t 17],ma 10 18]
 (.seq (.seq
 (rg [fa 19 0 9,la 20 19,ma 21 3,ca 22 zaJ [.t 20,.t 21],ma 11 22])
 (sr [ma 23 10,oo 24 (.bin .eql) [.t 23,ki 0],ma 25 24,mg 26 11 25,og 27 (.bin .geq) [.t 26,ki 0] 25,oo 28 .pick [.t 25,.t 27,.c (.bool false)]]
 (.cond (.t 28)
 (sr [oo 29 (.ld true 2) [.t 9],ma 30 11,ca 31 zaF [.t 29,.t 30],ma 8 31]
 .ret)
 .skip)))
 (sr [oo 8 .mv [ki 0]]
 .ret))))⟩
def zf8 : AFun:=⟨25,[(8,none)],
 (sr [oo 4 (.box 3) [.t 0],oo 5 (.box 3) [.t 1],oo 8 .mv [.c (.bool false)]]
 (sr [oo 12 (.ld true 3) [.t 4],oo 13 (.ld true 3) [.t 5],ma 14 2,ca 15 zaG [.t 12,.t 13,.t 14],ma 11 15,oo 16 (.ext 0) [.t 11],oo 17 (.ext 1) [.t 11],ma 9 16,ma 10 17]
 (sr [ma 18 10,oo 19 (.bin .eql) [.t 18,ki 0],ma 20 19,mg 21 3 20,mg 22 9 20,og 23 .call [.f zbC,.t 21,.t 22] 20,oo 24 .pick [.t 20,.t 23,.c (.bool false)],ma 8 24]
 .ret)))⟩
def zka : AFun:=⟨12,[(4,none)],
 (sr [oo 2 (.box 3) [.t 0],oo 3 (.box 3) [.t 1],oo 4 .mv [ki 0]]
 (.seq (.seq
 (rg [oo 5 (.ld true 3) [.t 2],ca 6 zdm [.t 5],oo 7 (.bin .neq) [.t 6,ki 0]])
 (.cond (.t 7)
 (sr [oo 4 .mv [ki 14]]
 .ret)
 .skip))
 (.seq (.seq
 (rg [oo 8 (.ld true 3) [.t 2],oo 9 (.ld true 3) [.t 3],ca 10 zdV [.t 8,.t 9],oo 11 (.un .not) [.t 10]])
 (.cond (.t 11)
 (sr [oo 4 .mv [ki 15]]
 .ret)
 .skip))
 (sr [oo 4 .mv [ki 0]]
 .ret))))⟩
def zkx : AFun:=⟨117,[(6,none),(7,none)],
 (sr [oo 3 (.box 3) [.t 0],oo 4 (.box 3) [.t 1],oo 6 .mv [kn],oo 7 .mv [kn]]
 (sr [oo 16 (.ld true 3) [.t 3],fa 17 2 4,la 18 17,ca 19 zeG [.t 16,.t 18],ou (.st 3) [.t 3,.t 19]]
 (sr [oo 20 (.ld true 3) [.t 3],fa 21 0 4,la 22 21,ca 23 zge [.t 20,.t 22],ma 8 23]
 (sr [oo 9 .mv [kn]]
 (.seq (.seq
 (rg [oo 10 .mv [ki 0]])
 (.block 0 (.loop
 (.seq (.seq
 (rg [ma 24 10,fa 25 0 3,la 26 25,oo 27 (.bin .lss) [.t 24,.t 26]])
 (.cond (.t 27)
 .skip
 (.exit 0)))
 (.seq (.block 1 (sr [ma 30 8,ma 31 10,oo 32 (.iad 1) [.t 30,.t 31],la 33 32,oo 34 (.bin .geq) [.t 33,ki 0]]
 (.cond (.t 34)
 (rg [ma 35 9,ma 36 10,oo 37 (.bsl 1 1 [v0] [0]) [.t 36],oo 38 (.app 1 8) [.t 35,.t 37],ma 9 38])
 .skip)))
 (rg [ma 28 10,oo 29 (.bin .add) [.t 28,ki 1],ma 10 29]))))))
 (sr [oo 11 .mv [kn]]
 (.seq (.seq
 (rg [oo 12 .mv [ki 0]])
 (.block 2 (.loop
 (.seq (.seq
 (rg [ma 39 12,ma 40 9,oo 41 .len [.t 40],oo 42 (.bin .lss) [.t 39,.t 41]])
 (.cond (.t 42)
 .skip
 (.exit 2)))
 (.seq (.block 3 (sr [ma 45 9,oo 46 .len [.t 45],oo 47 (.mks 1 8 [v0]) [.t 46,.t 46],ma 13 47]
 (.seq (.seq
 (rg [oo 14 .mv [ki 0]])
 (.block 4 (.loop
 (.seq (.seq
 (rg [ma 48 14,ma 49 9,oo 50 .len [.t 49],oo 51 (.bin .lss) [.t 48,.t 50]])
 (.cond (.t 51)
 .skip
 (.exit 4)))
 (.seq (.block 5 (.seq (.seq
 (rg [oo 15 .mv [ki 0]])
 (.block 6 (.loop
 (.seq (.seq
 (rg [ma 54 15,fa 55 1 3,la 56 55,oo 57 .len [.t 56],oo 58 (.bin .lss) [.t 54,.t 57]])
 (.cond (.t 58)
 .skip
 (.exit 6)))
 (.seq (.block 7 (.seq (.reg true [fa 61 1 3,la 62 61,ma 63 15,oo 64 (.iad 3) [.t 62,.t 63],fa 65 0 64,la 66 65,ma 67 9,ma 68 12,oo 69 (.iad 1) [.t 67,.t 68],la 70 69,oo 71 (.bin .eql) [.t 66,.t 70],ma 72 71,fg 73 1 3 72,lg 74 73 72,mg 75 15 72,og 76 (.iad 3) [.t 74,.t 75] 72,fg 77 1 76 72,lg 78 77 72,mg 79 9 72,mg 80 14 72,og 81 (.iad 1) [.t 79,.t 80] 72,lg 82 81 72,og 83 (.bin .eql) [.t 78,.t 82] 72,oo 84 .pick [.t 72,.t 83,.c (.bool false)]] [[],[0],[],[1,2],[3],[4],[],[],[6,7],[8],[5,9],[10],[11],[12,11],[11],[13,14,11],[15,11],[16,11],[11],[11],[18,19,11],[20,11],[17,21,11],[11,22]])
 (.cond (.t 84)
 (.reg true [ma 85 13,ma 86 14,oo 87 (.iad 1) [.t 85,.t 86],la 88 87,fa 89 1 3,la 90 89,ma 91 15,oo 92 (.iad 3) [.t 90,.t 91],fa 93 2 92,la 94 93,oo 95 (.bin .add) [.t 88,.t 94],oo 96 (.iad 1) [.t 85,.t 86],ou (.st 1) [.t 96,.t 95]] [[],[],[0,1],[2],[],[4],[],[5,6],[7],[8],[3,9],[0,1,0,1,2,3,4,5,6,7,8,9,10],[11,10,0,1,2,3,4,5,6,7,8,9,10]])
 .skip)))
 (rg [ma 59 15,oo 60 (.bin .add) [.t 59,ki 1],ma 15 60]))))))
 (.seq (.reg true [fa 97 0 4,la 98 97,ma 99 9,ma 100 14,oo 101 (.iad 1) [.t 99,.t 100],la 102 101,ca 103 zaZ [.t 98,.t 102]] [[],[0],[],[],[2,3],[4],[1,5]])
 (.cond (.t 103)
 (rg [ma 104 13,ma 105 14,oo 106 (.iad 1) [.t 104,.t 105],la 107 106,ma 108 2,oo 109 (.bin .add) [.t 107,.t 108],oo 110 (.iad 1) [.t 104,.t 105],ou (.st 1) [.t 110,.t 109]])
 .skip))))
 (rg [ma 52 14,oo 53 (.bin .add) [.t 52,ki 1],ma 14 53]))))))
 (rg [ma 111 11,ma 112 13,oo 113 (.bsl 1 1 [vn] [0]) [.t 112],oo 114 (.app 1 24) [.t 111,.t 113],ma 11 114]))))
 (rg [ma 43 12,oo 44 (.bin .add) [.t 43,ki 1],ma 12 44]))))))
 (sr [ma 115 9,ma 116 11,ma 6 115,ma 7 116]
 .ret))))))))⟩
def zk0 : AFun:=⟨73,[(4,none)],
 (sr [oo 4 .mv [ki 0]]
 (sr [oo 5 .mv [kn]]
 (.seq (.seq
 (rg [oo 6 .mv [ki 0]])
 (.block 0 (.loop
 (.seq (.seq
 (rg [ma 9 6,ma 10 0,oo 11 .len [.t 10],oo 12 (.bin .lss) [.t 9,.t 11]])
 (.cond (.t 12)
 .skip
 (.exit 0)))
 (.seq (.block 1 (.seq (.seq
 (rg [ma 15 6,ma 16 1,oo 17 (.bin .eql) [.t 15,.t 16]])
 (.cond (.t 17)
 (.exit 1)
 .skip))
 (sr [oo 7 .mv [kn]]
 (.seq (.seq
 (rg [oo 8 .mv [ki 0]])
 (.block 2 (.loop
 (.seq (.seq
 (rg [ma 18 8,ma 19 0,oo 20 .len [.t 19],oo 21 (.bin .lss) [.t 18,.t 20]])
 (.cond (.t 21)
 .skip
 (.exit 2)))
 (.seq (.block 3 (.seq (.seq
 (rg [ma 24 8,ma 25 1,oo 26 (.bin .eql) [.t 24,.t 25]])
 (.cond (.t 26)
 (.exit 3)
 .skip))
 (sr [ma 27 6,ma 28 8,oo 29 (.bin .eql) [.t 27,.t 28]]
 (.cond (.t 29)
 (.reg true [ma 30 7,ma 31 0,ma 32 6,oo 33 (.iad 1) [.t 31,.t 32],la 34 33,ca 35 zbH [.t 34],ma 36 0,ma 37 6,oo 38 (.iad 1) [.t 36,.t 37],la 39 38,ma 40 6,oo 41 (.iad 1) [.t 39,.t 40],la 42 41,oo 43 (.bin .sub) [.t 35,.t 42],oo 44 (.bsl 1 1 [v0] [0]) [.t 43],oo 45 (.app 1 8) [.t 30,.t 44],ma 7 45] [[],[],[],[1,2],[3],[4],[],[],[6,7],[8],[],[9,10],[11],[5,12],[13],[0,14,5],[15,15,0,1,2,3,4,5,6,7,8,9,10,11,12,13,14,15]])
 (rg [ma 46 7,ma 47 0,ma 48 6,oo 49 (.iad 1) [.t 47,.t 48],la 50 49,ma 51 8,oo 52 (.iad 1) [.t 50,.t 51],la 53 52,oo 54 (.un .neg) [.t 53],oo 55 (.bsl 1 1 [v0] [0]) [.t 54],oo 56 (.app 1 8) [.t 46,.t 55],ma 7 56])))))
 (rg [ma 22 8,oo 23 (.bin .add) [.t 22,ki 1],ma 8 23]))))))
 (rg [ma 57 5,ma 58 7,oo 59 (.bsl 1 1 [vn] [0]) [.t 58],oo 60 (.app 1 24) [.t 57,.t 59],ma 5 60])))))
 (rg [ma 13 6,oo 14 (.bin .add) [.t 13,ki 1],ma 6 14]))))))
 (.seq (.reg true [ma 61 5,ma 62 5,oo 63 .len [.t 62],oo 64 (.cvt .u64) [.t 63],oo 65 (.bin .shl) [ki 1,.t 64],oo 66 (.mks 1 8 [v0]) [.t 65,.t 65],ma 67 5,oo 68 .len [.t 67],oo 69 (.cvt .u64) [.t 68],oo 70 (.bin .shl) [ki 1,.t 69],oo 71 (.mks 1 1 [(.bool false)]) [.t 70,.t 70],ca 72 zbd [.t 61,ki 0,ki 0,.t 66,.t 71],ma 4 72] [[],[],[1],[2],[3],[4,4],[],[6],[7],[8],[9,9],[0,5,10],[11,11,0,1,2,3,4,5,6,7,8,9,10,11]])
 .ret))))⟩
def zln : AFun:=⟨18,[(2,none)],
 (sr [oo 2 .mv [ki 0]]
 (sr [oo 3 .mv [ki 0]]
 (.seq (.seq
 (rg [oo 4 .mv [ki 0]])
 (.block 0 (.loop
 (.seq (.seq
 (rg [ma 5 4,ma 6 0,oo 7 .len [.t 6],oo 8 (.bin .lss) [.t 5,.t 7]])
 (.cond (.t 8)
 .skip
 (.exit 0)))
 (.seq (.block 1 (rg [ma 11 3,ma 12 0,ma 13 4,oo 14 (.iad 1) [.t 12,.t 13],la 15 14,oo 16 (.bin .add) [.t 11,.t 15],ma 3 16]))
 (rg [ma 9 4,oo 10 (.bin .add) [.t 9,ki 1],ma 4 10]))))))
 (sr [ma 17 3,ma 2 17]
 .ret))))⟩
def znJ : AFun:=⟨12,[(4,none)],
 (sr [oo 4 .mv [ki 0]]
 (.seq (.block 0 (.loop
 (.seq (.seq
 (rg [ma 5 1,oo 6 (.bin .neq) [.t 5,ki 0]])
 (.cond (.t 6)
 .skip
 (.exit 0)))
 (.block 1 (.reg true [ma 7 1,ma 8 0,ma 9 1,oo 10 (.bin .rem) [.t 8,.t 9],ma 0 7,ma 1 10] [[],[],[],[1,2],[0,0,1],[3,4,0,1,2,3,4]])))))
 (sr [ma 11 0,ma 4 11]
 .ret)))⟩
def zl2 : AFun:=⟨48,[(8,none)],
 (sr [oo 4 (.box 3) [.t 0],oo 5 (.box 3) [.t 1],oo 8 .mv [ki 0]]
 (.seq (.seq
 (rg [oo 12 (.ld true 3) [.t 4],oo 13 (.ld true 3) [.t 5],ca 14 zb6 [.t 12,.t 13],oo 15 (.bin .neq) [.t 14,ki 0],ma 16 15,mh 17 2 16,oh 18 (.bin .lss) [.t 17,ki 1] 16,oo 19 .pick [.t 16,.c (.bool true),.t 18],ma 20 19,mh 21 2 20,oh 22 (.bin .gtr) [.t 21,ki 5] 20,oo 23 .pick [.t 20,.c (.bool true),.t 22]])
 (.cond (.t 23)
 (sr [oo 8 .mv [ki 0]]
 .ret)
 .skip))
 (sr [oo 25 (.ld true 3) [.t 4],oo 26 (.ld true 3) [.t 5],ma 27 2,ca 28 zdq [.t 25,.t 26,.t 27],ma 24 28,oo 29 (.ext 0) [.t 24],oo 30 (.ext 1) [.t 24],ma 9 29,ma 10 30]
 (.seq (.seq
 (rg [oo 11 .mv [ki 0]])
 (.block 0 (.loop
 (.seq (.seq
 (rg [ma 31 11,ma 32 9,oo 33 .len [.t 32],oo 34 (.bin .lss) [.t 31,.t 33]])
 (.cond (.t 34)
 .skip
 (.exit 0)))
 (.seq (.block 1 (sr [ma 37 9,ma 38 11,oo 39 (.iad 1) [.t 37,.t 38],la 40 39,ma 41 3,oo 42 (.bin .eql) [.t 40,.t 41]]
 (.cond (.t 42)
 (sr [ma 43 10,ma 44 11,oo 45 (.iad 1) [.t 43,.t 44],la 46 45,ca 47 zbH [.t 46],ma 8 47]
 .ret)
 .skip)))
 (rg [ma 35 11,oo 36 (.bin .add) [.t 35,ki 1],ma 11 36]))))))
 (sr [oo 8 .mv [ki 0]]
 .ret)))))⟩
def zj7 : AFun:=⟨43,[(8,none)],
 (sr [oo 4 (.box 3) [.t 0],oo 5 (.box 3) [.t 1],oo 8 .mv [.c (.bool false)]]
 (sr [oo 13 (.ld true 3) [.t 4],oo 14 (.ld true 3) [.t 5],ma 15 2,ca 16 zaX [.t 13,.t 14,.t 15],ma 12 16,oo 17 (.ext 0) [.t 12],oo 18 (.ext 1) [.t 12],ma 9 17,ma 10 18]
 (.seq (.seq
 (rg [ma 19 10,oo 20 (.bin .neq) [.t 19,ki 0],ma 21 20,mh 22 9 21,oh 23 .len [.t 22] 21,mh 24 3 21,oh 25 .len [.t 24] 21,oh 26 (.bin .neq) [.t 23,.t 25] 21,oo 27 .pick [.t 21,.c (.bool true),.t 26]])
 (.cond (.t 27)
 (sr [oo 8 .mv [.c (.bool false)]]
 .ret)
 .skip))
 (.seq (.seq
 (rg [oo 11 .mv [ki 0]])
 (.block 0 (.loop
 (.seq (.seq
 (rg [ma 28 11,ma 29 9,oo 30 .len [.t 29],oo 31 (.bin .lss) [.t 28,.t 30]])
 (.cond (.t 31)
 .skip
 (.exit 0)))
 (.seq (.block 1 (.seq (.reg true [ma 34 9,ma 35 11,oo 36 (.iad 1) [.t 34,.t 35],la 37 36,ma 38 3,ma 39 11,oo 40 (.iad 1) [.t 38,.t 39],la 41 40,oo 42 (.bin .neq) [.t 37,.t 41]] [[],[],[0,1],[2],[],[],[4,5],[6],[3,7]])
 (.cond (.t 42)
 (sr [oo 8 .mv [.c (.bool false)]]
 .ret)
 .skip)))
 (rg [ma 32 11,oo 33 (.bin .add) [.t 32,ki 1],ma 11 33]))))))
 (sr [oo 8 .mv [.c (.bool true)]]
 .ret)))))⟩
def zhP : AFun:=⟨65,[(4,none)],
 (sr [oo 2 (.box 3) [.t 0],oo 3 (.box 3) [.t 1],oo 4 .mv [ki 0]]
 (.seq (.seq
 (rg [oo 8 (.ld true 3) [.t 2],ca 9 zeR [.t 8],ma 5 9])
 (sr [ma 10 5,oo 11 (.bin .neq) [.t 10,ki 0]]
 (.cond (.t 11)
 (sr [ma 12 5,ma 4 12]
 .ret)
 .skip)))
 (.seq (.seq
 (rg [fa 13 0 3,la 14 13,oo 15 .len [.t 14],oo 16 (.bin .eql) [.t 15,ki 0],ma 17 16,fh 18 0 3 17,lh 19 18 17,fh 20 0 2 17,lh 21 20 17,oh 22 (.bin .sub) [.t 21,ki 1] 17,oh 23 .call [.f zbr,.t 19,ki 0,.t 22] 17,oh 24 (.un .not) [.t 23] 17,oo 25 .pick [.t 17,.c (.bool true),.t 24],ma 26 25,fh 27 1 3 26,lh 28 27 26,oh 29 .len [.t 28] 26,oh 30 .call [.f zaU,.t 29,ki 1,ki 8] 26,oh 31 (.un .not) [.t 30] 26,oo 32 .pick [.t 26,.c (.bool true),.t 31],ma 33 32,fh 34 2 3 33,lh 35 34 33,oh 36 .call [.f zaU,.t 35,ki 1,ki 3] 33,oh 37 (.un .not) [.t 36] 33,oo 38 .pick [.t 33,.c (.bool true),.t 37]])
 (.cond (.t 38)
 (sr [oo 4 .mv [ki 15]]
 .ret)
 .skip))
 (.seq (.seq
 (rg [fa 39 1 3,la 40 39,oo 41 .len [.t 40],oo 42 .mv [ki 0]])
 (.block 0 (.loop
 (sr [oo 43 (.bin .lss) [.t 42,.t 41]]
 (.seq (.cond (.t 43)
 .skip
 (.exit 0))
 (.seq (.block 1 (sr [ma 44 42,oo 45 (.iad 1) [.t 40,.t 42],la 46 45,ma 6 44,ma 7 46]
 (sr [ma 47 7,ca 48 zaU [.t 47,ki 1,ki 1000],oo 49 (.un .not) [.t 48],ma 50 49,mh 51 6 50,oh 52 (.bin .gtr) [.t 51,ki 0] 50,mh 53 52 50,mg 54 7 53,fg 55 1 3 53,lg 56 55 53,mg 57 6 53,og 58 (.bin .sub) [.t 57,ki 1] 53,og 59 (.iad 1) [.t 56,.t 58] 53,lg 60 59 53,og 61 (.bin .gtr) [.t 54,.t 60] 53,oh 62 .pick [.t 53,.t 61,.c (.bool false)] 50,oo 63 .pick [.t 50,.c (.bool true),.t 62]]
 (.cond (.t 63)
 (sr [oo 4 .mv [ki 15]]
 .ret)
 .skip))))
 (rg [oo 64 (.bin .add) [.t 42,ki 1],ma 42 64])))))))
 (sr [oo 4 .mv [ki 0]]
 .ret)))))⟩
def zgg : AFun:=⟨99,[(6,some (true,2)),(7,none)],
 (sr [oo 3 (.box 3) [.t 0],oo 4 (.box 3) [.t 1],oo 6 (.alloc [vn,vn]) [],oo 7 .mv [ki 0]]
 (.seq (.seq
 (rg [oo 18 (.ld true 3) [.t 3],oo 19 (.ld true 3) [.t 4],ca 20 zci [.t 18,.t 19],ma 8 20])
 (sr [ma 21 8,oo 22 (.bin .neq) [.t 21,ki 0]]
 (.cond (.t 22)
 (sr [oo 23 (.build [vn,vn] []) [],ma 24 8,ou (.st 2) [.t 6,.t 23],ma 7 24]
 .ret)
 .skip)))
 (.seq (.seq
 (rg [ma 25 2,ca 26 zaU [.t 25,ki 1,ki 5],oo 27 (.un .not) [.t 26]])
 (.cond (.t 27)
 (sr [oo 28 (.build [vn,vn] []) [],ou (.st 2) [.t 6,.t 28],oo 7 .mv [ki 2]]
 .ret)
 .skip))
 (sr [oo 29 (.ld true 3) [.t 3],fa 30 2 4,la 31 30,ca 32 zeB [.t 29,.t 31],oo 9 (.alloc [v0,vn,vn]) [],ou (.st 3) [.t 9,.t 32]]
 (sr [oo 33 (.ld true 3) [.t 9],fa 34 0 4,la 35 34,ca 36 zc0 [.t 33,.t 35],ca 37 zd2 [.t 36],oo 38 (.build [vn,vn] [(0,1)]) [.t 37],oo 10 (.alloc [vn,vn]) [],ou (.st 2) [.t 10,.t 38]]
 (.seq (.seq
 (rg [fa 39 0 10,la 40 39,oo 41 .len [.t 40],oo 42 .mv [ki 0]])
 (.block 0 (.loop
 (sr [oo 43 (.bin .lss) [.t 42,.t 41]]
 (.seq (.cond (.t 43)
 .skip
 (.exit 0))
 (.seq (.block 1 (sr [oo 44 (.iad 1) [.t 40,.t 42],la 45 44,ma 12 45]
 (sr [fa 46 0 10,la 47 46,oo 48 .len [.t 47],oo 49 (.mks 1 8 [v0]) [.t 48,.t 48],ma 13 49]
 (.seq (.seq
 (rg [fa 50 0 10,la 51 50,oo 52 .len [.t 51],oo 53 .mv [ki 0]])
 (.block 2 (.loop
 (sr [oo 54 (.bin .lss) [.t 53,.t 52]]
 (.seq (.cond (.t 54)
 .skip
 (.exit 2))
 (.seq (.block 3 (sr [ma 55 53,oo 56 (.iad 1) [.t 51,.t 53],la 57 56,ma 14 55,ma 15 57]
 (sr [fa 58 0 4,la 59 58,ma 60 15,ca 61 zaq [.t 59,.t 60]]
 (.cond (.t 61)
 (rg [ma 62 13,ma 63 14,ma 64 2,oo 65 (.iad 1) [.t 62,.t 63],ou (.st 1) [.t 65,.t 64]])
 .skip))))
 (rg [oo 66 (.bin .add) [.t 53,ki 1],ma 53 66])))))))
 (.seq (.seq
 (rg [fa 67 1 9,la 68 67,oo 69 .len [.t 68],oo 70 .mv [ki 0]])
 (.block 4 (.loop
 (sr [oo 71 (.bin .lss) [.t 70,.t 69]]
 (.seq (.cond (.t 71)
 .skip
 (.exit 4))
 (.seq (.block 5 (sr [oo 72 (.iad 3) [.t 68,.t 70],oo 73 (.ld true 3) [.t 72],oo 17 (.alloc [v0,v0,v0]) [],ou (.st 3) [.t 17,.t 73]]
 (sr [fa 74 0 17,la 75 74,ma 76 12,oo 77 (.bin .eql) [.t 75,.t 76]]
 (.cond (.t 77)
 (.reg true [ma 78 13,fa 79 0 10,la 80 79,fa 81 1 17,la 82 81,ca 83 zaJ [.t 80,.t 82],oo 84 (.iad 1) [.t 78,.t 83],la 85 84,fa 86 2 17,la 87 86,oo 88 (.bin .add) [.t 85,.t 87],oo 89 (.iad 1) [.t 78,.t 83],ou (.st 1) [.t 89,.t 88]] [[],[],[1],[],[3],[2,4],[0,5],[6],[],[8],[7,9],[0,5,0,1,2,3,4,5,6,7,8,9,10],[11,10,5,0,1,2,3,4,5,6,7,8,9,10]])
 .skip))))
 (rg [oo 90 (.bin .add) [.t 70,ki 1],ma 70 90])))))))
 (rg [fa 91 1 10,la 92 91,ma 93 13,oo 94 (.bsl 1 1 [vn] [0]) [.t 93],oo 95 (.app 1 24) [.t 92,.t 94],fa 96 1 10,ou (.st 1) [.t 96,.t 95]]))))))
 (rg [oo 97 (.bin .add) [.t 42,ki 1],ma 42 97])))))))
 (sr [oo 98 (.ld true 2) [.t 10],ou (.st 2) [.t 6,.t 98],oo 7 .mv [ki 0]]
 .ret)))))))⟩
def zeW : AFun:=⟨23,[(4,none)],
 (sr [oo 2 (.box 2) [.t 0],oo 4 .mv [ki 0]]
 (sr [oo 5 .mv [ki 0]]
 (.seq (.seq
 (rg [fa 8 1 2,la 9 8,ma 10 1,oo 11 (.iad 1) [.t 9,.t 10],la 12 11,oo 13 .len [.t 12],oo 14 .mv [ki 0]])
 (.block 0 (.loop
 (sr [oo 15 (.bin .lss) [.t 14,.t 13]]
 (.seq (.cond (.t 15)
 .skip
 (.exit 0))
 (.seq (.block 1 (sr [oo 16 (.iad 1) [.t 12,.t 14],la 17 16,ma 7 17]
 (rg [ma 18 5,ma 19 7,oo 20 (.bin .add) [.t 18,.t 19],ma 5 20])))
 (rg [oo 21 (.bin .add) [.t 14,ki 1],ma 14 21])))))))
 (sr [ma 22 5,ma 4 22]
 .ret))))⟩
def zeq : AFun:=⟨139,[(4,none)],
 (sr [oo 2 (.box 2) [.t 0],oo 4 .mv [ki 0]]
 (sr [oo 5 .mv [kn]]
 (.seq (.seq
 (rg [fa 17 1 2,la 18 17,oo 19 .len [.t 18],oo 20 .mv [ki 0]])
 (.block 0 (.loop
 (sr [oo 21 (.bin .lss) [.t 20,.t 19]]
 (.seq (.cond (.t 21)
 .skip
 (.exit 0))
 (.seq (.block 1 (sr [ma 22 20,oo 23 (.iad 1) [.t 18,.t 20],la 24 23,ma 6 22,ma 7 24]
 (.seq (.seq
 (rg [ma 25 6,ma 26 1,oo 27 (.bin .eql) [.t 25,.t 26]])
 (.cond (.t 27)
 (.exit 1)
 .skip))
 (sr [oo 8 .mv [kn]]
 (.seq (.seq
 (rg [ma 28 7,oo 29 .len [.t 28],oo 30 .mv [ki 0]])
 (.block 2 (.loop
 (sr [oo 31 (.bin .lss) [.t 30,.t 29]]
 (.seq (.cond (.t 31)
 .skip
 (.exit 2))
 (.seq (.block 3 (sr [ma 32 30,oo 33 (.iad 1) [.t 28,.t 30],la 34 33,ma 9 32,ma 10 34]
 (.block 4 (sr [ma 43 9,ma 44 1,oo 45 (.bin .eql) [.t 43,.t 44],ma 42 45]
 (.cond (.t 42)
 .skip
 (sr [ma 47 9,ma 48 6,oo 49 (.bin .eql) [.t 47,.t 48],ma 46 49]
 (.cond (.t 46)
 (rg [ma 50 8,oo 51 (.ld true 2) [.t 2],ma 52 6,ca 53 zaF [.t 51,.t 52],ma 54 10,oo 55 (.bin .sub) [.t 53,.t 54],oo 56 (.cvt .u64) [.t 55],oo 57 (.bsl 1 1 [(.int .u64 0)] [0]) [.t 56],oo 58 (.app 1 8) [.t 50,.t 57],ma 8 58])
 (rg [ma 35 8,ma 36 10,oo 37 (.cvt .u64) [.t 36],oo 38 (.bin .sub) [(.c (.int .u64 2305843009213693951)),.t 37],oo 39 (.bin .rem) [.t 38,(.c (.int .u64 2305843009213693951))],oo 40 (.bsl 1 1 [(.int .u64 0)] [0]) [.t 39],oo 41 (.app 1 8) [.t 35,.t 40],ma 8 41]))))))))
 (rg [oo 59 (.bin .add) [.t 30,ki 1],ma 30 59])))))))
 (rg [ma 60 5,ma 61 8,oo 62 (.bsl 1 1 [vn] [0]) [.t 61],oo 63 (.app 1 24) [.t 60,.t 62],ma 5 63]))))))
 (rg [oo 64 (.bin .add) [.t 20,ki 1],ma 20 64])))))))
 (sr [oo 11 .mv [(.c (.int .u64 1))]]
 (.seq (.seq
 (rg [ma 65 5,oo 66 .len [.t 65],oo 67 .mv [ki 0]])
 (.block 5 (.loop
 (sr [oo 68 (.bin .lss) [.t 67,.t 66]]
 (.seq (.cond (.t 68)
 .skip
 (.exit 5))
 (.seq (.block 6 (sr [ma 69 67,ma 12 69]
 (sr [ma 70 11,ma 71 5,ma 72 12,oo 73 (.iad 1) [.t 71,.t 72],la 74 73,ma 75 12,oo 76 (.iad 1) [.t 74,.t 75],la 77 76,ca 78 zaN [.t 70,.t 77],ma 11 78]
 (sr [ma 79 5,ma 80 12,oo 81 (.iad 1) [.t 79,.t 80],la 82 81,ma 83 12,oo 84 (.iad 1) [.t 82,.t 83],la 85 84,ca 86 zb5 [.t 85],ma 13 86]
 (sr [ma 87 12,oo 88 (.bin .add) [.t 87,ki 1],ma 14 88]
 (.block 7 (.loop
 (.seq (.seq
 (rg [ma 89 14,ma 90 5,oo 91 .len [.t 90],oo 92 (.bin .lss) [.t 89,.t 91]])
 (.cond (.t 92)
 .skip
 (.exit 7)))
 (.seq (.block 8 (sr [ma 95 5,ma 96 14,oo 97 (.iad 1) [.t 95,.t 96],la 98 97,ma 99 12,oo 100 (.iad 1) [.t 98,.t 99],la 101 100,ma 102 13,ca 103 zaN [.t 101,.t 102],ma 15 103]
 (sr [ma 104 12,ma 16 104]
 (.block 9 (.loop
 (.seq (.seq
 (rg [ma 105 16,ma 106 5,oo 107 .len [.t 106],oo 108 (.bin .lss) [.t 105,.t 107]])
 (.cond (.t 108)
 .skip
 (.exit 9)))
 (.seq (.block 10 (.reg true [ma 111 5,ma 112 14,oo 113 (.iad 1) [.t 111,.t 112],la 114 113,ma 115 16,ma 116 5,ma 117 14,oo 118 (.iad 1) [.t 116,.t 117],la 119 118,ma 120 16,oo 121 (.iad 1) [.t 119,.t 120],la 122 121,oo 123 (.bin .add) [.t 122,(.c (.int .u64 2305843009213693951))],ma 124 15,ma 125 5,ma 126 12,oo 127 (.iad 1) [.t 125,.t 126],la 128 127,ma 129 16,oo 130 (.iad 1) [.t 128,.t 129],la 131 130,ca 132 zaN [.t 124,.t 131],oo 133 (.bin .sub) [.t 123,.t 132],oo 134 (.bin .rem) [.t 133,(.c (.int .u64 2305843009213693951))],oo 135 (.iad 1) [.t 114,.t 115],ou (.st 1) [.t 135,.t 134]] [[],[],[0,1],[2],[],[],[],[5,6],[7],[],[8,9],[10],[11],[],[],[],[14,15],[16],[],[17,18],[19],[13,20],[12,21],[22],[3,4,0,1,2,3,4,5,6,7,8,9,10,11,12,13,14,15,16,17,18,19,20,21,22,23],[24,23,21,0,1,2,3,4,5,6,7,8,9,10,11,12,13,14,15,16,17,18,19,20,21,22,23]]))
 (rg [ma 109 16,oo 110 (.bin .add) [.t 109,ki 1],ma 16 110]))))))))
 (rg [ma 93 14,oo 94 (.bin .add) [.t 93,ki 1],ma 14 94]))))))))))
 (rg [oo 136 (.bin .add) [.t 67,ki 1],ma 67 136])))))))
 (sr [ma 137 11,oo 138 (.cvt .i64) [.t 137],ma 4 138]
 .ret))))))⟩
def zfA : AFun:=⟨12,[(4,none)],
 (sr [oo 4 .mv [ki 0]]
 (.seq (.block 0 (.loop
 (.seq (.seq
 (rg [ma 5 1,oo 6 (.bin .neq) [.t 5,ki 0]])
 (.cond (.t 6)
 .skip
 (.exit 0)))
 (.block 1 (.reg true [ma 7 1,ma 8 0,ma 9 1,oo 10 (.bin .rem) [.t 8,.t 9],ma 0 7,ma 1 10] [[],[],[],[1,2],[0,0,1],[3,4,0,1,2,3,4]])))))
 (sr [ma 11 0,ma 4 11]
 .ret)))⟩
def zjj : AFun:=⟨79,[(4,none)],
 (sr [oo 2 (.box 3) [.t 0],oo 3 (.box 3) [.t 1],oo 4 .mv [.c (.bool false)]]
 (.seq (.seq
 (rg [fa 6 0 3,la 7 6,oo 8 .len [.t 7],oo 9 (.bin .eql) [.t 8,ki 0],ma 10 9,fh 11 0 3 10,lh 12 11 10,fh 13 0 2 10,lh 14 13 10,oh 15 .call [.f zcX,.t 12,.t 14] 10,oh 16 (.un .not) [.t 15] 10,oo 17 .pick [.t 10,.c (.bool true),.t 16],ma 18 17,fh 19 1 3 18,lh 20 19 18,oh 21 .len [.t 20] 18,oh 22 (.bin .lss) [.t 21,ki 1] 18,oo 23 .pick [.t 18,.c (.bool true),.t 22],ma 24 23,fh 25 1 3 24,lh 26 25 24,oh 27 .len [.t 26] 24,oh 28 (.bin .gtr) [.t 27,ki 8] 24,oo 29 .pick [.t 24,.c (.bool true),.t 28],ma 30 29,fh 31 2 3 30,lh 32 31 30,oh 33 (.bin .lss) [.t 32,ki 1] 30,oo 34 .pick [.t 30,.c (.bool true),.t 33],ma 35 34,fh 36 2 3 35,lh 37 36 35,oh 38 (.bin .gtr) [.t 37,ki 3] 35,oo 39 .pick [.t 35,.c (.bool true),.t 38]])
 (.cond (.t 39)
 (sr [oo 4 .mv [.c (.bool false)]]
 .ret)
 .skip))
 (.seq (.seq
 (rg [oo 5 .mv [ki 0]])
 (.block 0 (.loop
 (.seq (.seq
 (rg [ma 40 5,fa 41 1 3,la 42 41,oo 43 .len [.t 42],oo 44 (.bin .lss) [.t 40,.t 43]])
 (.cond (.t 44)
 .skip
 (.exit 0)))
 (.seq (.block 1 (.seq (.reg true [fa 47 1 3,la 48 47,ma 49 5,oo 50 (.iad 1) [.t 48,.t 49],la 51 50,oo 52 (.bin .lss) [.t 51,ki 1],ma 53 52,fh 54 1 3 53,lh 55 54 53,mh 56 5 53,oh 57 (.iad 1) [.t 55,.t 56] 53,lh 58 57 53,oh 59 (.bin .gtr) [.t 58,ki 1000] 53,oo 60 .pick [.t 53,.c (.bool true),.t 59],ma 61 60,mh 62 5 61,oh 63 (.bin .gtr) [.t 62,ki 0] 61,mh 64 63 61,fg 65 1 3 64,lg 66 65 64,mg 67 5 64,og 68 (.iad 1) [.t 66,.t 67] 64,lg 69 68 64,fg 70 1 3 64,lg 71 70 64,mg 72 5 64,og 73 (.bin .sub) [.t 72,ki 1] 64,og 74 (.iad 1) [.t 71,.t 73] 64,lg 75 74 64,og 76 (.bin .gtr) [.t 69,.t 75] 64,oh 77 .pick [.t 64,.t 76,.c (.bool false)] 61,oo 78 .pick [.t 61,.c (.bool true),.t 77]] [[],[0],[],[1,2],[3],[4],[5],[6],[7,6],[6],[8,9,6],[10,6],[11,6],[6,12],[13,6],[14],[15,14],[16,14,14],[17],[18,17],[17],[19,20,17],[21,17],[17],[23,17],[17],[25,17],[24,26,17],[27,17],[22,28,17],[17,29,14],[14,30]])
 (.cond (.t 78)
 (sr [oo 4 .mv [.c (.bool false)]]
 .ret)
 .skip)))
 (rg [ma 45 5,oo 46 (.bin .add) [.t 45,ki 1],ma 5 46]))))))
 (sr [oo 4 .mv [.c (.bool true)]]
 .ret))))⟩
def zfC : AFun:=⟨79,[(10,none)],
 (sr [oo 10 .mv [ki 0]]
 (.seq (.seq
 (rg [ma 14 1,ma 15 0,oo 16 .len [.t 15],oo 17 (.bin .eql) [.t 14,.t 16]])
 (.cond (.t 17)
 (sr [oo 10 .mv [ki 1]]
 .ret)
 .skip))
 (.seq (.seq
 (rg [ma 18 4,ma 19 2,oo 20 (.iad 1) [.t 18,.t 19],la 21 20])
 (.cond (.t 21)
 (sr [ma 22 3,ma 23 2,oo 24 (.iad 1) [.t 22,.t 23],la 25 24,ma 10 25]
 .ret)
 .skip))
 (sr [oo 11 .mv [ki 0],oo 12 .mv [ki 1]]
 (.seq (.seq
 (rg [oo 13 .mv [ki 0]])
 (.block 0 (.loop
 (.seq (.seq
 (rg [ma 26 13,ma 27 0,oo 28 .len [.t 27],oo 29 (.bin .lss) [.t 26,.t 28]])
 (.cond (.t 29)
 .skip
 (.exit 0)))
 (.seq (.block 1 (.seq (.seq
 (rg [ma 32 2,ma 33 13,oo 34 (.cvt .u64) [.t 33],oo 35 (.bin .shr) [.t 32,.t 34],oo 36 (.bin .and) [.t 35,ki 1],oo 37 (.bin .eql) [.t 36,ki 1]])
 (.cond (.t 37)
 (.exit 1)
 .skip))
 (.seq (.seq
 (rg [ma 38 0,ma 39 1,oo 40 (.iad 1) [.t 38,.t 39],la 41 40,ma 42 13,oo 43 (.iad 1) [.t 41,.t 42],la 44 43,oo 45 (.bin .neq) [.t 44,ki 0]])
 (.cond (.t 45)
 (.reg true [ma 46 11,ma 47 12,ma 48 0,ma 49 1,oo 50 (.iad 1) [.t 48,.t 49],la 51 50,ma 52 13,oo 53 (.iad 1) [.t 51,.t 52],la 54 53,oo 55 (.bin .mul) [.t 47,.t 54],ma 56 0,ma 57 1,oo 58 (.bin .add) [.t 57,ki 1],ma 59 2,ma 60 13,oo 61 (.cvt .u64) [.t 60],oo 62 (.bin .shl) [ki 1,.t 61],oo 63 (.bin .or) [.t 59,.t 62],ma 64 3,ma 65 4,ca 66 zbd [.t 56,.t 58,.t 63,.t 64,.t 65],oo 67 (.bin .mul) [.t 55,.t 66],oo 68 (.bin .add) [.t 46,.t 67],ma 11 68] [[],[],[],[],[2,3],[4],[],[5,6],[7],[1,8],[],[],[11],[],[],[14],[15],[13,16],[],[],[10,12,17,18,19],[9,20],[0,21],[22,20,0,1,2,3,4,5,6,7,8,9,10,11,12,13,14,15,16,17,18,19,20,21,22]])
 .skip))
 (rg [ma 69 12,oo 70 (.un .neg) [.t 69],ma 12 70]))))
 (rg [ma 30 13,oo 31 (.bin .add) [.t 30,ki 1],ma 13 31]))))))
 (sr [ma 71 3,ma 72 2,ma 73 4,ma 74 2,ma 75 11,oo 76 (.iad 1) [.t 71,.t 72],ou (.st 1) [.t 76,.t 75],oo 77 (.iad 1) [.t 73,.t 74],ou (.st 1) [.t 77,.c (.bool true)]]
 (sr [ma 78 11,ma 10 78]
 .ret)))))))⟩
def zjK : AFun:=⟨6,[(2,none)],
 (sr [oo 2 .mv [kn]]
 (sr [ma 3 0,ca 4 zbp [.t 3],ca 5 zbF [.t 4],ma 2 5]
 .ret))⟩
def zgB : AFun:=⟨22,[(4,none)],
 (sr [oo 4 .mv [(.c (.int .u64 0))]]
 (sr [ma 10 0,ma 11 1,ca 12 zbu [.t 10,.t 11],ma 9 12,oo 13 (.ext 0) [.t 9],oo 14 (.ext 1) [.t 9],ma 5 13,ma 6 14]
 (sr [ma 16 5,ma 17 6,ca 18 zcO [.t 16,.t 17,(.c (.int .u64 2305843009213693951))],ma 15 18,oo 19 (.ext 0) [.t 15],oo 20 (.ext 1) [.t 15],ma 7 19,ma 8 20]
 (sr [ma 21 8,ma 4 21]
 .ret))))⟩
def zfk : AFun:=⟨19,[(2,none)],
 (sr [oo 2 .mv [(.c (.int .u64 0))]]
 (sr [oo 3 .mv [(.c (.int .u64 1))]]
 (.seq (.seq
 (rg [oo 4 .mv [(.c (.int .u64 2305843009213693949))]])
 (.block 0 (.loop
 (.seq (.seq
 (rg [ma 5 4,oo 6 (.bin .gtr) [.t 5,(.c (.int .u64 0))]])
 (.cond (.t 6)
 .skip
 (.exit 0)))
 (.seq (.block 1 (.seq (.seq
 (rg [ma 9 4,oo 10 (.bin .and) [.t 9,(.c (.int .u64 1))],oo 11 (.bin .eql) [.t 10,(.c (.int .u64 1))]])
 (.cond (.t 11)
 (rg [ma 12 3,ma 13 0,ca 14 zaN [.t 12,.t 13],ma 3 14])
 .skip))
 (rg [ma 15 0,ma 16 0,ca 17 zaN [.t 15,.t 16],ma 0 17])))
 (rg [ma 7 4,oo 8 (.bin .shr) [.t 7,(.c (.int .u64 1))],ma 4 8]))))))
 (sr [ma 18 3,ma 2 18]
 .ret))))⟩
def zfM : AFun:=⟨9,[(2,none)],
 (sr [oo 2 .mv [kn]]
 (sr [ma 4 0,ca 5 zb4 [.t 4],ma 3 5]
 (sr [ma 6 3,ca 7 zaT [.t 6]]
 (sr [ma 8 3,ma 2 8]
 .ret))))⟩
def zdS : AFun:=⟨4,[(2,none)],
 (sr [oo 1 (.box 1) [.t 0],oo 2 .mv [(.c .nilFunc)]]
 (sr [oo 3 (.mkf zba) [.t 1],ma 2 3]
 .ret))⟩
def zgT : AFun:=⟨135,[(6,none),(7,none)],
 (sr [oo 6 .mv [(.c (.int .u64 0))],oo 7 .mv [(.c (.int .u64 0))]]
 (.seq (.seq
 (rg [ma 19 2,oo 20 (.bin .eql) [.t 19,(.c (.int .u64 0))]])
 (.cond (.t 20)
 (rg [oo 21 (.ld false 1) [(.c (.pointer (some ⟨0,0,none⟩)))],ou .bad []])
 .skip))
 (.seq (.seq
 (rg [ma 22 2,ma 23 0,oo 24 (.bin .leq) [.t 22,.t 23]])
 (.cond (.t 24)
 (rg [oo 25 (.ld false 1) [(.c (.pointer (some ⟨1,0,none⟩)))],ou .bad []])
 .skip))
 (.seq (.seq
 (rg [ma 26 0,oo 27 (.bin .eql) [.t 26,(.c (.int .u64 0))]])
 (.cond (.t 27)
 (.seq (.reg true [ma 28 1,ma 29 2,oo 30 (.bin .quo) [.t 28,.t 29],ma 31 1,ma 32 2,oo 33 (.bin .rem) [.t 31,.t 32],ma 6 30,ma 7 33] [[],[],[0,1],[],[],[3,4],[2,0,1,2],[5,6,0,1,2,3,4,5,6]])
 .ret)
 .skip))
 (sr [ma 34 2,ca 35 zbj [.t 34],oo 36 (.cvt .u64) [.t 35],ma 8 36]
 (sr [ma 37 2,ma 38 8,oo 39 (.bin .shl) [.t 37,.t 38],ma 2 39]
 (sr [ma 40 2,oo 41 (.bin .shr) [.t 40,(.c (.int .u64 32))],ma 9 41]
 (sr [ma 42 2,oo 43 (.bin .and) [.t 42,(.c (.int .u64 4294967295))],ma 10 43]
 (sr [ma 44 0,ma 45 8,oo 46 (.bin .shl) [.t 44,.t 45],ma 47 1,ma 48 8,oo 49 (.bin .sub) [(.c (.int .u64 64)),.t 48],oo 50 (.bin .shr) [.t 47,.t 49],oo 51 (.bin .or) [.t 46,.t 50],ma 11 51]
 (sr [ma 52 1,ma 53 8,oo 54 (.bin .shl) [.t 52,.t 53],ma 12 54]
 (sr [ma 55 12,oo 56 (.bin .shr) [.t 55,(.c (.int .u64 32))],ma 13 56]
 (sr [ma 57 12,oo 58 (.bin .and) [.t 57,(.c (.int .u64 4294967295))],ma 14 58]
 (sr [ma 59 11,ma 60 9,oo 61 (.bin .quo) [.t 59,.t 60],ma 15 61]
 (sr [ma 62 11,ma 63 15,ma 64 9,oo 65 (.bin .mul) [.t 63,.t 64],oo 66 (.bin .sub) [.t 62,.t 65],ma 16 66]
 (.seq (.block 0 (.loop
 (.seq (.seq
 (rg [ma 67 15,oo 68 (.bin .geq) [.t 67,(.c (.int .u64 4294967296))],ma 69 68,mh 70 15 69,mh 71 10 69,oh 72 (.bin .mul) [.t 70,.t 71] 69,mh 73 16 69,oh 74 (.bin .mul) [(.c (.int .u64 4294967296)),.t 73] 69,mh 75 13 69,oh 76 (.bin .add) [.t 74,.t 75] 69,oh 77 (.bin .gtr) [.t 72,.t 76] 69,oo 78 .pick [.t 69,.c (.bool true),.t 77]])
 (.cond (.t 78)
 .skip
 (.exit 0)))
 (.block 1 (sr [ma 79 15,oo 80 (.bin .sub) [.t 79,(.c (.int .u64 1))],ma 15 80]
 (sr [ma 81 16,ma 82 9,oo 83 (.bin .add) [.t 81,.t 82],ma 16 83]
 (sr [ma 84 16,oo 85 (.bin .geq) [.t 84,(.c (.int .u64 4294967296))]]
 (.cond (.t 85)
 (.exit 0)
 .skip))))))))
 (sr [ma 86 11,oo 87 (.bin .mul) [.t 86,(.c (.int .u64 4294967296))],ma 88 13,oo 89 (.bin .add) [.t 87,.t 88],ma 90 15,ma 91 2,oo 92 (.bin .mul) [.t 90,.t 91],oo 93 (.bin .sub) [.t 89,.t 92],ma 17 93]
 (sr [ma 94 17,ma 95 9,oo 96 (.bin .quo) [.t 94,.t 95],ma 18 96]
 (sr [ma 97 17,ma 98 18,ma 99 9,oo 100 (.bin .mul) [.t 98,.t 99],oo 101 (.bin .sub) [.t 97,.t 100],ma 16 101]
 (.seq (.block 2 (.loop
 (.seq (.seq
 (rg [ma 102 18,oo 103 (.bin .geq) [.t 102,(.c (.int .u64 4294967296))],ma 104 103,mh 105 18 104,mh 106 10 104,oh 107 (.bin .mul) [.t 105,.t 106] 104,mh 108 16 104,oh 109 (.bin .mul) [(.c (.int .u64 4294967296)),.t 108] 104,mh 110 14 104,oh 111 (.bin .add) [.t 109,.t 110] 104,oh 112 (.bin .gtr) [.t 107,.t 111] 104,oo 113 .pick [.t 104,.c (.bool true),.t 112]])
 (.cond (.t 113)
 .skip
 (.exit 2)))
 (.block 3 (sr [ma 114 18,oo 115 (.bin .sub) [.t 114,(.c (.int .u64 1))],ma 18 115]
 (sr [ma 116 16,ma 117 9,oo 118 (.bin .add) [.t 116,.t 117],ma 16 118]
 (sr [ma 119 16,oo 120 (.bin .geq) [.t 119,(.c (.int .u64 4294967296))]]
 (.cond (.t 120)
 (.exit 2)
 .skip))))))))
 (sr [ma 121 15,oo 122 (.bin .mul) [.t 121,(.c (.int .u64 4294967296))],ma 123 18,oo 124 (.bin .add) [.t 122,.t 123],ma 125 17,oo 126 (.bin .mul) [.t 125,(.c (.int .u64 4294967296))],ma 127 14,oo 128 (.bin .add) [.t 126,.t 127],ma 129 18,ma 130 2,oo 131 (.bin .mul) [.t 129,.t 130],oo 132 (.bin .sub) [.t 128,.t 131],ma 133 8,oo 134 (.bin .shr) [.t 132,.t 133],ma 6 124,ma 7 134]
 .ret))))))))))))))))))))⟩
def zfn : AFun:=⟨5,[(2,none)],
 (sr [oo 2 .mv [kn]]
 (sr [ma 3 0,ca 4 zbS [kn,.t 3],ma 2 4]
 .ret))⟩
def zdD : AFun:=⟨6,[(2,none)],
 (sr [oo 2 .mv [ki 0]]
 (sr [ma 3 0,ca 4 zcN [.t 3],oo 5 (.bin .sub) [ki 64,.t 4],ma 2 5]
 .ret))⟩
theorem zey : Src Tryz.prog zcL zeK:=mkS Tryz.f3
theorem zed : Src Tryz.prog zch zea:=mkS Tryz.f4
theorem zk2 : Src Tryz.prog zcc zkJ:=mkS Tryz.f11
theorem zgv : Src Tryz.prog zcv zf9:=mkS Tryz.f14
theorem ze8 : Src Tryz.prog zaX ziz:=mkS Tryz.f16
theorem zk4 : Src Tryz.prog zbc zle:=mkS Tryz.f19
theorem zc1 : Src Tryz.prog zaG zfm:=mkS Tryz.f38
theorem zek : Src Tryz.prog zbb zg2:=mkS Tryz.f39
theorem zdJ : Src Tryz.prog zaS zf8:=mkS Tryz.f40
theorem zlc : Src Tryz.prog zb6 zka:=mkS Tryz.f43
theorem zkH : Src Tryz.prog zdq zkx:=mkS Tryz.f44
theorem zkc : Src Tryz.prog zdp zk0:=mkS Tryz.f45
theorem zlj : Src Tryz.prog zbH zln:=mkS Tryz.f46
theorem znw : Src Tryz.prog zgn znJ:=mkS Tryz.f47
theorem zhV : Src Tryz.prog zc7 zl2:=mkS Tryz.f51
theorem zkS : Src Tryz.prog zds zj7:=mkS Tryz.f52
theorem zhp : Src Tryz.prog zci zhP:=mkS Tryz.f65
theorem zdH : Src Tryz.prog zbm zgg:=mkS Tryz.f82
theorem zeY : Src Tryz.prog zaF zeW:=mkS Tryz.f83
theorem zep : Src Tryz.prog za5 zeq:=mkS Tryz.f84
theorem zfJ : Src Tryz.prog zcf zfA:=mkS Tryz.f85
theorem zj3 : Src Tryz.prog zdV zjj:=mkS Tryz.f88
theorem zdl : Src Tryz.prog zbd zfC:=mkS Tryz.f89
theorem zjB : Src Tryz.prog zd2 zjK:=mkS Tryz.f131
theorem zgy : Src Tryz.prog zaN zgB:=mkS Tryz.f132
theorem zfh : Src Tryz.prog zb5 zfk:=mkS Tryz.f133
theorem zfK : Src Tryz.prog zbF zfM:=mkS Tryz.f167
theorem zee : Src Tryz.prog zbp zdS:=mkS Tryz.f168
theorem zg0 : Src Tryz.prog zcO zgT:=mkS Tryz.f170
theorem zfr : Src Tryz.prog zb4 zfn:=mkS Tryz.f194
theorem zdB : Src Tryz.prog zbj zdD:=mkS Tryz.f196
def modI (n m : Int) : Int:=if m < 1 then 0 else n % m
theorem zpP {n m : Int} (hm : 0 < m) : n.tmod m % m = n % m:=by
 have h:=Int.mul_tdiv_add_tmod n m
 conv=>rhs; rw [← h]
 rw [Int.add_comm,Int.add_mul_emod_self_left]
theorem znT {n m : Int} (hm : 0 < m) : -m < n.tmod m ∧ n.tmod m < m:=⟨Int.lt_tmod_of_pos n hm,Int.tmod_lt_of_pos n hm⟩
def zas (L : List Int) (a : Nat) (n : Int) : Int × Nat:=if h : a < L.length then (modI L[a] n,a + 1) else (0,a)
abbrev dice (L : List Int) (a : Nat) : Ent:=⟨2,[[ints L,.I a]],0⟩
theorem zam.k1 {rs : List (Nat × Option (Bool × Nat))} {st : St} {vs : List AV} {res : AV} {e : Ent} (h1 : zfd st rs = some vs) (hw : Wk (conv [(0,0)] [] st.hp 4 (resV vs)) res) (he : (st.hp 0).map (zaz [(0,0)] [] st.hp 4) = some e) : zam rs 1 st res [some e] :=
 ⟨vs,h1,[],[],by decide,by simp,by simp,hw,by simpa using he⟩
theorem zmv (L : List Int) : zaj Tryz.prog zdR [ints L] [] (.B (decide (L.length ≤ 400))) []:=by
 refine zlz.acalls (nbz rfl) (nbz rfl) (Nat.le_refl _) ?_
 show awp _ 0 _ _ ⟨6,[(0,ints L)],[],16⟩
 refine zaa ?_
 refine zac (s:=?s1) rfl ?o1 ?q1
 case o1=>simp; rfl
 refine zab ⟨6,[(2,.B (decide (L.length ≤ 400)))],[],16⟩ rfl ?_ ?_
 ·simp
  exact Le.snap [] rfl rfl (by simp <;> exact wkB (by simp; omega))
 refine zag ?_
 exact ⟨.inr rfl,zam.one (by simp)⟩
theorem zoX (n m : Int) (hm : m ≤ 9223372036854775807) : zaj Tryz.prog zeP [.I n,.I m] [] (.I (modI n m)) []:=by
 refine zoN.acalls (nbz rfl) (nbz rfl) (Nat.le_refl _) ?_
 show awp _ 0 _ _ ⟨16,[(0,.I n),(1,.I m)],[],16⟩
 refine zaa ?_
 refine zac (s:=?s1) rfl ?o1 ?q1
 case o1=>simp; rfl
 refine zaa ?_
 refine zaa ?_
 refine zac (s:=?s2) rfl ?o2 ?q2
 case o2=>simp; rfl
 refine zad _ rfl (fun h3=>?_) fun h3=>?_
 ·try simp at h3
  refine zaa ?_
  refine zac (s:=?s4) rfl ?o4 ?q4
  case o4=>simp; rfl
  refine zag ?_
  exact ⟨.inr rfl,zam.one (by simp [modI,h3])⟩
 try simp at h3
 have hm0 : m ≠ 0:=by omega
 have hlt : ¬ m < 1:=by omega
 obtain ⟨t1,t2⟩:=znT (n:=n) (m:=m) (by omega)
 have te:=zpP (n:=n) (m:=m) (by omega)
 refine zae ?_
 refine zaa ?_
 refine zac (s:=?s5) rfl ?o5 ?q5
 case o5=>simp [hm0]; rfl
 refine zaa ?_
 refine zaa ?_
 refine zac (s:=?s6) rfl ?o6 ?q6
 case o6=>simp; rfl
 refine zad _ rfl (fun h7=>?_) fun h7=>?_
 ·try simp at h7
  have hw : IntKind.i64.wrap (n.tmod m + m) = n.tmod m + m:=w64 (by omega) (by omega)
  have hr : n % m = n.tmod m + m:=by rw [← te,← Int.add_emod_right,Int.emod_eq_of_lt (by omega) (by omega)]
  refine zac (s:=?s8) rfl ?o8 ?q8
  case o8=>simp [hw]; rfl
  refine zaa ?_
  refine zac (s:=?s9) rfl ?o9 ?q9
  case o9=>simp; rfl
  refine zag ?_
  exact ⟨.inr rfl,zam.one (by simp [modI,hlt,hr])⟩
 try simp at h7
 have hr : n % m = n.tmod m:=by rw [← te,Int.emod_eq_of_lt (by omega) (by omega)]
 refine zae ?_
 refine zaa ?_
 refine zac (s:=?s10) rfl ?o10 ?q10
 case o10=>simp; rfl
 refine zag ?_
 exact ⟨.inr rfl,zam.one (by simp [modI,hlt,hr])⟩
theorem zpA (L : List Int) : zaj Tryz.prog ze4 [ints L] [] (.pt 0 0 0) [some (dice L 0)]:=by
 refine znS.acalls (nbz rfl) (nbz rfl) (Nat.zero_le _) ?_
 show awp _ 0 _ _ ⟨6,[(0,ints L)],[],16⟩
 refine zaa ?_
 refine zac (s:=?s1) rfl ?o1 ?q1
 case o1=>simp; rfl
 refine zaa ?_
 refine zac (s:=?s2) rfl ?o2 ?q2
 case o2=>simp; rfl
 refine zag ?_
 exact ⟨.inr rfl,zam.out [40] [] rfl (by simp) (by simp) (by simp) (by simp)⟩
theorem zja (L : List Int) (a : Nat) (n : Int) (hl : L.length ≤ 1099511627776) (ha : a ≤ L.length) (hn : n ≤ 9223372036854775807) : zaj Tryz.prog zau [.pt 0 0 0,.I n] [dice L a] (.I (zas L a n).1) [some (dice L (zas L a n).2)]:=by
 refine zhH.acalls (nbz rfl) (nbz rfl) (Nat.le_refl _) ?_
 show awp _ 1 _ _ ⟨35,[(0,.pt 0 0 0),(1,.I n)],[(0,some (dice L a))],16⟩
 refine zaa ?_
 refine zac (s:=?s1) rfl ?o1 ?q1
 case o1=>simp; rfl
 refine zaa ?_
 refine zaa ?_
 refine zcU (s:=?s2) (tr:=?t2) rfl ?o2 ?r2 ?q2
 case o2=>simp; constructor <;> rfl
 case r2=>rfl
 refine zad _ rfl (fun h3=>?_) fun h3=>?_
 ·try simp at h3
  refine zaa ?_
  refine zac (s:=?s4) rfl ?o4 ?q4
  case o4=>simp; rfl
  refine zag ?_
  have hr : zas L a n = (0,a):=by unfold zas; rw [dif_neg (by omega)]
  rw [hr]
  exact ⟨.inr rfl,zam.k1 rfl (by simp) (by simp [fcd])⟩
 try simp at h3
 have hw : IntKind.i64.wrap ((a : Int) + 1) = (a : Int) + 1:=w64 (by omega) (by omega)
 have hw0 : IntKind.i64.wrap (a : Int) = (a : Int):=w64 (by omega) (by omega)
 refine zae ?_
 refine zaa ?_
 refine zac (s:=?s5) rfl ?o5 ?q5
 case o5=>simp [hw]; rfl
 refine zaa ?_
 refine zcU (s:=?s6) (tr:=?t6) rfl ?o6 ?r6 ?q6
 case o6=>simp [hw0,h3]; refine zal (zoX _ _ hn) rfl ?_; simp; constructor <;> rfl
 case r6=>rfl
 refine zag ?_
 have hr : zas L a n = (modI L[a] n,a + 1):=by unfold zas; rw [dif_pos h3]
 rw [hr]
 exact ⟨.inr rfl,zam.k1 rfl (by simp) (by simp [fcd])⟩
theorem zlR {n m : Int} (hm : 0 < m) : 0 ≤ modI n m ∧ modI n m < m:=by
 unfold modI
 rw [if_neg (by omega)]
 exact ⟨Int.emod_nonneg _ (by omega),Int.emod_lt_of_pos _ hm⟩
theorem zdn {L : List Int} {a : Nat} {n : Int} (hn : 0 < n) : 0 ≤ (zas L a n).1 ∧ (zas L a n).1 < n:=by
 unfold zas
 split
 ·exact zlR hn
 ·exact ⟨Int.le_refl _,hn⟩
theorem zbs {L : List Int} {a : Nat} {n : Int} (ha : a ≤ L.length) : (zas L a n).2 ≤ L.length:=by
 unfold zas
 split
 ·simp only; omega
 ·exact ha
def ofD (L : List Int) (a : Nat) (l : List Int) : Int:=l.getD (zas L a l.length).1.toNat 0
theorem zrJ (L : List Int) (a : Nat) (n : Int) (hl : L.length ≤ 1099511627776) (ha : a ≤ L.length) (hn0 : 0 ≤ n) (hn : n ≤ 9223372036854775807) : zaj Tryz.prog zbX [.pt 0 0 0,.I n] [dice L a] (.B (decide ((zas L a n).1 = n - 1))) [some (dice L (zas L a n).2)]:=by
 refine zij.acalls (nbz rfl) (nbz rfl) (Nat.le_refl _) ?_
 show awp _ 1 _ _ ⟨11,[(0,.pt 0 0 0),(1,.I n)],[(0,some (dice L a))],16⟩
 have hw : IntKind.i64.wrap (n - 1) = n - 1:=w64 (by omega) (by omega)
 refine zaa ?_
 refine zac (s:=?s1) rfl ?o1 ?q1
 case o1=>simp; rfl
 refine zaa ?_
 refine zac (s:=?s2) rfl ?o2 ?q2
 case o2 =>
  simp
  refine zbw (i:=0) rfl (e':=dice L a) (by simp [fcd]) (zja L a n hl ha hn) (by simp) (by simp) ?_
  simp [hw,fcd]
  rfl
 refine zag ?_
 exact ⟨.inr rfl,zam.k1 rfl (by simp <;> exact wkB rfl) (by simp [fcd])⟩
theorem zut (L : List Int) (a : Nat) (l : List Int) (hl : L.length ≤ 1099511627776) (ha : a ≤ L.length) (h0 : 0 < l.length) (hl2 : l.length ≤ 1099511627776) : zaj Tryz.prog zbP [.pt 0 0 0,ints l] [dice L a] (.I (ofD L a l)) [some (dice L (zas L a l.length).2)]:=by
 refine zjA.acalls (nbz rfl) (nbz rfl) (Nat.le_refl _) ?_
 show awp _ 1 _ _ ⟨12,[(0,.pt 0 0 0),(1,ints l)],[(0,some (dice L a))],16⟩
 obtain ⟨q,hq,hql⟩ : ∃ q : Nat,(zas L a l.length).1 = q ∧ q < l.length:=by
  have:=zdn (L:=L) (a:=a) (n:=l.length) (by omega)
  exact ⟨(zas L a l.length).1.toNat,by omega,by omega⟩
 have ho : ofD L a l = l[q]:=by unfold ofD; rw [hq]; simp [hql]
 refine zaa ?_
 refine zac (s:=?s1) rfl ?o1 ?q1
 case o1=>simp; rfl
 refine zaa ?_
 refine zac (s:=?s2) rfl ?o2 ?q2
 case o2 =>
  simp
  refine zbw (i:=0) rfl (e':=dice L a) (by simp [fcd]) (zja L a l.length hl ha (by omega)) (by simp) (by simp) ?_
  simp [hq,hql,fcd]
  rfl
 refine zag ?_
 rw [ho]
 exact ⟨.inr rfl,zam.k1 rfl (by simp) (by simp [fcd])⟩
end Go.Proofs.YtfdbhehkkobfgaaGreat
