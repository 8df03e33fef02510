/- Texts of this claim,merged. -/
import Derived.Test.YteiabadhhhckfaaGreatRi6
import Derived.Shelf.Sort.Plain
import Derived.Test.YteiabadhhhckfaaGreatProg
import Derived.Shelf.Slices.In.SortNone
set_option linter.unusedSimpArgs false
set_option linter.unusedVariables false
set_option linter.unusedSectionVars false
namespace Go.Proofs.YteiabadhhhckfaaGreat
open Go
def arcD (A : List Ed) (i : Nat) : Ed:=A.getD i ⟨0,0,0⟩
theorem zb0 {A : List Ed} {i : Nat} (h : i < A.length) : arcD A i ∈ A:=by
 unfold arcD
 rw [List.getD_eq_getElem?_getD,List.getElem?_eq_getElem h]
 exact List.getElem_mem h
abbrev Stp:=Nat × Bool
def stF (A : List Ed) (s : Stp) : Int:=if s.2 then (arcD A s.1).t else (arcD A s.1).f
def stT (A : List Ed) (s : Stp) : Int:=if s.2 then (arcD A s.1).f else (arcD A s.1).t
def za9 (A : List Ed) (f : List Int) (s : Stp) : Int:=if s.2 then f.getD s.1 0 else (arcD A s.1).v - f.getD s.1 0
def zf8 (δ : Int) (f : List Int) (s : Stp) : List Int:=f.set s.1 (f.getD s.1 0 + if s.2 then -δ else δ)
def zfZ (δ : Int) (f : List Int) (l : List Stp) : List Int:=l.foldl (zf8 δ) f
theorem zlh (φ : Ed → Int → Int) : ∀ (A : List Ed) (f : List Int) (i : Nat) (v : Int),i < A.length → f.length = A.length → sumF φ A (f.set i v) = sumF φ A f + (φ (arcD A i) v - φ (arcD A i) (f.getD i 0))
 | [],_,_,_,h,_=>by simp at h
 | _ :: _,[],_,_,_,h=>by simp at h
 | e :: A,w :: f,0,v,_,_=>by
   simp only [List.set_cons_zero,sumF]
   have h1 : arcD (e :: A) 0 = e:=rfl
   have h2 : (w :: f).getD 0 0 = w:=rfl
   rw [h1,h2]
   omega
 | e :: A,w :: f,i + 1,v,h,hl=>by
   simp only [List.set_cons_succ,sumF]
   have h1 : arcD (e :: A) (i + 1) = arcD A i:=by simp [arcD]
   have h2 : (w :: f).getD (i + 1) 0 = f.getD i 0:=by simp
   rw [zlh φ A f i v (by simpa using h) (by simpa using hl),h1,h2]
   omega
def exF (A : List Ed) (f : List Int) (x : Int) : Int:=outF A f x - inF A f x
theorem ziT {δ : Int} {f : List Int} {s : Stp} : (zf8 δ f s).length = f.length:=List.length_set ..
theorem zfm {δ : Int} : ∀ {l : List Stp} {f : List Int},(zfZ δ f l).length = f.length
 | [],_=>rfl
 | s :: l,f=>by
   show (zfZ δ (zf8 δ f s) l).length = _
   rw [zfm,ziT]
theorem zpi {A : List Ed} {f : List Int} {δ : Int} {s : Stp} (hs : s.1 < A.length) (hl : f.length = A.length) (x : Int) :
  exF A (zf8 δ f s) x = exF A f x + (if stF A s = x then δ else 0) - if stT A s = x then δ else 0:=by
 unfold exF outF inF zf8
 rw [zlh _ A f s.1 _ hs hl,zlh _ A f s.1 _ hs hl]
 unfold stF stT
 generalize arcD A s.1 = e
 generalize f.getD s.1 0 = v
 generalize sumF _ A f = p
 generalize sumF _ A f = q
 obtain ⟨i,b⟩:=s
 cases b
 ·simp only [Bool.false_eq_true,if_false]
  by_cases h1 : e.f = x <;> by_cases h2 : e.t = x <;> simp only [h1,h2,if_true,if_false] <;> omega
 ·simp only [if_true]
  by_cases h1 : e.f = x <;> by_cases h2 : e.t = x <;> simp only [h1,h2,if_true,if_false] <;> omega
def WayS (A : List Ed) : Int → List Stp → Int → Prop
 | u,[],w=>u = w
 | u,s :: l,w=>s.1 < A.length ∧ stF A s = u ∧ WayS A (stT A s) l w
theorem zpj {A : List Ed} {δ : Int} (x w : Int) : ∀ {l : List Stp} {f : List Int} {u : Int},f.length = A.length → WayS A u l w → exF A (zfZ δ f l) x = exF A f x + (if u = x then δ else 0) - if w = x then δ else 0
 | [],f,u,_,h=>by
   have h' : u = w:=h
   subst h'
   show exF A f x = _
   omega
 | s :: l,f,u,hl,h=>by
   obtain ⟨h1,h2,h3⟩:=h
   show exF A (zfZ δ (zf8 δ f s) l) x = _
   rw [zpj x w (by rw [ziT,hl]) h3,zpi h1 hl x,h2]
   omega
theorem zcl {A : List Ed} {f : List Int} : Fit2 A f ↔ f.length = A.length ∧ ∀ i,i < A.length → 0 ≤ f.getD i 0 ∧ f.getD i 0 ≤ (arcD A i).v:=by
 induction A generalizing f with
 | nil =>
   cases f with
   | nil=>simp [Fit2]
   | cons v f=>simp [Fit2]
 | cons e A ih =>
   cases f with
   | nil=>simp [Fit2]
   | cons v f =>
     show (0 ≤ v ∧ v ≤ e.v) ∧ Fit2 A f ↔ _
     rw [ih]
     constructor
     ·rintro ⟨h1,h2,h3⟩
      refine ⟨by simp [h2],fun i hi=>?_⟩
      cases i with
      | zero=>exact h1
      | succ i =>
        have:=h3 i (by simpa using hi)
        simpa [arcD] using this
     ·rintro ⟨h1,h2⟩
      refine ⟨h2 0 (by simp),by simpa using h1,fun i hi=>?_⟩
      have:=h2 (i + 1) (by simpa using hi)
      simpa [arcD] using this
theorem zft {δ : Int} : ∀ {l : List Stp} {f : List Int} {i : Nat},(l.map (·.1)).Nodup → (∀ s ∈ l,s.1 < f.length) →
  (i ∉ l.map (·.1) → (zfZ δ f l).getD i 0 = f.getD i 0) ∧ ∀ b,(i,b) ∈ l → (zfZ δ f l).getD i 0 = f.getD i 0 + if b then -δ else δ
 | [],f,i,_,_=>⟨fun _=>rfl,fun b hb=>by simp at hb⟩
 | s :: l,f,i,hn,hr=>by
   rw [List.map_cons,List.nodup_cons] at hn
   have ih:=zft (δ:=δ) (l:=l) (f:=zf8 δ f s) (i:=i) hn.2 fun x hx=>by rw [ziT]; exact hr x (List.mem_cons_of_mem _ hx)
   have hs:=hr s (List.mem_cons_self ..)
   have hget : ∀ j,(zf8 δ f s).getD j 0 = if s.1 = j then f.getD j 0 + (if s.2 then -δ else δ) else f.getD j 0:=fun j=>by
    unfold zf8
    by_cases hj : s.1 = j
    ·subst hj
     rw [if_pos rfl,List.getD_eq_getElem?_getD,List.getElem?_set_self hs,Option.getD_some]
    ·rw [if_neg hj,List.getD_eq_getElem?_getD,List.getElem?_set_ne hj,List.getD_eq_getElem?_getD]
   refine ⟨fun hi=>?_,fun b hb=>?_⟩
   ·rw [List.map_cons,List.mem_cons,not_or] at hi
    show (zfZ δ (zf8 δ f s) l).getD i 0 = _
    rw [ih.1 hi.2,hget,if_neg fun e=>hi.1 e.symm]
   ·show (zfZ δ (zf8 δ f s) l).getD i 0 = _
    rcases List.mem_cons.1 hb with hb | hb
    ·subst hb
     rw [ih.1 hn.1,hget,if_pos rfl]
    ·have hne : s.1 ≠ i:=fun e=>hn.1 (e ▸ List.mem_map.2 ⟨_,hb,rfl⟩)
     rw [ih.2 b hb,hget,if_neg hne]
theorem zrl {A : List Ed} {f : List Int} {δ : Int} {l : List Stp} (hf : Fit2 A f) (h0 : 0 ≤ δ) (hn : (l.map (·.1)).Nodup) (hr : ∀ s ∈ l,s.1 < A.length ∧ δ ≤ za9 A f s) : Fit2 A (zfZ δ f l):=by
 rw [zcl] at hf ⊢
 refine ⟨by rw [zfm,hf.1],fun i hi=>?_⟩
 have hg:=zft (δ:=δ) (f:=f) (i:=i) hn fun s hs=>by rw [hf.1]; exact (hr s hs).1
 have hfi:=hf.2 i hi
 by_cases hm : i ∈ l.map (·.1)
 ·obtain ⟨⟨j,b⟩,hs,rfl⟩:=List.mem_map.1 hm
  have h1:=hg.2 b hs
  have h2:=(hr _ hs).2
  simp only at h1 h2 hfi ⊢
  rw [h1]
  unfold za9 at h2
  cases b
  ·simp only [Bool.false_eq_true,if_false] at h2 ⊢
   omega
  ·simp only [if_true] at h2 ⊢
   omega
 ·rw [hg.1 hm]
  exact hfi
theorem zfh {N : Nat} {A : List Ed} (hn : zde N A) (f : List Int) : inF A f 0 = 0:=by
 unfold inF
 rw [zcP (ψ:=fun _ _=>0) fun e he v=>if_neg (hn.arc e he).2.2.2.2.2.1,zfp]
theorem zti {N : Nat} {A : List Ed} {f : List Int} {δ : Int} {l : List Stp} (hn : zde N A) (hf : zaD N A f) (h0 : 0 ≤ δ) (hw : WayS A 0 l 1) (hd : (l.map (·.1)).Nodup) (hr : ∀ s ∈ l,s.1 < A.length ∧ δ ≤ za9 A f s) :
  zaD N A (zfZ δ f l) ∧ valF A (zfZ δ f l) = valF A f + δ:=by
 have hl:=hf.fit.len
 have hx:=fun x=>zpj (A:=A) (δ:=δ) x 1 (l:=l) (f:=f) hl hw
 refine ⟨⟨zrl hf.fit h0 hd hr,fun x h2 hN=>?_⟩,?_⟩
 ·have h3:=hx x
  have h4:=hf.bal x h2 hN
  rw [if_neg (by omega),if_neg (by omega)] at h3
  unfold exF at h3
  omega
 ·have h3:=hx 0
  rw [if_pos rfl,if_neg (by omega)] at h3
  unfold exF at h3
  rw [zfh hn,zfh hn] at h3
  unfold valF
  omega
theorem zp5 {N : Nat} {A : List Ed} {f : List Int} (hn : zde N A) (hf : zaD N A f) {S : Int → Bool} (h0 : S 0 = true) (h1 : S 1 = false)
  (hc : ∀ s : Stp,s.1 < A.length → S (stF A s) = true → 0 < za9 A f s → S (stT A s) = true) : valF A f = capS S A:=by
 rw [zlD hn hf h0 h1]
 have key : ∀ {A : List Ed} {f : List Int},Fit2 A f → (∀ s : Stp,s.1 < A.length → S (stF A s) = true → 0 < za9 A f s → S (stT A s) = true) → outS S A f = capS S A ∧ inS S A f = 0:=by
  intro A
  induction A with
  | nil=>intro f _ _; simp [outS,inS,capS,sumF]
  | cons e A ih =>
    intro f hf hc
    cases f with
    | nil=>exact hf.elim
    | cons v f =>
      have h2:=ih hf.2 fun s hs hsf hr=>by
       have:=hc (s.1 + 1,s.2) (by simpa using hs) (by simpa [stF,arcD] using hsf) (by simpa [za9,arcD] using hr)
       simpa [stT,arcD] using this
      have ha:=hc (0,false) (by simp)
      have hb:=hc (0,true) (by simp)
      simp [stF,stT,za9,arcD] at ha hb
      have hv:=hf.1
      unfold outS inS capS at h2 ⊢
      simp only [sumF,List.map_cons]
      obtain ⟨p1,p2⟩:=h2
      rw [p1,p2]
      cases hF : S e.f <;> cases hT : S e.t <;> simp [hF,hT] at ha hb ⊢ <;> omega
 obtain ⟨p1,p2⟩:=key hf.fit hc
 rw [p1,p2]
 omega
theorem WayS.snoc {A : List Ed} : ∀ {l : List Stp} {u w : Int} {s : Stp},WayS A u l w → s.1 < A.length → stF A s = w → WayS A u (l ++ [s]) (stT A s)
 | [],u,w,s,h,h1,h2=>⟨h1,by rw [h2]; exact (show u = w from h).symm,rfl⟩
 | t :: l,u,w,s,h,h1,h2=>⟨h.1,h.2.1,WayS.snoc h.2.2 h1 h2⟩
structure zqO (A : List Ed) (f : List Int) (D : List Int) (by_ : Int → Stp) : Prop where
 zero : D.head? = some 0
 nodup : D.Nodup
 step : ∀ j (h : j < D.length),0 < j → (by_ D[j]).1 < A.length ∧ stT A (by_ D[j]) = D[j] ∧ stF A (by_ D[j]) ∈ D.take j ∧ 0 < za9 A f (by_ D[j])
theorem zoe {A : List Ed} {s t : Stp} (h : s.1 = t.1) : (stF A s = stF A t ∧ stT A s = stT A t) ∨ (stF A s = stT A t ∧ stT A s = stF A t):=by
 obtain ⟨i,b⟩:=s
 obtain ⟨j,c⟩:=t
 simp only at h
 subst h
 unfold stF stT
 cases b <;> cases c <;> simp
theorem zqO.way {A : List Ed} {f D : List Int} {by_ : Int → Stp} (h : zqO A f D by_) : ∀ (n j : Nat) (hj : j < D.length),j ≤ n →
  ∃ l,WayS A 0 l D[j] ∧ (l.map (·.1)).Nodup ∧ ∀ s ∈ l,s.1 < A.length ∧ 0 < za9 A f s ∧ by_ (stT A s) = s ∧ stT A s ≠ 0 ∧ stF A s ∈ D.take (j + 1) ∧ stT A s ∈ D.take (j + 1)
 | n,0,hj,_=>by
   refine ⟨[],?_,by simp,by simp⟩
   show (0 : Int) = D[0]
   have h0:=h.zero
   rw [List.head?_eq_getElem?,List.getElem?_eq_getElem hj] at h0
   exact (Option.some.inj h0).symm
 | 0,j + 1,_,hn=>by omega
 | n + 1,j + 1,hj,hn=>by
   obtain ⟨h1,h2,h3,h4⟩:=h.step (j + 1) hj (by omega)
   obtain ⟨i,hi,hiF⟩:=List.mem_iff_getElem.1 h3
   rw [List.length_take] at hi
   rw [List.getElem_take] at hiF
   have hij : i < j + 1:=by omega
   obtain ⟨l,w1,w2,w3⟩:=h.way n i (by omega) (by omega)
   have hne : ∀ (k m : Nat) (hk : k < D.length) (hm : m < D.length),k ≠ m → D[k] ≠ D[m]:=fun k m hk hm hkm he=>by
    rcases Nat.lt_or_ge k m with hlt | hge
    ·exact List.pairwise_iff_getElem.1 h.nodup k m hk hm hlt he
    ·exact List.pairwise_iff_getElem.1 h.nodup m k hm hk (by omega) he.symm
   have hnot : D[j + 1] ∉ D.take (i + 1):=fun hm=>by
    obtain ⟨k,hk,hkD⟩:=List.mem_iff_getElem.1 hm
    rw [List.length_take] at hk
    rw [List.getElem_take] at hkD
    exact hne k (j + 1) (by omega) hj (by omega) hkD
   have hup : ∀ x,x ∈ D.take (i + 1) → x ∈ D.take (j + 1 + 1):=fun x hx=>(List.take_sublist_take_left (by omega : i + 1 ≤ j + 1 + 1)).subset hx
   have h0 : D[j + 1] ≠ 0:=fun he=>by
    have hz:=h.zero
    rw [List.head?_eq_getElem?,List.getElem?_eq_getElem (by omega)] at hz
    exact hne 0 (j + 1) (by omega) hj (by omega) ((Option.some.inj hz).trans he.symm)
   refine ⟨l ++ [by_ D[j + 1]],?_,?_,fun s hs=>?_⟩
   ·have:=WayS.snoc (s:=by_ D[j + 1]) w1 h1 hiF.symm
    rw [h2] at this
    exact this
   ·rw [List.map_append,List.nodup_append]
    refine ⟨w2,by simp,fun a ha b hb=>?_⟩
    obtain ⟨t,ht,rfl⟩:=List.mem_map.1 ha
    simp only [List.map_cons,List.map_nil,List.mem_singleton] at hb
    subst hb
    intro he
    obtain ⟨_,_,_,_,q1,q2⟩:=w3 t ht
    rcases zoe (A:=A) he with ⟨e1,e2⟩ | ⟨e1,e2⟩
    ·rw [e2,h2] at q2
     exact hnot q2
    ·rw [e1,h2] at q1
     exact hnot q1
   ·rcases List.mem_append.1 hs with hs | hs
    ·obtain ⟨p1,p2,p3,p4,p5,p6⟩:=w3 s hs
     exact ⟨p1,p2,p3,p4,hup _ p5,hup _ p6⟩
    ·rw [List.mem_singleton] at hs
     subst hs
     refine ⟨h1,h4,by rw [h2],by rw [h2]; exact h0,?_,?_⟩
     ·exact (List.take_sublist_take_left (by omega : j + 1 ≤ j + 1 + 1)).subset h3
     ·rw [h2]
      refine List.mem_iff_getElem.2 ⟨j + 1,by rw [List.length_take]; omega,by rw [List.getElem_take]⟩
def zeg (A : List Ed) (f D : List Int) : Prop:=∀ s : Stp,s.1 < A.length → stF A s ∈ D → 0 < za9 A f s → stT A s ∈ D
theorem zg9 {N : Nat} {A : List Ed} {f D : List Int} (hn : zde N A) (hf : zaD N A f) (h0 : (0 : Int) ∈ D) (h1 : (1 : Int) ∉ D) (hc : zeg A f D) : valF A f = capS (fun x=>decide (x ∈ D)) A ∧ ∀ f',zaD N A f' → valF A f' ≤ valF A f:=by
 have e:=zp5 (S:=fun x=>decide (x ∈ D)) hn hf (by simpa using h0) (by simpa using h1) fun s hs hF hr=>by
  have:=hc s hs (by simpa using hF) hr
  simpa using this
 refine ⟨e,fun f' hf'=>?_⟩
 rw [e]
 exact zdx hn hf' (by simpa using h0) (by simpa using h1)
theorem zkt {N : Nat} {A : List Ed} {f D : List Int} {by_ : Int → Stp} (hn : zde N A) (hf : zaD N A f) (ht : zqO A f D by_) {S : Int → Bool} (h0 : S 0 = true) (h1 : S 1 = false) (hS : capS S A = valF A f) : ∀ x ∈ D,S x = true:=by
 have hv:=zlD hn hf h0 h1
 have ho:=znv hf.fit S
 have hi:=zhq hf.fit S
 have ho2 : outS S A f = capS S A:=by omega
 have hi2 : inS S A f = 0:=by omega
 have key : ∀ {A : List Ed} {f : List Int},Fit2 A f → outS S A f = capS S A → inS S A f = 0 → ∀ s : Stp,s.1 < A.length → S (stF A s) = true → 0 < za9 A f s → S (stT A s) = true:=by
  intro A
  induction A with
  | nil=>intro f _ _ _ s hs; simp at hs
  | cons e A ih =>
    intro f hf ho hi s hs hF hr
    cases f with
    | nil=>exact hf.elim
    | cons v f =>
      have k1:=znv hf.2 S
      have k2:=zhq hf.2 S
      have hv:=hf.1
      have e1 : outS S (e :: A) (v :: f) = (if S e.f = true ∧ S e.t = false then v else 0) + outS S A f:=rfl
      have e2 : inS S (e :: A) (v :: f) = (if S e.f = false ∧ S e.t = true then v else 0) + inS S A f:=rfl
      have e3 : capS S (e :: A) = (if S e.f = true ∧ S e.t = false then e.v else 0) + capS S A:=rfl
      rw [e1,e3] at ho
      rw [e2] at hi
      obtain ⟨i,b⟩:=s
      cases i with
      | zero =>
        cases b
        ·simp [stF,stT,za9,arcD] at hF hr ⊢
         cases hT : S e.t
         ·simp [hF,hT] at ho
          omega
         ·rfl
        ·simp [stF,stT,za9,arcD] at hF hr ⊢
         cases hT : S e.f
         ·simp [hF,hT] at hi
          omega
         ·rfl
      | succ i =>
        have q1 : outS S A f = capS S A:=by
         split at ho <;> omega
        have q2 : inS S A f = 0:=by
         split at hi <;> omega
        have:=ih hf.2 q1 q2 (i,b) (by simpa using hs) (by simpa [stF,arcD] using hF) (by simpa [za9,arcD] using hr)
        simpa [stT,arcD] using this
 have hcl:=key hf.fit ho2 hi2
 have hind : ∀ (n j : Nat) (hj : j < D.length),j ≤ n → S D[j] = true:=by
  intro n
  induction n with
  | zero =>
    intro j hj hn
    have hj0 : j = 0:=by omega
    subst hj0
    have hz:=ht.zero
    rw [List.head?_eq_getElem?,List.getElem?_eq_getElem hj] at hz
    rw [Option.some.inj hz]
    exact h0
  | succ n ih =>
    intro j hj hn
    rcases Nat.eq_zero_or_pos j with hj0 | hj0
    ·exact ih j hj (by omega)
    ·obtain ⟨q1,q2,q3,q4⟩:=ht.step j hj hj0
     obtain ⟨i,hi,hiF⟩:=List.mem_iff_getElem.1 q3
     rw [List.length_take] at hi
     rw [List.getElem_take] at hiF
     have:=hcl _ q1 (by rw [← hiF]; exact ih i (by omega) (by omega)) q4
     rw [q2] at this
     exact this
 intro x hx
 obtain ⟨j,hj,rfl⟩:=List.mem_iff_getElem.1 hx
 exact hind j j hj (Nat.le_refl _)
theorem zak {α β : Type} (f : α → β) (l : List α) : List.take l.length (List.map f l) = List.map f l:=List.take_of_length_le (by simp)
def zdM : Gr:=⟨0,[],[]⟩
def zl3 (g : Gr) (e : Ed) : Gr:=⟨g.size,g.edges.take (idxE g.edges ⟨e.f,e.t,0⟩) ++ e :: g.edges.drop (idxE g.edges ⟨e.f,e.t,0⟩),g.gone⟩
open Classical in
noncomputable def zdS (g : Gr) (e : Ed) : Gr × Int :=
 if ¬ GrOk g then (zdM,14) else if ¬ Fits g e then (zdM,4) else if ¬ (1 ≤ e.v ∧ e.v ≤ 3) then (zdM,2)
 else if AtE g.edges (idxE g.edges ⟨e.f,e.t,0⟩) e.f e.t then (zdM,19) else if g.edges.length = 500 then (zdM,3) else (zl3 g e,0)
open Classical in
theorem zlR (g : Gr) (e : Ed) (hl : g.edges.length * 24 ≤ 140737488355328) (hl2 : g.gone.length * 8 ≤ 140737488355328) : zaj Tryz.prog zgb [eG g,eE e] [] (.tup [eG (zdS g e).1,.I (zdS g e).2]) []:=by
 refine znI.acalls (nbz rfl) (nbz rfl) (Nat.le_refl _) ?_
 show awp _ 0 _ _ ⟨103,[(0,eG g),(1,eE e)],[],16⟩
 refine zaa ⟨103,[(2,.pv (gC g)),(3,.pv (eC e)),(4,.pt 32 0 0)],[(32,some ⟨3,[[.I 0,.nilS,.nilS]],0⟩)],40⟩ rfl ?_ ?_
 ·simp
  exact Le.var1 32 [16,24] rfl rfl (nbz rfl) (by decide) rfl (by simp) (by simp) (by simp)
 refine zab ?_
 refine zab ?_
 refine zae (s:=?s1) rfl ?o1 ?q1
 case o1=>simp; refine zap (zfX g (by omega) (by omega)) rfl ?_; simp; rfl
 refine zac _ rfl (fun h2=>?_) fun h2=>?_
 ·have hg : ¬ GrOk g:=by
   intro hg
   simp [hg] at h2
  refine zab ?_
  refine zae (s:=?s3) rfl ?o3 ?q3
  case o3=>simp; rfl
  refine zah ?_
  refine ⟨.inr rfl,?_⟩
  show zal [(4,some (true,3)),(5,none)] 0 _ _ _
  refine zal.out (vs:=[.agg [.I 0,.nilS,.nilS],.I 14]) [] [] (by simp) (by simp) (by simp) ?_ (by simp)
  have hr : zdS g e = (zdM,14):=by grind [zdS]
  simp [hr,zdM]
  exact wkT2 (wkA3 (.refl _) (.nil _ _) (.nil _ _)) (.refl _)
 have hg : GrOk g:=by
  rcases Classical.em (GrOk g) with h | h
  ·exact h
  ·simp [h] at h2
 refine zad ?_
 refine zab ?_
 refine zae (s:=?s4) rfl ?o4 ?q4
 case o4=>simp; refine zap (zkh g _ _ (by omega)) rfl ?_; simp; rfl
 refine zab ?_
 refine zag ?_
 refine zaa ⟨103,[(2,.pv (gC g)),(3,.pv (eC e)),(4,.pt 32 0 0),(6,.I (idxE g.edges ⟨e.f,e.t,0⟩)),(7,.B (decide (AtE g.edges (idxE g.edges ⟨e.f,e.t,0⟩) e.f e.t))),(22,.B (decide (¬ Fits g e)))],[(32,some ⟨3,[[.I 0,.nilS,.nilS]],0⟩)],40⟩ rfl ?_ ?_
 ·simp
  repeat' first
   | (refine zdT zbj rfl ?_; refine zap (zo4 _ _ (by omega)) rfl ?_; simp)
   | (refine zcc (fun hb=>?_) (fun hb=>?_) <;> (try rw [hb]) <;> (try simp at hb) <;> simp [*])
  all_goals exact Le.var1 32 [] rfl rfl (nbz rfl) (by decide) rfl (by simp) (by simp) (by simp <;> exact wkB (by (try simp at *); grind [Fits]))
 refine zac _ rfl (fun h5=>?_) fun h5=>?_
 ·try simp at h5
  refine zab ?_
  refine zae (s:=?s6) rfl ?o6 ?q6
  case o6=>simp; rfl
  refine zah ?_
  refine ⟨.inr rfl,?_⟩
  show zal [(4,some (true,3)),(5,none)] 0 _ _ _
  refine zal.out (vs:=[.agg [.I 0,.nilS,.nilS],.I 4]) [] [] (by simp) (by simp) (by simp) ?_ (by simp)
  have hr : zdS g e = (zdM,4):=by grind [zdS]
  simp [hr,zdM]
  exact wkT2 (wkA3 (.refl _) (.nil _ _) (.nil _ _)) (.refl _)
 try simp at h5
 refine zaa ⟨103,[(2,.pv (gC g)),(3,.pv (eC e)),(4,.pt 32 0 0),(6,.I (idxE g.edges ⟨e.f,e.t,0⟩)),(7,.B (decide (AtE g.edges (idxE g.edges ⟨e.f,e.t,0⟩) e.f e.t))),(67,.B (decide (¬ (1 ≤ e.v ∧ e.v ≤ 3))))],[(32,some ⟨3,[[.I 0,.nilS,.nilS]],0⟩)],40⟩ rfl ?_ ?_
 ·simp
  repeat' first
   | (refine zcc (fun hb=>?_) (fun hb=>?_) <;> (try rw [hb]) <;> (try simp at hb) <;> simp [*])
  all_goals exact Le.var1 32 [] rfl rfl (nbz rfl) (by decide) rfl (by simp) (by simp) (by simp <;> exact wkB (by (try simp at *); grind [Fits]))
 refine zac _ rfl (fun h7=>?_) fun h7=>?_
 ·try simp at h7
  refine zab ?_
  refine zae (s:=?s8) rfl ?o8 ?q8
  case o8=>simp; rfl
  refine zah ?_
  refine ⟨.inr rfl,?_⟩
  show zal [(4,some (true,3)),(5,none)] 0 _ _ _
  refine zal.out (vs:=[.agg [.I 0,.nilS,.nilS],.I 2]) [] [] (by simp) (by simp) (by simp) ?_ (by simp)
  have hr : zdS g e = (zdM,2):=by grind [zdS]
  simp [hr,zdM]
  exact wkT2 (wkA3 (.refl _) (.nil _ _) (.nil _ _)) (.refl _)
 try simp at h7
 refine zab ?_
 refine zae (s:=?s9) rfl ?o9 ?q9
 case o9=>simp; rfl
 refine zac _ rfl (fun h10=>?_) fun h10=>?_
 ·try simp at h10
  refine zab ?_
  refine zae (s:=?s11) rfl ?o11 ?q11
  case o11=>simp; rfl
  refine zah ?_
  refine ⟨.inr rfl,?_⟩
  show zal [(4,some (true,3)),(5,none)] 0 _ _ _
  refine zal.out (vs:=[.agg [.I 0,.nilS,.nilS],.I 19]) [] [] (by simp) (by simp) (by simp) ?_ (by simp)
  have hr : zdS g e = (zdM,19):=by grind [zdS]
  simp [hr,zdM]
  exact wkT2 (wkA3 (.refl _) (.nil _ _) (.nil _ _)) (.refl _)
 try simp at h10
 refine zab ?_
 refine zae (s:=?s12) rfl ?o12 ?q12
 case o12=>simp; rfl
 refine zac _ rfl (fun h13=>?_) fun h13=>?_
 ·try simp at h13
  refine zab ?_
  refine zae (s:=?s14) rfl ?o14 ?q14
  case o14=>simp; rfl
  refine zah ?_
  refine ⟨.inr rfl,?_⟩
  show zal [(4,some (true,3)),(5,none)] 0 _ _ _
  refine zal.out (vs:=[.agg [.I 0,.nilS,.nilS],.I 3]) [] [] (by simp) (by simp) (by simp) ?_ (by simp)
  have hr : zdS g e = (zdM,3):=by grind [zdS]
  simp [hr,zdM]
  exact wkT2 (wkA3 (.refl _) (.nil _ _) (.nil _ _)) (.refl _)
 try simp at h13
 refine zad ?_
 have hle:=zrA g.edges ⟨e.f,e.t,0⟩
 refine zab ?_
 refine zae (s:=?s20) rfl ?o20 ?q20
 case o20=>simp; refine zq5 (zhb g hl hl2) rfl ?_; simp [fcd]; rfl
 have h500 : g.edges.length ≤ 500:=hg.1.2.2.1
 have hmin : min (idxE g.edges ⟨e.f,e.t,0⟩) g.edges.length = idxE g.edges ⟨e.f,e.t,0⟩:=Nat.min_eq_left hle
 have hr : zdS g e = (zl3 g e,0):=by grind [zdS]
 rw [hr]
 unfold zl3
 generalize idxE g.edges ⟨e.f,e.t,0⟩ = k at *
 have htk : List.take (k + 1) (List.take k (List.map (fun e : Ed=>[AV.I e.f,AV.I e.t,AV.I e.v]) g.edges) ++ [[AV.I e.f,AV.I e.t,AV.I e.v]]) = List.take k (List.map (fun e : Ed=>[AV.I e.f,AV.I e.t,AV.I e.v]) g.edges) ++ [[AV.I e.f,AV.I e.t,AV.I e.v]]:=List.take_of_length_le (by simp; exact Nat.min_le_left _ _)
 obtain ⟨E,hE⟩ : ∃ E,E = g.edges.take k ++ e :: g.edges.drop k:=⟨_,rfl⟩
 have hEl : k + 1 + (g.edges.length - k) = E.length:=by subst hE; simp; omega
 have hrows : List.take k (List.map (fun e : Ed=>[AV.I e.f,AV.I e.t,AV.I e.v]) g.edges) ++ [AV.I e.f,AV.I e.t,AV.I e.v] :: List.drop k (List.map (fun e : Ed=>[AV.I e.f,AV.I e.t,AV.I e.v]) g.edges) = E.map fun e : Ed=>[AV.I e.f,AV.I e.t,AV.I e.v]:=by subst hE; simp [List.map_take,List.map_drop]
 rw [← hE]
 refine zab ?_
 refine zeI (s:=?s15) (tr:=?t15) rfl ?o15 ?r15 ?q15
 case o15 =>
  simp [hmin,hle,htk,hEl,hrows]
  repeat' apply And.intro
  all_goals first | omega | rfl
 case r15=>rfl
 refine zab ?_
 refine zae (s:=?s16) rfl ?o16 ?q16
 case o16=>simp; rfl
 refine zah ?_
 refine ⟨.inr rfl,?_⟩
 show zal [(4,some (true,3)),(5,none)] 0 _ _ _
 refine zal.out (vs:=[.agg [.I g.size,.rs 224 0 E.length,.rs 105 0 g.gone.length],.I 0]) [] [224,105] (by simp) (by simp) (by simp) ?_ (by simp)
 simp [fcd,zak]
end Go.Proofs.YteiabadhhhckfaaGreat
namespace Go.Proofs
open Go.Shelf
def Tryz.lays189_ren : Go.Shelf.Ren:=⟨fun | 189=>172 | 125=>182 | 257=>181 | 128=>195 | 129=>196 | 294=>186 | 295=>187 | 296=>188 | 297=>189 | 298=>190 | 299=>191 | 216=>192 | 300=>193 | 301=>194 | 328=>198 | 329=>199 | 330=>200 | 331=>201 | 332=>202 | 215=>168 | 343=>203 | n=>n,fun | 28=>22 | 3=>3 | 46=>169 | 0=>0 | 51=>179 | 53=>182 | 4=>4 | 183=>187 | 182=>186 | 131=>112 | 5=>5 | 9=>9 | 218=>193 | 222=>197 | 228=>199 | 229=>155 | n=>n,fun | n=>n⟩
theorem Tryz.lays189 : Go.Proofs.Lays.n189 Tryz.prog Tryz.lays189_ren:={
 mixed:=by kernel_rfl
 f125:=Tryz.func182.trans (congrArg some (by kernel_rfl))
 f128:=Tryz.func195.trans (congrArg some (by kernel_rfl))
 f129:=Tryz.func196.trans (congrArg some (by kernel_rfl))
 f189:=Tryz.func172.trans (congrArg some (by kernel_rfl))
 f215:=Tryz.func168.trans (congrArg some (by kernel_rfl))
 f216:=Tryz.func192.trans (congrArg some (by kernel_rfl))
 f257:=Tryz.func181.trans (congrArg some (by kernel_rfl))
 f294:=Tryz.func186.trans (congrArg some (by kernel_rfl))
 f295:=Tryz.func187.trans (congrArg some (by kernel_rfl))
 f296:=Tryz.func188.trans (congrArg some (by kernel_rfl))
 f297:=Tryz.func189.trans (congrArg some (by kernel_rfl))
 f298:=Tryz.func190.trans (congrArg some (by kernel_rfl))
 f299:=Tryz.func191.trans (congrArg some (by kernel_rfl))
 f300:=Tryz.func193.trans (congrArg some (by kernel_rfl))
 f301:=Tryz.func194.trans (congrArg some (by kernel_rfl))
 f328:=Tryz.func198.trans (congrArg some (by kernel_rfl))
 f329:=Tryz.func199.trans (congrArg some (by kernel_rfl))
 f330:=Tryz.func200.trans (congrArg some (by kernel_rfl))
 f331:=Tryz.func201.trans (congrArg some (by kernel_rfl))
 f332:=Tryz.func202.trans (congrArg some (by kernel_rfl))
 f343:=Tryz.func203.trans (congrArg some (by kernel_rfl))
 t0:=Tryz.underlying0
 a0:=Tryz.isAgg0
 z0:=Tryz.sizeOf0
 v0:=Tryz.zeroValue0
 t3:=Tryz.underlying3
 a3:=Tryz.isAgg3
 z3:=Tryz.sizeOf3
 v3:=Tryz.zeroValue3
 t4:=Tryz.underlying4
 a4:=Tryz.isAgg4
 z4:=Tryz.sizeOf4
 v4:=Tryz.zeroValue4
 t5:=Tryz.underlying5
 a5:=Tryz.isAgg5
 z5:=Tryz.sizeOf5
 v5:=Tryz.zeroValue5
 t9:=Tryz.underlying9
 a9:=Tryz.isAgg9
 z9:=Tryz.sizeOf9
 v9:=Tryz.zeroValue9
 t28:=Tryz.underlying22
 a28:=Tryz.isAgg22
 z28:=Tryz.sizeOf22
 v28:=Tryz.zeroValue22
 t46:=Tryz.underlying169
 a46:=Tryz.isAgg169
 z46:=Tryz.sizeOf169
 v46:=Tryz.zeroValue169
 t51:=Tryz.underlying179
 a51:=Tryz.isAgg179
 z51:=Tryz.sizeOf179
 v51:=Tryz.zeroValue179
 t53:=Tryz.underlying182
 a53:=Tryz.isAgg182
 z53:=Tryz.sizeOf182
 v53:=Tryz.zeroValue182
 t131:=Tryz.underlying112
 a131:=Tryz.isAgg112
 z131:=Tryz.sizeOf112
 v131:=Tryz.zeroValue112
 t182:=Tryz.underlying186
 a182:=Tryz.isAgg186
 z182:=Tryz.sizeOf186
 v182:=Tryz.zeroValue186
 t183:=Tryz.underlying187
 a183:=Tryz.isAgg187
 z183:=Tryz.sizeOf187
 v183:=Tryz.zeroValue187
 t218:=Tryz.underlying193
 a218:=Tryz.isAgg193
 z218:=Tryz.sizeOf193
 v218:=Tryz.zeroValue193
 t222:=Tryz.underlying197
 a222:=Tryz.isAgg197
 z222:=Tryz.sizeOf197
 v222:=Tryz.zeroValue197
 t228:=Tryz.underlying199
 a228:=Tryz.isAgg199
 z228:=Tryz.sizeOf199
 v228:=Tryz.zeroValue199
 t229:=Tryz.underlying155
 a229:=Tryz.isAgg155
 z229:=Tryz.sizeOf155
 v229:=Tryz.zeroValue155 }
end Go.Proofs
namespace Go.Proofs.YteiabadhhhckfaaGreat
open Go
def zdR (l : List Int) : List (List AV):=l.map fun n=>[AV.I n]
theorem Src.body {P : Program} {f : FuncId} {af : AFun} (s : Src P f af) : ∃ fn c,P.funcs[f]? = some fn ∧ fn.body = some c ∧ fn.name ≠ "runtime.NumGoroutine":=by
 obtain ⟨_,fn,hf,hc,hn⟩:=s
 unfold zqV at hc
 cases hb : fn.body with
 | none=>rw [hb] at hc; cases hc
 | some c=>exact ⟨fn,c,hf,hb,hn⟩
theorem zrT (zs : List Int) (h0 : zs ≠ []) (hl : zs.length < 4611686018427387904) :
  zaj Tryz.prog za2 [.rs 0 0 zs.length] [{ s:=1,rows:=zdR zs }] (.tup []) ([{ s:=1,rows:=zdR (zs.mergeSort fun x y=>decide (x ≤ y)) }].map some):=by
 refine ⟨zdf.body,by simp,fun T M w vs htok hhs hdom hrep=>?_⟩
 have hpos : 0 < zs.length:=List.length_pos_iff.2 h0
 obtain ⟨hsz,hr⟩:=hrep
 have hr0:=hr 0 (by simp)
 simp only [List.getD_cons_zero] at hr0
 have hvs : vs = #[vs.getD 0 undef]:=by
  apply Array.ext
  ·simpa using hsz
  ·intro i h1 h2
   have : i = 0:=by simp at h2; omega
   subst this
   simp [Array.getD,h1]
 rw [hvs]
 generalize vs.getD 0 undef = v at hr0
 cases hr0 with
 | rs _ _ _ _ cap a g hg hgz hlc hn hb =>
 obtain ⟨g',hg',ent⟩:=hhs.ent 0 _ rfl
 rw [hg] at hg'
 obtain rfl:=Option.some.inj hg'
 have hrl : (zdR zs).length = zs.length:=by simp [zdR]
 cases hblk : g.blk with
 | none =>
   have:=ent.none hblk
   simp [zdR] at this
   exact absurd this h0
 | some b =>
 obtain ⟨hcap,c0,t0,f0,hc0,hle0⟩:=hb b hblk
 obtain ⟨cells,ty,hw,htb,hlen,hrows⟩:=ent.blk (Nat.succ_ne_zero 0) b hblk
 have ha : a = some ⟨b,g.base + 0 * g.s,none⟩:=by
  rcases hcap with h | h
  ·omega
  ·exact h
 subst ha
 simp only [Nat.zero_mul,Nat.add_zero] at *
 have hcell : ∀ i,(hi : i < zs.length) → cells[g.base + i]? = some (.int .i64 zs[i]):=by
  intro i hi
  obtain ⟨u,hu,_,hru⟩:=hrows i 0 (by rw [hrl]; exact hi) (by decide)
  simp only [Nat.mul_one,Nat.add_zero] at hu
  rw [hu]
  have : ((zdR zs).getD i []).getD 0 .dead = .I zs[i]:=by simp [zdR,List.getD,hi]
  rw [this] at hru
  cases hru
  rfl
 have hb' : b < w.heap.size:=(Array.getElem?_eq_some_iff.1 hw).1
 refine (Any.slices_Sort_int Tryz.lays189 b g.base cap zs w ?_ hb' hl).mono ?_
 ·intro j hj
  have hj' : j < zs.length:=by simpa using hj
  constructor
  ·show w.cell? _ = _
   unfold World.cell?
   simp only [hw]
   rw [hcell j hj']
   simp [hj']
  ·unfold World.frozen?
   simp only [hw]
   simp
 ·rintro e w' ⟨rfl,n,os,rfl⟩
  have hsl : (zs.mergeSort fun x y=>decide (x ≤ y)).length = zs.length:=List.length_mergeSort zs
  generalize (zs.mergeSort fun x y=>decide (x ≤ y)) = ys at hsl
  have hh : ∀ b',b' < w.heap.size → (Go.Sort.grow (Go.Sort.putRow (Value.int .i64) (Go.Sort.ahead w n) b g.base ys.toArray) os).heap[b']? = if b' = b then some (.cells (Go.Sort.putCells (Value.int .i64) g.base ys.toArray cells) ty (0,0)) else w.heap[b']?:=by
   intro b' hb1
   have hsz' : (w.heap.modify b (Go.Sort.onCells (Go.Sort.putCells (Value.int .i64) g.base ys.toArray))).size = w.heap.size:=Array.size_modify
   show ((w.heap.modify b (Go.Sort.onCells (Go.Sort.putCells (Value.int .i64) g.base ys.toArray))) ++ os)[b']? = _
   rw [Array.getElem?_append_left (by rw [hsz']; exact hb1),Array.getElem?_modify]
   by_cases hbb : b = b'
   ·subst hbb
    rw [if_pos rfl,if_pos rfl,hw]
    rfl
   ·rw [if_neg hbb,if_neg (Ne.symm hbb)]
  have hput : ∀ o,(o < g.base ∨ g.base + ys.length ≤ o) → (Go.Sort.putCells (Value.int .i64) g.base ys.toArray cells)[o]? = cells[o]?:=by
   intro o ho
   unfold Go.Sort.putCells
   rw [Array.getElem?_mapIdx]
   cases hc : cells[o]? with
   | none=>rfl
   | some u =>
     simp only [Option.map_some]
     rw [if_neg]
     simp
     omega
  have hput2 : ∀ i,(hi : i < ys.length) → (Go.Sort.putCells (Value.int .i64) g.base ys.toArray cells)[g.base + i]? = some (.int .i64 ys[i]):=by
   intro i hi
   unfold Go.Sort.putCells
   rw [Array.getElem?_mapIdx,hcell i (by omega)]
   simp only [Option.map_some]
   rw [if_pos (by simp; omega)]
   simp [hi]
  have hcs : (Go.Sort.putCells (Value.int .i64) g.base ys.toArray cells).size = cells.size:=by
   unfold Go.Sort.putCells
   exact Array.size_mapIdx
  have hbig : w.heap.size ≤ (Go.Sort.grow (Go.Sort.putRow (Value.int .i64) (Go.Sort.ahead w n) b g.base ys.toArray) os).heap.size:=by
   show w.heap.size ≤ ((w.heap.modify b _) ++ os).size
   rw [Array.size_append,Array.size_modify]
   omega
  have htb' : T b ≤ g.base:=by simpa using htb
  generalize hw' : (Go.Sort.grow (Go.Sort.putRow (Value.int .i64) (Go.Sort.ahead w n) b g.base ys.toArray) os) = w' at hh hbig
  have hlt : ∀ b' o,w.heap[b']? = some o → b' < w.heap.size:=fun b' o h=>(Array.getElem?_eq_some_iff.1 h).1
  have hpr : Pres T w T w':=by
   refine ⟨fun _=>Nat.le_refl _,fun b' cs' ty' fz' h=>?_⟩
   rw [hh b' (hlt _ _ h)]
   by_cases hbb : b' = b
   ·subst hbb
    rw [hw] at h
    cases h
    exact ⟨_,_,if_pos rfl,hcs,fun o ho=>hput o (.inl (by omega))⟩
   ·exact ⟨cs',fz',by rw [if_neg hbb]; exact h,rfl,fun _ _=>rfl⟩
  rw [zhC]
  refine ⟨_,T,M,rfl,.tup M [] #[] rfl (fun i hi=>by simp at hi),⟨fun id e he=>?_,fun id id' e e' g1 g2 b' h1 h2 h3 h4 h5 h6=>?_⟩,⟨fun b' hb1=>?_,fun _ _ _=>rfl,fun _ _=>rfl,?_,?_,?_,hbig,fun b' hb1 hb2=>?_,hpr,fun k g1 b' hk hg1 _=>?_⟩⟩
  ·have hid : id = 0:=by
    cases id with
    | zero=>rfl
    | succ k=>simp [hpOf] at he
   subst hid
   simp only [hpOf,List.getElem?_cons_zero,Option.some.injEq] at he
   subst he
   refine ⟨g,hg,⟨ent.s,Nat.zero_le _,fun _ row hr=>?_,fun hn=>(by rw [hblk] at hn; cases hn),fun hz=>absurd hz (Nat.succ_ne_zero 0),fun _ b' hb1=>?_⟩⟩
   ·simp [zdR] at hr
    obtain ⟨x,_,rfl⟩:=hr
    rfl
   ·rw [hblk] at hb1
    obtain rfl:=Option.some.inj hb1
    refine ⟨_,ty,by rw [hh _ hb',if_pos rfl],by simpa using htb',by simp [zdR,hcs,hsl]; simpa [zdR] using hlen,fun i j hi hj=>?_⟩
    have hi' : i < ys.length:=by simpa [zdR] using hi
    have hj' : j = 0:=by simp at hj; omega
    subst hj'
    refine ⟨.int .i64 ys[i],by simpa using hput2 i hi',rfl,?_⟩
    have : ((zdR ys).getD i []).getD 0 .dead = .I ys[i]:=by simp [zdR,List.getD,hi']
    rw [this]
    exact .sc _ _ rfl
  ·have h0 : ∀ id e,hpOf [({ s:=1,rows:=zdR ys } : Ent)] id = some e → id = 0:=by
    intro id e he
    cases id with
    | zero=>rfl
    | succ k=>simp [hpOf] at he
   rw [h0 _ _ h1,h0 _ _ h2]
  ·obtain ⟨c1,ty1,fz1,h1,h2⟩:=htok b' hb1
   obtain ⟨c2,fz2,h3,h4,_⟩:=hpr.cell b' c1 ty1 fz1 h1
   exact ⟨c2,ty1,fz2,h3,by omega⟩
  ·rw [← hw']; rfl
  ·rw [← hw']; rfl
  ·rw [← hw']; rfl
  ·rw [hh b' hb1,if_neg]
   intro hbb
   exact hb2 ⟨0,g,by simp,hg,by rw [hblk,hbb]⟩
  ·rw [hdom k hk] at hg1
   cases hg1
theorem zhK.refl {n : Nat} {T : Nat → Nat} {M : GM} {w : World} (htok : TOk T w) (hdom : ∀ k,n ≤ k → M k = none) : zhK n T M w T M w :=
 ⟨htok,fun _ _ _=>rfl,fun _ _=>rfl,rfl,rfl,rfl,Nat.le_refl _,fun _ _ _=>rfl,⟨fun _=>Nat.le_refl _,fun _ cells _ fz h=>⟨cells,fz,h,rfl,fun _ _=>rfl⟩⟩,fun k g b hk h=>by rw [hdom k hk] at h; cases h⟩
theorem arr1 {vs : Array Value} (h : vs.size = 1) : vs = #[vs.getD 0 undef]:=by
 apply Array.ext
 ·simpa using h
 ·intro i h1 h2
  have : i = 0:=by simp at h2; omega
  subst this
  simp [Array.getD,h1]
theorem zrt (zs : List Int) (hl : zs.length < 4611686018427387904) :
  zaj Tryz.prog za2 [.rs 0 0 zs.length] [{ s:=1,rows:=zdR zs }] (.tup []) ([{ s:=1,rows:=zdR (zs.mergeSort fun x y=>decide (x ≤ y)) }].map some):=by
 by_cases h0 : zs = []
 ·subst h0
  refine ⟨zdf.body,by simp,fun T M w vs htok hhs hdom hrep=>?_⟩
  obtain ⟨hsz,hr⟩:=hrep
  have hr0:=hr 0 (by simp)
  simp only [List.getD_cons_zero] at hr0
  rw [arr1 hsz]
  generalize vs.getD 0 undef = v at hr0
  cases hr0 with
  | rs _ _ _ _ cap a g hg hgz hlc hn hb =>
  refine (Any.slices_Sort_int_none Tryz.lays189 a cap w).mono ?_
  rintro e w' ⟨rfl,rfl⟩
  exact ⟨_,T,M,rfl,.tup M [] #[] rfl (fun i hi=>by simp at hi),by rw [zhC]; simpa using hhs,zhK.refl htok hdom⟩
 ·exact zrT zs h0 hl
def outs (l : List Ed) (key : Int) : List Int:=l.filterMap fun e=>if e.f = key then some e.t else none
theorem zl9 (l : List Ed) (key : Int) (k : Nat) (h : k < l.length) : outs (l.take (k + 1)) key = outs (l.take k) key ++ if l[k].f = key then [l[k].t] else []:=by
 unfold outs
 rw [← List.take_concat_get h,List.concat_eq_append,List.filterMap_append]
 congr 1
 by_cases hc : l[k].f = key <;> simp [hc]
theorem zn3 (l : List Ed) (key : Int) : (outs l key).length ≤ l.length:=List.length_filterMap_le _ _
theorem znq (g : Gr) (key : Int) (hl : g.edges.length ≤ 1099511627776) : zaj Tryz.prog zhW [eG g,.I key] [] (.rs 0 0 (outs g.edges key).length) [some ⟨1,((outs g.edges key).mergeSort fun x y=>decide (x ≤ y)).map fun n=>[AV.I n],0⟩]:=by
 refine zqk.acalls (nbz rfl) (nbz rfl) (Nat.zero_le _) ?_
 show awp _ 0 _ _ ⟨28,[(0,eG g),(1,.I key)],[],16⟩
 refine zab ?_
 refine zae (s:=?s0) rfl ?o0 ?q0
 case o0=>simp; rfl
 refine zab ?_
 refine zae (s:=?s1) rfl ?o1 ?q1
 case o1=>simp; rfl
 refine zab ?_
 refine zab ?_
 refine zae (s:=?s2) rfl ?o2 ?q2
 case o2=>simp; rfl
 refine zag ?_
 refine zao (ι:=Nat) (fun k=>⟨28,[(1,.I key),(5,.rs 16 0 (outs (g.edges.take k) key).length),(9,eEs g.edges),(10,.I g.edges.length),(11,.I k)],[(16,some ⟨1,(outs (g.edges.take k) key).map fun n=>[AV.I n],0⟩)],24⟩) (fun k=>k ≤ g.edges.length) (fun k=>g.edges.length - k) (0) ?_ (Le.lst [] [] [(16,1)] rfl (by simp) (by simp) (by simp) (by simp) (by simp) (by simp) (by simp) (by simp [Up,outs]) (by simp [outs])) ?_
 ·simp
 rintro k hk
 have hol : (outs (g.edges.take k) key).length ≤ k:=Nat.le_trans (zn3 _ _) (by simp; exact Nat.min_le_left _ _)
 refine zab ?_
 refine zae (s:=?s3) rfl ?o3 ?q3
 case o3=>simp; rfl
 refine zab ?_
 refine zac _ rfl (fun h4=>?_) fun h4=>?_
 ·try simp at h4
  have hw2 : IntKind.i64.wrap ((k : Int) + 1) = (k : Int) + 1:=w64 (by omega) (by omega)
  have hwp : 0 < k → IntKind.i64.wrap ((k : Int) - 1) = ((k - 1 : Nat) : Int):=fun h=>by rw [w64 (by omega) (by omega)]; omega
  have hkp : k - 1 < g.edges.length:=by omega
  refine zad ?_
  refine zab ?_
  refine zag ?_
  refine zaa ⟨28,[(1,.I key),(5,.rs 16 0 (outs (g.edges.take k) key).length),(7,.pv (eC g.edges[k])),(9,eEs g.edges),(10,.I g.edges.length),(11,.I k)],[(16,some ⟨1,(outs (g.edges.take k) key).map fun n=>[AV.I n],0⟩)],24⟩ rfl ?_ ?_
  ·simp [h4,hw2,hwp,hkp]
   exact Le.var1 16 [48] rfl rfl (nbz rfl) (by decide) rfl (by simp [fcd]) (by simp) (by simp [h4,hw2,hwp,hkp])
  refine zab ?_
  refine zae (s:=?s5) rfl ?o5 ?q5
  case o5=>simp [h4,hw2,hwp,hkp]; rfl
  refine zac _ rfl (fun h6=>?_) fun h6=>?_
  ·try simp at h6
   refine zae (s:=?s7) rfl ?o7 ?q7
   case o7 =>
    simp [h4,hw2,hwp,hkp,List.replicate]
    refine ⟨by omega,by omega,?_⟩
    rfl
   refine zae (s:=?s8) rfl ?o8 ?q8
   case o8=>simp [h4,hw2,hwp,hkp]; rfl
   have hs:=zl9 g.edges key k h4
   rw [if_pos h6] at hs
   refine ⟨k + 1,h4,by omega,Le.ren1 88 16 [] rfl rfl (nbz rfl) (by decide) rfl (by simp [hs,fcd,zak]) (by simp) (by simp [hs,hw2])⟩
  try simp at h6
  refine zad ?_
  refine zae (s:=?s9) rfl ?o9 ?q9
  case o9=>simp [h4,hw2,hwp,hkp]; rfl
  have hs:=zl9 g.edges key k h4
  rw [if_neg h6,List.append_nil] at hs
  refine ⟨k + 1,h4,by omega,Le.var1 16 [] rfl rfl (nbz rfl) (by decide) rfl (by simp [hs,fcd,zak]) (by simp) (by simp [hs,hw2])⟩
 try simp at h4
 have hkl : k = g.edges.length:=by omega
 subst hkl
 have hol2:=zn3 g.edges key
 refine zan ?_
 refine hit ?_
 refine zab ?_
 refine zae (s:=?s10) rfl ?o10 ?q10
 case o10 =>
  simp
  refine zbd (i:=16) rfl (e':=⟨1,zdR (outs g.edges key),0⟩) (by simp [zdR,fcd]) (zrt (outs g.edges key) (by omega)) (by simp) (by simp) ?_
  simp [zdR,fcd]
  rfl
 refine zab ?_
 refine zae (s:=?s11) rfl ?o11 ?q11
 case o11=>simp; rfl
 refine zah ?_
 exact ⟨.inr rfl,zal.out [16] [] rfl (by simp) (by simp) (by simp) (by simp [fcd])⟩
@[simp] theorem zvm {ρ : List (Nat × Nat)} {sn : List Nat} {h : Nat → Option Ent} {n : Nat} {f : Fn} {a b : List AV} : conv ρ sn h (n + 1) (.fn f a b) = .fn f (a.map (conv ρ sn h n)) (b.map (conv ρ sn h n)):=(rfl)
end Go.Proofs.YteiabadhhhckfaaGreat
