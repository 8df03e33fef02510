/- Texts of this claim, merged. -/
import Derived.Test.YtnphfkceoklkkaaVm9
import Derived.Test.YtnphfkceoklkkaaVm7
set_option linter.unusedSimpArgs false
set_option linter.unusedVariables false
set_option linter.unusedSectionVars false
namespace Go.Proofs.Ytnphfkceoklkkaa
open Go
set_option maxHeartbeats 1000000 in
set_option maxRecDepth 100000 in
theorem ref10_Same_ok (V : List Vch) (hl : V.length ≤ 1000000) : ACalls Try.prog nref10_Same [vchs V, vchs V] [] (.B true) [] := by
  refine sref10_Same.acalls (Nat.le_of_ble_eq_true rfl) (Nat.le_of_ble_eq_true rfl) (Nat.le_refl _) ?_
  show awp _ 0 _ _ ⟨26, [(0, vchs V), (1, vchs V)], [], 16⟩
  refine awp_regc ⟨26, [(0, vchs V), (1, vchs V)], [], 24⟩ rfl (by simp; exact Le.snap [] rfl rfl (by simp)) ?_
  refine awp_seq ?_
  refine awp_regc ⟨26, [(0, vchs V), (1, vchs V), (10, .B false)], [], 64⟩ rfl (by simp; exact Le.snap [] rfl rfl (by simp)) ?_
  refine awp_cond _ rfl (fun h => by cases h) fun _ => awp_skip ?_
  refine awp_seq ?_
  refine awp_regc ⟨26, [(0, vchs V), (1, vchs V), (5, .I (0 : Nat))], [], 72⟩ rfl (by simp; exact Le.snap [] rfl rfl (by simp)) ?_
  refine awp_block ?_
  refine awp_loop (ι := Nat) (fun i => ⟨26, [(0, vchs V), (1, vchs V), (5, .I i)], [], 72⟩) (fun i => i ≤ V.length) (fun i => V.length - i) 0 (Nat.zero_le _) (Le.refl _ _) ?_
  intro i hi
  refine awp_seq ?_
  refine awp_regc ⟨26, [(0, vchs V), (1, vchs V), (5, .I i), (14, .B (decide (i < V.length)))], [], 104⟩ rfl (by simp; exact Le.snap [] rfl rfl (by simp)) ?_
  refine awp_cond _ rfl (fun h => awp_skip ?_) fun h => awp_exit (hit ?_)
  · simp only [decide_eq_true_eq] at h
    have hwi : IntKind.i64.wrap ((i : Int) + 1) = ((i + 1 : Nat) : Int) := by rw [w64 (by omega) (by omega)]; omega
    have hg : V[i]? = some V[i] := List.getElem?_eq_getElem h
    generalize V[i] = v at *
    refine awp_cut (ι := Unit) (fun _ => ⟨26, [(0, vchs V), (1, vchs V), (5, .I i)], [], 300⟩) (fun _ => True) ?_ fun _ _ => ?_
    · refine awp_block ?_
      refine awp_dregc ⟨26, [(0, vchs V), (1, vchs V), (5, .I i), (25, .B false)], [], 176⟩ rfl ?_ ?_
      · simp [hg, splice]
        exact ⟨rfl, Le.snap [] rfl rfl (by simp)⟩
      refine awp_cond _ rfl (fun h => by cases h) fun _ => awp_skip ?_
      exact ⟨(), trivial, Le.snap [] rfl rfl (by simp)⟩
    refine awp_reg rfl ?_
    simp [hwi]
    exact ⟨i + 1, by omega, by omega, Le.snap [] rfl rfl (by simp)⟩
  refine awp_seq ?_
  refine awp_run (s := ?s9) rfl ?o9 ?q9
  case o9 => simp; rfl
  refine awp_ret ?_
  exact ⟨.inr rfl, RetOk.one (by simp)⟩
structure AgreeH (l : List Stm) (t : Int) : Prop where
  len : l.length ≤ 100000
  raw : SortH l
  asc : (goneR l t).Pairwise (· < ·)
  eof : ofV l = ofR l
  ego : goneR l t = goneN l t 64
  eac : actV l t = actR l t
set_option maxHeartbeats 4000000 in
set_option maxRecDepth 100000 in
theorem law10_agree_ok (l : List Stm) (f to t : Int) (H : AgreeH l t) : ACalls Try.prog nlaw10_agree [sts l, .I f, .I to, .I t] [] (.B true) [] := by
  refine slaw10_agree.acalls (Nat.le_of_ble_eq_true rfl) (Nat.le_of_ble_eq_true rfl) (Nat.le_refl _) ?_
  show awp _ 0 _ _ ⟨62, [(0, sts l), (1, .I f), (2, .I to), (3, .I t)], [], 16⟩
  refine awp_regc ⟨62, [(0, sts l), (1, .I f), (2, .I to), (3, .I t)], [], 24⟩ rfl (by simp; exact Le.snap [] rfl rfl (by simp)) ?_
  have hb1 := vouch_Between_ok l f to t H.len H.raw H.asc
  have hb2 := ref10_Between_ok l f to t H.len
  have ho1 := vouch_Of_ok l H.len H.raw
  have ho2 := ref10_Of_ok l H.len
  have hg1 := vouch_Gone_ok l t H.len H.asc
  have hg2 := ref10_Gone_ok l t (Nat.le_trans H.len (by decide))
  have ha1 := vouch_Active_ok l t H.len H.raw H.asc
  have ha2 := ref10_Active_ok l t H.len
  have hbe : btwR l f to t = btwV l f to t := by unfold btwR btwV; rw [H.eac]
  rw [hbe] at hb2
  rw [← H.eof] at ho2
  rw [← H.ego] at hg2
  rw [← H.eac] at ha2
  have hVl : (ofV l).length ≤ 100000 := by
    have := H.len
    have := rawV_le l l
    unfold ofV isortV
    rw [List.length_reverse, isortRevV_len]
    omega
  have hAl : (actV l t).length ≤ 100000 := by
    have := actN_le (ofV l) (goneR l t) t (ofV l).length
    unfold actV
    omega
  have hGl : (goneR l t).length ≤ 100000 := Nat.le_trans (goneR_le l t) H.len
  obtain ⟨x, hx⟩ : ∃ x, x = (btwV l f to t).getD zV := ⟨_, rfl⟩
  obtain ⟨ok, hok⟩ : ∃ ok, ok = (btwV l f to t).isSome := ⟨_, rfl⟩
  rw [← hx, ← hok] at hb1 hb2
  clear hx hok hbe H
  generalize ofV l = V at *
  generalize goneR l t = G at *
  generalize actV l t = A at *
  have hs1 := ref10_Same_ok V (by omega)
  have hs2 := ref10_Same_ok A (by omega)
  have hs3 := SameInts_ok G G (by omega)
  rw [decide_eq_true rfl] at hs3
  refine awp_regc ⟨62, [(0, sts l), (1, .I f), (2, .I to), (3, .I t), (9, .pv (vC x)), (10, .B ok)], [], 112⟩ rfl ?_ ?_
  · simp
    refine call0e hb1 (by simp) ?_
    simp [splice]
    exact Le.snap [88] rfl rfl (by simp)
  refine awp_regc ⟨62, [(0, sts l), (1, .I f), (2, .I to), (3, .I t), (9, .pv (vC x)), (10, .B ok), (11, .pv (vC x)), (12, .B ok)], [], 200⟩ rfl ?_ ?_
  · simp
    refine call0e hb2 (by simp) ?_
    simp [splice]
    exact Le.snap [176] rfl rfl (by simp)
  have tkV : List.take V.length (rowsV V) = rowsV V := List.take_of_length_le (by simp)
  have tkA : List.take A.length (rowsV A) = rowsV A := List.take_of_length_le (by simp)
  have tkG : List.take G.length (rwI G) = rwI G := List.take_of_length_le (by simp)
  have hVf := rowsV_flat V
  have hAf := rowsV_flat A
  have hGf := rwI_flat G
  refine awp_regc ⟨62, [(8, .B true)], [], 472⟩ rfl ?_ ?_
  · simp
    refine callN1 ho1 rfl ?_
    simp [Function.comp_def]
    refine callN1 ho2 rfl ?_
    simp [Function.comp_def]
    refine call0s [208, 224] hs1 (by simp [Function.comp_def, tkV]) (.sc _) ?_
    simp
    refine callN1 hg1 rfl ?_
    simp [Function.comp_def]
    refine callN1 hg2 rfl ?_
    simp [Function.comp_def]
    refine call0s [264, 288] hs3 (by simp [Function.comp_def, tkG]) (.sc _) ?_
    simp
    refine callN1 ha1 rfl ?_
    simp [Function.comp_def]
    refine callN1 ha2 rfl ?_
    simp [Function.comp_def]
    refine call0s [336, 360] hs2 (by simp [Function.comp_def, tkA]) (.sc _) ?_
    simp
    exact Le.snap [] rfl rfl (by simp)
  refine awp_ret ?_
  exact ⟨.inr rfl, RetOk.one (by simp)⟩
end Go.Proofs.Ytnphfkceoklkkaa
namespace Go.Proofs.Ytnphfkceoklkkaa
open Go
def OrdS (x y : Stm) : Prop := x.au < y.au ∨ (x.au = y.au ∧ x.nu < y.nu ∧ x.ti ≤ y.ti ∧ x.ki ≠ 3)
structure GoodL (l : List Stm) : Prop where
  ord : l.Pairwise OrdS
  rng : ∀ s ∈ l, 0 ≤ s.au ∧ s.au < 64 ∧ 0 ≤ s.ti ∧ 0 ≤ s.nu
theorem rv_no {v x : Stm} {p : Int × Int} (h : ¬ RevP v x p) : revStep v p x = p := if_neg h
theorem rev_keep (v : Stm) (p : Int × Int) (h0 : 0 ≤ p.2) : ∀ l : List Stm, (∀ s ∈ l, s.au = v.au → p.2 < s.nu) → l.foldl (revStep v) p = p
  | [], _ => rfl
  | s :: l, h => by
    have hn : ¬ RevP v s p := fun hq => by
      have h1 := h s (List.mem_cons_self ..) hq.1
      rcases hq.2.2.2.2 with h2 | h2 <;> omega
    rw [List.foldl_cons, rv_no hn]
    exact rev_keep v p h0 l fun s hs => h s (List.mem_cons_of_mem _ hs)
theorem rev_first (v : Stm) : ∀ l : List Stm, l.Pairwise OrdS → (∀ s ∈ l, 0 ≤ s.nu) → (l.foldl (revStep v) (-1, -1)).1 = refRev l v
  | [], _, _ => rfl
  | s :: l, ho, hr => by
    rw [List.pairwise_cons] at ho
    rw [List.foldl_cons]
    by_cases hm : RevM v s
    · have hp : RevP v s (-1, -1) := ⟨hm.1, hm.2.2.1, hm.2.2.2, hm.2.1, .inl (by decide)⟩
      have hst : revStep v (-1, -1) s = (s.ti, s.nu) := if_pos hp
      rw [hst, rev_keep v (s.ti, s.nu) (hr s (List.mem_cons_self ..)) l fun x hx hxa => by
        rcases ho.1 x hx with h1 | h1
        · have := hm.1; omega
        · exact h1.2.1]
      unfold refRev
      rw [List.find?_cons_of_pos (by simpa using hm)]
    · have hst : revStep v (-1, -1) s = (-1, -1) := rv_no fun hq => hm ⟨hq.1, hq.2.2.2.1, hq.2.1, hq.2.2.1⟩
      rw [hst, rev_first v l ho.2 fun x hx => hr x (List.mem_cons_of_mem _ hx)]
      unfold refRev
      rw [List.find?_cons_of_neg (by simpa using hm)]
theorem GoodL.rev {l : List Stm} (h : GoodL l) (v : Stm) : revF l v = refRev l v := rev_first v l h.ord fun s hs => (h.rng s hs).2.2.2
theorem GoodL.raw {l : List Stm} (h : GoodL l) : rawV l l = rawR l l := by
  unfold rawV rawR
  refine congrArg (fun f => List.map f _) ?_
  funext s
  unfold vOf vOfR
  rw [h.rev]
theorem GoodL.of {l : List Stm} (h : GoodL l) : ofV l = ofR l := by unfold ofV ofR; rw [h.raw]
theorem GoodL.asc {l : List Stm} (h : GoodL l) (t : Int) : (goneR l t).Pairwise (· < ·) := by
  unfold goneR
  rw [List.pairwise_map]
  refine List.Pairwise.imp_of_mem ?_ (h.ord.filter _)
  intro a b ha hb hab
  have h1 : GoneP t a := by simpa using (List.mem_filter.1 ha).2
  rcases hab with h2 | h2
  · exact h2
  · exact absurd h1.1 h2.2.2.2
theorem asc_ext : ∀ {a b : List Int}, a.Pairwise (· < ·) → b.Pairwise (· < ·) → (∀ x, x ∈ a ↔ x ∈ b) → a = b
  | [], [], _, _, _ => rfl
  | [], y :: b, _, _, h => by have := (h y).2 (List.mem_cons_self ..); simp at this
  | x :: a, [], _, _, h => by have := (h x).1 (List.mem_cons_self ..); simp at this
  | x :: a, y :: b, ha, hb, h => by
    rw [List.pairwise_cons] at ha hb
    have hxy : x = y := by
      rcases List.mem_cons.1 ((h x).1 (List.mem_cons_self ..)) with h1 | h1
      · exact h1
      · rcases List.mem_cons.1 ((h y).2 (List.mem_cons_self ..)) with h2 | h2
        · exact h2.symm
        · have h3 := hb.1 x h1
          have h4 := ha.1 y h2
          omega
    subst hxy
    refine congrArg _ (asc_ext ha.2 hb.2 fun z => ⟨fun hz => ?_, fun hz => ?_⟩)
    · rcases List.mem_cons.1 ((h z).1 (List.mem_cons_of_mem _ hz)) with h1 | h1
      · have := ha.1 z hz; omega
      · exact h1
    · rcases List.mem_cons.1 ((h z).2 (List.mem_cons_of_mem _ hz)) with h1 | h1
      · have := hb.1 z hz; omega
      · exact h1
theorem mem_goneN (l : List Stm) (t x : Int) : ∀ n : Nat, x ∈ goneN l t n ↔ 0 ≤ x ∧ x < n ∧ goneB l t x = true
  | 0 => by simp [goneN]; omega
  | n + 1 => by
    unfold goneN
    rw [List.mem_append, mem_goneN l t x n]
    constructor
    · rintro (h | h)
      · exact ⟨h.1, by omega, h.2.2⟩
      · split at h
        · rename_i hb
          rw [List.mem_singleton] at h
          subst h
          exact ⟨by omega, by omega, hb⟩
        · simp at h
    · rintro ⟨h1, h2, h3⟩
      by_cases h4 : x < n
      · exact .inl ⟨h1, h4, h3⟩
      · have h5 : x = (n : Int) := by omega
        subst h5
        rw [if_pos h3]
        exact .inr (List.mem_singleton.2 rfl)
theorem goneN_asc (l : List Stm) (t : Int) : ∀ n : Nat, (goneN l t n).Pairwise (· < ·)
  | 0 => List.Pairwise.nil
  | n + 1 => by
    unfold goneN
    rw [List.pairwise_append]
    refine ⟨goneN_asc l t n, by split <;> simp, fun a ha b hb => ?_⟩
    have h1 := (mem_goneN l t a n).1 ha
    split at hb
    · rw [List.mem_singleton] at hb
      omega
    · simp at hb
theorem GoodL.gone {l : List Stm} (h : GoodL l) (t : Int) : goneR l t = goneN l t 64 := by
  refine asc_ext (h.asc t) (goneN_asc l t 64) fun x => ?_
  rw [mem_goneN]
  unfold goneR goneB
  rw [List.mem_map, List.any_eq_true]
  constructor
  · rintro ⟨s, hs, rfl⟩
    have hs2 := List.mem_filter.1 hs
    have hr := h.rng s hs2.1
    exact ⟨hr.1, hr.2.1, s, hs2.1, by simpa [GoneK] using hs2.2⟩
  · rintro ⟨_, _, s, hs, hg⟩
    have hg2 : GoneK t x s := by simpa using hg
    exact ⟨s, List.mem_filter.2 ⟨hs, by simpa using hg2.2⟩, hg2.1⟩
def ltV (a b : Vch) : Prop := a.fr < b.fr ∨ (a.fr = b.fr ∧ (a.to < b.to ∨ (a.to = b.to ∧ a.nu < b.nu)))
theorem cmpV_lt (a b : Vch) : cmpV a b < 0 ↔ ltV a b := by
  unfold ltV
  by_cases h1 : a.fr = b.fr
  · by_cases h2 : a.to = b.to
    · rw [cmpV_3 h1 h2, cmpI_lt]; omega
    · rw [cmpV_2 h1 h2, cmpI_lt]; omega
  · rw [cmpV_1 h1, cmpI_lt]; omega
theorem ltV_asym {a b : Vch} (h : ltV a b) : ¬ ltV b a := by unfold ltV at *; omega
theorem ltV_neg {a b c : Vch} (h1 : ¬ ltV a b) (h2 : ¬ ltV b c) : ¬ ltV a c := by unfold ltV at *; omega
theorem insV_sorted : ∀ (R : List Vch) (x : Vch), R.Pairwise (fun a b => ¬ ltV a b) → (insRevV cmpV R x).Pairwise (fun a b => ¬ ltV a b)
  | [], x, _ => by simp [insRevV]
  | y :: R, x, h => by
    rw [List.pairwise_cons] at h
    unfold insRevV
    split
    · rename_i hc
      rw [cmpV_lt] at hc
      rw [List.pairwise_cons]
      refine ⟨fun z hz => ?_, insV_sorted R x h.2⟩
      rcases List.mem_cons.1 ((insRevV_perm cmpV R x).mem_iff.1 hz) with h1 | h1
      · subst h1
        exact ltV_asym hc
      · exact h.1 z h1
    · rename_i hc
      rw [cmpV_lt] at hc
      rw [List.pairwise_cons, List.pairwise_cons]
      refine ⟨fun z hz => ?_, h⟩
      rcases List.mem_cons.1 hz with h1 | h1
      · rw [h1]; exact hc
      · exact ltV_neg hc (h.1 z h1)
theorem isortRevV_sorted (M : List Vch) : ∀ R : List Vch, R.Pairwise (fun a b => ¬ ltV a b) → (M.foldl (insRevV cmpV) R).Pairwise (fun a b => ¬ ltV a b) := by
  induction M with
  | nil => exact fun R h => h
  | cons x M ih => exact fun R h => ih _ (insV_sorted R x h)
theorem isortV_sorted (M : List Vch) : (isortV cmpV M).Pairwise (fun a b => ¬ ltV b a) := by
  unfold isortV
  rw [List.pairwise_reverse]
  exact isortRevV_sorted M [] List.Pairwise.nil
theorem mem_isortV {M : List Vch} {v : Vch} : v ∈ isortV cmpV M ↔ v ∈ M := by
  unfold isortV
  rw [List.mem_reverse, (isortRevV_perm cmpV M).mem_iff]
theorem keep_eq {V : List Vch} {g : List Int} {t : Int} {i : Nat} {v : Vch} (hv : V[i]? = some v) (hs : V.Pairwise fun a b => ¬ ltV b a)
    (ht : ∀ a ∈ V, ∀ b ∈ V, a.fr = b.fr → a.nu ≤ b.nu → a.ti ≤ b.ti) (hre : v.re = -1 ∨ 0 ≤ v.re) : keepB V g t i v = keepR V g t i v := by
  have hh : HoldsP v g t ↔ HoldsR v g t := by
    have e : (v.re < 0 ∨ t < v.re) ↔ (v.re = -1 ∨ t < v.re) := by omega
    unfold HoldsP HoldsR
    rw [e]
  unfold keepB keepR
  rw [decide_eq_decide.2 hh]
  congr 1
  obtain ⟨hi, hvi⟩ := List.getElem?_eq_some_iff.1 hv
  by_cases h : i + 1 < V.length
  · have hw : V[i + 1]? = some V[i + 1] := List.getElem?_eq_getElem h
    unfold nextB
    rw [hw, List.drop_eq_getElem_cons h, List.all_cons, Option.any_some]
    by_cases hl : LaterP v t V[i + 1]
    · rw [decide_eq_true hl]
      rfl
    · rw [decide_eq_false hl]
      show (true && _) = true
      rw [Bool.true_and, List.all_eq_true]
      intro z hz
      simp only [Bool.not_eq_true', decide_eq_false_iff_not]
      intro hzl
      obtain ⟨k, hk, rfl⟩ := List.mem_iff_getElem.1 hz
      rw [List.getElem_drop] at hzl
      rw [List.length_drop] at hk
      have hp := List.pairwise_iff_getElem.1 hs
      have h1 := hp i (i + 1) hi h (by omega)
      have h2 := hp (i + 1) (i + 1 + 1 + k) h (by omega) (by omega)
      have h3 := ht _ (List.getElem_mem h) _ (List.getElem_mem (show i + 1 + 1 + k < V.length by omega))
      rw [hvi] at h1
      generalize V[i + 1] = w at *
      generalize V[i + 1 + 1 + k] = z at *
      unfold LaterP at *
      unfold ltV at h1 h2
      have h4 : w.fr = v.fr := by omega
      have h5 : w.to = v.to := by omega
      have h6 := h3 (by omega) (by omega)
      exact hl ⟨h4, h5, by omega⟩
  · unfold nextB
    rw [List.getElem?_eq_none (by omega), List.drop_eq_nil_of_le (by omega)]
    rfl
theorem act_eq {V : List Vch} {g : List Int} {t : Int} (hs : V.Pairwise fun a b => ¬ ltV b a) (ht : ∀ a ∈ V, ∀ b ∈ V, a.fr = b.fr → a.nu ≤ b.nu → a.ti ≤ b.ti) (hre : ∀ v ∈ V, v.re = -1 ∨ 0 ≤ v.re) : ∀ n, actN V g t n = actRN V g t n
  | 0 => rfl
  | n + 1 => by
    unfold actN actRN
    rw [act_eq hs ht hre n]
    cases hv : V[n]? with
    | none => rfl
    | some v =>
      simp only
      rw [keep_eq hv hs ht (hre v (List.mem_of_getElem? hv))]
theorem GoodL.two {l : List Stm} (h : GoodL l) {x y : Stm} (hx : x ∈ l) (hy : y ∈ l) (ha : x.au = y.au) (hn : x.nu ≤ y.nu) : x.ti ≤ y.ti := by
  obtain ⟨i, hi, rfl⟩ := List.mem_iff_getElem.1 hx
  obtain ⟨j, hj, rfl⟩ := List.mem_iff_getElem.1 hy
  have hp := List.pairwise_iff_getElem.1 h.ord
  rcases Nat.lt_trichotomy i j with h1 | h1 | h1
  · rcases hp i j hi hj h1 with h2 | h2
    · omega
    · exact h2.2.2.1
  · subst h1
    exact Int.le_refl _
  · rcases hp j i hj hi h1 with h2 | h2
    · omega
    · omega
theorem mem_rawV {l : List Stm} {v : Vch} (h : v ∈ rawV l l) : ∃ s ∈ l, s.ki = 1 ∧ v = vOf l s := by
  unfold rawV at h
  obtain ⟨s, hs, rfl⟩ := List.mem_map.1 h
  have hs2 := List.mem_filter.1 hs
  exact ⟨s, hs2.1, by simpa using hs2.2, rfl⟩
theorem GoodL.act {l : List Stm} (h : GoodL l) (t : Int) : actV l t = actR l t := by
  unfold actV actR
  rw [← h.of, ← h.gone]
  refine act_eq (isortV_sorted _) ?_ ?_ _
  · intro a ha b hb h1 h2
    obtain ⟨x, hx, _, rfl⟩ := mem_rawV (mem_isortV.1 ha)
    obtain ⟨y, hy, _, rfl⟩ := mem_rawV (mem_isortV.1 hb)
    exact h.two hx hy h1 h2
  · intro v hv
    obtain ⟨x, hx, _, rfl⟩ := mem_rawV (mem_isortV.1 hv)
    show revF l x = -1 ∨ 0 ≤ revF l x
    rw [h.rev]
    unfold refRev
    split
    · rename_i s hs
      exact .inr (h.rng s (List.mem_of_find?_eq_some hs)).2.2.1
    · exact .inl rfl
theorem GoodL.agree {l : List Stm} (h : GoodL l) (hl : l.length ≤ 100000) (hr : SortH l) (t : Int) : AgreeH l t := ⟨hl, hr, h.asc t, h.of, h.gone t, h.act t⟩
theorem Chain.good {a : Int} {c : List Stm} (hc : Chain a c) : GoodL c := by
  have hi : ∀ i (h : i < c.length), c[i].au = a ∧ c[i].nu = i ∧ 0 ≤ c[i].au ∧ c[i].au < 64 ∧ 0 ≤ c[i].ti := fun i h => by
    have := hc.1 i h
    exact ⟨this.au_, this.nu_, this.ok.1.1, this.ok.1.2, this.ok.2.2.1.1⟩
  have hstep : ∀ i k (hj : i + k + 1 < c.length), c[i].ti ≤ c[i + k + 1].ti ∧ c[i].ki ≠ 3 := by
    intro i k
    induction k with
    | zero =>
      intro hj
      have := hc.2 i hj
      exact ⟨this.ti_, this.ki_⟩
    | succ k ih =>
      intro hj
      have h1 := ih (by omega)
      have h2 := (hc.2 (i + k + 1) hj).ti_
      exact ⟨Int.le_trans h1.1 h2, h1.2⟩
  constructor
  · rw [List.pairwise_iff_getElem]
    intro i j h1 h2 hij
    have h3 := hi i h1
    have h4 := hi j h2
    obtain ⟨k, rfl⟩ : ∃ k, j = i + k + 1 := ⟨j - i - 1, by omega⟩
    have h5 := hstep i k h2
    exact .inr ⟨by omega, by omega, h5.1, h5.2⟩
  · intro s hs
    obtain ⟨i, h, rfl⟩ := List.mem_iff_getElem.1 hs
    have h3 := hi i h
    exact ⟨h3.2.2.1, h3.2.2.2.1, h3.2.2.2.2, by omega⟩
theorem GoodL.append {a b : List Stm} (ha : GoodL a) (hb : GoodL b) (h : ∀ x ∈ a, ∀ y ∈ b, x.au < y.au) : GoodL (a ++ b) where
  ord := by
    rw [List.pairwise_append]
    exact ⟨ha.ord, hb.ord, fun x hx y hy => .inl (h x hx y hy)⟩
  rng := fun s hs => (List.mem_append.1 hs).elim (ha.rng s) (hb.rng s)
end Go.Proofs.Ytnphfkceoklkkaa
namespace Go.Proofs.Ytnphfkceoklkkaa
open Go
theorem awpOps_ex {P : Program} {np : Nat} {α : Type} : ∀ (ops : List AOper) (n i : Nat) (st : St) (tr : List (List Nat × List Nat)) (K : α → St → List (List Nat × List Nat) → Prop), awpOps P np n i ops st tr (fun s t => ∃ x, K x s t) → ∃ x, awpOps P np n i ops st tr (K x) := by
  intro ops
  induction ops with
  | nil => intro n i st tr K h; exact h
  | cons o os ih =>
    intro n i st tr K h
    have hgo : ∀ (op : AOp) (xs : List AV) (h : Nat → Option Ent) (F : AV → List Nat → List (Nat × Option Ent) → (St → List (List Nat × List Nat) → Prop) → Prop),
        (∀ v rd up, F v rd up (fun s t => ∃ x, K x s t) → ∃ x, F v rd up (K x)) → aK P np (n + 8 * i) op xs h (fun v rd up => F v rd up (fun s t => ∃ x, K x s t)) → ∃ x, aK P np (n + 8 * i) op xs h (fun v rd up => F v rd up (K x)) := by
      intro op xs h F hF hk
      obtain ⟨v, rd, up, h1, h2⟩ := aK_pick hk
      obtain ⟨x, hx⟩ := hF v rd up h1
      refine ⟨x, aK_mono (fun a b c e => ?_) h2⟩
      obtain ⟨rfl, rfl, rfl⟩ := e
      exact hx
    unfold awpOps at h ⊢
    cases hg : o.guard with
    | none =>
      simp only [hg] at h ⊢
      exact hgo _ _ _ (fun v rd up K' => awpOps P np n (i + 1) os ((st.put o.dst v).upd up) (tr ++ [(rd, up.map (·.1))]) K') (fun v rd up => ih _ _ _ _ _) h
    | some gw =>
      obtain ⟨g, want⟩ := gw
      simp only [hg] at h ⊢
      obtain ⟨b, hb, h⟩ := h
      by_cases hbw : b = some want
      · rw [if_pos hbw] at h
        obtain ⟨x, hx⟩ := hgo _ _ _ (fun v rd up K' => awpOps P np n (i + 1) os ((st.put o.dst v).upd up) (tr ++ [(rd, up.map (·.1))]) K') (fun v rd up => ih _ _ _ _ _) h
        exact ⟨x, b, hb, by rw [if_pos hbw]; exact hx⟩
      · rw [if_neg hbw] at h
        obtain ⟨x, hx⟩ := ih _ _ _ _ _ h
        exact ⟨x, b, hb, by rw [if_neg hbw]; exact hx⟩
theorem Le.trans' {np : Nat} {a b c : St} (h1 : Le np a b) (h2 : Le np b c) : Le np a c := by
  intro T0 M0 w0 T M ac w ok hn
  obtain ⟨T', M', ok', hn'⟩ := h1 T0 M0 w0 T M ac w ok hn
  exact h2 T0 M0 w0 T' M' ac w ok' hn'
theorem awp_ex {P : Program} {np : Nat} : ∀ {c : ACode} {α : Type} {Q : α → AExit → St → Prop} {st : St}, awp P np c (fun e s => ∃ x, Q x e s) st → ∃ x, awp P np c (Q x) st := by
  intro c
  induction c with
  | skip => intro α Q st h; exact h
  | reg draw ops after =>
    intro α Q st hw
    obtain ⟨x, hx⟩ := awpOps_ex ops st.n 0 st [] (fun x st' tr => (draw = true → orderly ops after tr = true) ∧ Q x .normal { st' with n := st.n + 8 * ops.length })
      (awpOps_mono _ _ _ _ _ _ _ (fun s t h => by obtain ⟨h1, x, h2⟩ := h; exact ⟨x, h1, h2⟩) hw.2)
    exact ⟨x, hw.1, hx⟩
  | seq a b iha ihb =>
    intro α Q st hw
    refine iha (awp_mono (fun e s hs => ?_) hw)
    cases e with
    | normal =>
      obtain ⟨st2, hle, h2⟩ := hs
      obtain ⟨x, hx⟩ := ihb h2
      exact ⟨x, st2, hle, hx⟩
    | exit id => exact hs
    | ret => exact hs
  | cond c a b iha ihb =>
    intro α Q st hw
    obtain ⟨t, ht, hw⟩ := hw
    cases t
    · obtain ⟨x, hx⟩ := ihb hw
      exact ⟨x, false, ht, hx⟩
    · obtain ⟨x, hx⟩ := iha hw
      exact ⟨x, true, ht, hx⟩
  | block id a iha =>
    intro α Q st hw
    refine iha (awp_mono (fun e s hs => ?_) hw)
    cases e with
    | normal => exact hs
    | exit id' =>
      simp only at hs ⊢
      by_cases hi : id' = id
      · simp only [if_pos hi] at hs ⊢; exact hs
      · simp only [if_neg hi] at hs ⊢; exact hs
    | ret => exact hs
  | loop a iha =>
    intro α Q st hw
    obtain ⟨I, ⟨st0, k0, hle, hI⟩, hb⟩ := hw
    have key : ∀ k s, I k s → ∃ x, awp P np (.loop a) (Q x) s := by
      intro k
      induction k using Nat.strongRecOn with
      | ind k ihk =>
        intro s hs
        have hpre : awp P np a (fun e s' => ∃ y : { y : α × Nat × (Nat → St → Prop) // ∀ k' s', y.2.2 k' s' → awp P np a (fun e st' => match e with | .normal => ∃ st2 k2, Le np st' st2 ∧ y.2.2 k2 st2 ∧ k2 < k' | e => Q y.1 e st') s' },
            match e with | .normal => ∃ st2, Le np s' st2 ∧ y.1.2.2 y.1.2.1 st2 | e => Q y.1.1 e s') s := by
          refine awp_mono (fun e s' h => ?_) (hb k s hs)
          cases e with
          | normal =>
            obtain ⟨st2, k2, h1, h2, h3⟩ := h
            obtain ⟨x, J, ⟨st3, k3, h4, h5⟩, h6⟩ := ihk k2 h3 st2 h2
            exact ⟨⟨(x, k3, J), h6⟩, st3, Le.trans' h1 h4, h5⟩
          | exit id => obtain ⟨x, h⟩ := h; exact ⟨⟨(x, 0, fun _ _ => False), fun _ _ h => h.elim⟩, h⟩
          | ret => obtain ⟨x, h⟩ := h; exact ⟨⟨(x, 0, fun _ _ => False), fun _ _ h => h.elim⟩, h⟩
        obtain ⟨⟨⟨x, q, J⟩, hJ⟩, hy⟩ := iha hpre
        simp only at hJ hy
        refine ⟨x, fun k' s' => J k' s' ∨ (k' = q + 1 ∧ s' = s), ⟨s, q + 1, Le.refl _ _, .inr ⟨rfl, rfl⟩⟩, ?_⟩
        rintro k' s' (h | ⟨rfl, rfl⟩)
        · refine awp_mono (fun e s2 h2 => ?_) (hJ k' s' h)
          cases e with
          | normal => obtain ⟨st2, k2, h1, h2, h3⟩ := h2; exact ⟨st2, k2, h1, .inl h2, h3⟩
          | exit id => exact h2
          | ret => exact h2
        · refine awp_mono (fun e s2 h2 => ?_) hy
          cases e with
          | normal => obtain ⟨st2, h1, h2⟩ := h2; exact ⟨st2, q, h1, .inl h2, Nat.lt_succ_self q⟩
          | exit id => exact h2
          | ret => exact h2
    obtain ⟨x, hx⟩ := key k0 st0 hI
    obtain ⟨J, ⟨s3, k3, h4, h5⟩, h6⟩ := hx
    exact ⟨x, J, ⟨s3, k3, Le.trans' hle h4, h5⟩, h6⟩
  | exit id => intro α Q st h; exact h
  | ret => intro α Q st h; exact h
  | bad => intro α Q st h; exact h.elim
def PostX {α : Type} (rs : List (Nat × Option (Bool × Nat))) (np : Nat) (F : α → AV) (H : α → List (Option Ent)) (R : α → Prop) (e : AExit) (st : St) : Prop := (e = .normal ∨ e = .ret) ∧ ∃ x, R x ∧ RetOk rs np st (F x) (H x)
theorem PostX.mk {α : Type} {rs : List (Nat × Option (Bool × Nat))} {np : Nat} {F : α → AV} {H : α → List (Option Ent)} {R : α → Prop} {e : AExit} {st : St} (he : e = .normal ∨ e = .ret) (x : α) (hx : R x) (h : RetOk rs np st (F x) (H x)) : PostX rs np F H R e st := ⟨he, x, hx, h⟩
theorem Src.acallsX {P : Program} {f : FuncId} {af : AFun} (s : Src P f af) {α : Type} (F : α → AV) (H : α → List (Option Ent)) (R : α → Prop) {args : List AV} {hs : List Ent}
    (hnt : args.length ≤ af.nt) (hn16 : hs.length ≤ 16) (hlen : ∀ x, hs.length ≤ (H x).length)
    (h : awp P hs.length af.code (PostX af.res hs.length F H R) (initSt af args hs)) : ∃ x, R x ∧ ACalls P f args hs (F x) (H x) := by
  obtain ⟨⟨x, hx⟩, hw⟩ := awp_ex (α := { x : α // R x }) (Q := fun x e st => (e = .normal ∨ e = .ret) ∧ RetOk af.res hs.length st (F x.1) (H x.1)) (awp_mono (fun e st h => by
    obtain ⟨h1, x, h2, h3⟩ := h
    exact ⟨⟨x, h2⟩, h1, h3⟩) h)
  exact ⟨x, hx, s.acalls hnt hn16 (hlen x) hw⟩
end Go.Proofs.Ytnphfkceoklkkaa
namespace Go.Proofs.Ytnphfkceoklkkaa
open Go
def idm (l : List Nat) : List (Nat × Nat) := l.map fun i => (i, i)
def cutS (live keep sn : List Nat) (n : Nat) (st : St) : St :=
  ⟨st.sz, live.map (fun i => (i, conv (idm keep) sn st.hp 4 (st.get i))), keep.map (fun i => (i, (st.hp i).map (convE (idm keep) sn st.hp 4))), n⟩
def roOk (keep : List Nat) (st : St) : Prop := ∀ i ∈ keep, ∀ e, st.hp i = some e → e.ro ≤ e.rows.length
def sideB (np n : Nat) (ρ : List (Nat × Nat)) (sn : List Nat) : Bool :=
  decide (ρ.map (·.1)).Nodup && decide (ρ.map (·.2)).Nodup && ρ.all (fun p => decide (p.2 < n) && (decide (np ≤ p.2) || p.1 == p.2)) && sn.all (fun i => decide (np ≤ i) && !(ρ.map (·.1)).contains i) && decide (np ≤ n)
theorem Le.go {np : Nat} {st st' : St} (ρ : List (Nat × Nat)) (sn : List Nat) (hsz : st'.sz = st.sz) (hside : sideB np st'.n ρ sn = true)
    (ht : ∀ p ∈ st'.t, Wk (conv ρ sn st.hp 4 (st.get p.1)) p.2) (hh : ∀ p ∈ st'.h, ∃ q ∈ ρ, q.2 = p.1 ∧ (st.hp q.1).map (convE ρ sn st.hp 4) = p.2 ∧ ∀ e, p.2 = some e → e.ro ≤ e.rows.length) : Le np st st' := by
  simp only [sideB, Bool.and_eq_true, List.all_eq_true, decide_eq_true_eq, Bool.or_eq_true, beq_iff_eq, Bool.not_eq_true', List.contains_eq_mem, decide_eq_false_iff_not] at hside
  obtain ⟨⟨⟨⟨h1, h2⟩, h3⟩, h4⟩, h5⟩ := hside
  refine Le.lst ρ sn [] hsz h1 h2 (fun p hp => ⟨(h3 p hp).1, fun hlt => ?_⟩) (by simp) (fun i hi => h4 i hi) h5 (by simp) (fun p hp => .inl (ht p hp)) fun p hp e' he' => ?_
  · rcases (h3 p hp).2 with h | h
    · omega
    · exact h
  · obtain ⟨q, hq, hq2, hm, hr⟩ := hh p hp
    rw [he'] at hm
    cases hs : st.hp q.1 with
    | none => rw [hs] at hm; cases hm
    | some e =>
      rw [hs] at hm
      have hm' : convE ρ sn st.hp 4 e = e' := by simpa using hm
      exact .inl ⟨q, hq, hq2, e, hs, by rw [hm']; exact EntUp.rfl' (hr e' he')⟩
theorem Le.cut {np : Nat} {st : St} (live keep sn : List Nat) (n : Nat) (hside : sideB np n (idm keep) sn = true) (hr : roOk keep st) : Le np st (cutS live keep sn n st) := by
  refine Le.go (idm keep) sn rfl hside (fun p hp => ?_) fun p hp => ?_
  · obtain ⟨i, _, rfl⟩ := List.mem_map.1 hp
    exact .refl _
  · obtain ⟨i, hi, rfl⟩ := List.mem_map.1 hp
    refine ⟨(i, i), List.mem_map.2 ⟨i, hi, rfl⟩, rfl, rfl, fun e he => ?_⟩
    simp only at he
    cases hs : st.hp i with
    | none => rw [hs] at he; cases he
    | some e0 =>
      rw [hs] at he
      have he' : convE (idm keep) sn st.hp 4 e0 = e := by simpa using he
      subst he'
      have := hr i hi e0 hs
      simpa [convE] using this
theorem rx {P : Program} {np : Nat} {ops : List AOper} {Q : AExit → St → Prop} {sz n : Nat} {t : List (Nat × AV)} {h : List (Nat × Option Ent)} {af : List (List Nat)} {b : ACode} {s : St} (live keep sn : List Nat)
    (hd : ((ops.all fun o => o.dst.all (· < sz)) && sideB np (n + 8 * ops.length) (idm keep) sn) = true) (ho : awpOps P np n 0 ops ⟨sz, t, h, n⟩ [] fun st' _ => roOk keep st' ∧ cutS live keep sn (n + 8 * ops.length) st' = s) (hq : awp P np b Q s) : awp P np (.seq (.reg false ops af) b) Q ⟨sz, t, h, n⟩ := by
  rw [Bool.and_eq_true] at hd
  refine awp_regc s hd.1 (awpOps_mono _ _ _ _ _ _ _ (fun st' _ hc => ?_) ho) hq
  obtain ⟨h1, rfl⟩ := hc
  exact Le.cut (st := ⟨st'.sz, st'.t, st'.h, n + 8 * ops.length⟩) live keep sn _ hd.2 h1
theorem rxd {P : Program} {np : Nat} {ops : List AOper} {Q : AExit → St → Prop} {sz n : Nat} {t : List (Nat × AV)} {h : List (Nat × Option Ent)} {af : List (List Nat)} {b : ACode} {s : St} (live keep sn : List Nat)
    (hd : ((ops.all fun o => o.dst.all (· < sz)) && sideB np (n + 8 * ops.length) (idm keep) sn) = true) (ho : awpOps P np n 0 ops ⟨sz, t, h, n⟩ [] fun st' tr => Ord ops af tr ∧ roOk keep st' ∧ cutS live keep sn (n + 8 * ops.length) st' = s) (hq : awp P np b Q s) : awp P np (.seq (.reg true ops af) b) Q ⟨sz, t, h, n⟩ := by
  rw [Bool.and_eq_true] at hd
  refine awp_dregc s hd.1 (awpOps_mono _ _ _ _ _ _ _ (fun st' _ hc => ?_) ho) hq
  obtain ⟨h0, h1, rfl⟩ := hc
  exact ⟨h0, Le.cut (st := ⟨st'.sz, st'.t, st'.h, n + 8 * ops.length⟩) live keep sn _ hd.2 h1⟩
def cutK (live keep : List Nat) (n : Nat) (st : St) : St := ⟨st.sz, live.map (fun i => (i, st.get i)), keep.map (fun i => (i, st.hp i)), n⟩
theorem Le.cutk {np : Nat} {st : St} (live keep : List Nat) (n : Nat) (hn : st.n ≤ n) : Le np st (cutK live keep n st) :=
  Le.keep rfl hn (fun p hp => by obtain ⟨i, _, rfl⟩ := List.mem_map.1 hp; rfl) fun p hp e he => by
    obtain ⟨i, _, rfl⟩ := List.mem_map.1 hp
    exact he
theorem rk {P : Program} {np : Nat} {ops : List AOper} {Q : AExit → St → Prop} {sz n : Nat} {t : List (Nat × AV)} {h : List (Nat × Option Ent)} {af : List (List Nat)} {b : ACode} {s : St} (live keep : List Nat)
    (hd : (ops.all fun o => o.dst.all (· < sz)) = true) (ho : awpOps P np n 0 ops ⟨sz, t, h, n⟩ [] fun st' _ => cutK live keep (n + 8 * ops.length) st' = s) (hq : awp P np b Q s) : awp P np (.seq (.reg false ops af) b) Q ⟨sz, t, h, n⟩ := by
  refine awp_regc s hd (awpOps_mono _ _ _ _ _ _ _ (fun st' _ hc => ?_) ho) hq
  subst hc
  exact Le.cutk (st := ⟨st'.sz, st'.t, st'.h, n + 8 * ops.length⟩) live keep _ (Nat.le_refl _)
@[simp] theorem idm_nil : idm [] = [] := (rfl)
@[simp] theorem idm_cons {i : Nat} {l : List Nat} : idm (i :: l) = (i, i) :: idm l := (rfl)
@[simp] theorem roOk_nil {st : St} : roOk [] st = True := by simp [roOk]
@[simp] theorem roOk_cons {i : Nat} {l : List Nat} {st : St} : roOk (i :: l) st = ((∀ e, st.hp i = some e → e.ro ≤ e.rows.length) ∧ roOk l st) := by simp [roOk]
@[simp] theorem cutS_def {live keep sn : List Nat} {n sz m : Nat} {t : List (Nat × AV)} {h : List (Nat × Option Ent)} : cutS live keep sn n ⟨sz, t, h, m⟩ = ⟨sz, live.map (fun i => (i, conv (idm keep) sn (St.mk sz t h m).hp 4 ((St.mk sz t h m).get i))), keep.map (fun i => (i, ((St.mk sz t h m).hp i).map (convE (idm keep) sn (St.mk sz t h m).hp 4))), n⟩ := (rfl)
@[simp] theorem cutK_def {live keep : List Nat} {n sz m : Nat} {t : List (Nat × AV)} {h : List (Nat × Option Ent)} : cutK live keep n ⟨sz, t, h, m⟩ = ⟨sz, live.map (fun i => (i, (St.mk sz t h m).get i)), keep.map (fun i => (i, (St.mk sz t h m).hp i)), n⟩ := (rfl)
end Go.Proofs.Ytnphfkceoklkkaa
namespace Go.Proofs.Ytnphfkceoklkkaa
open Go
abbrev PB (rs : List (Nat × Option (Bool × Nat))) := PostX rs 0 (fun b : Bool => .B b) (fun _ => []) (fun _ => True)
theorem acB {f : FuncId} {af : AFun} (s : Src Try.prog f af) {args : List AV} (hnt : args.length ≤ af.nt) (h : awp Try.prog 0 af.code (PB af.res) (initSt af args [])) : ∃ b : Bool, ACalls Try.prog f args [] (.B b) [] := by
  obtain ⟨b, _, hb⟩ := s.acallsX (α := Bool) (fun b => .B b) (fun _ => []) (fun _ => True) (args := args) (hs := []) hnt (Nat.zero_le _) (fun _ => Nat.le_refl _) h
  exact ⟨b, hb⟩
theorem RetB {t : Nat} {st : St} {b : Bool} (h : st.get t = .B b) : PB [(t, none)] .ret st := PostX.mk (.inr rfl) b trivial (RetOk.one (by rw [h]; exact .refl _))
set_option maxRecDepth 100000 in
theorem before_any (x y : Stm) : ∃ r : Bool, ACalls Try.prog nref05_before [eS x, eS y] [] (.B r) [] := by
  refine acB sref05_before (Nat.le_of_ble_eq_true rfl) ?_
  show awp _ 0 _ _ ⟨32, [(0, eS x), (1, eS y)], [], 16⟩
  refine rx (s := ?s1) [2, 3] [] [16, 24] rfl ?o1 ?q1
  case o1 => simp; rfl
  refine awp_seq ?_
  refine rx (s := ?s2) [2, 3, 9] [] [] rfl ?o2 ?q2
  case o2 => simp; rfl
  refine awp_cond _ rfl (fun h3 => ?_) fun h3 => awp_skip ?_
  · refine rx (s := ?s4) [4] [] [] rfl ?o4 ?q4
    case o4 => simp; rfl
    exact awp_ret (RetB rfl)
  refine awp_seq ?_
  refine rx (s := ?s5) [2, 3, 19] [] [] rfl ?o5 ?q5
  case o5 => simp; rfl
  refine awp_cond _ rfl (fun h6 => ?_) fun h6 => awp_skip ?_
  · refine rx (s := ?s7) [4] [] [] rfl ?o7 ?q7
    case o7 => simp; rfl
    exact awp_ret (RetB rfl)
  refine rx (s := ?s8) [4] [] [] rfl ?o8 ?q8
  case o8 => simp; rfl
  exact awp_ret (RetB rfl)
theorem wr1 {k N : Nat} (h : k < N) (hN : N ≤ 1099511627776) : IntKind.i64.wrap ((k : Int) + 1) = ((k + 1 : Nat) : Int) := by rw [w64 (by omega) (by omega)]; omega
set_option maxRecDepth 100000 in
theorem SamePins_any (a b : List Pn) (ha : a.length ≤ 1000000) : ∃ r : Bool, ACalls Try.prog nref03_SamePins [pns a, pns b] [] (.B r) [] := by
  refine acB sref03_SamePins (Nat.le_of_ble_eq_true rfl) ?_
  show awp _ 0 _ _ ⟨26, [(0, pns a), (1, pns b)], [], 16⟩
  refine rx (s := ?s1) [0, 1] [] [] rfl ?o1 ?q1
  case o1 => simp; rfl
  refine awp_seq ?_
  refine rx (s := ?s2) [0, 1, 10] [] [] rfl ?o2 ?q2
  case o2 => simp; rfl
  refine awp_cond _ rfl (fun h3 => ?_) fun h3 => awp_skip ?_
  · refine rx (s := ?s4) [4] [] [] rfl ?o4 ?q4
    case o4 => simp; rfl
    exact awp_ret (RetB rfl)
  simp at h3
  refine awp_seq ?_
  refine rx (s := ?s5) [0, 1, 5] [] [] rfl ?o5 ?q5
  case o5 => simp; rfl
  refine awp_block ?_
  refine awp_loop (ι := Nat) (fun i => ⟨26, [(0, pns a), (1, pns b), (5, .I i)], [], 72⟩) (fun i => i ≤ a.length) (fun i => a.length - i) 0 (Nat.zero_le _) (Le.refl _ _) ?_
  intro i hi
  refine awp_seq ?_
  refine rx (s := ?s6) [0, 1, 5, 14] [] [] rfl ?o6 ?q6
  case o6 => simp; rfl
  refine awp_cond _ rfl (fun h7 => awp_skip ?_) fun h7 => awp_exit (hit ?_)
  · simp at h7
    have hga : a[i]? = some a[i] := List.getElem?_eq_getElem h7
    have hgb : b[i]? = some b[i] := List.getElem?_eq_getElem (by omega)
    have hw := wr1 h7 (by omega)
    generalize a[i] = x at *
    generalize b[i]'(by omega) = y at *
    refine awp_cut (ι := Unit) (fun _ => ⟨26, [(0, pns a), (1, pns b), (5, .I i)], [], 300⟩) (fun _ => True) ?_ fun _ _ => ?_
    · refine awp_block ?_
      refine rxd (s := ?s8) [0, 1, 5, 25] [] [] rfl ?o8 ?q8
      case o8 => simp [hga, hgb]; refine ⟨rfl, ?_⟩; rfl
      refine awp_cond _ rfl (fun h9 => ?_) fun h9 => awp_skip ?_
      · refine rx (s := ?s10) [4] [] [] rfl ?o10 ?q10
        case o10 => simp; rfl
        exact awp_ret (RetB rfl)
      · exact ⟨(), trivial, Le.snap [] rfl rfl (by simp)⟩
    refine awp_reg rfl ?_
    simp [hw]
    exact ⟨i + 1, by omega, by omega, Le.snap [] rfl rfl (by simp)⟩
  refine rx (s := ?s11) [4] [] [] rfl ?o11 ?q11
  case o11 => simp; rfl
  exact awp_ret (RetB rfl)
set_option maxHeartbeats 2000000 in
set_option maxRecDepth 100000 in
theorem Same_any (x y : Stm) (h1 : x.li.length ≤ 1000000) (h2 : x.pi.length ≤ 1000000) : ∃ r : Bool, ACalls Try.prog nref03_Same [eS x, eS y] [] (.B r) [] := by
  obtain ⟨r, hr⟩ := SamePins_any x.pi y.pi h2
  have hi := SameInts_ok x.li y.li (by omega)
  refine acB sref03_Same (Nat.le_of_ble_eq_true rfl) ?_
  show awp _ 0 _ _ ⟨87, [(0, eS x), (1, eS y)], [], 16⟩
  refine rx (s := ?s1) [2, 3] [] [16, 24] rfl ?o1 ?q1
  case o1 => simp; rfl
  refine awp_seq ?_
  refine awp_reg rfl ?_
  simp
  repeat' first
    | (refine callf nref03_SameInts rfl ?_; refine call0e hi (by simp) ?_; simp)
    | (refine callf nref03_SamePins rfl ?_; refine call0e hr (by simp) ?_; simp)
    | (refine gcase (fun hb => ?_) (fun hb => ?_) <;> (try rw [hb]) <;> simp [*])
  all_goals exact awp_ret (RetB rfl)
end Go.Proofs.Ytnphfkceoklkkaa
namespace Go.Proofs.Ytnphfkceoklkkaa
open Go
theorem StOk.b {s : Stm} (h : StOk s) : StB s := by
  obtain ⟨_, _, _, ⟨⟨hnu, _⟩, _⟩, ⟨h1, h2, h3⟩, ⟨h4, h5, h6⟩, _⟩ := h
  refine ⟨?_, by omega, by omega, by omega, fun p hp => ?_⟩
  · by_cases hn : 0 < s.nu
    · have := h5 hn; omega
    · by_cases h0 : s.nu = 0
      · have := h4 h0
        have h7 : s.pr.toList.length = 0 := by rw [this]; rfl
        have h8 : s.pr.toList.length = s.pr.size := by rw [ByteArray.toList_eq]; simp
        omega
      · omega
  · obtain ⟨i, hi, rfl⟩ := List.mem_iff_getElem.1 hp
    have := (h6 i hi).2.2.2.2
    omega
structure Fine (s : Stm) : Prop where
  ok : StOk s
  sk_ : s.sk = s.au
  sd_ : s.sd.toList = (digS s).toList
def ownR (au : Int) (l o : List Stm) : Prop := o.length ≤ l.length ∧ ∀ x ∈ o, x ∈ l ∧ x.au = au ∧ Fine x
set_option maxHeartbeats 4000000 in
set_option maxRecDepth 100000 in
theorem Own_any (au : Int) (l : List Stm) (hl : l.length ≤ 100000) (hb : ∀ s ∈ l, StB s) : ∃ o, ownR au l o ∧ ACalls Try.prog nref04_Own [.I au, sts l] [] (.rs 0 0 o.length) [some ⟨13, o.map sC, 0⟩] := by
  refine sref04_Own.acallsX (args := [.I au, sts l]) (hs := []) (fun o => .rs 0 0 o.length) (fun o => [some ⟨13, o.map sC, 0⟩]) (ownR au l) (Nat.le_of_ble_eq_true rfl) (Nat.le_of_ble_eq_true rfl) (fun _ => Nat.zero_le _) ?_
  show awp _ 0 _ _ ⟨96, [(0, .I au), (1, sts l)], [], 16⟩
  refine rx (s := ?s1) [0, 1] [] [] rfl ?o1 ?q1
  case o1 => simp; rfl
  refine rx (s := ?s2) [0, 1, 5] [] [] rfl ?o2 ?q2
  case o2 => simp; rfl
  refine awp_seq ?_
  refine rx (s := ?s3) [0, 1, 5, 6] [] [] rfl ?o3 ?q3
  case o3 => simp; rfl
  refine awp_block ?_
  refine awp_loop (ι := List Stm × Nat) (fun p => ⟨96, [(0, .I au), (1, sts l), (5, .rs 16 0 p.1.length), (6, .I p.2)], [(16, some ⟨13, p.1.map sC, 0⟩)], 40⟩) (fun p => p.2 ≤ l.length ∧ p.1.length ≤ p.2 ∧ ∀ x ∈ p.1, x ∈ l ∧ x.au = au ∧ Fine x) (fun p => l.length - p.2) ([], 0) ⟨Nat.zero_le _, Nat.zero_le _, by simp⟩ (Le.lst [] [] [(16, 13)] rfl (by simp) (by simp) (by simp) (by simp) (by simp) (by simp) (by simp) (by simp [Up]) (by simp)) ?_
  rintro ⟨o, i⟩ ⟨hi, ho1, ho2⟩
  simp only at hi ho1 ho2
  have hXl : (o.map sC).length = o.length := List.length_map ..
  have hXg : ∀ k (h : k < o.length), (o.map sC)[k]? = some (sC o[k]) := fun k h => by rw [List.getElem?_map, List.getElem?_eq_getElem h]; rfl
  have hXf := sts_flat o
  obtain ⟨X, hX⟩ : ∃ X, X = o.map sC := ⟨_, rfl⟩
  simp only
  rw [← hX] at hXl hXg hXf ⊢
  refine awp_seq ?_
  refine rk (s := ?s4) [0, 1, 5, 6, 12] [16] rfl ?o4 ?q4
  case o4 => simp; rfl
  refine awp_cond _ rfl (fun h => awp_skip ?_) fun h => awp_exit (hit ?_)
  · simp only [decide_eq_true_eq, Int.ofNat_lt] at h
    refine awp_cut (ι := List Stm) (fun o => ⟨96, [(0, .I au), (1, sts l), (5, .rs 16 0 o.length), (6, .I i)], [(16, some ⟨13, o.map sC, 0⟩)], 1000⟩) (fun o => o.length ≤ i + 1 ∧ ∀ x ∈ o, x ∈ l ∧ x.au = au ∧ Fine x) ?_ ?_
    · have hg : l[i]? = some l[i] := List.getElem?_eq_getElem h
      have hsm : l[i] ∈ l := List.getElem_mem h
      generalize l[i] = s at *
      have hsb := hb s hsm
      obtain ⟨e, he0, hchk⟩ := ref03_Check_ok s (by have := hsb.2.2.1; omega) (by have := hsb.2.2.2.1; omega)
      have hsl := ref03_Sealed_ok s hsb
      have hcp := ref03_Copy_ok s (by have := hsb.2.2.1; omega) (by have := hsb.2.2.2.1; omega)
      refine awp_block ?_
      refine rx (s := ?s5) [0, 1, 5, 6, 7] [16] [104] rfl ?o5 ?q5
      case o5 => simp [hg, splice, hXf]; rfl
      refine awp_seq ?_
      obtain ⟨r, hr⟩ : ∃ r : Bool, r = !decide (s.au = au ∧ e = 0 ∧ s.sk = s.au ∧ s.sd.toList = (digS s).toList) := ⟨_, rfl⟩
      refine awp_regc ⟨96, [(0, .I au), (1, sts l), (5, .rs 16 0 o.length), (6, .I i), (7, .pv (sC s)), (32, .B r)], [(16, some ⟨13, X, 0⟩)], 300⟩ rfl ?_ ?_
      · by_cases c1 : s.au = au
        · have c1' : (s.au != au) = false := by simp [c1]
          simp [c1']
          refine call0e hchk (by simp) ?_
          by_cases c2 : e = 0
          · have c2' : (e != 0) = false := by simp [c2]
            simp [c2']
            refine call0e hsl (by simp) ?_
            simp
            exact Le.keep rfl (by simp) (by simp [hr, c1, c2]) (by simp)
          · have c2' : (e != 0) = true := by simp [c2]
            simp [c2']
            exact Le.keep rfl (by simp) (by simp [hr, c2]) (by simp)
        · have c1' : (s.au != au) = true := by simp [c1]
          simp [c1']
          exact Le.keep rfl (by simp) (by simp [hr, c1]) (by simp)
      refine awp_cond _ rfl (fun h1 => awp_exit (hit ?_)) fun h1 => awp_skip ?_
      · exact ⟨o, ⟨by omega, ho2⟩, Le.keep rfl (by simp) (by simp) (by simp [hX])⟩
      rw [h1] at hr
      have hfine : s.au = au ∧ Fine s := by
        have : s.au = au ∧ e = 0 ∧ s.sk = s.au ∧ s.sd.toList = (digS s).toList := by simpa using hr
        exact ⟨this.1, he0.1 this.2.1, this.2.2.1, this.2.2.2⟩
      refine rk (s := ?s6) [0, 1, 5, 6, 7, 8] [16] rfl ?o6 ?q6
      case o6 => simp; rfl
      refine awp_seq ?_
      refine awp_block ?_
      refine awp_loop (ι := Nat) (fun k => ⟨96, [(0, .I au), (1, sts l), (5, .rs 16 0 o.length), (6, .I i), (7, .pv (sC s)), (8, .I k)], [(16, some ⟨13, X, 0⟩)], 400⟩) (fun k => k ≤ o.length) (fun k => o.length - k) 0 (Nat.zero_le _) (Le.keep rfl (by simp) (by simp) (by simp)) ?_
      intro k hk
      refine awp_seq ?_
      obtain ⟨r2, hr2, hr2'⟩ : ∃ r2 : Bool, (∀ h : k < o.length, r2 = (decide (o[k].nu < s.nu) || (o[k].nu == s.nu && Op.bytesLess o[k].sd.toList s.sd.toList))) ∧ (r2 = true → k < o.length) := by
        by_cases h : k < o.length
        · exact ⟨decide (o[k].nu < s.nu) || (o[k].nu == s.nu && Op.bytesLess o[k].sd.toList s.sd.toList), fun _ => rfl, fun _ => h⟩
        · exact ⟨false, fun h' => absurd h' h, fun h' => by cases h'⟩
      refine awp_dregc ⟨96, [(0, .I au), (1, sts l), (5, .rs 16 0 o.length), (6, .I i), (7, .pv (sC s)), (8, .I k), (68, .B r2)], [(16, some ⟨13, X, 0⟩)], 700⟩ rfl ?_ ?_
      · by_cases hko : k < o.length
        · have hp := hXg k hko
          have hr3 := hr2 hko
          generalize o[k] = p at *
          by_cases c1 : p.nu < s.nu
          · simp [hko, hp, c1]
            exact ⟨rfl, Le.keep rfl (by simp) (by simp [hr3, c1]) (by simp)⟩
          · by_cases c2 : p.nu = s.nu
            · have c2' : (p.nu == s.nu) = true := by simp [c2]
              simp [hko, hp, c1, c2']
              exact ⟨rfl, Le.keep rfl (by simp) (by simp [hr3, c1, c2]) (by simp)⟩
            · have c2' : (p.nu == s.nu) = false := by simp [c2]
              simp [hko, hp, c1, c2']
              exact ⟨rfl, Le.keep rfl (by simp) (by simp [hr3, c1, c2]) (by simp)⟩
        · have e2 : r2 = false := by
            cases hh : r2
            · rfl
            · exact absurd (hr2' hh) hko
          simp [hko]
          exact ⟨rfl, Le.keep rfl (by simp) (by simp [e2]) (by simp)⟩
      refine awp_cond _ rfl (fun h4 => awp_skip ?_) fun h4 => awp_exit (hit ?_)
      · have hko := hr2' h4
        have hwk := wr1 hko (by omega)
        refine awp_block ?_
        refine awp_reg rfl ?_
        simp [hwk]
        exact ⟨k + 1, by omega, by omega, Le.Z1 hXf 16 16 [] rfl rfl (by simp) (by simp) rfl (by simp)⟩
      refine awp_seq ?_
      obtain ⟨r3, hr3⟩ : ∃ r3 : Bool, ∀ h : k < o.length, ACalls Try.prog nref03_Same [eS o[k], eS s] [] (.B r3) [] := by
        by_cases h : k < o.length
        · have hkb := (ho2 o[k] (List.getElem_mem h)).2.2.ok.b
          obtain ⟨r3, h3⟩ := Same_any o[k] s (by have := hkb.2.2.1; omega) (by have := hkb.2.2.2.1; omega)
          exact ⟨r3, fun _ => h3⟩
        · exact ⟨false, fun h' => absurd h' h⟩
      refine awp_dregc ⟨96, [(0, .I au), (1, sts l), (5, .rs 16 0 o.length), (6, .I i), (7, .pv (sC s)), (8, .I k), (82, .B (decide (k < o.length) && r3))], [(16, some ⟨13, X, 0⟩)], 900⟩ rfl ?_ ?_
      · by_cases hko : k < o.length
        · have hp := hXg k hko
          have hr4 := hr3 hko
          generalize o[k] = p at *
          simp [hko, hp]
          refine call0e hr4 (by simp) ?_
          simp
          exact ⟨rfl, Le.keep rfl (by simp) (by simp) (by simp)⟩
        · simp [hko]
          exact ⟨rfl, Le.keep rfl (by simp) (by simp) (by simp)⟩
      refine awp_cond _ rfl (fun h5 => awp_exit (hit ?_)) fun h5 => awp_skip ?_
      · exact ⟨o, ⟨by omega, ho2⟩, Le.keep rfl (by simp) (by simp) (by simp [hX])⟩
      have hol : (o.take k ++ s :: o.drop k).length = o.length + 1 := by rw [List.length_append, List.length_cons, List.length_take, List.length_drop]; omega
      have hom : (o.take k ++ s :: o.drop k).map sC = X.take k ++ [sC s] ++ X.drop k := by rw [hX, List.map_append, List.map_cons, List.map_take, List.map_drop, List.append_assoc]; rfl
      have hXf2 := sts_flat (o.take k ++ s :: o.drop k)
      rw [hom] at hXf2
      have hin : (o.take k ++ s :: o.drop k).length ≤ i + 1 ∧ ∀ x ∈ o.take k ++ s :: o.drop k, x ∈ l ∧ x.au = au ∧ Fine x := by
        refine ⟨by omega, fun x hx => ?_⟩
        rcases List.mem_append.1 hx with h6 | h6
        · exact ho2 x (List.mem_of_mem_take h6)
        · rcases List.mem_cons.1 h6 with rfl | h6
          · exact ⟨hsm, hfine⟩
          · exact ho2 x (List.mem_of_mem_drop h6)
      obtain ⟨n, hn⟩ : ∃ n, n = o.length := ⟨_, rfl⟩
      rw [← hn] at hXl hol hk ho1 ⊢
      have hmin : min k n = k := by omega
      have hmin2 : min (n - k) (n - k) = n - k := by omega
      have htk : List.take (n - k) (X.drop k) = X.drop k := List.take_of_length_le (by rw [List.length_drop]; omega)
      have hlen : k + 1 + (n - k) = n + 1 := by omega
      refine awp_drw rfl ?_
      simp [hXl, hmin, htk, hk]
      refine ⟨by omega, by omega, ?_⟩
      refine call0e hcp (by simp) ?_
      simp [hXl, hmin, htk, hk]
      have htk2 : List.take (k + 1) (List.take k X ++ [sC s]) = List.take k X ++ [sC s] := List.take_of_length_le (by rw [List.length_append, List.length_take, hXl, hmin]; exact Nat.le_refl _)
      have e1 : List.take (k + 1) (List.take k (List.take k X) ++ [sC s]) = List.take k X ++ [sC s] := by rw [List.take_take, Nat.min_self]; exact htk2
      exact ⟨by omega, by omega, by omega, by omega, rfl, o.take k ++ s :: o.drop k, hin, Le.Z1 (z := 13) hXf2 988 16 [] rfl (by simp only [hom]) (by simp) (by simp) (by simp [htk]; exact (congrArg (· ++ List.drop k X) e1).trans (by simp)) (by simp only [hol]; simp [hlen])⟩
    · rintro o ⟨ho3, ho4⟩
      have hwi := wr1 h (by omega)
      refine awp_reg rfl ?_
      simp [hwi]
      exact ⟨o, i + 1, ⟨by omega, by omega, by simpa using ho4⟩, by omega, Le.Z1 (sts_flat o) 16 16 [] rfl rfl (by simp) (by simp) rfl (by simp)⟩
  rw [hX]
  refine rx (s := ?s9) [4] [16] [] rfl ?o9 ?q9
  case o9 => simp [Function.comp_def]; rfl
  exact awp_ret (PostX.mk (.inr rfl) o ⟨by omega, ho2⟩ (RetOk.out [16] [] rfl (by simp) (by simp) (by simp) (by simp [Function.comp_def])))
end Go.Proofs.Ytnphfkceoklkkaa
namespace Go.Proofs.Ytnphfkceoklkkaa
open Go
theorem Chain.snoc {au : Int} {c : List Stm} {s : Stm} (hc : Chain au c) (hs : StAt au c.length s) (hn : ∀ p, c[c.length - 1]? = some p → StNx p s) : Chain au (c ++ [s]) := by
  refine ⟨fun i h => ?_, fun i h => ?_⟩
  · by_cases hi : i < c.length
    · rw [List.getElem_append_left hi]; exact hc.1 i hi
    · have : i = c.length := by simp at h; omega
      subst this
      rw [List.getElem_append_right (Nat.le_refl _)]
      simpa using hs
  · by_cases hi : i + 1 < c.length
    · rw [List.getElem_append_left (by omega), List.getElem_append_left hi]; exact hc.2 i hi
    · have : i + 1 = c.length := by simp at h; omega
      rw [List.getElem_append_left (by omega), List.getElem_append_right (by omega)]
      have h2 := hn (c[i]'(by omega)) (by rw [show c.length - 1 = i by omega]; exact List.getElem?_eq_getElem (by omega))
      simpa [this] using h2
theorem Chain.nil (au : Int) : Chain au [] := ⟨fun i h => by simp at h, fun i h => by simp at h⟩
theorem Chain.few {au : Int} {c : List Stm} (hc : Chain au c) : c.length ≤ 200 := by
  rcases Nat.lt_or_ge 200 c.length with h | h
  · have h1 := hc.1 200 h
    have h2 := h1.ok.2.2.2.1.1.2
    have h3 := h1.nu_
    omega
  · exact h
set_option maxHeartbeats 4000000 in
set_option maxRecDepth 100000 in
theorem Counted_any (au : Int) (l : List Stm) (hl : l.length ≤ 100000) (hb : ∀ s ∈ l, StB s) : ∃ c, (Chain au c ∧ c.length ≤ l.length) ∧ ACalls Try.prog nref04_Counted [.I au, sts l] [] (.rs 0 0 c.length) [some ⟨13, c.map sC, 0⟩] := by
  obtain ⟨o, ⟨ho1, ho2⟩, hown⟩ := Own_any au l hl hb
  refine sref04_Counted.acallsX (args := [.I au, sts l]) (hs := []) (fun o => .rs 0 0 o.length) (fun o => [some ⟨13, o.map sC, 0⟩]) (fun c => Chain au c ∧ c.length ≤ l.length) (Nat.le_of_ble_eq_true rfl) (Nat.le_of_ble_eq_true rfl) (fun _ => Nat.zero_le _) ?_
  show awp _ 0 _ _ ⟨76, [(0, .I au), (1, sts l)], [], 16⟩
  refine rx (s := ?s1) [0, 1] [] [] rfl ?o1 ?q1
  case o1 => simp; rfl
  refine awp_regc ⟨76, [(5, sts o)], [], 56⟩ rfl ?_ ?_
  · simp
    refine callN1 hown rfl ?_
    simp [Function.comp_def]
    exact Le.snap [40] rfl rfl (by simp [Function.comp_def]; exact wkE (congrArg _ (List.take_of_length_le (by simp))))
  refine rx (s := ?s2) [5, 6] [] [] rfl ?o2 ?q2
  case o2 => simp; rfl
  let Y : Nat → List (List AV) := fun i => (o.take i).map sC
  have hYl : ∀ i, i ≤ o.length → (Y i).length = i := fun i hi => by simp [Y]; omega
  have hYf : ∀ i ρ sn h m, (Y i).map (List.map (conv ρ sn h (m + 1))) = Y i := fun i => sts_flat _
  have hYs : ∀ i (h : i < o.length), Y (i + 1) = Y i ++ [sC o[i]] := fun i h => by
    simp only [Y]
    rw [List.take_succ_eq_append_getElem h, List.map_append]
    rfl
  have hYg : ∀ i k (h : k < o.length), k < i → (Y i)[k]? = some (sC o[k]) := fun i k h hk => by
    simp only [Y]
    rw [List.getElem?_map, List.getElem?_take, if_pos hk, List.getElem?_eq_getElem h]
    rfl
  have hYe : ∀ i, Y i = (o.take i).map sC := fun i => rfl
  have hY0 : Y 0 = [] := rfl
  clear_value Y
  have hend : ∀ i, i ≤ o.length → Chain au (o.take i) → PostX cref04_Counted.res 0 (fun o : List Stm => AV.rs 0 0 o.length) (fun o => [some ⟨13, o.map sC, 0⟩]) (fun c => Chain au c ∧ c.length ≤ l.length) .ret ⟨76, [(4, .rs 16 0 i)], [(16, some ⟨13, Y i, 0⟩)], 2000⟩ := fun i hi hch => by
    have hil : (o.take i).length = i := by rw [List.length_take]; omega
    exact PostX.mk (.inr rfl) (o.take i) ⟨hch, by omega⟩ (RetOk.out [16] [] rfl (by simp) (by simp) (by simp [hil]) (by simp only [hYe]; simp [Function.comp_def]))
  refine awp_cut (ι := Nat) (fun i => ⟨76, [(6, .rs 16 0 i)], [(16, some ⟨13, Y i, 0⟩)], 1900⟩) (fun i => i ≤ o.length ∧ Chain au (o.take i)) ?_ ?_
  · refine rx (s := ?s3) [5, 6, 7] [] [] rfl ?o3 ?q3
    case o3 => simp; rfl
    refine awp_block ?_
    refine awp_loop (ι := Nat) (fun i => ⟨76, [(5, sts o), (6, .rs 16 0 i), (7, .I i)], [(16, some ⟨13, Y i, 0⟩)], 72⟩) (fun i => i ≤ o.length ∧ Chain au (o.take i)) (fun i => o.length - i) 0 ⟨Nat.zero_le _, Chain.nil au⟩ (Le.lst [] [] [(16, 13)] rfl (by simp) (by simp) (by simp) (by simp) (by simp) (by simp) (by simp) (by simp [Up]) (by simp [hY0])) ?_
    rintro i ⟨hi, hch⟩
    refine awp_seq ?_
    refine rk (s := ?s4) [5, 6, 7, 15] [16] rfl ?o4 ?q4
    case o4 => simp; rfl
    refine awp_cond _ rfl (fun h => awp_skip ?_) fun h => awp_exit (hit ?_)
    · simp only [decide_eq_true_eq, Int.ofNat_lt] at h
      refine awp_cut (ι := Unit) (fun _ => ⟨76, [(5, sts o), (6, .rs 16 0 (i + 1)), (7, .I i)], [(16, some ⟨13, Y (i + 1), 0⟩)], 1500⟩) (fun _ => Chain au (o.take (i + 1))) ?_ ?_
      · have hg : o[i]? = some o[i] := List.getElem?_eq_getElem h
        obtain ⟨hsl, hsau, hsf⟩ := ho2 o[i] (List.getElem_mem h)
        have hts : o.take (i + 1) = o.take i ++ [o[i]] := List.take_succ_eq_append_getElem h
        have hil : (o.take i).length = i := by rw [List.length_take]; omega
        have hpv : ∀ j, i = j + 1 → ∃ p : Stm, (Y i)[j]? = some (sC p) ∧ (o.take i)[(o.take i).length - 1]? = some p ∧ StAt au j p := fun j hj => by
          subst hj
          have h1 := hch.1 j (by omega)
          rw [List.getElem_take] at h1
          refine ⟨o[j]'(by omega), hYg _ j (by omega) (by omega), ?_, h1⟩
          rw [hil, List.getElem?_take, if_pos (by omega)]
          exact List.getElem?_eq_getElem (by omega)
        rw [hYs i h, hts]
        generalize o[i] = s at *
        have hXl := hYl i hi
        have hXf := hYf i
        have hse : Y i = (o.take i).map sC := hYe i
        generalize hYX : Y i = X at *
        generalize hce : o.take i = c at *
        refine awp_block ?_
        refine rk (s := ?s5) [5, 6, 7, 8] [16] rfl ?o5 ?q5
        case o5 => simp; rfl
        refine awp_seq ?_
        obtain ⟨i1, hi1⟩ : ∃ i1, i1 = i + 1 := ⟨_, rfl⟩
        have hw1 : IntKind.i64.wrap ((i : Int) + 1) = (i1 : Int) := by rw [w64 (by omega) (by omega)]; omega
        obtain ⟨r, hr, hrn⟩ : ∃ r : Bool, r = (s.nu != (i : Int) || match o[i1]? with | some p => p.nu == (i : Int) | none => false) ∧ (r = false → s.nu = i) := ⟨_, rfl, fun h => by
          have := (Bool.or_eq_false_iff.1 h).1
          simpa using this⟩
        refine awp_regc ⟨76, [(5, sts o), (6, .rs 16 0 i), (7, .I i), (8, .I i), (43, .B r)], [(16, some ⟨13, X, 0⟩)], 500⟩ rfl ?_ ?_
        · by_cases c1 : s.nu = (i : Int)
          · have c1' : (s.nu != (i : Int)) = false := by simp [c1]
            by_cases hk : i1 < o.length
            · have hp1 : o[i1]? = some o[i1] := List.getElem?_eq_getElem hk
              obtain ⟨p, hp⟩ : ∃ p, p = o[i1] := ⟨_, rfl⟩
              rw [← hp] at hp1
              simp [hg, c1', hw1, hk, ← hp]
              exact Le.keep rfl (by simp) (by simp [hr, c1', hk, hp]) (by simp)
            · have hp1 : o[i1]? = none := List.getElem?_eq_none (by omega)
              simp [hg, c1', hw1, hk]
              exact Le.keep rfl (by simp) (by simp [hr, c1', hp1]) (by simp)
          · have c1' : (s.nu != (i : Int)) = true := by simp [c1]
            simp [hg, c1']
            exact Le.keep rfl (by simp) (by simp [hr, c1']) (by simp)
        refine awp_cond _ rfl (fun h5 => awp_exit ?_) fun h5 => awp_skip ?_
        · refine miss (by decide) (hit ?_)
          exact ⟨i, ⟨hi, by rw [hce]; exact hch⟩, Le.keep rfl (by simp) (by simp) (by simp [hYX])⟩
        have hnu := hrn h5
        refine awp_seq ?_
        obtain ⟨r2, hr2, hr0⟩ : ∃ r2 : Bool, (∀ j, i = j + 1 → ∃ p : Stm, X[j]? = some (sC p) ∧ c[c.length - 1]? = some p ∧ StAt au j p ∧ r2 = (!decide (FollowsP p s) || p.ki == 3)) ∧ (i = 0 → r2 = false) := by
          rcases Nat.eq_zero_or_pos i with h0 | h0
          · exact ⟨false, fun j hj => by omega, fun _ => rfl⟩
          · obtain ⟨j, hj⟩ : ∃ j, i = j + 1 := ⟨i - 1, by omega⟩
            obtain ⟨p, hp1, hp2, hp3⟩ := hpv j hj
            refine ⟨!decide (FollowsP p s) || p.ki == 3, fun j' hj' => ?_, fun h => by omega⟩
            obtain rfl : j' = j := by omega
            exact ⟨p, hp1, hp2, hp3, rfl⟩
        refine awp_dregc ⟨76, [(5, sts o), (6, .rs 16 0 i), (7, .I i), (8, .I i), (67, .B r2)], [(16, some ⟨13, X, 0⟩)], 800⟩ rfl ?_ ?_
        · rcases Nat.eq_zero_or_pos i with h0 | hi0
          · have h1 := hr0 h0
            have h2 : ¬ 0 < i := by omega
            simp [h2]
            exact ⟨rfl, Le.keep rfl (by simp) (by simp [h1]) (by simp)⟩
          · obtain ⟨j, hj⟩ : ∃ j, i = j + 1 := ⟨i - 1, by omega⟩
            obtain ⟨p, hp1, hp2, hp3, hp4⟩ := hr2 j hj
            have hwj : IntKind.i64.wrap ((i : Int) - 1) = (j : Int) := by rw [w64 (by omega) (by omega)]; omega
            have hfo := ref04_Follows_ok p s hp3.b (by have := hp3.nu_; omega) (by have := hp3.nu_; omega)
            have hji : j < i := by omega
            simp [hi0, hwj, hji, hp1, hg]
            refine call0e hfo (by simp) ?_
            by_cases c2 : FollowsP p s
            · simp [hwj, hji, hp1, c2]
              exact ⟨rfl, Le.keep rfl (by simp) (by simp [hp4, c2]) (by simp)⟩
            · simp [c2]
              exact ⟨rfl, Le.keep rfl (by simp) (by simp [hp4, c2]) (by simp)⟩
        refine awp_cond _ rfl (fun h6 => awp_exit ?_) fun h6 => awp_skip ?_
        · refine miss (by decide) (hit ?_)
          exact ⟨i, ⟨hi, by rw [hce]; exact hch⟩, Le.keep rfl (by simp) (by simp) (by simp [hYX])⟩
        have hchn : Chain au (c ++ [s]) := hch.snoc ⟨hsf.ok, hsf.ok.b, hsau, by rw [hil]; exact hnu, hsf.sk_, hsf.sd_⟩ fun p hp => by
          have hi0 : 0 < i := by
            rcases Nat.eq_zero_or_pos i with h0 | h0
            · rw [hil, h0] at hp
              have := List.getElem?_eq_some_iff.1 hp
              obtain ⟨hh, _⟩ := this
              omega
            · exact h0
          obtain ⟨j, hj⟩ : ∃ j, i = j + 1 := ⟨i - 1, by omega⟩
          obtain ⟨p', hp1, hp2, hp3, hp4⟩ := hr2 j hj
          rw [hp2] at hp
          cases hp
          rw [hp4, Bool.or_eq_false_iff] at h6
          have hf : FollowsP p s := by simpa using h6.1
          exact ⟨hf.2.2.1, hf.2.2.2, by simpa using h6.2⟩
        have htk : List.take i X = X := List.take_of_length_le (by omega)
        have hXf2 : ∀ ρ sn h m, (X ++ [sC s]).map (List.map (conv ρ sn h (m + 1))) = X ++ [sC s] := fun ρ sn h m => by rw [List.map_append, hXf]; simp
        refine awp_reg rfl ?_
        simp [hXl, htk, hg]
        exact ⟨by omega, by omega, hchn, Le.Z1 hXf2 848 16 [] rfl rfl (by simp) (by simp) (by simp [htk, hXl]) (by simp)⟩
      · intro _ hch2
        have hwi := wr1 h (by omega)
        refine awp_reg rfl ?_
        simp [hwi]
        exact ⟨i + 1, ⟨by omega, hch2⟩, by omega, Le.Z1 (hYf (i + 1)) 16 16 [] rfl rfl (by simp) (by simp) rfl (by simp)⟩
    · exact ⟨i, ⟨hi, hch⟩, Le.keep rfl (by simp) (by simp) (by simp)⟩
  · rintro i ⟨hi, hch⟩
    have := hYf i
    refine awp_regc ⟨76, [(4, .rs 16 0 i)], [(16, some ⟨13, Y i, 0⟩)], 2000⟩ rfl ?_ (awp_ret (hend i hi hch))
    simp
    exact Le.keep rfl (by simp) (by simp) (by simp)
end Go.Proofs.Ytnphfkceoklkkaa
namespace Go.Proofs.Ytnphfkceoklkkaa
open Go
section
variable {P : Program} {np id : Nat} {h : Nat → Option Ent} {K : AV → List Nat → List (Nat × Option Ent) → Prop} {f : FuncId} {first capt args args' : List AV} {res : AV}
theorem callN1s (sn : List Nat) {e : Ent} (hnp : ∀ i ∈ sn, np ≤ i) (hc : ACalls P f args' [] res [some e]) (he : WkL ((first ++ args ++ capt).map (conv [] sn h 4)) args')
    (hk : K (conv (swp [] id) [] (fun _ => none) 4 res) sn ((id, some (convE (swp [] id) [] (fun _ => none) 4 e)) :: sn.filterMap fun i => (h i).map fun e => (i, some { e with ro := e.rows.length }))) : aK P np id .call (.fn (.func f) first capt :: args) h K :=
  ⟨[], sn, true, args', [], res, [some e], by simp, by simp, fun _ => hnp, by rw [List.zipIdx_nil]; exact he, rfl, hc, by simp, .inl rfl, by simpa [swp] using hk⟩
end
set_option maxHeartbeats 1000000 in
set_option maxRecDepth 100000 in
theorem StoreOf_any (l : List Stm) (k : Int) (hl : l.length ≤ 100000) (hb : ∀ s ∈ l, StB s) : ∃ o : List Stm, (o.length ≤ l.length ∧ ∀ x ∈ o, x ∈ l) ∧ ACalls Try.prog nref05_Of [.agg [sts l], .I k] [] (.rs 0 0 o.length) [some ⟨13, o.map sC, 0⟩] := by
  refine sref05_Of.acallsX (args := [.agg [sts l], .I k]) (hs := []) (fun o => .rs 0 0 o.length) (fun o => [some ⟨13, o.map sC, 0⟩]) (fun o : List Stm => o.length ≤ l.length ∧ ∀ x ∈ o, x ∈ l) (Nat.le_of_ble_eq_true rfl) (Nat.le_of_ble_eq_true rfl) (fun _ => Nat.zero_le _) ?_
  show awp _ 0 _ _ ⟨32, [(0, .agg [sts l]), (1, .I k)], [], 16⟩
  refine rx (s := ?s1) [1, 2] [] [16] rfl ?o1 ?q1
  case o1 => simp; rfl
  refine rx (s := ?s2) [1, 2, 5] [] [] rfl ?o2 ?q2
  case o2 => simp; rfl
  refine awp_seq ?_
  refine rx (s := ?s3) [1, 2, 5, 6] [] [] rfl ?o3 ?q3
  case o3 => simp; rfl
  refine awp_block ?_
  refine awp_loop (ι := List Stm × Nat) (fun p => ⟨32, [(1, .I k), (2, .pv [sts l]), (5, .rs 16 0 p.1.length), (6, .I p.2)], [(16, some ⟨13, p.1.map sC, 0⟩)], 56⟩) (fun p => p.2 ≤ l.length ∧ p.1.length ≤ p.2 ∧ ∀ x ∈ p.1, x ∈ l) (fun p => l.length - p.2) ([], 0) ⟨Nat.zero_le _, Nat.zero_le _, by simp⟩ (Le.lst [] [] [(16, 13)] rfl (by simp) (by simp) (by simp) (by simp) (by simp) (by simp) (by simp) (by simp [Up]) (by simp)) ?_
  rintro ⟨o, i⟩ ⟨hi, ho1, ho2⟩
  simp only at hi ho1 ho2
  have hXl : (o.map sC).length = o.length := List.length_map ..
  have hXf := sts_flat o
  obtain ⟨X, hX⟩ : ∃ X, X = o.map sC := ⟨_, rfl⟩
  simp only
  rw [← hX] at hXl hXf ⊢
  refine awp_seq ?_
  refine rk (s := ?s4) [1, 2, 5, 6, 11] [16] rfl ?o4 ?q4
  case o4 => simp; rfl
  refine awp_cond _ rfl (fun h => awp_skip ?_) fun h => awp_exit (hit ?_)
  · simp only [decide_eq_true_eq, Int.ofNat_lt] at h
    refine awp_cut (ι := List Stm) (fun o => ⟨32, [(1, .I k), (2, .pv [sts l]), (5, .rs 16 0 o.length), (6, .I i)], [(16, some ⟨13, o.map sC, 0⟩)], 500⟩) (fun o => o.length ≤ i + 1 ∧ ∀ x ∈ o, x ∈ l) ?_ ?_
    · have hg : l[i]? = some l[i] := List.getElem?_eq_getElem h
      have hsm : l[i] ∈ l := List.getElem_mem h
      generalize l[i] = s at *
      have hsb := hb s hsm
      have hcp := ref03_Copy_ok s (by have := hsb.2.2.1; omega) (by have := hsb.2.2.2.1; omega)
      refine awp_block ?_
      refine rk (s := ?s5) [1, 2, 5, 6, 21] [16] rfl ?o5 ?q5
      case o5 => simp [hg]; rfl
      refine awp_cond _ rfl (fun h5 => ?_) fun h5 => awp_skip ?_
      · have htk : List.take o.length X = X := List.take_of_length_le (by omega)
        have hXf2 : ∀ ρ sn h m, (X ++ [sC s]).map (List.map (conv ρ sn h (m + 1))) = X ++ [sC s] := fun ρ sn h m => by rw [List.map_append, hXf]; simp
        have hom : (o ++ [s]).map sC = X ++ [sC s] := by rw [List.map_append, ← hX]; rfl
        have hol : (o ++ [s]).length = o.length + 1 := by simp
        refine awp_reg rfl ?_
        simp [hg]
        refine call0e hcp (by simp) ?_
        simp [hXl, htk]
        refine ⟨by omega, by omega, o ++ [s], ⟨by rw [hol]; omega, fun x hx => ?_⟩, Le.Z1 (z := 13) hXf2 224 16 [] rfl (by simp only [hom]) (by simp) (by simp) (by simp [htk]) (by simp [hol])⟩
        rcases List.mem_append.1 hx with hx | hx
        · exact ho2 x hx
        · rw [List.mem_singleton] at hx; rw [hx]; exact hsm
      · exact ⟨o, ⟨by omega, ho2⟩, Le.keep rfl (by simp) (by simp) (by simp [hX])⟩
    · rintro o ⟨ho3, ho4⟩
      have hwi := wr1 h (by omega)
      refine awp_reg rfl ?_
      simp [hwi]
      exact ⟨o, i + 1, ⟨by omega, by omega, ho4⟩, by omega, Le.Z1 (sts_flat o) 16 16 [] rfl rfl (by simp) (by simp) rfl (by simp)⟩
  rw [hX]
  refine rx (s := ?s9) [4] [16] [] rfl ?o9 ?q9
  case o9 => simp [Function.comp_def]; rfl
  exact awp_ret (PostX.mk (.inr rfl) o ⟨by omega, ho2⟩ (RetOk.out [16] [] rfl (by simp) (by simp) (by simp) (by simp [Function.comp_def])))
theorem Chain.au {a : Int} {c : List Stm} (hc : Chain a c) {s : Stm} (hs : s ∈ c) : s.au = a := by
  obtain ⟨i, hi, rfl⟩ := List.mem_iff_getElem.1 hs
  exact (hc.1 i hi).au_
set_option maxHeartbeats 1000000 in
set_option maxRecDepth 100000 in
theorem StoreCounted_any (l : List Stm) (hl : l.length ≤ 100000) (hb : ∀ s ∈ l, StB s) : ∃ c : List Stm, (GoodL c ∧ c.length ≤ 12800) ∧ ACalls Try.prog nref05_Counted [.agg [sts l]] [] (.rs 0 0 c.length) [some ⟨13, c.map sC, 0⟩] := by
  refine sref05_Counted.acallsX (args := [.agg [sts l]]) (hs := []) (fun o => .rs 0 0 o.length) (fun o => [some ⟨13, o.map sC, 0⟩]) (fun c : List Stm => GoodL c ∧ c.length ≤ 12800) (Nat.le_of_ble_eq_true rfl) (Nat.le_of_ble_eq_true rfl) (fun _ => Nat.zero_le _) ?_
  show awp _ 0 _ _ ⟨17, [(0, .agg [sts l])], [], 16⟩
  refine rx (s := ?s1) [1] [] [16] rfl ?o1 ?q1
  case o1 => simp; rfl
  refine rx (s := ?s2) [1, 3] [] [] rfl ?o2 ?q2
  case o2 => simp; rfl
  refine awp_seq ?_
  refine rx (s := ?s3) [1, 3, 4] [] [] rfl ?o3 ?q3
  case o3 => simp; rfl
  refine awp_block ?_
  refine awp_loop (ι := List Stm × Nat) (fun p => ⟨17, [(1, .pv [sts l]), (3, .rs 16 0 p.1.length), (4, .I p.2)], [(16, some ⟨13, p.1.map sC, 0⟩)], 48⟩) (fun p => p.2 ≤ 64 ∧ p.1.length ≤ 200 * p.2 ∧ GoodL p.1 ∧ ∀ x ∈ p.1, x.au < p.2) (fun p => 64 - p.2) ([], 0) ⟨Nat.zero_le _, Nat.zero_le _, ⟨List.Pairwise.nil, by simp⟩, by simp⟩ (Le.lst [] [] [(16, 13)] rfl (by simp) (by simp) (by simp) (by simp) (by simp) (by simp) (by simp) (by simp [Up]) (by simp)) ?_
  rintro ⟨o, k⟩ ⟨hk, ho1, ho2, ho3⟩
  simp only at hk ho1 ho2 ho3
  have hXl : (o.map sC).length = o.length := List.length_map ..
  have hXf := sts_flat o
  obtain ⟨X, hX⟩ : ∃ X, X = o.map sC := ⟨_, rfl⟩
  simp only
  rw [← hX] at hXl hXf ⊢
  refine awp_seq ?_
  refine rk (s := ?s4) [1, 3, 4, 6] [16] rfl ?o4 ?q4
  case o4 => simp; rfl
  refine awp_cond _ rfl (fun h => awp_skip ?_) fun h => awp_exit (hit ?_)
  · simp only [decide_eq_true_eq] at h
    have hk64 : k < 64 := by omega
    obtain ⟨a, ⟨ha1, ha2⟩, hof⟩ := StoreOf_any l k hl hb
    obtain ⟨c, ⟨hc1, hc2⟩, hct⟩ := Counted_any k a (by omega) fun s hs => hb s (ha2 s hs)
    have hcl := hc1.few
    have htk : List.take o.length X = X := List.take_of_length_le (by omega)
    have htc : List.take c.length (c.map sC) = c.map sC := List.take_of_length_le (by simp)
    have hom : (o ++ c).map sC = X ++ c.map sC := by rw [List.map_append, ← hX]
    have hol : (o ++ c).length = o.length + c.length := List.length_append ..
    have hXf2 := sts_flat (o ++ c)
    rw [hom] at hXf2
    have hta : List.take a.length (a.map sC) = a.map sC := List.take_of_length_le (by simp)
    have hgood : GoodL (o ++ c) ∧ ∀ x ∈ o ++ c, x.au < (k + 1 : Nat) := by
      refine ⟨ho2.append hc1.good fun x hx y hy => ?_, fun x hx => ?_⟩
      · rw [hc1.au hy]; exact ho3 x hx
      · rcases List.mem_append.1 hx with hx | hx
        · have := ho3 x hx; omega
        · rw [hc1.au hx]; omega
    have hXc := sts_flat c
    refine awp_cut (ι := Unit) (fun _ => ⟨17, [(1, .pv [sts l]), (3, .rs 16 0 (o ++ c).length), (4, .I k)], [(16, some ⟨13, X ++ c.map sC, 0⟩)], 300⟩) (fun _ => True) ?_ fun _ _ => ?_
    · refine awp_block ?_
      refine awp_reg rfl ?_
      simp
      refine callN1 hof (by simp) ?_
      simp [Function.comp_def]
      refine callN1s [96] (by simp) hct (by simp [hta, Function.comp_def]) ?_
      simp [hXl, htk, htc, Function.comp_def]
      exact ⟨by omega, by omega, Le.Z1 (z := 13) hXf2 112 16 [] rfl rfl (by simp) (by simp) (by simp) (by simp)⟩
    have hwi := wr1 hk64 (by omega)
    refine awp_reg rfl ?_
    simp [hwi]
    exact ⟨o ++ c, k + 1, ⟨by omega, by rw [hol]; omega, hgood.1, hgood.2⟩, by omega, Le.Z1 (z := 13) hXf2 16 16 [] rfl (by simp only [hom]) (by simp) (by simp) rfl (by simp)⟩
  rw [hX]
  refine rx (s := ?s9) [2] [16] [] rfl ?o9 ?q9
  case o9 => simp [Function.comp_def]; rfl
  exact awp_ret (PostX.mk (.inr rfl) o ⟨ho2, by omega⟩ (RetOk.out [16] [] rfl (by simp) (by simp) (by simp) (by simp [Function.comp_def])))
end Go.Proofs.Ytnphfkceoklkkaa
namespace Go.Proofs.Ytnphfkceoklkkaa
open Go
set_option maxHeartbeats 1000000 in
set_option maxRecDepth 100000 in
theorem put_any (l : List Stm) (x : Stm) (hl : l.length ≤ 100000) (hb : ∀ s ∈ l, StB s) (hx : StB x) : ∃ p : List Stm × Bool, (p.1.length ≤ l.length + 1 ∧ ∀ s ∈ p.1, s ∈ l ∨ s = x) ∧ ACalls Try.prog nref05_put [sts l, eS x] [] (.tup [sts p.1, .B p.2]) [] := by
  refine sref05_put.acallsX (args := [sts l, eS x]) (hs := []) (fun p => .tup [sts p.1, .B p.2]) (fun _ => []) (fun p : List Stm × Bool => p.1.length ≤ l.length + 1 ∧ ∀ s ∈ p.1, s ∈ l ∨ s = x) (Nat.le_of_ble_eq_true rfl) (Nat.le_of_ble_eq_true rfl) (fun _ => Nat.zero_le _) ?_
  show awp _ 0 _ _ ⟨46, [(0, sts l), (1, eS x)], [], 16⟩
  refine rx (s := ?s1) [0, 3] [] [16] rfl ?o1 ?q1
  case o1 => simp; rfl
  refine rx (s := ?s2) [0, 3, 6] [] [] rfl ?o2 ?q2
  case o2 => simp; rfl
  refine awp_seq ?_
  refine awp_block ?_
  refine awp_loop (ι := Nat) (fun k => ⟨46, [(0, sts l), (3, .pv (sC x)), (6, .I k)], [], 48⟩) (fun k => k ≤ l.length) (fun k => l.length - k) 0 (Nat.zero_le _) (Le.snap [] rfl rfl (by simp)) ?_
  intro k hk
  refine awp_seq ?_
  obtain ⟨r2, hr2, hr2'⟩ : ∃ r2 : Bool, (∀ h : k < l.length, ACalls Try.prog nref05_before [eS l[k], eS x] [] (.B r2) []) ∧ (r2 = true → k < l.length) := by
    by_cases h : k < l.length
    · obtain ⟨r, hr⟩ := before_any l[k] x
      exact ⟨r, fun _ => hr, fun _ => h⟩
    · exact ⟨false, fun h' => absurd h' h, fun h' => by cases h'⟩
  refine awp_dregc ⟨46, [(0, sts l), (3, .pv (sC x)), (6, .I k), (18, .B r2)], [], 200⟩ rfl ?_ ?_
  · by_cases hko : k < l.length
    · have hp : l[k]? = some l[k] := List.getElem?_eq_getElem hko
      have hr3 := hr2 hko
      obtain ⟨s, hs⟩ : ∃ s, s = l[k] := ⟨_, rfl⟩
      rw [← hs] at hr3 hp
      simp [hko, ← hs]
      refine call0e hr3 (by simp) ?_
      simp
      exact ⟨rfl, Le.snap [] rfl rfl (by simp)⟩
    · have e2 : r2 = false := by
        cases hh : r2
        · rfl
        · exact absurd (hr2' hh) hko
      simp [hko]
      exact ⟨rfl, Le.snap [] rfl rfl (by simp [e2])⟩
  refine awp_cond _ rfl (fun h4 => awp_skip ?_) fun h4 => awp_exit (hit ?_)
  · have hwk := wr1 (hr2' h4) (by omega)
    have hkl := hr2' h4
    refine awp_block ?_
    refine awp_reg rfl ?_
    simp [hwk]
    exact ⟨k + 1, by omega, by omega, Le.snap [] rfl rfl (by simp)⟩
  refine awp_seq ?_
  obtain ⟨r3, hr3⟩ : ∃ r3 : Bool, ∀ h : k < l.length, ACalls Try.prog nref03_Same [eS l[k], eS x] [] (.B r3) [] := by
    by_cases h : k < l.length
    · have hkb := hb l[k] (List.getElem_mem h)
      obtain ⟨r3, h3⟩ := Same_any l[k] x (by have := hkb.2.2.1; omega) (by have := hkb.2.2.2.1; omega)
      exact ⟨r3, fun _ => h3⟩
    · exact ⟨false, fun h' => absurd h' h⟩
  refine awp_dregc ⟨46, [(0, sts l), (3, .pv (sC x)), (6, .I k), (32, .B (decide (k < l.length) && r3))], [], 300⟩ rfl ?_ ?_
  · by_cases hko : k < l.length
    · have hp : l[k]? = some l[k] := List.getElem?_eq_getElem hko
      have hr4 := hr3 hko
      obtain ⟨s, hs⟩ : ∃ s, s = l[k] := ⟨_, rfl⟩
      rw [← hs] at hr4 hp
      simp [hko, ← hs]
      refine call0e hr4 (by simp) ?_
      simp
      exact ⟨rfl, Le.snap [] rfl rfl (by simp)⟩
    · simp [hko]
      exact ⟨rfl, Le.snap [] rfl rfl (by simp)⟩
  refine awp_cond _ rfl (fun h6 => ?_) fun h6 => awp_skip ?_
  · refine rx (s := ?s7) [4, 5] [] [] rfl ?o7 ?q7
    case o7 => simp; rfl
    exact awp_ret (PostX.mk (.inr rfl) (l, false) ⟨Nat.le_succ _, fun s hs => .inl hs⟩ (RetOk.out [] [] rfl (by simp) (by simp) (by simp) (by simp)))
  have hcp := ref03_Copy_ok x (by have := hx.2.2.1; omega) (by have := hx.2.2.2.1; omega)
  have hX : ∃ X, X = l.map sC := ⟨_, rfl⟩
  obtain ⟨X, hX⟩ := hX
  have hXl : X.length = l.length := by rw [hX, List.length_map]
  have hXf := sts_flat l
  rw [← hX] at hXf
  obtain ⟨n, hn⟩ : ∃ n, n = l.length := ⟨_, rfl⟩
  have hmin : min k n = k := by omega
  have htk2 : List.take (k + 1) (List.take k X ++ [sC x]) = List.take k X ++ [sC x] := List.take_of_length_le (by rw [List.length_append, List.length_take, hXl, ← hn, hmin]; exact Nat.le_refl _)
  have e1 : List.take (k + 1) (List.take k (List.take k X) ++ [sC x]) = List.take k X ++ [sC x] := by rw [List.take_take, Nat.min_self]; exact htk2
  have hom : (l.take k ++ x :: l.drop k).map sC = List.take k X ++ [sC x] ++ List.drop k X := by rw [hX, List.map_append, List.map_cons, List.map_take, List.map_drop, List.append_assoc]; rfl
  have hol : (l.take k ++ x :: l.drop k).length = n + 1 := by rw [List.length_append, List.length_cons, List.length_take, List.length_drop]; omega
  have hsts : sts l = .vs 13 false X := by rw [hX]
  have hXf2 := sts_flat (l.take k ++ x :: l.drop k)
  rw [hom] at hXf2
  have hall : List.take (k + 1 + (n - k)) (List.take k X ++ [sC x] ++ List.drop k X) = List.take k X ++ [sC x] ++ List.drop k X := List.take_of_length_le (by rw [← hom, List.length_map, hol]; omega)
  refine awp_dregc ⟨46, [(4, sts (l.take k ++ x :: l.drop k)), (5, .B true)], [], 600⟩ rfl ?_ (awp_ret (PostX.mk (.inr rfl) (l.take k ++ x :: l.drop k, true) ⟨by rw [hol]; omega, fun s hs => ?_⟩ (RetOk.out [] [] rfl (by simp) (by simp) (by simp [-List.map_append, -List.map_cons]; exact .refl _) (by simp))))
  · rw [hsts, show sts (l.take k ++ x :: l.drop k) = .vs 13 false (List.take k X ++ [sC x] ++ List.drop k X) from by rw [← hom]]
    rw [← hn] at hXl hk
    simp [hXl, hmin, hk]
    refine ⟨by omega, by omega, ?_⟩
    refine call0e hcp (by simp) ?_
    simp [hXl, hmin, hk]
    have hln : min k n + (1 + (n - k)) = n + 1 := by omega
    refine ⟨by omega, by omega, by omega, by omega, rfl, Le.snap [388] rfl rfl ?_⟩
    simp [hXl, hmin, hk, hXf]
    exact wkE (congrArg _ (((congrArg (fun Z => List.take (k + 1 + (n - k)) (Z ++ List.drop k X)) e1).trans hall).trans (by simp)))
  · rcases List.mem_append.1 hs with h | h
    · exact .inl (List.mem_of_mem_take h)
    · rcases List.mem_cons.1 h with h | h
      · exact .inr h
      · exact .inl (List.mem_of_mem_drop h)
set_option maxHeartbeats 1000000 in
set_option maxRecDepth 100000 in
theorem Adds_any (l : List Stm) (x : Stm) (hl : l.length ≤ 1000) (hb : ∀ s ∈ l, StOk s) (hx : StB x) : ∃ l' : List Stm, (l'.length ≤ 1000 ∧ ∀ s ∈ l', StOk s) ∧ ACalls Try.prog nref05_Adds [.agg [sts l], eS x] [] (.agg [sts l']) [] := by
  obtain ⟨e, he0, hchk⟩ := ref03_Check_ok x (by have := hx.2.2.1; omega) (by have := hx.2.2.2.1; omega)
  have hsl := ref03_Sealed_ok x hx
  obtain ⟨⟨p, r⟩, ⟨hp1, hp2⟩, hput⟩ := put_any l x (by omega) (fun s hs => (hb s hs).b) hx
  simp only at hp1 hp2 hput
  refine sref05_Adds.acallsX (args := [.agg [sts l], eS x]) (hs := []) (fun l => .agg [sts l]) (fun _ => []) (fun l' : List Stm => l'.length ≤ 1000 ∧ ∀ s ∈ l', StOk s) (Nat.le_of_ble_eq_true rfl) (Nat.le_of_ble_eq_true rfl) (fun _ => Nat.zero_le _) ?_
  show awp _ 0 _ _ ⟨29, [(0, .agg [sts l]), (1, eS x)], [], 16⟩
  have hend : ∀ l' : List Stm, l'.length ≤ 1000 → (∀ s ∈ l', StOk s) → PostX cref05_Adds.res 0 (fun l : List Stm => AV.agg [sts l]) (fun _ => []) (fun l' : List Stm => l'.length ≤ 1000 ∧ ∀ s ∈ l', StOk s) .ret ⟨29, [(4, .pv [sts l'])], [], 1000⟩ := fun l' h1 h2 => PostX.mk (.inr rfl) l' ⟨h1, h2⟩ (RetOk.out [] [] rfl (by simp) (by simp) (by simp) (by simp))
  refine rx (s := ?s1) [2, 3, 4] [32] [16, 24] rfl ?o1 ?q1
  case o1 => simp; rfl
  refine awp_seq ?_
  obtain ⟨r1, hr1, hr1'⟩ : ∃ r1 : Bool, r1 = (e != 0 || !decide (x.sk = x.au ∧ x.sd.toList = (digS x).toList)) ∧ (r1 = false → StOk x) := ⟨_, rfl, fun h => he0.1 (by simpa using (Bool.or_eq_false_iff.1 h).1)⟩
  refine awp_regc ⟨29, [(2, .pv [sts l]), (3, .pv (sC x)), (4, .pt 32 0 0), (14, .B r1)], [(32, some ⟨1, [[.nilS]], 0⟩)], 200⟩ rfl ?_ ?_
  · simp
    refine call0e hchk (by simp) ?_
    by_cases c2 : e = 0
    · have c2' : (e != 0) = false := by simp [c2]
      simp [c2']
      refine call0e hsl (by simp) ?_
      simp
      exact Le.keep rfl (by simp) (by simp [hr1, c2]) (by simp)
    · have c2' : (e != 0) = true := by simp [c2]
      simp [c2']
      exact Le.keep rfl (by simp) (by simp [hr1, c2]) (by simp)
  refine awp_cond _ rfl (fun h3 => ?_) fun h3 => awp_skip ?_
  · refine awp_regc ⟨29, [(4, .pv [sts l])], [], 1000⟩ rfl ?_ (awp_ret (hend l hl hb))
    simp
    exact Le.snap [32] rfl rfl (by simp)
  have hok := hr1' h3
  refine awp_seq ?_
  refine awp_regc ⟨29, [(2, .pv [sts l]), (4, .pt 32 0 0), (5, sts p)], [(32, some ⟨1, [[.nilS]], 0⟩)], 300⟩ rfl ?_ ?_
  · simp
    refine call0e hput (by simp) ?_
    simp
    exact Le.keep rfl (by simp) (by simp) (by simp)
  refine rk (s := ?s6) [2, 4, 5, 25] [32] rfl ?o6 ?q6
  case o6 => simp; rfl
  refine awp_cond _ rfl (fun h7 => ?_) fun h7 => awp_skip ?_
  · simp only [decide_eq_true_eq] at h7
    refine awp_regc ⟨29, [(4, .pv [sts p])], [], 1000⟩ rfl ?_ (awp_ret (hend p (by omega) fun s hs => (hp2 s hs).elim (hb s) fun h => by rw [h]; exact hok))
    simp
    exact Le.snap [32] rfl rfl (by simp)
  · refine awp_regc ⟨29, [(4, .pv [sts l])], [], 1000⟩ rfl ?_ (awp_ret (hend l hl hb))
    simp
    exact Le.snap [32] rfl rfl (by simp)
set_option maxHeartbeats 1000000 in
set_option maxRecDepth 100000 in
theorem MadeStoreOf_any (l : List Stm) (hl : l.length ≤ 100000) (hb : ∀ s ∈ l, StB s) : ∃ l' : List Stm, (l'.length ≤ 1000 ∧ ∀ s ∈ l', StOk s) ∧ ACalls Try.prog nmade_StoreOf [sts l] [] (.agg [sts l']) [] := by
  refine smade_StoreOf.acallsX (args := [sts l]) (hs := []) (fun l => .agg [sts l]) (fun _ => []) (fun l' : List Stm => l'.length ≤ 1000 ∧ ∀ s ∈ l', StOk s) (Nat.le_of_ble_eq_true rfl) (Nat.le_of_ble_eq_true rfl) (fun _ => Nat.zero_le _) ?_
  show awp _ 0 _ _ ⟨18, [(0, sts l)], [], 16⟩
  refine rx (s := ?s1) [0, 2] [16] [] rfl ?o1 ?q1
  case o1 => simp; rfl
  refine rx (s := ?s2) [0, 2, 3] [16, 24] [] rfl ?o2 ?q2
  case o2 => simp; rfl
  refine awp_seq ?_
  refine rx (s := ?s3) [0, 2, 3, 4] [16, 24] [] rfl ?o3 ?q3
  case o3 => simp; rfl
  refine awp_block ?_
  refine awp_loop (ι := List Stm × Nat) (fun p => ⟨18, [(0, sts l), (2, .pt 16 0 0), (3, .pt 24 0 0), (4, .I p.2)], [(16, some ⟨1, [[.nilS]], 0⟩), (24, some ⟨1, [[sts p.1]], 0⟩)], 40⟩) (fun p => p.2 ≤ l.length ∧ p.1.length ≤ 1000 ∧ ∀ s ∈ p.1, StOk s) (fun p => l.length - p.2) ([], 0) ⟨Nat.zero_le _, Nat.zero_le _, by simp⟩ ?_ ?_
  · refine Le.ents [(16, 16), (24, 24)] [] rfl (by simp) (by simp) (by simp) (by simp) (by simp) (by simp) fun p hp => ?_
    simp only [List.mem_cons, List.not_mem_nil, or_false] at hp
    rcases hp with rfl | rfl
    · exact ⟨16, _, _, rfl, by simp, rfl, EntUp.eq (by simp) (by simp)⟩
    · exact ⟨24, _, _, rfl, by simp, rfl, EntUp.row (r := [.nilS]) (by simp) (Nat.zero_le _) ⟨.inl (Wk.nil 13 false), trivial⟩⟩
  rintro ⟨o, i⟩ ⟨hi, ho1, ho2⟩
  simp only at hi ho1 ho2
  simp only
  refine awp_seq ?_
  refine rk (s := ?s4) [0, 2, 3, 4, 8] [16, 24] rfl ?o4 ?q4
  case o4 => simp; rfl
  refine awp_cond _ rfl (fun h => awp_skip ?_) fun h => awp_exit (hit ?_)
  · simp only [decide_eq_true_eq, Int.ofNat_lt] at h
    have hg : l[i]? = some l[i] := List.getElem?_eq_getElem h
    have hsm : l[i] ∈ l := List.getElem_mem h
    obtain ⟨s, hs⟩ : ∃ s, s = l[i] := ⟨_, rfl⟩
    rw [← hs] at hg hsm
    obtain ⟨o2, ⟨ho3, ho4⟩, hadd⟩ := Adds_any o s ho1 ho2 (hb s hsm)
    refine awp_cut (ι := Unit) (fun _ => ⟨18, [(0, sts l), (2, .pt 16 0 0), (3, .pt 24 0 0), (4, .I i)], [(16, some ⟨1, [[.nilS]], 0⟩), (24, some ⟨1, [[sts o2]], 0⟩)], 400⟩) (fun _ => True) ?_ fun _ _ => ?_
    · refine awp_block ?_
      refine awp_drw rfl ?_
      simp [hg]
      refine call0e hadd (by simp) ?_
      simp [splice]
      exact ⟨rfl, Le.keep rfl (by simp) (by simp) (by simp)⟩
    have hwi := wr1 h (by omega)
    refine awp_reg rfl ?_
    simp [hwi]
    exact ⟨o2, i + 1, ⟨by omega, ho3, ho4⟩, by omega, Le.go [(16, 16), (24, 24)] [] rfl rfl (by simp) (by simp)⟩
  refine awp_regc ⟨18, [(2, .pv [sts o])], [], 1000⟩ rfl ?_ (awp_ret (PostX.mk (.inr rfl) o ⟨ho1, ho2⟩ (RetOk.out [] [] rfl (by simp) (by simp) (by simp) (by simp))))
  simp [splice]
  exact Le.snap [16] rfl rfl (by simp)
end Go.Proofs.Ytnphfkceoklkkaa
namespace Go.Proofs.Ytnphfkceoklkkaa
open Go
theorem ofD_in2 (L : List Int) (a : Nat) {l : List Int} (h : 0 < l.length) : ofD L a l ∈ l := by
  have := nextD_lt (L := L) (a := a) (n := l.length) (by omega)
  obtain ⟨q, hq⟩ : ∃ q : Nat, (nextD L a l.length).1 = q := ⟨(nextD L a l.length).1.toNat, by omega⟩
  have hql : q < l.length := by omega
  unfold ofD
  rw [hq]
  simp [hql]
theorem next_any2 (au : Int) (l : List Stm) (s : Stm) (hc : Chain au l) (hl : l.length ≤ 1000) (hs : StB s) :
    ∃ (e : Int) (x : Stm), ACalls Try.prog nref04_Next [.I au, sts l, eS s] [] (.tup [eS x, .I e]) [] ∧ (e = 0 → Chain au (l ++ [x])) := by
  have hb3 := hs.2.2.1
  have hb4 := hs.2.2.2.1
  obtain ⟨eC, he, hchk⟩ := ref03_Check_ok (nx au l s) (by show s.li.length ≤ _; omega) (by show s.pi.length ≤ _; omega)
  by_cases hT : BadT l s
  · exact ⟨9, zS, next_ok au l s hc hl hs eC 9 zS hchk (fun _ => ⟨rfl, rfl⟩) (fun h => absurd hT h) (fun h => absurd hT h), fun h => by omega⟩
  · by_cases hK : BadK l
    · exact ⟨5, zS, next_ok au l s hc hl hs eC 5 zS hchk (fun h => absurd h hT) (fun _ _ => ⟨rfl, rfl⟩) (fun _ h => absurd hK h), fun h => by omega⟩
    · by_cases h0 : eC = 0
      · exact ⟨eC, nx au l s, next_ok au l s hc hl hs eC eC _ hchk (fun h => absurd h hT) (fun _ h => absurd h hK) (fun _ _ => ⟨rfl, fun _ => rfl, fun h => absurd h0 h⟩), fun _ => chain_nx hc hs hT hK (he.1 h0)⟩
      · exact ⟨eC, zS, next_ok au l s hc hl hs eC eC _ hchk (fun h => absurd h hT) (fun _ h => absurd h hK) (fun _ _ => ⟨rfl, fun h => absurd h h0, fun _ => rfl⟩), fun h => absurd h h0⟩
theorem RetOk.k1m {rs : List (Nat × Option (Bool × Nat))} {st : St} {vs : List AV} {res : AV} {e0 e : Ent} (i : Nat) (hi : 1 ≤ i) (h1 : resAll st rs = some vs) (hw : Wk (conv [(0, 0), (i, 1)] [] st.hp 4 (resV vs)) res) (h0 : (st.hp 0).map (convE [(0, 0), (i, 1)] [] st.hp 4) = some e0) (he : (st.hp i).map (convE [(0, 0), (i, 1)] [] st.hp 4) = some e) : RetOk rs 1 st res [some e0, some e] :=
  ⟨vs, h1, [i], [], by simp [List.range, List.range.loop]; omega, by simpa using hi, by simp, by simpa [List.range, List.range.loop] using hw, by simpa [List.range, List.range.loop] using ⟨by simpa using h0, by simpa using he⟩⟩
theorem Next_any (L : List Int) (a : Nat) (n : Int) (hl : L.length ≤ 400) (ha : a ≤ L.length) (hn : n ≤ 1000000) : ∃ (x : Int) (b : Nat), (b ≤ L.length ∧ 0 ≤ x ∧ x ≤ 1000000 ∧ (0 < n → x < n)) ∧ ACalls Try.prog nmade_Dice_Next [.pt 0 0 0, .I n] [dice L a] (.I x) [some (dice L b)] := by
  refine ⟨_, _, ⟨nextD_le ha, ?_⟩, Next_ok L a n (by omega) ha (by omega)⟩
  by_cases h : 0 < n
  · have := nextD_lt (L := L) (a := a) h
    omega
  · unfold nextD
    split
    · simp only [modI]
      rw [if_pos (by omega)]
      omega
    · simp
theorem Of_any (L : List Int) (a : Nat) (l : List Int) (hl : L.length ≤ 400) (ha : a ≤ L.length) (h0 : 0 < l.length) (hl2 : l.length ≤ 100) : ∃ (x : Int) (b : Nat), (b ≤ L.length ∧ x ∈ l) ∧ ACalls Try.prog nmade_Dice_Of [.pt 0 0 0, ints l] [dice L a] (.I x) [some (dice L b)] :=
  ⟨_, _, ⟨nextD_le ha, ofD_in2 L a h0⟩, Of_ok L a l (by omega) ha h0 (by omega)⟩
theorem One_any (L : List Int) (a : Nat) (n : Int) (hl : L.length ≤ 400) (ha : a ≤ L.length) (hn0 : 0 ≤ n) (hn : n ≤ 1000000) : ∃ (x : Bool) (b : Nat), b ≤ L.length ∧ ACalls Try.prog nmade_Dice_One [.pt 0 0 0, .I n] [dice L a] (.B x) [some (dice L b)] :=
  ⟨_, _, nextD_le ha, One_ok L a n (by omega) ha hn0 (by omega)⟩
set_option maxHeartbeats 1000000 in
set_option maxRecDepth 100000 in
theorem Bytes_any (L : List Int) (a : Nat) (m : Nat) (hl : L.length ≤ 400) (ha : a ≤ L.length) (hm : m ≤ 100) : ∃ p : List Int × Nat, (p.1.length ≤ 200 ∧ p.2 ≤ L.length) ∧ ACalls Try.prog nmade_Dice_Bytes [.pt 0 0 0, .I m] [dice L a] (.rs 1 0 p.1.length) [some (dice L p.2), some ⟨1, rowsK .u8 p.1, 0⟩] := by
  refine smade_Dice_Bytes.acallsX (args := [.pt 0 0 0, .I m]) (hs := [dice L a]) (fun p => .rs 1 0 p.1.length) (fun p => [some (dice L p.2), some ⟨1, rowsK .u8 p.1, 0⟩]) (fun p : List Int × Nat => p.1.length ≤ 200 ∧ p.2 ≤ L.length) (Nat.le_of_ble_eq_true rfl) (Nat.le_of_ble_eq_true rfl) (fun _ => by simp) ?_
  show awp _ 1 _ _ ⟨23, [(0, .pt 0 0 0), (1, .I m)], [(0, some (dice L a))], 16⟩
  obtain ⟨x, b, ⟨hb1, hb2, hb3, hb4⟩, hnx⟩ := Next_any L a ((m + 1 : Nat) : Int) hl ha (by omega)
  have hxm := hb4 (by omega)
  obtain ⟨y, rfl⟩ : ∃ y : Nat, x = y := ⟨x.toNat, by omega⟩
  have hwm := wr1 (k := m) (N := 101) (by omega) (by omega)
  refine rx (s := ?s1) [0, 1] [0] [] rfl ?o1 ?q1
  case o1 => simp; rfl
  refine rx (s := ?s2) [0, 1, 5] [0] [] rfl ?o2 ?q2
  case o2 => simp; rfl
  refine awp_seq ?_
  refine awp_regc ⟨23, [(0, .pt 0 0 0), (5, .nilS), (6, .I y)], [(0, some (dice L b))], 100⟩ rfl ?_ ?_
  · simp [hwm]
    refine callM1 (i := 0) rfl (e' := dice L a) (by simp) hnx (by simp) (by simp) ?_
    simp
    exact Le.keep rfl (by simp) (by simp) (by simp)
  refine awp_block ?_
  refine awp_loop (ι := (List Int × Nat) × Nat) (fun p => ⟨23, [(0, .pt 0 0 0), (5, .rs 16 0 p.1.1.length), (6, .I p.2)], [(0, some (dice L p.1.2)), (16, some ⟨1, rowsK .u8 p.1.1, 0⟩)], 100⟩) (fun p => p.1.1.length + p.2 = y ∧ p.1.2 ≤ L.length) (fun p => p.2) (([], b), y) ⟨by simp, hb1⟩ ?_ ?_
  · refine Le.lst [(0, 0)] [] [(16, 1)] rfl (by simp) (by simp) (by simp) (by simp) (by simp) (by simp) (by simp) (by simp [Up]) fun p hp e' he' => ?_
    simp at hp
    rcases hp with rfl | rfl
    · cases he'
      exact .inl ⟨(0, 0), by simp, rfl, _, rfl, EntUp.eq (by simp) (by simp)⟩
    · cases he'
      exact .inr ⟨by simp, by simp, rfl⟩
  rintro ⟨⟨c, b⟩, n⟩ ⟨hc, hbl⟩
  simp only at hc hbl
  simp only
  have hXl : (rowsK .u8 c).length = c.length := List.length_map ..
  have hXf := rowsK_flat .u8 c
  obtain ⟨X, hX⟩ : ∃ X, X = rowsK .u8 c := ⟨_, rfl⟩
  rw [← hX] at hXl hXf ⊢
  refine awp_seq ?_
  refine rk (s := ?s3) [0, 5, 6, 12] [0, 16] rfl ?o3 ?q3
  case o3 => simp; rfl
  refine awp_cond _ rfl (fun h => awp_skip ?_) fun h => awp_exit (hit ?_)
  · simp only [decide_eq_true_eq] at h
    obtain ⟨z, b2, ⟨hb5, _⟩, hof⟩ := Of_any L b [0, 1, 255, 7, 128, 126, 32] hl hbl (by decide) (by decide)
    have htk : List.take c.length X = X := List.take_of_length_le (by omega)
    have hXf2 := rowsK_flat .u8 (c ++ [IntKind.u8.wrap z])
    have hom : rowsK .u8 (c ++ [IntKind.u8.wrap z]) = X ++ [[.sc (.int .u8 (IntKind.u8.wrap z))]] := by rw [hX, rowsK, List.map_append]; rfl
    have hol : (c ++ [IntKind.u8.wrap z]).length = c.length + 1 := by simp
    rw [hom] at hXf2
    refine awp_cut (ι := Unit) (fun _ => ⟨23, [(0, .pt 0 0 0), (5, .rs 16 0 (c.length + 1)), (6, .I n)], [(0, some (dice L b2)), (16, some ⟨1, X ++ [[.sc (.int .u8 (IntKind.u8.wrap z))]], 0⟩)], 400⟩) (fun _ => True) ?_ fun _ _ => ?_
    · refine awp_block ?_
      refine awp_reg rfl ?_
      simp
      refine callM1s (i := 0) (j := 132) (by decide) (by decide) rfl rfl (e' := dice L b) (by simp) hof (by simp) (by simp) ?_
      simp [hXl, htk]
      exact ⟨by omega, Le.go [(0, 0), (164, 16)] [] rfl rfl (by simp) (by simp [hXf])⟩
    have hwn : IntKind.i64.wrap ((n : Int) - 1) = ((n - 1 : Nat) : Int) := by rw [w64 (by omega) (by omega)]; omega
    refine awp_reg rfl ?_
    simp [hwn]
    refine ⟨c ++ [IntKind.u8.wrap z], b2, n - 1, ⟨by rw [hol]; omega, hb5⟩, by omega, ?_⟩
    show Le 1 _ ⟨23, [(0, .pt 0 0 0), (5, .rs 16 0 (c ++ [IntKind.u8.wrap z]).length), (6, .I (n - 1 : Nat))], [(0, some (dice L b2)), (16, some ⟨1, rowsK .u8 (c ++ [IntKind.u8.wrap z]), 0⟩)], 100⟩
    rw [hom, hol]
    exact Le.go [(0, 0), (16, 16)] [] rfl rfl (by simp) (by simp [hXf])
  rw [hX]
  refine rx (s := ?s9) [0, 4] [0, 16] [] rfl ?o9 ?q9
  case o9 => simp [Function.comp_def]; rfl
  exact awp_ret (PostX.mk (.inr rfl) (c, b) ⟨by simp only; omega, hbl⟩ (RetOk.k1m 16 (by simp) rfl (by simp) (by simp [Function.comp_def]) (by simp [Function.comp_def])))
end Go.Proofs.Ytnphfkceoklkkaa
namespace Go.Proofs.Ytnphfkceoklkkaa
open Go
set_option maxHeartbeats 1000000 in
set_option maxRecDepth 100000 in
theorem Digest_any (L : List Int) (a : Nat) (hl : L.length ≤ 400) (ha : a ≤ L.length) : ∃ p : ByteArray × Nat, (p.1.size = 32 ∧ p.2 ≤ L.length) ∧ ACalls Try.prog nmade_Dice_Digest [.pt 0 0 0] [dice L a] (.sc (.string p.1)) [some (dice L p.2)] := by
  obtain ⟨x, b, ⟨hb1, _⟩, hn1⟩ := Next_any L a 4 hl ha (by decide)
  obtain ⟨y, c, ⟨hc1, _⟩, hn2⟩ := Next_any L b 256 hl hb1 (by decide)
  obtain ⟨D, hD⟩ : ∃ D : List Int, D = ((List.replicate 32 0).set 0 (IntKind.u8.wrap x)).set 31 (IntKind.u8.wrap y) := ⟨_, rfl⟩
  have hDl : D.length = 32 := by rw [hD]; simp
  refine ⟨(⟨(D.map fun n => UInt8.ofNat n.toNat).toArray⟩, c), ⟨by show (D.map _).toArray.size = 32; simpa using hDl, hc1⟩, ?_⟩
  refine smade_Dice_Digest.acalls (Nat.le_of_ble_eq_true rfl) (Nat.le_of_ble_eq_true rfl) (Nat.le_refl _) ?_
  show awp _ 1 _ _ ⟨17, [(0, .pt 0 0 0)], [(0, some (dice L a))], 16⟩
  have hZ0 : List.replicate 32 [AV.sc (.int .u8 0)] = rowsK .u8 (List.replicate 32 0) := by simp [rowsK]
  have hZ2 : rowsK .u8 D = ((rowsK .u8 (List.replicate 32 0)).set 0 [.sc (.int .u8 (IntKind.u8.wrap x))]).set 31 [.sc (.int .u8 (IntKind.u8.wrap y))] := by rw [hD, rowsK, List.map_set, List.map_set]
  have hbs := bytesOf_rows D
  have hXf := rowsK_flat .u8 D
  have hZf := rowsK_flat .u8 (List.replicate 32 0)
  have hZl : (rowsK .u8 (List.replicate 32 0)).length = 32 := by simp [rowsK]
  have hg0 : (rowsK .u8 (List.replicate 32 0))[0]? = some [.sc (.int .u8 0)] := by simp [rowsK]
  have hg1 : ((rowsK .u8 (List.replicate 32 0)).set 0 [.sc (.int .u8 (IntKind.u8.wrap x))])[31]? = some [.sc (.int .u8 0)] := by simp [rowsK]
  have hXl : (rowsK .u8 D).length = 32 := by rw [rowsK, List.length_map]; exact hDl
  have hg0' : (rowsK .u8 (List.replicate 32 0))[0]'(by rw [hZl]; decide) = [.sc (.int .u8 0)] := by simp [rowsK]
  have hg1' : (rowsK .u8 (List.replicate 32 0))[31]'(by rw [hZl]; decide) = [.sc (.int .u8 0)] := by simp [rowsK]
  clear hg0 hg1
  generalize rowsK .u8 D = X at *
  generalize rowsK .u8 (List.replicate 32 0) = Z at *
  refine rx (s := ?s1) [0] [0] [] rfl ?o1 ?q1
  case o1 => simp; rfl
  refine awp_regc ⟨17, [(0, .pt 0 0 0), (3, .rs 24 0 32)], [(0, some (dice L a)), (24, some ⟨1, Z, 0⟩)], 100⟩ rfl ?_ ?_
  · simp [-List.reduceReplicate]
    exact Le.keep rfl (by simp) (by simp) (by simp [-List.reduceReplicate, hZ0])
  refine awp_regc ⟨17, [(0, .pt 0 0 0), (3, .rs 24 0 32)], [(0, some (dice L c)), (24, some ⟨1, X, 0⟩)], 300⟩ rfl ?_ ?_
  · simp
    refine callM1 (i := 0) rfl (e' := dice L a) (by simp) hn1 (by simp) (by simp) ?_
    simp
    refine callM1 (i := 0) rfl (e' := dice L b) (by simp) hn2 (by simp) (by simp) ?_
    simp [hZl, hg0', hg1', splice]
    exact Le.keep rfl (by simp) (by simp) (by simp [hZ2])
  have htk : List.take 32 X = X := List.take_of_length_le (by omega)
  refine rx (s := ?s3) [0, 2] [0] [] rfl ?o3 ?q3
  case o3 => simp [hXl, htk, hbs]; rfl
  exact awp_ret ⟨.inr rfl, RetOk.k1 rfl (by simp) (by simp)⟩
abbrev dR (au ti ki a b c : Int) (li pi bo : AV) : List AV := [.I au, .I 0, .sc (.string noB), .I ti, .I ki, .I a, .I b, .I c, li, pi, bo, .I 0, .sc (.string noB)]
abbrev dS (au ti ki a b c : Int) (li : List Int) (pi : List Pn) (bo : ByteArray) : Stm := ⟨au, 0, noB, ti, ki, a, b, c, li, pi, bo, 0, noB⟩
theorem dS_b {au ti ki a b c : Int} {li : List Int} {pi : List Pn} {bo : ByteArray} (h1 : li.length ≤ 10) (h2 : pi.length ≤ 10) (h3 : bo.size ≤ 1000) (h4 : ∀ p ∈ pi, p.d.size = 32) : StB (dS au ti ki a b c li pi bo) :=
  ⟨by show noB.size ≤ 5000; decide, by show bo.size ≤ 5000; omega, by show li.length ≤ 100; omega, by show pi.length ≤ 100; omega, fun p hp => by have := h4 p hp; omega⟩
theorem Le.d3 {st st' : St} {L : List Int} {a : Nat} {Z r r' : List AV} (nl : List (Nat × Nat)) (sn : List Nat) (hsz : st'.sz = st.sz) (hh : st'.h = [(0, some (dice L a)), (16, some ⟨13, [Z], 0⟩), (72, some ⟨13, [r'], 0⟩)]) (hn : 72 < st'.n) (hs : ∀ k ∈ sn, 1 ≤ k ∧ k ∉ [0, 16, 72]) (hnl : nl = [])
    (hZ : ∀ ρ sn h m, Z.map (conv ρ sn h (m + 1)) = Z) (h1 : st.hp 0 = some (dice L a)) (h2 : st.hp 16 = some ⟨13, [Z], 0⟩) (h3 : st.hp 72 = some ⟨13, [r], 0⟩) (hu : UpL [] (r.map (conv [(0, 0), (16, 16), (72, 72)] sn st.hp 4)) r')
    (ht : ∀ p ∈ st'.t, Wk (conv [(0, 0), (16, 16), (72, 72)] sn st.hp 4 (st.get p.1)) p.2) : Le 1 st st' := by
  refine Le.ents [(0, 0), (16, 16), (72, 72)] sn hsz (by simp) (by simp) (by simp; omega) (fun k hk => ⟨(hs k hk).1, by simpa using (hs k hk).2⟩) (by omega) ht fun p hp => ?_
  rw [hh] at hp
  simp only [List.mem_cons, List.not_mem_nil, or_false] at hp
  rcases hp with rfl | rfl | rfl
  · exact ⟨0, _, _, rfl, by simp, h1, EntUp.eq (by simp) (by simp)⟩
  · exact ⟨16, _, _, rfl, by simp, h2, EntUp.eq (by simp [hZ]) (by simp)⟩
  · exact ⟨72, _, _, rfl, by simp, h3, EntUp.row (r := r.map (conv [(0, 0), (16, 16), (72, 72)] sn st.hp 4)) (by simp) (Nat.zero_le _) hu⟩
set_option maxHeartbeats 4000000 in
set_option maxRecDepth 100000 in
theorem Statement_any (L : List Int) (a : Nat) (au ti : Int) (hl : L.length ≤ 400) (ha : a ≤ L.length) : ∃ p : Stm × Nat, (StB p.1 ∧ p.2 ≤ L.length) ∧ ACalls Try.prog nmade_Dice_Statement [.pt 0 0 0, .I au, .I ti] [dice L a] (eS p.1) [some (dice L p.2)] := by
  refine smade_Dice_Statement.acallsX (args := [.pt 0 0 0, .I au, .I ti]) (hs := [dice L a]) (fun p => eS p.1) (fun p => [some (dice L p.2)]) (fun p : Stm × Nat => StB p.1 ∧ p.2 ≤ L.length) (Nat.le_of_ble_eq_true rfl) (Nat.le_of_ble_eq_true rfl) (fun _ => by simp) ?_
  show awp _ 1 _ _ ⟨89, [(0, .pt 0 0 0), (1, .I au), (2, .I ti)], [(0, some (dice L a))], 16⟩
  obtain ⟨ki, b1, ⟨hb1, _⟩, hof1⟩ := Of_any L a [1, 1, 1, 2, 10, 31, 1, 12] hl ha (by decide) (by decide)
  refine awp_regc ⟨89, [(0, .pt 0 0 0), (1, .I au), (2, .I ti), (6, .pt 16 0 0)], [(0, some (dice L a)), (16, some ⟨13, [zC], 0⟩)], 24⟩ rfl ?_ ?_
  · simp
    exact Le.keep rfl (by simp) (by simp) (by simp)
  refine awp_regc ⟨89, [(0, .pt 0 0 0), (1, .I au), (2, .I ti), (6, .pt 16 0 0), (7, .pt 72 0 0)], [(0, some (dice L b1)), (16, some ⟨13, [zC], 0⟩), (72, some ⟨13, [dR au ti ki 0 0 0 .nilS .nilS (.sc (.string noB))], 0⟩)], 100⟩ rfl ?_ ?_
  · simp
    refine callM1s (i := 0) (j := 48) (by decide) (by decide) rfl rfl (e' := dice L a) (by simp) hof1 (by simp) (by simp) ?_
    simp [splice]
    exact Le.keep rfl (by simp) (by simp) (by simp)
  refine awp_cut (ι := Stm × Nat) (fun p => ⟨89, [(6, .pt 16 0 0), (7, .pt 72 0 0)], [(0, some (dice L p.2)), (16, some ⟨13, [zC], 0⟩), (72, some ⟨13, [sC p.1], 0⟩)], 2000⟩) (fun p => StB p.1 ∧ p.2 ≤ L.length) ?_ ?_
  · refine rk (s := ?s3) [0, 1, 2, 6, 7, 16] [0, 16, 72] rfl ?o3 ?q3
    case o3 => simp; rfl
    refine awp_block ?_
    refine rk (s := ?s4) [0, 1, 2, 6, 7, 16, 57] [0, 16, 72] rfl ?o4 ?q4
    case o4 => simp; rfl
    refine awp_cond _ rfl (fun h5 => ?_) fun h5 => ?_
    · obtain ⟨x1, b2, ⟨hb2, _⟩, hn1⟩ := Next_any L b1 5 hl hb1 (by decide)
      obtain ⟨x2, b3, ⟨hb3, _⟩, hn2⟩ := Next_any L b2 3 hl hb2 (by decide)
      obtain ⟨x3, b4, ⟨hb4, _⟩, hof2⟩ := Of_any L b3 [50, 5, 0, 200] hl hb3 (by decide) (by decide)
      have hmod := Mod_ok (IntKind.i64.wrap (IntKind.i64.wrap (au + 1) + x1)) 6 (by decide)
      obtain ⟨A, hA⟩ : ∃ A, A = modI (IntKind.i64.wrap (IntKind.i64.wrap (au + 1) + x1)) 6 := ⟨_, rfl⟩
      rw [← hA] at hmod
      refine awp_regc ⟨89, [(1, .I au), (6, .pt 16 0 0), (7, .pt 72 0 0)], [(0, some (dice L b4)), (16, some ⟨13, [zC], 0⟩), (72, some ⟨13, [dR au ti ki A (IntKind.i64.wrap (1 + x2)) (IntKind.i64.wrap (ti + x3)) .nilS .nilS (.sc (.string noB))], 0⟩)], 500⟩ rfl ?_ ?_
      · simp
        refine callM1 (i := 0) rfl (e' := dice L b1) (by simp) hn1 (by simp) (by simp) ?_
        simp
        refine callf nmade_Mod rfl ?_
        refine call0e hmod (by simp) ?_
        simp
        refine callf nmade_Dice_Next rfl ?_
        refine callM1 (i := 0) rfl (e' := dice L b2) (by simp) hn2 (by simp) (by simp) ?_
        simp
        refine callM1s (i := 0) (j := 220) (by decide) (by decide) rfl rfl (e' := dice L b3) (by simp) hof2 (by simp) (by simp) ?_
        simp [splice]
        exact Le.keep rfl (by simp) (by simp) (by simp)
      have hB2 : ∀ A' : Int, StB (dS au ti ki A' (IntKind.i64.wrap (1 + x2)) (IntKind.i64.wrap (ti + x3)) [] [] noB) := fun A' => dS_b (by simp) (by simp) (by decide) (by simp)
      refine rk (s := ?s6) [1, 6, 7, 79] [0, 16, 72] rfl ?o6 ?q6
      case o6 => simp; rfl
      refine awp_cond _ rfl (fun h6 => ?_) fun h6 => awp_skip ?_
      · refine awp_reg rfl ?_
        simp [splice]
        exact ⟨dS au ti ki (IntKind.i64.wrap (au + 1)) (IntKind.i64.wrap (1 + x2)) (IntKind.i64.wrap (ti + x3)) [] [] noB, b4, ⟨hB2 _, hb4⟩, Le.d3 [] [] rfl rfl (by simp) (by simp) rfl (by simp) rfl rfl rfl (by simp [UpL, Up]; exact ⟨.nil 1 false, .nil 3 false⟩) (by simp)⟩
      · exact ⟨(dS au ti ki A (IntKind.i64.wrap (1 + x2)) (IntKind.i64.wrap (ti + x3)) [] [] noB, b4), ⟨hB2 _, hb4⟩, Le.d3 [] [] rfl rfl (by simp) (by simp) rfl (by simp) rfl rfl rfl (by simp [UpL, Up]; exact ⟨.nil 1 false, .nil 3 false⟩) (by simp)⟩
    refine rk (s := ?s7) [0, 6, 7, 83] [0, 16, 72] rfl ?o7 ?q7
    case o7 => simp; rfl
    refine awp_cond _ rfl (fun h7 => ?_) fun h7 => ?_
    · obtain ⟨x1, b2, ⟨hb2, _⟩, hn1⟩ := Next_any L b1 4 hl hb1 (by decide)
      refine awp_reg rfl ?_
      simp
      refine callM1 (i := 0) rfl (e' := dice L b1) (by simp) hn1 (by simp) (by simp) ?_
      simp [splice]
      exact ⟨dS au ti ki x1 0 0 [] [] noB, b2, ⟨dS_b (by simp) (by simp) (by decide) (by simp), hb2⟩, Le.d3 [] [] rfl rfl (by simp) (by simp) rfl (by simp) rfl rfl rfl (by simp [UpL, Up]; exact ⟨.nil 1 false, .nil 3 false⟩) (by simp)⟩
    obtain ⟨x1, b2, ⟨hb2, _⟩, hn1⟩ := Next_any L b1 9 hl hb1 (by decide)
    obtain ⟨x2, b3, ⟨hb3, _⟩, hof2⟩ := Of_any L b2 [0, 1099511627776] hl hb2 (by decide) (by decide)
    obtain ⟨x3, b4, ⟨hb4, _⟩, hn3⟩ := Next_any L b3 3 hl hb3 (by decide)
    obtain ⟨x4, b5, ⟨hb5, hx40, _, hx43⟩, hn4⟩ := Next_any L b4 3 hl hb4 (by decide)
    have hx44 := hx43 (by decide)
    obtain ⟨y, rfl⟩ : ∃ y : Nat, x4 = y := ⟨x4.toNat, by omega⟩
    refine awp_regc ⟨89, [(0, .pt 0 0 0), (6, .pt 16 0 0), (7, .pt 72 0 0)], [(0, some (dice L b4)), (16, some ⟨13, [zC], 0⟩), (72, some ⟨13, [dR au ti ki x1 x2 x3 .nilS .nilS (.sc (.string noB))], 0⟩)], 500⟩ rfl ?_ ?_
    · simp
      refine callM1 (i := 0) rfl (e' := dice L b1) (by simp) hn1 (by simp) (by simp) ?_
      simp
      refine callf nmade_Dice_Of rfl ?_
      refine callM1s (i := 0) (j := 172) (by decide) (by decide) rfl rfl (e' := dice L b2) (by simp) hof2 (by simp) (by simp) ?_
      simp
      refine callf nmade_Dice_Next rfl ?_
      refine callM1 (i := 0) rfl (e' := dice L b3) (by simp) hn3 (by simp) (by simp) ?_
      simp [splice]
      exact Le.keep rfl (by simp) (by simp) (by simp)
    refine awp_cut (ι := List Int × Nat) (fun p => ⟨89, [(0, .pt 0 0 0), (6, .pt 16 0 0), (7, .pt 72 0 0)], [(0, some (dice L p.2)), (16, some ⟨13, [zC], 0⟩), (72, some ⟨13, [dR au ti ki x1 x2 x3 (.rs 200 0 p.1.length) .nilS (.sc (.string noB))], 0⟩), (200, some ⟨1, rwI p.1, 0⟩)], 700⟩) (fun p => p.1.length ≤ 3 ∧ p.2 ≤ L.length) ?_ ?_
    · refine awp_regc ⟨89, [(0, .pt 0 0 0), (6, .pt 16 0 0), (7, .pt 72 0 0), (8, .I y)], [(0, some (dice L b5)), (16, some ⟨13, [zC], 0⟩), (72, some ⟨13, [dR au ti ki x1 x2 x3 .nilS .nilS (.sc (.string noB))], 0⟩)], 600⟩ rfl ?_ ?_
      · simp
        refine callM1 (i := 0) rfl (e' := dice L b4) (by simp) hn4 (by simp) (by simp) ?_
        simp
        exact Le.keep rfl (by simp) (by simp) (by simp)
      refine awp_block ?_
      refine awp_loop (ι := (List Int × Nat) × Nat) (fun p => ⟨89, [(0, .pt 0 0 0), (6, .pt 16 0 0), (7, .pt 72 0 0), (8, .I p.2)], [(0, some (dice L p.1.2)), (16, some ⟨13, [zC], 0⟩), (72, some ⟨13, [dR au ti ki x1 x2 x3 (.rs 200 0 p.1.1.length) .nilS (.sc (.string noB))], 0⟩), (200, some ⟨1, rwI p.1.1, 0⟩)], 650⟩) (fun p => p.1.1.length + p.2 ≤ 3 ∧ p.1.2 ≤ L.length) (fun p => p.2) (([], b5), y) ⟨by simp; omega, hb5⟩ ?_ ?_
      · refine Le.lst [(0, 0), (16, 16), (72, 72)] [] [(200, 1)] rfl (by simp) (by simp) (by simp) (by simp) (by simp) (by simp) (by simp) (by simp [Up]) fun p hp e' he' => ?_
        simp only [List.mem_cons, List.not_mem_nil, or_false] at hp
        rcases hp with rfl | rfl | rfl | rfl
        · cases he'
          exact .inl ⟨(0, 0), by simp, rfl, _, rfl, EntUp.eq (by simp) (by simp)⟩
        · cases he'
          exact .inl ⟨(16, 16), by simp, rfl, _, rfl, EntUp.eq (by simp) (by simp)⟩
        · cases he'
          exact .inl ⟨(72, 72), by simp, rfl, _, rfl, EntUp.row (r := dR au ti ki x1 x2 x3 .nilS .nilS (.sc (.string noB))) (by simp) (Nat.zero_le _) (by simp [UpL, Up])⟩
        · cases he'
          exact .inr ⟨by simp, by simp, rfl⟩
      rintro ⟨⟨li, b⟩, n⟩ ⟨hc, hbl⟩
      simp only at hc hbl
      simp only
      have hXl : (rwI li).length = li.length := List.length_map ..
      have hXf := rwI_flat li
      obtain ⟨X, hX⟩ : ∃ X, X = rwI li := ⟨_, rfl⟩
      rw [← hX] at hXl hXf ⊢
      refine awp_seq ?_
      refine rk (s := ?s8) [0, 6, 7, 8, 30] [0, 16, 72, 200] rfl ?o8 ?q8
      case o8 => simp; rfl
      refine awp_cond _ rfl (fun h => awp_skip ?_) fun h => awp_exit (hit ?_)
      · simp only [decide_eq_true_eq] at h
        obtain ⟨z, b2, ⟨hb5, _⟩, hof⟩ := Of_any L b [0, 5, 1099511627776] hl hbl (by decide) (by decide)
        have htk : List.take li.length X = X := List.take_of_length_le (by omega)
        have hom : rwI (li ++ [z]) = X ++ [[.I z]] := by rw [hX, rwI, List.map_append]; rfl
        have hol : (li ++ [z]).length = li.length + 1 := by simp
        refine awp_cut (ι := Unit) (fun _ => ⟨89, [(0, .pt 0 0 0), (6, .pt 16 0 0), (7, .pt 72 0 0), (8, .I n)], [(0, some (dice L b2)), (16, some ⟨13, [zC], 0⟩), (72, some ⟨13, [dR au ti ki x1 x2 x3 (.rs 200 0 (li.length + 1)) .nilS (.sc (.string noB))], 0⟩), (200, some ⟨1, X ++ [[.I z]], 0⟩)], 900⟩) (fun _ => True) ?_ fun _ _ => ?_
        · refine awp_block ?_
          refine awp_drw rfl ?_
          simp
          refine callM1s (i := 0) (j := 690) (by decide) (by decide) rfl rfl (e' := dice L b) (by simp) hof (by simp) (by simp) ?_
          simp [hXl, htk, splice]
          exact ⟨by omega, by omega, rfl, Le.go [(0, 0), (16, 16), (72, 72), (714, 200)] [] rfl rfl (by simp) (by simp [hXf])⟩
        have hwn : IntKind.i64.wrap ((n : Int) - 1) = ((n - 1 : Nat) : Int) := by rw [w64 (by omega) (by omega)]; omega
        refine awp_reg rfl ?_
        simp [hwn]
        refine ⟨li ++ [z], b2, n - 1, ⟨by rw [hol]; omega, hb5⟩, by omega, ?_⟩
        rw [hom, hol]
        exact Le.go [(0, 0), (16, 16), (72, 72), (200, 200)] [] rfl rfl (by simp) (by simp [hXf])
      · exact ⟨(li, b), ⟨by simp only; omega, hbl⟩, Le.keep rfl (by simp) (by simp) (by simp [hX])⟩
    rintro ⟨li, b⟩ ⟨hli, hbl⟩
    simp only at hli hbl
    simp only
    have hXl : (rwI li).length = li.length := List.length_map ..
    have hXf := rwI_flat li
    have htk : List.take li.length (rwI li) = rwI li := List.take_of_length_le (by omega)
    have hin : ints li = .vs 1 false (rwI li) := rfl
    obtain ⟨X, hX⟩ : ∃ X, X = rwI li := ⟨_, rfl⟩
    rw [← hX] at hXl hXf htk hin ⊢
    obtain ⟨r, b2, hb6, hone⟩ := One_any L b 3 hl hbl (by decide) (by decide)
    refine awp_cut (ι := List Pn × Nat) (fun p => ⟨89, [(0, .pt 0 0 0), (6, .pt 16 0 0), (7, .pt 72 0 0)], [(0, some (dice L p.2)), (16, some ⟨13, [zC], 0⟩), (72, some ⟨13, [dR au ti ki x1 x2 x3 (.vs 1 false X) (pns p.1) (.sc (.string noB))], 0⟩)], 1500⟩) (fun p => p.1.length ≤ 1 ∧ (∀ q ∈ p.1, q.d.size = 32) ∧ p.2 ≤ L.length) ?_ ?_
    · refine awp_regc ⟨89, [(0, .pt 0 0 0), (6, .pt 16 0 0), (7, .pt 72 0 0), (42, .B r)], [(0, some (dice L b2)), (16, some ⟨13, [zC], 0⟩), (72, some ⟨13, [dR au ti ki x1 x2 x3 (.rs 200 0 li.length) .nilS (.sc (.string noB))], 0⟩), (200, some ⟨1, X, 0⟩)], 800⟩ rfl ?_ ?_
      · simp
        refine callM1 (i := 0) rfl (e' := dice L b) (by simp) hone (by simp) (by simp) ?_
        simp
        exact Le.keep rfl (by simp) (by simp) (by simp)
      refine awp_cond _ rfl (fun h8 => ?_) fun h8 => awp_skip ?_
      · obtain ⟨y1, c1, ⟨hc1, _⟩, hm1⟩ := Next_any L b2 5 hl hb6 (by decide)
        obtain ⟨y2, c2, ⟨hc2, _⟩, hm2⟩ := Next_any L c1 4 hl hc1 (by decide)
        obtain ⟨⟨d, c3⟩, ⟨hd, hc3⟩, hm3⟩ := Digest_any L c2 hl hc2
        simp only at hd hc3 hm3
        refine awp_reg rfl ?_
        simp
        refine callM1 (i := 0) rfl (e' := dice L b2) (by simp) hm1 (by simp) (by simp) ?_
        simp
        refine callM1 (i := 0) rfl (e' := dice L c1) (by simp) hm2 (by simp) (by simp) ?_
        simp
        refine callM1 (i := 0) rfl (e' := dice L c2) (by simp) hm3 (by simp) (by simp) ?_
        simp [splice]
        exact ⟨[⟨y1, IntKind.i64.wrap (1 + y2), d⟩], c3, ⟨by simp, by simpa using hd, hc3⟩, Le.d3 [] [200, 864] rfl rfl (by simp) (by simp) rfl (by simp) rfl rfl rfl (by simp [UpL, Up, hXl, htk, hXf]; exact .refl _) (by simp)⟩
      · exact ⟨([], b2), ⟨by simp, by simp, hb6⟩, Le.d3 [] [200] rfl rfl (by simp) (by simp) rfl (by simp) rfl rfl rfl (by simp [UpL, Up, hXl, htk, hXf]; exact .nil 3 false) (by simp)⟩
    rintro ⟨pi, c⟩ ⟨hp1, hp2, hp3⟩
    simp only at hp1 hp2 hp3
    simp only
    obtain ⟨⟨by_, c2⟩, ⟨hy1, hy2⟩, hby⟩ := Bytes_any L c 5 hl hp3 (by decide)
    simp only at hy1 hy2 hby
    have hYl := rowsK_len .u8 by_
    have hYf := rowsK_flat .u8 by_
    have hYb := bytesOf_rows by_
    generalize rowsK .u8 by_ = Y at *
    have htY : List.take by_.length Y = Y := List.take_of_length_le (by omega)
    refine awp_reg rfl ?_
    simp
    refine callM1 (i := 0) rfl (e' := dice L c) (by simp) hby (by simp) (by simp) ?_
    simp [splice, hYl, hYf, htY, hYb]
    refine ⟨dS au ti ki x1 x2 x3 li pi ⟨(by_.map fun n => UInt8.ofNat n.toNat).toArray⟩, c2, ⟨dS_b (by omega) (by omega) ?_ hp2, hy2⟩, Le.d3 [] [] rfl rfl (by simp) (by simp) rfl (by simp) rfl rfl rfl (by simp [UpL, Up, hX]) (by simp)⟩
    show (by_.map _).toArray.size ≤ 1000
    simp
    omega
  · rintro ⟨s, b⟩ ⟨h1, h2⟩
    simp only at h1 h2
    refine awp_regc ⟨89, [(6, .pv (sC s))], [(0, some (dice L b))], 3000⟩ rfl ?_ (awp_ret (PostX.mk (.inr rfl) (s, b) ⟨h1, h2⟩ (RetOk.k1 rfl (by simp) (by simp))))
    simp [splice]
    exact Le.go [(0, 0)] [16] rfl rfl (by simp) (by simp)
end Go.Proofs.Ytnphfkceoklkkaa
