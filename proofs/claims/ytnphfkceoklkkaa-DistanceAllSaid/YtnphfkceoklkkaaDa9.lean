/- Texts of this claim, merged. -/
import Derived.Test.YtnphfkceoklkkaaDa8
import Derived.Test.YtnphfkceoklkkaaDa5
import Derived.Test.YtnphfkceoklkkaaRows
import Derived.Shelf.Sort.Plain
import Derived.Test.YtnphfkceoklkkaaProg
import Derived.Shelf.Slices.In.SortNone
set_option linter.unusedSimpArgs false
set_option linter.unusedVariables false
set_option linter.unusedSectionVars false
/- First contracts. -/
namespace Go.Proofs.Ytnphfkceoklkkaa
open Go
abbrev ints (l : List Int) : AV := .vs 1 false (l.map fun n => [AV.I n])

theorem has_ok (l : List Int) (n : Int) (hl : l.length ≤ 140737488355328) : ACalls Try.prog nref11_Has [ints l, .I n] [] (.B (l.contains n)) [] := by
  refine sref11_Has.acalls (by simp [cref11_Has]) (by simp) (by simp) ?_
  show awp _ 0 _ _ ⟨18, [(0, ints l), (1, .I n)], [], 16⟩
  refine awp_seq (awp_run (s := ?s1) rfl ?o1 ?q1)
  case o1 => simp; rfl
  refine awp_seq (awp_seq (awp_run (s := ?s2) rfl ?o2 ?q2))
  case o2 => simp; rfl
  refine awp_block ?_
  refine awp_loop (ι := Nat) (fun k => { sz := 18, t := [(0, ints l), (1, .I n), (5, .I k)], h := [], n := 16 }) (fun k => k ≤ l.length ∧ n ∉ l.take k) (fun k => l.length - k) 0 (by simp) ?_ ?_
  · refine Le.slots rfl rfl ?_
    simp [ints]
  · rintro k ⟨hk, hn⟩
    refine awp_seq (awp_seq (awp_run (s := ?s3) rfl ?o3 ?q3))
    case o3 => simp; rfl
    refine awp_cond _ rfl ?_ ?_
    · intro hlt
      simp only [decide_eq_true_eq, Int.ofNat_lt] at hlt
      show awp _ _ _ _ _
      refine awp_seq (awp_block (awp_seq (awp_run (s := ?s4) rfl ?o4 ?q4)))
      case o4 => simp [hlt]; rfl
      refine awp_cond _ rfl ?_ ?_
      · intro heq
        refine awp_seq (awp_run (s := ?s5) rfl ?o5 ?q5)
        case o5 => simp; rfl
        refine ⟨.inr rfl, RetOk.one ?_⟩
        have : n ∈ l := by simp at heq; simp [← heq]
        simp [this]
      · intro hne
        refine awp_skip (awp_run (s := ?s6) rfl ?o6 ?q6)
        case o6 => simp; rfl
        refine ⟨k + 1, ⟨by omega, ?_⟩, by omega, Le.slots rfl rfl ?_⟩
        · intro hm
          simp at hne
          rw [List.take_succ_eq_append_getElem hlt] at hm
          rcases List.mem_append.1 hm with h | h
          · exact hn h
          · exact hne (List.mem_singleton.1 h).symm
        · have hw : IntKind.i64.wrap ((k : Int) + 1) = ((k + 1 : Nat) : Int) := w64 (by omega) (by omega)
          simp [Wk.refl, hw]
    · intro hge
      refine awp_exit (hit ?_)
      refine awp_seq (awp_run (s := ?s7) rfl ?o7 ?q7)
      case o7 => simp; rfl
      refine awp_ret ⟨.inr rfl, RetOk.one ?_⟩
      simp at hge
      have : n ∉ l := by
        have : l.take k = l := List.take_of_length_le hge
        rw [this] at hn
        exact hn
      simp [this]

end Go.Proofs.Ytnphfkceoklkkaa

/- Comparisons; lists. -/
namespace Go.Proofs.Ytnphfkceoklkkaa
open Go

theorem isNaN_ok (x : Int) : ACalls Try.prog ncmp_isNaN_int [.I x] [] (.B false) [] := by
  refine scmp_isNaN_int.acalls (Nat.le_of_ble_eq_true rfl) (Nat.le_of_ble_eq_true rfl) (Nat.le_refl _) ?_
  show awp _ 0 _ _ ⟨6, [(0, .I x)], [], 16⟩
  refine awp_seq (awp_run (s := ?s1) rfl ?o1 ?q1)
  case o1 => simp; rfl
  refine awp_seq (awp_run (s := ?s2) rfl ?o2 ?q2)
  case o2 => simp; rfl
  exact awp_ret ⟨.inr rfl, RetOk.one (by simp)⟩

theorem lists_In_ok (n lo hi : Int) : ACalls Try.prog nlists_In [.I n, .I lo, .I hi] [] (.B (decide (lo ≤ n) && decide (n ≤ hi))) [] := by
  refine slists_In.acalls (Nat.le_of_ble_eq_true rfl) (Nat.le_of_ble_eq_true rfl) (Nat.le_refl _) ?_
  show awp _ 0 _ _ ⟨15, [(0, .I n), (1, .I lo), (2, .I hi)], [], 16⟩
  refine awp_seq (awp_run (s := ?s1) rfl ?o1 ?q1)
  case o1 => simp; rfl
  by_cases h : lo ≤ n
  · refine awp_seq (awp_run (s := ?s2) rfl ?o2 ?q2)
    case o2 => simp [h]; rfl
    exact awp_ret ⟨.inr rfl, RetOk.one (by simp [h])⟩
  · refine awp_seq (awp_run (s := ?s3) rfl ?o3 ?q3)
    case o3 => simp [h]; rfl
    exact awp_ret ⟨.inr rfl, RetOk.one (by simp [h])⟩

def cmpI (x y : Int) : Int := if x < y then -1 else if x > y then 1 else 0

theorem compare_ok (x y : Int) : ACalls Try.prog ncmp_Compare_int [.I x, .I y] [] (.I (cmpI x y)) [] := by
  refine scmp_Compare_int.acalls (Nat.le_of_ble_eq_true rfl) (Nat.le_of_ble_eq_true rfl) (Nat.le_refl _) ?_
  show awp _ 0 _ _ ⟨20, [(0, .I x), (1, .I y)], [], 16⟩
  refine awp_seq (awp_run (s := ?s1) rfl ?o1 ?q1)
  case o1 => simp; rfl
  refine awp_seq (awp_run (s := ?s2) rfl ?o2 ?q2)
  case o2 => simp; refine call0e (isNaN_ok _) rfl ?_; simp; rfl
  refine awp_seq (awp_run (s := ?s3) rfl ?o3 ?q3)
  case o3 => simp; refine call0e (isNaN_ok _) rfl ?_; simp; rfl
  refine awp_seq (awp_seq (awp_run (s := ?s4) rfl ?o4 ?q4))
  case o4 => simp; rfl
  refine awp_cond _ rfl (fun h => by cases h) fun _ => awp_skip ?_
  refine awp_seq (awp_seq (awp_run (s := ?s5) rfl ?o5 ?q5))
  case o5 => simp; rfl
  refine awp_cond _ rfl (fun h => by cases h) fun _ => awp_skip ?_
  refine awp_seq (awp_seq (awp_run (s := ?s6) rfl ?o6 ?q6))
  case o6 => simp; rfl
  refine awp_cond _ rfl (fun h => ?_) fun h1 => awp_skip ?_
  · refine awp_seq (awp_run (s := ?s7) rfl ?o7 ?q7)
    case o7 => simp; rfl
    exact awp_ret ⟨.inr rfl, RetOk.one (by simp at h; simp [cmpI, h])⟩
  refine awp_seq (awp_seq (awp_run (s := ?s8) rfl ?o8 ?q8))
  case o8 => simp; rfl
  refine awp_cond _ rfl (fun h => ?_) fun h2 => awp_skip ?_
  · refine awp_seq (awp_run (s := ?s9) rfl ?o9 ?q9)
    case o9 => simp; rfl
    exact awp_ret ⟨.inr rfl, RetOk.one (by simp at h h1; simp [cmpI, h, Int.not_lt.2 h1])⟩
  refine awp_seq (awp_run (s := ?s10) rfl ?o10 ?q10)
  case o10 => simp; rfl
  exact awp_ret ⟨.inr rfl, RetOk.one (by simp at h1 h2; simp [cmpI, Int.not_lt.2 h1, Int.not_lt.2 h2])⟩

end Go.Proofs.Ytnphfkceoklkkaa

/- The order of edges. -/
namespace Go.Proofs.Ytnphfkceoklkkaa
open Go

theorem iget {l : List Int} {k : Nat} (h : k < l.length) : (l.map fun n => [AV.I n])[k]? = some [.I l[k]] := by simp [h]

theorem or_ok (l : List Int) (hl : l.length ≤ 140737488355328) : ACalls Try.prog ncmp_Or_int [ints l] [] (.I ((l.find? (· != 0)).getD 0)) [] := by
  refine scmp_Or_int.acalls (Nat.le_of_ble_eq_true rfl) (Nat.le_of_ble_eq_true rfl) (Nat.le_refl _) ?_
  show awp _ 0 _ _ ⟨18, [(0, ints l)], [], 16⟩
  refine awp_seq ?_
  refine awp_run (s := ?s1) rfl ?o1 ?q1
  case o1 => simp; rfl
  refine awp_seq ?_
  refine awp_run (s := ?s2) rfl ?o2 ?q2
  case o2 => simp; rfl
  refine awp_seq ?_
  refine awp_seq ?_
  refine awp_run (s := ?s3) rfl ?o3 ?q3
  case o3 => simp; rfl
  refine awp_block ?_
  refine awp_loop (ι := Nat) (fun k => ⟨18, [(3, .I 0), (6, ints l), (7, .I l.length), (8, .I k)], [], 16⟩) (fun k => k ≤ l.length ∧ l.find? (· != 0) = (l.drop k).find? (· != 0)) (fun k => l.length - k) 0 ?_ (Le.slots rfl rfl ?_) ?_
  · simp
  · simp
  rintro k ⟨hk, hf⟩
  refine awp_seq ?_
  refine awp_run (s := ?s4) rfl ?o4 ?q4
  case o4 => simp; rfl
  refine awp_seq ?_
  refine awp_cond _ rfl (fun h5 => ?_) fun h5 => ?_
  · simp at h5
    rw [List.drop_eq_getElem_cons h5, List.find?_cons] at hf
    refine awp_skip ?_
    refine awp_seq ?_
    refine awp_block ?_
    refine awp_seq ?_
    refine awp_run (s := ?s6) rfl ?o6 ?q6
    case o6 => simp [h5]; rfl
    refine awp_seq ?_
    refine awp_run (s := ?s7) rfl ?o7 ?q7
    case o7 => simp; rfl
    refine awp_cond _ rfl (fun h8 => ?_) fun h8 => ?_
    · refine awp_seq ?_
      refine awp_run (s := ?s9) rfl ?o9 ?q9
      case o9 => simp; rfl
      refine awp_ret ?_
      rw [h8] at hf
      exact ⟨.inr rfl, RetOk.one (by simp [hf])⟩
    refine awp_skip ?_
    refine awp_run (s := ?s10) rfl ?o10 ?q10
    case o10 => simp; rfl
    rw [h8] at hf
    have hw : IntKind.i64.wrap ((k : Int) + 1) = (k : Int) + 1 := w64 (by omega) (by omega)
    refine ⟨k + 1, ⟨h5, hf⟩, by omega, Le.slots rfl rfl ?_⟩
    simp [hw]
  simp at h5
  rw [List.drop_eq_nil_of_le h5] at hf
  refine awp_exit ?_
  refine hit ?_
  refine awp_seq ?_
  refine awp_run (s := ?s11) rfl ?o11 ?q11
  case o11 => simp; rfl
  refine awp_ret ?_
  exact ⟨.inr rfl, RetOk.one (by simp [hf])⟩

end Go.Proofs.Ytnphfkceoklkkaa

/- Edges: their order. -/
namespace Go.Proofs.Ytnphfkceoklkkaa
open Go

structure Ed where
  f : Int
  t : Int
  v : Int
  deriving DecidableEq, Inhabited

abbrev Ed.row (e : Ed) : List AV := [.I e.f, .I e.t, .I e.v]
abbrev eE (e : Ed) : AV := .agg [.I e.f, .I e.t, .I e.v]
abbrev eEs (l : List Ed) : AV := .vs 3 false (l.map fun e => [.I e.f, .I e.t, .I e.v])

def cmpE (a b : Ed) : Int := ([cmpI a.f b.f, cmpI a.t b.t].find? (· != 0)).getD 0

theorem graph_compare_ok (a b : Ed) : ACalls Try.prog ngraph_compare [eE a, eE b] [] (.I (cmpE a b)) [] := by
  refine sgraph_compare.acalls (Nat.le_of_ble_eq_true rfl) (Nat.le_of_ble_eq_true rfl) (Nat.le_refl _) ?_
  show awp _ 0 _ _ ⟨17, [(0, eE a), (1, eE b)], [], 16⟩
  refine awp_seq ?_
  refine awp_run (s := ?s1) rfl ?o1 ?q1
  case o1 => simp; rfl
  refine awp_seq ?_
  refine awp_drun (s := ?s2) (tr := ?t2) rfl ?o2 ?r2 ?q2
  case o2 =>
    simp; refine call0e (compare_ok ..) rfl ?_; simp; refine call0e (compare_ok ..) rfl ?_; simp [fillR]

    refine call0s [120] (or_ok [cmpI a.f b.f, cmpI a.t b.t] (by simp)) (by simp) (.sc _) ?_; simp; constructor <;> rfl
  case r2 => rfl
  refine awp_ret ?_
  exact ⟨.inr rfl, RetOk.one (by simp; exact .refl _)⟩

end Go.Proofs.Ytnphfkceoklkkaa

/- Membership; rising lists. -/
namespace Go.Proofs.Ytnphfkceoklkkaa
open Go

def idxI (l : List Int) (x : Int) : Int := if x ∈ l then (l.idxOf x : Int) else -1

theorem slices_Index_Lint_int_ok (l : List Int) (x : Int) (hl : l.length ≤ 140737488355328) : ACalls Try.prog nslices_Index_Lint_int [ints l, .I x] [] (.I (idxI l x)) [] := by
  refine sslices_Index_Lint_int.acalls (Nat.le_of_ble_eq_true rfl) (Nat.le_of_ble_eq_true rfl) (Nat.le_refl _) ?_
  show awp _ 0 _ _ ⟨19, [(0, ints l), (1, .I x)], [], 16⟩
  refine awp_seq ?_
  refine awp_run (s := ?s1) rfl ?o1 ?q1
  case o1 => simp; rfl
  refine awp_seq ?_
  refine awp_seq ?_
  refine awp_run (s := ?s2) rfl ?o2 ?q2
  case o2 => simp; rfl
  refine awp_block ?_
  refine awp_loop (ι := Nat) (fun k => ⟨19, [(0, ints l), (1, .I x), (6, ints l), (7, .I l.length), (8, .I k)], [], 16⟩) (fun k => k ≤ l.length ∧ x ∉ l.take k) (fun k => l.length - k) 0 ?_ (Le.slots rfl rfl ?_) ?_
  · simp
  · simp
  rintro k ⟨hk, hn⟩
  refine awp_seq ?_
  refine awp_run (s := ?s3) rfl ?o3 ?q3
  case o3 => simp; rfl
  refine awp_seq ?_
  refine awp_cond _ rfl (fun h4 => ?_) fun h4 => ?_
  · simp at h4
    refine awp_skip ?_
    refine awp_seq ?_
    refine awp_block ?_
    refine awp_seq ?_
    refine awp_run (s := ?s5) rfl ?o5 ?q5
    case o5 => simp; rfl
    refine awp_seq ?_
    refine awp_run (s := ?s6) rfl ?o6 ?q6
    case o6 => simp [h4]; rfl
    refine awp_cond _ rfl (fun h7 => ?_) fun h7 => ?_
    · refine awp_seq ?_
      refine awp_run (s := ?s8) rfl ?o8 ?q8
      case o8 => simp; rfl
      refine awp_ret ?_
      have hm : x ∈ l := by simp at h7; rw [h7]; exact List.getElem_mem h4
      have hi : l.idxOf x = k := by
        simp at h7
        have h1 : l = l.take k ++ x :: l.drop (k + 1) := by rw [h7, ← List.drop_eq_getElem_cons h4, List.take_append_drop]
        rw [h1, List.idxOf_append, if_neg hn, List.idxOf_cons_self]
        simp
        omega
      exact ⟨.inr rfl, RetOk.one (by simp [idxI, hm, hi])⟩
    refine awp_skip ?_
    refine awp_run (s := ?s9) rfl ?o9 ?q9
    case o9 => simp; rfl
    have hw : IntKind.i64.wrap ((k : Int) + 1) = (k : Int) + 1 := w64 (by omega) (by omega)
    refine ⟨k + 1, ⟨h4, ?_⟩, by omega, Le.slots rfl rfl ?_⟩
    · intro hm
      simp at h7
      rw [List.take_succ_eq_append_getElem h4] at hm
      rcases List.mem_append.1 hm with h | h
      · exact hn h
      · exact h7 (List.mem_singleton.1 h)
    · simp [hw]
  simp at h4
  refine awp_exit ?_
  refine hit ?_
  refine awp_seq ?_
  refine awp_run (s := ?s10) rfl ?o10 ?q10
  case o10 => simp; rfl
  refine awp_ret ?_
  rw [List.take_of_length_le h4] at hn
  exact ⟨.inr rfl, RetOk.one (by simp [idxI, hn])⟩

theorem contains_ok (l : List Int) (x : Int) (hl : l.length ≤ 140737488355328) : ACalls Try.prog nslices_Contains_Lint_int [ints l, .I x] [] (.B (decide (x ∈ l))) [] := by
  refine sslices_Contains_Lint_int.acalls (Nat.le_of_ble_eq_true rfl) (Nat.le_of_ble_eq_true rfl) (Nat.le_refl _) ?_
  show awp _ 0 _ _ ⟨9, [(0, ints l), (1, .I x)], [], 16⟩
  refine awp_seq ?_
  refine awp_run (s := ?s1) rfl ?o1 ?q1
  case o1 => simp; rfl
  refine awp_seq ?_
  refine awp_run (s := ?s2) rfl ?o2 ?q2
  case o2 => simp; refine call0e (slices_Index_Lint_int_ok l x hl) rfl ?_; simp; rfl
  refine awp_ret ?_
  have : decide (0 ≤ idxI l x) = decide (x ∈ l) := by
    unfold idxI
    by_cases h : x ∈ l
    · simp [h]
    · simp [h]
  exact ⟨.inr rfl, RetOk.one (by simp [this])⟩

end Go.Proofs.Ytnphfkceoklkkaa

/- Rising lists. -/
namespace Go.Proofs.Ytnphfkceoklkkaa
open Go

def RiseAt (l : List Int) (lo hi : Int) (i : Nat) : Prop := ∀ h : i < l.length, lo ≤ l[i] ∧ l[i] ≤ hi ∧ (0 < i → l[i - 1] < l[i])
def Rise (l : List Int) (lo hi : Int) : Prop := ∀ i, RiseAt l lo hi i

open Classical in
theorem lists_Rising_ok (l : List Int) (lo hi : Int) (hl : l.length ≤ 140737488355328) : ACalls Try.prog nlists_Rising [ints l, .I lo, .I hi] [] (.B (decide (Rise l lo hi))) [] := by
  refine slists_Rising.acalls (Nat.le_of_ble_eq_true rfl) (Nat.le_of_ble_eq_true rfl) (Nat.le_refl _) ?_
  show awp _ 0 _ _ ⟨38, [(0, ints l), (1, .I lo), (2, .I hi)], [], 16⟩
  refine awp_seq ?_
  refine awp_run (s := ?s1) rfl ?o1 ?q1
  case o1 => simp; rfl
  refine awp_seq ?_
  refine awp_seq ?_
  refine awp_run (s := ?s2) rfl ?o2 ?q2
  case o2 => simp; rfl
  refine awp_block ?_
  refine awp_loop (ι := Nat) (fun k => ⟨38, [(0, ints l), (1, .I lo), (2, .I hi), (9, ints l), (10, .I l.length), (11, .I k)], [], 16⟩) (fun k => k ≤ l.length ∧ ∀ i, i < k → RiseAt l lo hi i) (fun k => l.length - k) 0 ?_ (Le.slots rfl rfl ?_) ?_
  · simp
  · simp
  rintro k ⟨hk, hp⟩
  refine awp_seq ?_
  refine awp_run (s := ?s3) rfl ?o3 ?q3
  case o3 => simp; rfl
  refine awp_seq ?_
  refine awp_cond _ rfl (fun h4 => ?_) fun h4 => ?_
  · simp at h4
    have hw : IntKind.i64.wrap ((k : Int) + 1) = (k : Int) + 1 := w64 (by omega) (by omega)
    refine awp_skip ?_
    refine awp_seq ?_
    refine awp_block ?_
    refine awp_seq ?_
    refine awp_run (s := ?s5) rfl ?o5 ?q5
    case o5 => simp [h4]; rfl
    refine awp_seq ?_
    by_cases a1 : l[k] < lo
    · refine awp_run (s := ?s21) rfl ?o21 ?q21
      case o21 => simp [a1]; rfl
      refine awp_cond _ rfl (fun _ => ?_) fun h => by cases h
      refine awp_seq ?_
      refine awp_run (s := ?s21b) rfl ?o21b ?q21b
      case o21b => simp; rfl
      refine awp_ret ?_
      have hn : ¬ Rise l lo hi := fun h => by have := h k h4; omega
      exact ⟨.inr rfl, RetOk.one (by simp [hn])⟩
    by_cases a2 : hi < l[k]
    · refine awp_run (s := ?s22) rfl ?o22 ?q22
      case o22 => simp [a1, a2]; rfl
      refine awp_cond _ rfl (fun _ => ?_) fun h => by cases h
      refine awp_seq ?_
      refine awp_run (s := ?s22b) rfl ?o22b ?q22b
      case o22b => simp; rfl
      refine awp_ret ?_
      have hn : ¬ Rise l lo hi := fun h => by have := h k h4; omega
      exact ⟨.inr rfl, RetOk.one (by simp [hn])⟩
    by_cases a3 : 0 < k
    · have hw1 : IntKind.i64.wrap ((k : Int) - 1) = ((k - 1 : Nat) : Int) := by rw [w64 (by omega) (by omega)]; omega
      have h5 : k - 1 < l.length := by omega
      by_cases a4 : l[k] ≤ l[k - 1]
      · refine awp_run (s := ?s23) rfl ?o23 ?q23
        case o23 => simp [a1, a2, a3, a4, hw1, h5]; rfl
        refine awp_cond _ rfl (fun _ => ?_) fun h => by cases h
        refine awp_seq ?_
        refine awp_run (s := ?s23b) rfl ?o23b ?q23b
        case o23b => simp; rfl
        refine awp_ret ?_
        have hn : ¬ Rise l lo hi := fun h => by have := h k h4; have := this.2.2 a3; omega
        exact ⟨.inr rfl, RetOk.one (by simp [hn])⟩
      · refine awp_run (s := ?s24) rfl ?o24 ?q24
        case o24 => simp [a1, a2, a3, a4, hw1, h5]; rfl
        refine awp_cond _ rfl (fun h => by cases h) fun _ => awp_skip ?_
        refine awp_run (s := ?s24b) rfl ?o24b ?q24b
        case o24b => simp; rfl
        refine ⟨k + 1, ⟨h4, fun i hi => ?_⟩, by omega, Le.slots rfl rfl ?_⟩
        · rcases Nat.lt_succ_iff_lt_or_eq.1 hi with h | rfl
          · exact hp i h
          · intro _; exact ⟨by omega, by omega, fun _ => by omega⟩
        · simp [hw]
    · refine awp_run (s := ?s25) rfl ?o25 ?q25
      case o25 => simp [a1, a2, a3]; rfl
      refine awp_cond _ rfl (fun h => by cases h) fun _ => awp_skip ?_
      refine awp_run (s := ?s25b) rfl ?o25b ?q25b
      case o25b => simp; rfl
      refine ⟨k + 1, ⟨h4, fun i hi => ?_⟩, by omega, Le.slots rfl rfl ?_⟩
      · rcases Nat.lt_succ_iff_lt_or_eq.1 hi with h | rfl
        · exact hp i h
        · intro _; exact ⟨by omega, by omega, fun h => absurd h a3⟩
      · simp [hw]
  simp at h4
  refine awp_exit ?_
  refine hit ?_
  refine awp_seq ?_
  refine awp_run (s := ?s10) rfl ?o10 ?q10
  case o10 => simp; rfl
  refine awp_ret ?_
  have hy : Rise l lo hi := fun i hi => hp i (by omega) hi
  exact ⟨.inr rfl, RetOk.one (by simp [hy])⟩

end Go.Proofs.Ytnphfkceoklkkaa

/- Which edges may be in a graph. -/
namespace Go.Proofs.Ytnphfkceoklkkaa
open Go

structure Gr where
  size : Int
  edges : List Ed
  gone : List Int

abbrev gC (g : Gr) : List AV := [.I g.size, eEs g.edges, ints g.gone]
abbrev eG (g : Gr) : AV := .agg (gC g)
abbrev eC (e : Ed) : List AV := [.I e.f, .I e.t, .I e.v]

/-- An edge may be in the graph. -/
def Fits (g : Gr) (e : Ed) : Prop := 0 ≤ e.f ∧ e.f ≤ g.size - 1 ∧ 0 ≤ e.t ∧ e.t ≤ g.size - 1 ∧ e.f ≠ e.t ∧ e.f ∉ g.gone ∧ e.t ∉ g.gone

instance (g : Gr) (e : Ed) : Decidable (Fits g e) := by unfold Fits; infer_instance

theorem graph_fits_ok (g : Gr) (e : Ed) (hs : 0 ≤ g.size) (hs' : g.size ≤ 64) (hl : g.gone.length ≤ 140737488355328) : ACalls Try.prog ngraph_fits [eG g, eE e] [] (.B (decide (Fits g e))) [] := by
  refine sgraph_fits.acalls (Nat.le_of_ble_eq_true rfl) (Nat.le_of_ble_eq_true rfl) (Nat.le_refl _) ?_
  show awp _ 0 _ _ ⟨42, [(0, eG g), (1, eE e)], [], 16⟩
  refine awp_regc ⟨42, [(2, .pv (gC g)), (3, .pv (eC e)), (4, .B false)], [], 16⟩ rfl ?_ ?_
  · simp -implicitDefEqProofs
    exact Le.snap [16, 24] rfl rfl (by simp)
  have hw : IntKind.i64.wrap (g.size - 1) = g.size - 1 := w64 (by omega) (by omega)
  refine awp_regc ⟨42, [(4, .B (decide (Fits g e)))], [], 16⟩ rfl ?_ ?_
  · simp [hw]
    repeat' first
      | (refine callf nlists_In rfl ?_; refine call0e (lists_In_ok ..) rfl ?_; simp [hw])
      | (refine callf nslices_Contains_Lint_int rfl ?_; refine call0e (contains_ok _ _ hl) rfl ?_; simp [hw])
      | (refine gcase (fun hb => ?_) (fun hb => ?_) <;> (try rw [hb]) <;> simp [hw])
    all_goals exact Le.snap [] rfl rfl (by simp; exact wkB (by simp at *; grind [Fits]))
  refine awp_ret ?_
  exact ⟨.inr rfl, RetOk.one (by simp)⟩

end Go.Proofs.Ytnphfkceoklkkaa

/- What is wrong with a graph. -/
namespace Go.Proofs.Ytnphfkceoklkkaa
open Go

/-- What a graph must have, but for its edges. -/
def GrPre (g : Gr) : Prop := 0 ≤ g.size ∧ g.size ≤ 64 ∧ g.edges.length ≤ 500 ∧ Rise g.gone 0 (g.size - 1)
def EdAt (g : Gr) (i : Nat) : Prop := ∀ h : i < g.edges.length, Fits g g.edges[i] ∧ 1 ≤ g.edges[i].v ∧ g.edges[i].v ≤ 3 ∧ (0 < i → cmpE g.edges[i - 1] g.edges[i] < 0)
def GrOk (g : Gr) : Prop := GrPre g ∧ ∀ i, EdAt g i

open Classical in
theorem graph_Check_ok (g : Gr) (hl : g.edges.length ≤ 140737488355328) (hl2 : g.gone.length ≤ 140737488355328) : ACalls Try.prog ngraph_Check [eG g] [] (.I (if GrOk g then 0 else 14)) [] := by
  refine sgraph_Check.acalls (Nat.le_of_ble_eq_true rfl) (Nat.le_of_ble_eq_true rfl) (Nat.le_refl _) ?_
  show awp _ 0 _ _ ⟨58, [(0, eG g)], [], 16⟩
  refine awp_regc ⟨58, [(1, .pv (gC g))], [], 16⟩ rfl ?_ ?_
  · simp
    exact Le.snap [16] rfl rfl (by simp)
  refine awp_seq ?_
  refine awp_regc ⟨58, [(1, .pv (gC g)), (23, .B (decide (¬ GrPre g)))], [], 16⟩ rfl ?_ ?_
  · simp
    repeat' first
      | (refine callf nlists_In rfl ?_; refine call0e (lists_In_ok ..) rfl ?_; simp)
      | (refine callf nlists_Rising rfl ?_; have hw : IntKind.i64.wrap (g.size - 1) = g.size - 1 := w64 (by omega) (by omega); rw [hw]; refine call0e (lists_Rising_ok _ _ _ hl2) rfl ?_; simp)
      | (refine gcase (fun hb => ?_) (fun hb => ?_) <;> (try rw [hb]) <;> (try simp at hb) <;> simp [hb])
    all_goals exact Le.snap [] rfl rfl (by simp; exact wkB (by (try simp at *); grind [GrPre]))
  refine awp_cond _ rfl (fun h1 => ?_) fun h1 => ?_
  · refine awp_seq ?_
    refine awp_run (s := ?s2) rfl ?o2 ?q2
    case o2 => simp; rfl
    refine awp_ret ?_
    simp at h1
    exact ⟨.inr rfl, RetOk.one (by simp [GrOk, h1])⟩
  simp at h1
  have hs := h1.1
  have hs2 := h1.2.1
  refine awp_skip ?_
  refine awp_seq ?_
  refine awp_seq ?_
  refine awp_run (s := ?s3) rfl ?o3 ?q3
  case o3 => simp; rfl
  refine awp_block ?_
  refine awp_loop (ι := Nat) (fun k => ⟨58, [(1, .pv (gC g)), (25, eEs g.edges), (26, .I g.edges.length), (27, .I k)], [], 16⟩) (fun k => k ≤ g.edges.length ∧ ∀ i, i < k → EdAt g i) (fun k => g.edges.length - k) (0) ?_ (Le.snap [] rfl rfl (by simp)) ?_
  · simp
  rintro k ⟨hk, hp⟩
  refine awp_seq ?_
  refine awp_run (s := ?s4) rfl ?o4 ?q4
  case o4 => simp; rfl
  refine awp_seq ?_
  refine awp_cond _ rfl (fun h5 => ?_) fun h5 => ?_
  · simp at h5
    have hw2 : IntKind.i64.wrap ((k : Int) + 1) = (k : Int) + 1 := w64 (by omega) (by omega)
    have hwp : 0 < k → IntKind.i64.wrap ((k : Int) - 1) = ((k - 1 : Nat) : Int) := fun h => by rw [w64 (by omega) (by omega)]; omega
    have h5' : k - 1 < g.edges.length := by omega
    refine awp_skip ?_
    refine awp_seq ?_
    refine awp_block ?_
    refine awp_regc ⟨58, [(1, .pv (gC g)), (3, .I k), (4, .pv (eC g.edges[k])), (25, eEs g.edges), (26, .I g.edges.length), (27, .I k)], [], 16⟩ rfl ?_ ?_
    · simp [h5]
      exact Le.snap [48] rfl rfl (by simp)
    refine awp_dregc ⟨58, [(1, .pv (gC g)), (25, eEs g.edges), (26, .I g.edges.length), (27, .I k), (56, .B (decide (¬ EdAt g k)))], [], 16⟩ rfl ?_ ?_
    · simp
      repeat' first
        | (refine callf ngraph_fits rfl ?_; refine call0e (graph_fits_ok g _ hs hs2 hl2) rfl ?_; simp)
        | (refine callf nlists_In rfl ?_; refine call0e (lists_In_ok ..) rfl ?_; simp)
        | (refine callf ngraph_compare rfl ?_; refine call0e (graph_compare_ok ..) rfl ?_; simp)
        | (refine gcase (fun hb => ?_) (fun hb => ?_) <;> (try rw [hb]) <;> (try simp at hb) <;> simp [hb, h5, h5', hwp])
      all_goals exact ⟨rfl, Le.snap [] rfl rfl (by simp; exact wkB (by (try simp at *); grind [EdAt]))⟩
    refine awp_cond _ rfl (fun h6 => ?_) fun h6 => ?_
    · refine awp_seq ?_
      refine awp_run (s := ?s7) rfl ?o7 ?q7
      case o7 => simp; rfl
      refine awp_ret ?_
      have hn : ¬ GrOk g := fun h => by simp at h6; exact h6 (h.2 k)
      exact ⟨.inr rfl, RetOk.one (by simp [hn])⟩
    simp at h6
    refine awp_skip ?_
    refine awp_run (s := ?s8) rfl ?o8 ?q8
    case o8 => simp; rfl
    refine ⟨k + 1, ⟨h5, fun i hi => ?_⟩, ?_, Le.snap [] rfl rfl (by simp [hw2])⟩
    · rcases Nat.lt_succ_iff_lt_or_eq.1 hi with h | rfl
      · exact hp i h
      · exact h6
    · omega
  simp at h5
  have hy : GrOk g := ⟨h1, fun i hi => hp i (by omega) hi⟩
  refine awp_exit ?_
  refine hit ?_
  refine awp_seq ?_
  refine awp_run (s := ?s9) rfl ?o9 ?q9
  case o9 => simp; rfl
  refine awp_ret ?_
  exact ⟨.inr rfl, RetOk.one (by simp [hy])⟩
end Go.Proofs.Ytnphfkceoklkkaa

/- The reference's answer: what is wrong with a graph. -/
namespace Go.Proofs.Ytnphfkceoklkkaa
open Go

/-- The order of edges. -/
def Bef (a b : Ed) : Prop := a.f < b.f ∨ a.f = b.f ∧ a.t < b.t
instance (a b : Ed) : Decidable (Bef a b) := by unfold Bef; infer_instance

theorem cmpE_lt {a b : Ed} : cmpE a b < 0 ↔ Bef a b := by
  simp only [cmpE, cmpI, Bef]
  grind
theorem cmpE_eq {a b : Ed} : cmpE a b = 0 ↔ a.f = b.f ∧ a.t = b.t := by
  simp only [cmpE, cmpI]
  grind

theorem ref11_before_ok (a b : Ed) : ACalls Try.prog nref11_before [eE a, eE b] [] (.B (decide (Bef a b))) [] := by
  refine sref11_before.acalls (Nat.le_of_ble_eq_true rfl) (Nat.le_of_ble_eq_true rfl) (Nat.le_refl _) ?_
  show awp _ 0 _ _ ⟨24, [(0, eE a), (1, eE b)], [], 16⟩
  refine awp_regc ⟨24, [(2, .pv (eC a)), (3, .pv (eC b))], [], 16⟩ rfl ?_ ?_
  · simp
    exact Le.snap [16, 24] rfl rfl (by simp)
  refine awp_regc ⟨24, [(4, .B (decide (Bef a b)))], [], 16⟩ rfl ?_ ?_
  · simp
    repeat' first
      | (refine gcase (fun hb => ?_) (fun hb => ?_) <;> (try rw [hb]) <;> (try simp at hb) <;> simp [hb])
    all_goals exact Le.snap [] rfl rfl (by simp; exact wkB (by (try simp at *); grind [Bef]))
  refine awp_ret ?_
  exact ⟨.inr rfl, RetOk.one (by simp)⟩

open Classical in
theorem ref11_Set_ok (l : List Int) (n : Int) (hl : l.length ≤ 140737488355328) : ACalls Try.prog nref11_Set [ints l, .I n] [] (.B (decide (Rise l 0 (n - 1)))) [] := by
  refine sref11_Set.acalls (Nat.le_of_ble_eq_true rfl) (Nat.le_of_ble_eq_true rfl) (Nat.le_refl _) ?_
  show awp _ 0 _ _ ⟨41, [(0, ints l), (1, .I n)], [], 16⟩
  refine awp_seq ?_
  refine awp_run (s := ?s1) rfl ?o1 ?q1
  case o1 => simp; rfl
  refine awp_seq ?_
  refine awp_seq ?_
  refine awp_run (s := ?s2) rfl ?o2 ?q2
  case o2 => simp; rfl
  refine awp_block ?_
  refine awp_loop (ι := Nat) (fun k => ⟨41, [(0, ints l), (1, .I n), (5, .I k)], [], 16⟩) (fun k => k ≤ l.length ∧ ∀ i, i < k → RiseAt l 0 (n - 1) i) (fun k => l.length - k) (0) ?_ (Le.snap [] rfl rfl (by simp)) ?_
  · simp
  rintro k ⟨hk, hp⟩
  refine awp_seq ?_
  refine awp_seq ?_
  refine awp_run (s := ?s3) rfl ?o3 ?q3
  case o3 => simp; rfl
  refine awp_cond _ rfl (fun h4 => ?_) fun h4 => ?_
  · try simp at h4
    have hw2 : IntKind.i64.wrap ((k : Int) + 1) = (k : Int) + 1 := w64 (by omega) (by omega)
    have hwp : 0 < k → IntKind.i64.wrap ((k : Int) - 1) = ((k - 1 : Nat) : Int) := fun h => by rw [w64 (by omega) (by omega)]; omega
    have hkp : k - 1 < l.length := by omega
    refine awp_skip ?_
    refine awp_seq ?_
    refine awp_block ?_
    refine awp_dregc ⟨41, [(0, ints l), (1, .I n), (5, .I k), (40, .B (decide (¬ RiseAt l 0 (n - 1) k)))], [], 16⟩ rfl ?_ ?_
    · simp [h4, hw2, hwp, hkp]
      repeat' first
        | (refine gcase (fun hb => ?_) (fun hb => ?_) <;> (try rw [hb]) <;> (try simp at hb) <;> simp [hb, h4, hw2, hwp, hkp])
      all_goals exact ⟨rfl, Le.snap [] rfl rfl (by simp; exact wkB (by (try simp at *); grind [RiseAt]))⟩
    refine awp_cond _ rfl (fun h5 => ?_) fun h5 => ?_
    · try simp at h5
      refine awp_seq ?_
      refine awp_run (s := ?s6) rfl ?o6 ?q6
      case o6 => simp [h4, hw2, hwp, hkp]; rfl
      refine awp_ret ?_
      have hn : ¬ Rise l 0 (n - 1) := fun h => h5 (h k)
      exact ⟨.inr rfl, RetOk.one (by simp [hn])⟩
    try simp at h5
    refine awp_skip ?_
    refine awp_run (s := ?s7) rfl ?o7 ?q7
    case o7 => simp [h4, hw2, hwp, hkp]; rfl
    refine ⟨k + 1, ⟨h4, fun i hi => ?_⟩, by omega, Le.snap [] rfl rfl (by simp [h4, hw2, hwp, hkp])⟩
    rcases Nat.lt_succ_iff_lt_or_eq.1 hi with h | rfl
    · exact hp i h
    · exact h5
  try simp at h4
  have hall : ∀ i, i < l.length → RiseAt l 0 (n - 1) i := fun i hi => hp i (by omega)
  refine awp_exit ?_
  refine hit ?_
  refine awp_seq ?_
  refine awp_run (s := ?s8) rfl ?o8 ?q8
  case o8 => simp; rfl
  refine awp_ret ?_
  have hy : Rise l 0 (n - 1) := fun i hi => hall i hi hi
  exact ⟨.inr rfl, RetOk.one (by simp [hy])⟩

end Go.Proofs.Ytnphfkceoklkkaa

/- The reference's answer: what is wrong with a graph. -/
namespace Go.Proofs.Ytnphfkceoklkkaa
open Go

def EdA (g : Gr) (e : Ed) : Prop := 0 ≤ e.f ∧ e.f < g.size ∧ 0 ≤ e.t ∧ e.t < g.size ∧ e.f ≠ e.t ∧ 1 ≤ e.v ∧ e.v ≤ 3
instance (g : Gr) (e : Ed) : Decidable (EdA g e) := by unfold EdA; infer_instance
def EdB (g : Gr) (k : Nat) : Prop := ∀ h : k < g.edges.length, (0 < k → Bef g.edges[k - 1] g.edges[k]) ∧ g.edges[k].f ∉ g.gone ∧ g.edges[k].t ∉ g.gone

theorem edAt_iff (g : Gr) (k : Nat) (h : k < g.edges.length) : EdAt g k ↔ EdA g g.edges[k] ∧ EdB g k := by
  simp only [EdAt, EdA, EdB, Fits, cmpE_lt]
  grind

open Classical in
theorem ref11_Check_ok (g : Gr) (hl : g.edges.length ≤ 140737488355328) (hl2 : g.gone.length ≤ 140737488355328) : ACalls Try.prog nref11_Check [eG g] [] (.I (if GrOk g then 0 else 14)) [] := by
  refine sref11_Check.acalls (Nat.le_of_ble_eq_true rfl) (Nat.le_of_ble_eq_true rfl) (Nat.le_refl _) ?_
  show awp _ 0 _ _ ⟨105, [(0, eG g)], [], 16⟩
  refine awp_regc ⟨105, [(1, .pv (gC g))], [], 16⟩ rfl ?_ ?_
  · simp
    exact Le.snap [16] rfl rfl (by simp)
  refine awp_seq ?_
  refine awp_regc ⟨105, [(1, .pv (gC g)), (26, .B (decide (¬ GrPre g)))], [], 16⟩ rfl ?_ ?_
  · simp
    repeat' first
      | (refine callf nref11_Set rfl ?_; refine call0e (ref11_Set_ok _ _ hl2) rfl ?_; simp)
      | (refine gcase (fun hb => ?_) (fun hb => ?_) <;> (try rw [hb]) <;> (try simp at hb) <;> simp [hb])
    all_goals exact Le.snap [] rfl rfl (by simp; exact wkB (by (try simp at *); grind [GrPre, EdA, EdB]))
  refine awp_cond _ rfl (fun h1 => ?_) fun h1 => ?_
  · try simp at h1
    refine awp_seq ?_
    refine awp_run (s := ?s2) rfl ?o2 ?q2
    case o2 => simp; rfl
    refine awp_ret ?_
    exact ⟨.inr rfl, RetOk.one (by simp [GrOk, h1])⟩
  try simp at h1
  refine awp_skip ?_
  refine awp_seq ?_
  refine awp_seq ?_
  refine awp_run (s := ?s3) rfl ?o3 ?q3
  case o3 => simp; rfl
  refine awp_block ?_
  refine awp_loop (ι := Nat) (fun k => ⟨105, [(1, .pv (gC g)), (3, .I k)], [], 16⟩) (fun k => k ≤ g.edges.length ∧ ∀ i, i < k → EdAt g i) (fun k => g.edges.length - k) (0) ?_ (Le.snap [] rfl rfl (by simp)) ?_
  · simp
  rintro k ⟨hk, hp⟩
  refine awp_seq ?_
  refine awp_seq ?_
  refine awp_run (s := ?s4) rfl ?o4 ?q4
  case o4 => simp; rfl
  refine awp_cond _ rfl (fun h5 => ?_) fun h5 => ?_
  · try simp at h5
    have hw2 : IntKind.i64.wrap ((k : Int) + 1) = (k : Int) + 1 := w64 (by omega) (by omega)
    have hwp : 0 < k → IntKind.i64.wrap ((k : Int) - 1) = ((k - 1 : Nat) : Int) := fun h => by rw [w64 (by omega) (by omega)]; omega
    have hkp : k - 1 < g.edges.length := by omega
    refine awp_skip ?_
    refine awp_seq ?_
    refine awp_block ?_
    refine awp_regc ⟨105, [(1, .pv (gC g)), (3, .I k), (4, .pv (eC g.edges[k]))], [], 16⟩ rfl ?_ ?_
    · simp [h5, hw2, hwp, hkp]
      exact Le.snap [96] rfl rfl (by simp [h5, hw2, hwp, hkp])
    refine awp_seq ?_
    refine awp_regc ⟨105, [(1, .pv (gC g)), (3, .I k), (4, .pv (eC g.edges[k])), (77, .B (decide (¬ EdA g g.edges[k])))], [], 16⟩ rfl ?_ ?_
    · simp [h5, hw2, hwp, hkp]
      repeat' first
        | (refine gcase (fun hb => ?_) (fun hb => ?_) <;> (try rw [hb]) <;> (try simp at hb) <;> simp [hb, h5, hw2, hwp, hkp])
      all_goals exact Le.snap [] rfl rfl (by simp; exact wkB (by (try simp at *); grind [GrPre, EdA, EdB]))
    refine awp_cond _ rfl (fun h6 => ?_) fun h6 => ?_
    · try simp at h6
      refine awp_seq ?_
      refine awp_run (s := ?s7) rfl ?o7 ?q7
      case o7 => simp [h5, hw2, hwp, hkp]; rfl
      refine awp_ret ?_
      have hn : ¬ GrOk g := fun h => by have h2 := (edAt_iff g k h5).1 (h.2 k); simp_all
      exact ⟨.inr rfl, RetOk.one (by simp [hn])⟩
    try simp at h6
    refine awp_skip ?_
    refine awp_dregc ⟨105, [(1, .pv (gC g)), (3, .I k), (104, .B (decide (¬ EdB g k)))], [], 16⟩ rfl ?_ ?_
    · simp [h5, hw2, hwp, hkp]
      repeat' first
        | (refine callf nref11_before rfl ?_; refine call0e (ref11_before_ok ..) rfl ?_; simp [h5, hw2, hwp, hkp])
        | (refine callf nref11_Has rfl ?_; refine call0e (has_ok _ _ hl2) rfl ?_; simp [h5, hw2, hwp, hkp])
        | (refine gcase (fun hb => ?_) (fun hb => ?_) <;> (try rw [hb]) <;> (try simp at hb) <;> simp [hb, h5, hw2, hwp, hkp])
      all_goals exact ⟨rfl, Le.snap [] rfl rfl (by simp; exact wkB (by (try simp at *); grind [GrPre, EdA, EdB]))⟩
    refine awp_cond _ rfl (fun h8 => ?_) fun h8 => ?_
    · try simp at h8
      refine awp_seq ?_
      refine awp_run (s := ?s9) rfl ?o9 ?q9
      case o9 => simp [h5, hw2, hwp, hkp]; rfl
      refine awp_ret ?_
      have hn : ¬ GrOk g := fun h => by have h2 := (edAt_iff g k h5).1 (h.2 k); simp_all
      exact ⟨.inr rfl, RetOk.one (by simp [hn])⟩
    try simp at h8
    refine awp_skip ?_
    refine awp_run (s := ?s10) rfl ?o10 ?q10
    case o10 => simp [h5, hw2, hwp, hkp]; rfl
    refine ⟨k + 1, ⟨h5, fun i hi => ?_⟩, by omega, Le.snap [] rfl rfl (by simp [h5, hw2, hwp, hkp])⟩
    rcases Nat.lt_succ_iff_lt_or_eq.1 hi with h | rfl
    · exact hp i h
    · exact (edAt_iff g i h5).2 ⟨h6, h8⟩
  try simp at h5
  have hall : ∀ i, i < g.edges.length → EdAt g i := fun i hi => hp i (by omega)
  refine awp_exit ?_
  refine hit ?_
  refine awp_seq ?_
  refine awp_run (s := ?s11) rfl ?o11 ?q11
  case o11 => simp; rfl
  refine awp_ret ?_
  have hy : GrOk g := ⟨h1, fun i hi => hall i hi hi⟩
  exact ⟨.inr rfl, RetOk.one (by simp [hy])⟩

end Go.Proofs.Ytnphfkceoklkkaa

/- Copies of lists; the place of an edge in a list. -/
namespace Go.Proofs.Ytnphfkceoklkkaa
open Go

theorem cloneI_ok (l : List Int) (hl : l.length * 8 ≤ 140737488355328) : ACalls Try.prog nslices_Clone_Lint_int [ints l] [] (.rs 0 0 l.length) [some ⟨1, l.map fun n => [AV.I n], 0⟩] := by
  cases l with
  | nil =>
    refine acalls_mt fun ad c => ?_
    refine sslices_Clone_Lint_int.acalls (Nat.le_of_ble_eq_true rfl) (Nat.le_of_ble_eq_true rfl) (Nat.zero_le _) ?_
    show awp _ 0 _ _ ⟨8, [(0, .sc (.slice ad 0 c))], [], 16⟩
    refine awp_seq ?_
    refine awp_run (s := ?s1) rfl ?o1 ?q1
    case o1 => simp; rfl
    refine awp_cut (ι := Unit) (fun _ => ⟨8, [(0, .vs 1 false [])], [], 40⟩) (fun _ => True) ?_ fun _ _ => ?_
    · refine awp_seq ?_
      refine awp_run (s := ?s2) rfl ?o2 ?q2
      case o2 => simp; rfl
      refine awp_cond _ rfl (fun h3 => ?_) fun h3 => ?_
      · refine awp_regc ⟨8, [(2, .rs 40 0 0)], [(40, some ⟨1, [], 0⟩)], 48⟩ rfl ?_ ?_
        · simp
          exact Le.lst [] [] [(40, 1)] rfl (by simp) (by simp) (by simp) (by simp) (by simp) (by simp) (by simp) (by simp [Up]) (by simp)
        refine awp_ret ?_
        exact ⟨.inr rfl, RetOk.out [40] [] rfl (by simp) (by simp) (by simp) (by simp)⟩
      refine awp_skip ?_
      exact ⟨(), trivial, Le.slots rfl rfl (by simp; exact .mt _ _ _)⟩
    refine awp_seq ?_
    refine awp_run (s := ?s5) rfl ?o5 ?q5
    case o5 => simp [List.replicate]; rfl
    refine awp_ret ?_
    exact ⟨.inr rfl, RetOk.out [56] [] rfl (by simp) (by simp) (by simp) (by simp)⟩
  | cons x l =>
    refine sslices_Clone_Lint_int.acalls (Nat.le_of_ble_eq_true rfl) (Nat.le_of_ble_eq_true rfl) (Nat.zero_le _) ?_
    show awp _ 0 _ _ ⟨8, [(0, ints (x :: l))], [], 16⟩
    refine awp_seq ?_
    refine awp_run (s := ?t1) rfl ?p1 ?r1
    case p1 => simp; rfl
    refine awp_seq ?_
    refine awp_seq ?_
    refine awp_run (s := ?t2) rfl ?p2 ?r2
    case p2 => simp; rfl
    refine awp_cond _ rfl (fun h3 => by cases h3) fun h3 => ?_
    refine awp_skip ?_
    refine awp_seq ?_
    refine awp_run (s := ?t4) rfl ?p4 ?r4
    case p4 => simp [List.replicate]; refine ⟨by simpa using hl, by simp at hl; omega, ?_⟩; rfl
    refine awp_ret ?_
    exact ⟨.inr rfl, RetOk.out [56] [] rfl (by simp) (by simp) (by simp) (by simp [Function.comp_def])⟩

theorem cloneE_ok (l : List Ed) (hl : l.length * 24 ≤ 140737488355328) : ACalls Try.prog nslices_Clone_Lapi_Edge_api_Edge [eEs l] [] (.rs 0 0 l.length) [some ⟨3, l.map fun e => [AV.I e.f, AV.I e.t, AV.I e.v], 0⟩] := by
  cases l with
  | nil =>
    refine acalls_mt fun ad c => ?_
    refine sslices_Clone_Lapi_Edge_api_Edge.acalls (Nat.le_of_ble_eq_true rfl) (Nat.le_of_ble_eq_true rfl) (Nat.zero_le _) ?_
    show awp _ 0 _ _ ⟨8, [(0, .sc (.slice ad 0 c))], [], 16⟩
    refine awp_seq ?_
    refine awp_run (s := ?s1) rfl ?o1 ?q1
    case o1 => simp; rfl
    refine awp_cut (ι := Unit) (fun _ => ⟨8, [(0, .vs 3 false [])], [], 40⟩) (fun _ => True) ?_ fun _ _ => ?_
    · refine awp_seq ?_
      refine awp_run (s := ?s2) rfl ?o2 ?q2
      case o2 => simp; rfl
      refine awp_cond _ rfl (fun h3 => ?_) fun h3 => ?_
      · refine awp_regc ⟨8, [(2, .rs 40 0 0)], [(40, some ⟨3, [], 0⟩)], 48⟩ rfl ?_ ?_
        · simp
          exact Le.lst [] [] [(40, 3)] rfl (by simp) (by simp) (by simp) (by simp) (by simp) (by simp) (by simp) (by simp [Up]) (by simp)
        refine awp_ret ?_
        exact ⟨.inr rfl, RetOk.out [40] [] rfl (by simp) (by simp) (by simp) (by simp)⟩
      refine awp_skip ?_
      exact ⟨(), trivial, Le.slots rfl rfl (by simp; exact .mt _ _ _)⟩
    refine awp_seq ?_
    refine awp_run (s := ?s5) rfl ?o5 ?q5
    case o5 => simp [List.replicate]; rfl
    refine awp_ret ?_
    exact ⟨.inr rfl, RetOk.out [56] [] rfl (by simp) (by simp) (by simp) (by simp)⟩
  | cons x l =>
    refine sslices_Clone_Lapi_Edge_api_Edge.acalls (Nat.le_of_ble_eq_true rfl) (Nat.le_of_ble_eq_true rfl) (Nat.zero_le _) ?_
    show awp _ 0 _ _ ⟨8, [(0, eEs (x :: l))], [], 16⟩
    refine awp_seq ?_
    refine awp_run (s := ?t1) rfl ?p1 ?r1
    case p1 => simp; rfl
    refine awp_seq ?_
    refine awp_seq ?_
    refine awp_run (s := ?t2) rfl ?p2 ?r2
    case p2 => simp; rfl
    refine awp_cond _ rfl (fun h3 => by cases h3) fun h3 => ?_
    refine awp_skip ?_
    refine awp_seq ?_
    refine awp_run (s := ?t4) rfl ?p4 ?r4
    case p4 => simp [List.replicate]; refine ⟨by simpa using hl, by simp at hl; omega, ?_⟩; rfl
    refine awp_ret ?_
    exact ⟨.inr rfl, RetOk.out [56] [] rfl (by simp) (by simp) (by simp) (by simp [Function.comp_def])⟩


end Go.Proofs.Ytnphfkceoklkkaa

/- The place of an edge in a list. -/
namespace Go.Proofs.Ytnphfkceoklkkaa
open Go

/-- Where an edge stands, or would stand. -/
def idxE (l : List Ed) (e : Ed) : Nat := l.findIdx fun x => !decide (Bef x e)
def AtE (l : List Ed) (k : Nat) (f t : Int) : Prop := ∃ h : k < l.length, l[k].f = f ∧ l[k].t = t
instance (l : List Ed) (k : Nat) (f t : Int) : Decidable (AtE l k f t) := by unfold AtE; infer_instance
def BefAt (l : List Ed) (e : Ed) (k : Nat) : Prop := ∀ h : k < l.length, Bef l[k] e

theorem idxE_le (l : List Ed) (e : Ed) : idxE l e ≤ l.length := List.findIdx_le_length

theorem idxE_of {l : List Ed} {e : Ed} {k : Nat} (hk : k ≤ l.length) (h1 : ∀ i, i < k → BefAt l e i) (h2 : ∀ h : k < l.length, ¬ Bef l[k] e) : idxE l e = k := by
  unfold idxE
  rcases Nat.lt_or_ge k l.length with h | h
  · rw [List.findIdx_eq h]
    refine ⟨by simpa using h2 h, fun j hj => ?_⟩
    simpa using h1 j hj (by omega)
  · obtain rfl : k = l.length := by omega
    rw [List.findIdx_eq_length]
    intro x hx
    obtain ⟨i, hi, rfl⟩ := List.mem_iff_getElem.1 hx
    simpa using h1 i hi hi

theorem ref11_index_ok (g : Gr) (f t : Int) (hl : g.edges.length ≤ 140737488355328) : ACalls Try.prog nref11_index [eG g, .I f, .I t] [] (.tup [.I (idxE g.edges ⟨f, t, 0⟩), .B (decide (AtE g.edges (idxE g.edges ⟨f, t, 0⟩) f t))]) [] := by
  refine sref11_index.acalls (Nat.le_of_ble_eq_true rfl) (Nat.le_of_ble_eq_true rfl) (Nat.le_refl _) ?_
  show awp _ 0 _ _ ⟨53, [(0, eG g), (1, .I f), (2, .I t)], [], 16⟩
  refine awp_regc ⟨53, [(1, .I f), (2, .I t), (3, .pv (gC g))], [], 16⟩ rfl ?_ ?_
  · simp
    exact Le.snap [16] rfl rfl (by simp)
  refine awp_seq ?_
  refine awp_run (s := ?s1) rfl ?o1 ?q1
  case o1 => simp; rfl
  refine awp_seq ?_
  refine awp_block ?_
  refine awp_loop (ι := Nat) (fun k => ⟨53, [(1, .I f), (2, .I t), (3, .pv (gC g)), (8, .I k)], [], 16⟩) (fun k => k ≤ g.edges.length ∧ ∀ i, i < k → BefAt g.edges ⟨f, t, 0⟩ i) (fun k => g.edges.length - k) (0) ?_ (Le.snap [] rfl rfl (by simp)) ?_
  · simp
  rintro k ⟨hk, hp⟩
  refine awp_seq ?_
  refine awp_regc ⟨53, [(1, .I f), (2, .I t), (3, .pv (gC g)), (8, .I k), (24, .B (decide (∃ h : k < g.edges.length, Bef g.edges[k] ⟨f, t, 0⟩)))], [], 16⟩ rfl ?_ ?_
  · simp
    repeat' first
      | (refine callf nref11_before rfl ?_; refine call0e (ref11_before_ok _ ⟨f, t, 0⟩) rfl ?_; simp)
      | (refine gcase (fun hb => ?_) (fun hb => ?_) <;> (try rw [hb]) <;> (try simp at hb) <;> simp [*])
    all_goals exact Le.snap [] rfl rfl (by simp <;> exact wkB (by (try simp at *); grind))
  refine awp_cond _ rfl (fun h2 => ?_) fun h2 => ?_
  · try simp at h2
    obtain ⟨h2, h2b⟩ := h2
    have hw2 : IntKind.i64.wrap ((k : Int) + 1) = (k : Int) + 1 := w64 (by omega) (by omega)
    have hwp : 0 < k → IntKind.i64.wrap ((k : Int) - 1) = ((k - 1 : Nat) : Int) := fun h => by rw [w64 (by omega) (by omega)]; omega
    have hkp : k - 1 < g.edges.length := by omega
    refine awp_skip ?_
    refine awp_block ?_
    refine awp_run (s := ?s3) rfl ?o3 ?q3
    case o3 => simp [h2, hw2, hwp, hkp]; rfl
    refine ⟨k + 1, ⟨h2, fun i hi => ?_⟩, by omega, Le.snap [] rfl rfl (by simp [h2, hw2, hwp, hkp])⟩
    rcases Nat.lt_succ_iff_lt_or_eq.1 hi with h | rfl
    · exact hp i h
    · exact fun _ => h2b
  try simp at h2
  rw [idxE_of hk hp h2]
  refine awp_exit ?_
  refine hit ?_
  refine awp_dregc ⟨53, [(6, .I k), (7, .B (decide (AtE g.edges k f t)))], [], 16⟩ rfl ?_ ?_
  · simp
    repeat' first
      | (refine gcase (fun hb => ?_) (fun hb => ?_) <;> (try rw [hb]) <;> (try simp at hb) <;> simp [*])
    all_goals exact ⟨rfl, Le.snap [] rfl rfl (by simp <;> exact wkB (by (try simp at *); grind [AtE]))⟩
  refine awp_ret ?_
  exact ⟨.inr rfl, RetOk.out [] [] rfl (by simp) (by simp) (by simp) (by simp)⟩

end Go.Proofs.Ytnphfkceoklkkaa

/- Copies of graphs. -/
namespace Go.Proofs.Ytnphfkceoklkkaa
open Go

theorem ref11_Copy_ok (g : Gr) (hl : g.edges.length * 24 ≤ 140737488355328) (hl2 : g.gone.length * 8 ≤ 140737488355328) : ACalls Try.prog nref11_Copy [eG g] [] (.agg [.I g.size, .rs 0 0 g.edges.length, .rs 1 0 g.gone.length]) [some ⟨3, g.edges.map fun e => [AV.I e.f, AV.I e.t, AV.I e.v], 0⟩, some ⟨1, g.gone.map fun n => [AV.I n], 0⟩] := by
  refine sref11_Copy.acalls (Nat.le_of_ble_eq_true rfl) (Nat.le_of_ble_eq_true rfl) (Nat.zero_le _) ?_
  show awp _ 0 _ _ ⟨12, [(0, eG g)], [], 16⟩
  have hl3 : g.edges.length ≤ 140737488355328 := by omega
  have hl4 : g.gone.length ≤ 140737488355328 := by omega
  refine awp_seq ?_
  refine awp_run (s := ?s0) rfl ?o0 ?q0
  case o0 => simp; rfl
  refine awp_seq ?_
  refine awp_drun (s := ?s1) (tr := ?t1) rfl ?o1 ?r1 ?q1
  case o1 => simp [hl, hl2, hl3, hl4]; constructor <;> rfl
  case r1 => rfl
  refine awp_ret ?_
  refine ⟨.inr rfl, ?_⟩
  show RetOk [(2, some (true, 3))] 0 _ _ _
  exact RetOk.out (vs := [.agg [.I g.size, .rs 64 0 g.edges.length, .rs 88 0 g.gone.length]]) [64, 88] [] (by simp) (by simp) (by simp) (by simp) (by simp [Function.comp_def])

theorem graph_copied_ok (g : Gr) (hl : g.edges.length * 24 ≤ 140737488355328) (hl2 : g.gone.length * 8 ≤ 140737488355328) : ACalls Try.prog ngraph_copied [eG g] [] (.agg [.I g.size, .rs 0 0 g.edges.length, .rs 1 0 g.gone.length]) [some ⟨3, g.edges.map fun e => [AV.I e.f, AV.I e.t, AV.I e.v], 0⟩, some ⟨1, g.gone.map fun n => [AV.I n], 0⟩] := by
  refine sgraph_copied.acalls (Nat.le_of_ble_eq_true rfl) (Nat.le_of_ble_eq_true rfl) (Nat.zero_le _) ?_
  show awp _ 0 _ _ ⟨12, [(0, eG g)], [], 16⟩
  have hl3 : g.edges.length ≤ 140737488355328 := by omega
  have hl4 : g.gone.length ≤ 140737488355328 := by omega
  refine awp_seq ?_
  refine awp_run (s := ?s0) rfl ?o0 ?q0
  case o0 => simp; rfl
  refine awp_seq ?_
  refine awp_drun (s := ?s1) (tr := ?t1) rfl ?o1 ?r1 ?q1
  case o1 => simp; refine callN1 (cloneE_ok _ hl) rfl ?_; simp; refine callN1 (cloneI_ok _ hl2) rfl ?_; simp [Function.comp_def]; constructor <;> rfl
  case r1 => rfl
  refine awp_ret ?_
  refine ⟨.inr rfl, ?_⟩
  show RetOk [(2, some (true, 3))] 0 _ _ _
  exact RetOk.out (vs := [.agg [.I g.size, .rs 64 0 g.edges.length, .rs 88 0 g.gone.length]]) [64, 88] [] (by simp) (by simp) (by simp) (by simp) (by simp [Function.comp_def])


end Go.Proofs.Ytnphfkceoklkkaa

/- Equal lists. -/
namespace Go.Proofs.Ytnphfkceoklkkaa
open Go

theorem list_eq {α : Type} {a b : List α} (h : a.length = b.length) (hp : ∀ i, i < a.length → a[i]? = b[i]?) : a = b := by
  apply List.ext_getElem? 
  intro i
  rcases Nat.lt_or_ge i a.length with h1 | h1
  · exact hp i h1
  · rw [List.getElem?_eq_none h1, List.getElem?_eq_none (by omega)]

theorem ed_eq {a b : Ed} : a = b ↔ a.f = b.f ∧ a.t = b.t ∧ a.v = b.v := by
  cases a; cases b; simp

theorem SameInts_ok (a b : List Int) (hl : a.length ≤ 140737488355328) : ACalls Try.prog nref03_SameInts [ints a, ints b] [] (.B (decide (a = b))) [] := by
  refine sref03_SameInts.acalls (Nat.le_of_ble_eq_true rfl) (Nat.le_of_ble_eq_true rfl) (Nat.le_refl _) ?_
  show awp _ 0 _ _ ⟨26, [(0, ints a), (1, ints b)], [], 16⟩
  refine awp_seq ?_
  refine awp_run (s := ?s1) rfl ?o1 ?q1
  case o1 => simp; rfl
  refine awp_seq ?_
  refine awp_seq ?_
  refine awp_run (s := ?s2) rfl ?o2 ?q2
  case o2 => simp; rfl
  refine awp_cond _ rfl (fun h3 => ?_) fun h3 => ?_
  · try simp at h3
    refine awp_seq ?_
    refine awp_run (s := ?s4) rfl ?o4 ?q4
    case o4 => simp; rfl
    refine awp_ret ?_
    have hn : a ≠ b := fun h => h3 (by rw [h])
    exact ⟨.inr rfl, RetOk.one (by simp [hn])⟩
  try simp at h3
  refine awp_skip ?_
  refine awp_seq ?_
  refine awp_seq ?_
  refine awp_run (s := ?s5) rfl ?o5 ?q5
  case o5 => simp; rfl
  refine awp_block ?_
  refine awp_loop (ι := Nat) (fun k => ⟨26, [(0, ints a), (1, ints b), (5, .I k)], [], 16⟩) (fun k => k ≤ a.length ∧ ∀ i, i < k → a[i]? = b[i]?) (fun k => a.length - k) (0) ?_ (Le.snap [] rfl rfl (by simp)) ?_
  · simp
  rintro k ⟨hk, hp⟩
  refine awp_seq ?_
  refine awp_seq ?_
  refine awp_run (s := ?s6) rfl ?o6 ?q6
  case o6 => simp; rfl
  refine awp_cond _ rfl (fun h7 => ?_) fun h7 => ?_
  · try simp at h7
    have hw2 : IntKind.i64.wrap ((k : Int) + 1) = (k : Int) + 1 := w64 (by omega) (by omega)
    have hwp : 0 < k → IntKind.i64.wrap ((k : Int) - 1) = ((k - 1 : Nat) : Int) := fun h => by rw [w64 (by omega) (by omega)]; omega
    have hkp : k - 1 < a.length := by omega
    have hkb : k < b.length := by omega
    refine awp_skip ?_
    refine awp_seq ?_
    refine awp_block ?_
    refine awp_seq ?_
    refine awp_drun (s := ?s8) (tr := ?t8) rfl ?o8 ?r8 ?q8
    case o8 => simp [h7, hw2, hwp, hkp, hkb]; constructor <;> rfl
    case r8 => rfl
    refine awp_cond _ rfl (fun h9 => ?_) fun h9 => ?_
    · try simp at h9
      refine awp_seq ?_
      refine awp_run (s := ?s10) rfl ?o10 ?q10
      case o10 => simp [h7, hw2, hwp, hkp, hkb]; rfl
      refine awp_ret ?_
      have hn : a ≠ b := fun h => h9 (by simp [h])
      exact ⟨.inr rfl, RetOk.one (by simp [hn])⟩
    try simp at h9
    refine awp_skip ?_
    refine awp_run (s := ?s11) rfl ?o11 ?q11
    case o11 => simp [h7, hw2, hwp, hkp, hkb]; rfl
    refine ⟨k + 1, ⟨h7, fun i hi => ?_⟩, by omega, Le.snap [] rfl rfl (by simp [h7, hw2, hwp, hkp, hkb])⟩
    rcases Nat.lt_succ_iff_lt_or_eq.1 hi with h | rfl
    · exact hp i h
    · simp [h7, hkb, h9]
  try simp at h7
  have hall : ∀ i, i < a.length → a[i]? = b[i]? := fun i hi => hp i (by omega)
  refine awp_exit ?_
  refine hit ?_
  refine awp_seq ?_
  refine awp_run (s := ?s12) rfl ?o12 ?q12
  case o12 => simp; rfl
  refine awp_ret ?_
  have hy : a = b := list_eq (by omega) hall
  exact ⟨.inr rfl, RetOk.one (by simp [hy])⟩

theorem EqualI_ok (a b : List Int) (hl : a.length ≤ 140737488355328) : ACalls Try.prog nslices_Equal_Lint_int [ints a, ints b] [] (.B (decide (a = b))) [] := by
  refine sslices_Equal_Lint_int.acalls (Nat.le_of_ble_eq_true rfl) (Nat.le_of_ble_eq_true rfl) (Nat.le_refl _) ?_
  show awp _ 0 _ _ ⟨26, [(0, ints a), (1, ints b)], [], 16⟩
  refine awp_seq ?_
  refine awp_run (s := ?s1) rfl ?o1 ?q1
  case o1 => simp; rfl
  refine awp_seq ?_
  refine awp_seq ?_
  refine awp_run (s := ?s2) rfl ?o2 ?q2
  case o2 => simp; rfl
  refine awp_cond _ rfl (fun h3 => ?_) fun h3 => ?_
  · try simp at h3
    refine awp_seq ?_
    refine awp_run (s := ?s4) rfl ?o4 ?q4
    case o4 => simp; rfl
    refine awp_ret ?_
    have hn : a ≠ b := fun h => h3 (by rw [h])
    exact ⟨.inr rfl, RetOk.one (by simp [hn])⟩
  try simp at h3
  refine awp_skip ?_
  refine awp_seq ?_
  refine awp_seq ?_
  refine awp_run (s := ?s5) rfl ?o5 ?q5
  case o5 => simp; rfl
  refine awp_block ?_
  refine awp_loop (ι := Nat) (fun k => ⟨26, [(0, ints a), (1, ints b), (12, .I a.length), (13, .I k)], [], 16⟩) (fun k => k ≤ a.length ∧ ∀ i, i < k → a[i]? = b[i]?) (fun k => a.length - k) (0) ?_ (Le.snap [] rfl rfl (by simp)) ?_
  · simp
  rintro k ⟨hk, hp⟩
  refine awp_seq ?_
  refine awp_run (s := ?s6) rfl ?o6 ?q6
  case o6 => simp; rfl
  refine awp_seq ?_
  refine awp_cond _ rfl (fun h7 => ?_) fun h7 => ?_
  · try simp at h7
    have hw2 : IntKind.i64.wrap ((k : Int) + 1) = (k : Int) + 1 := w64 (by omega) (by omega)
    have hwp : 0 < k → IntKind.i64.wrap ((k : Int) - 1) = ((k - 1 : Nat) : Int) := fun h => by rw [w64 (by omega) (by omega)]; omega
    have hkp : k - 1 < a.length := by omega
    have hkb : k < b.length := by omega
    refine awp_skip ?_
    refine awp_seq ?_
    refine awp_block ?_
    refine awp_seq ?_
    refine awp_run (s := ?s8) rfl ?o8 ?q8
    case o8 => simp [h7, hw2, hwp, hkp, hkb]; rfl
    refine awp_seq ?_
    refine awp_drun (s := ?s9) (tr := ?t9) rfl ?o9 ?r9 ?q9
    case o9 => simp [h7, hw2, hwp, hkp, hkb]; constructor <;> rfl
    case r9 => rfl
    refine awp_cond _ rfl (fun h10 => ?_) fun h10 => ?_
    · try simp at h10
      refine awp_seq ?_
      refine awp_run (s := ?s11) rfl ?o11 ?q11
      case o11 => simp [h7, hw2, hwp, hkp, hkb]; rfl
      refine awp_ret ?_
      have hn : a ≠ b := fun h => h10 (by simp [h])
      exact ⟨.inr rfl, RetOk.one (by simp [hn])⟩
    try simp at h10
    refine awp_skip ?_
    refine awp_run (s := ?s12) rfl ?o12 ?q12
    case o12 => simp [h7, hw2, hwp, hkp, hkb]; rfl
    refine ⟨k + 1, ⟨h7, fun i hi => ?_⟩, by omega, Le.snap [] rfl rfl (by simp [h7, hw2, hwp, hkp, hkb])⟩
    rcases Nat.lt_succ_iff_lt_or_eq.1 hi with h | rfl
    · exact hp i h
    · simp [h7, hkb, h10]
  try simp at h7
  have hall : ∀ i, i < a.length → a[i]? = b[i]? := fun i hi => hp i (by omega)
  refine awp_exit ?_
  refine hit ?_
  refine awp_seq ?_
  refine awp_run (s := ?s13) rfl ?o13 ?q13
  case o13 => simp; rfl
  refine awp_ret ?_
  have hy : a = b := list_eq (by omega) hall
  exact ⟨.inr rfl, RetOk.one (by simp [hy])⟩

theorem EqualE_ok (a b : List Ed) (hl : a.length ≤ 140737488355328) : ACalls Try.prog nslices_Equal_Lapi_Edge_api_Edge [eEs a, eEs b] [] (.B (decide (a = b))) [] := by
  refine sslices_Equal_Lapi_Edge_api_Edge.acalls (Nat.le_of_ble_eq_true rfl) (Nat.le_of_ble_eq_true rfl) (Nat.le_refl _) ?_
  show awp _ 0 _ _ ⟨26, [(0, eEs a), (1, eEs b)], [], 16⟩
  refine awp_seq ?_
  refine awp_run (s := ?s1) rfl ?o1 ?q1
  case o1 => simp; rfl
  refine awp_seq ?_
  refine awp_seq ?_
  refine awp_run (s := ?s2) rfl ?o2 ?q2
  case o2 => simp; rfl
  refine awp_cond _ rfl (fun h3 => ?_) fun h3 => ?_
  · try simp at h3
    refine awp_seq ?_
    refine awp_run (s := ?s4) rfl ?o4 ?q4
    case o4 => simp; rfl
    refine awp_ret ?_
    have hn : a ≠ b := fun h => h3 (by rw [h])
    exact ⟨.inr rfl, RetOk.one (by simp [hn])⟩
  try simp at h3
  refine awp_skip ?_
  refine awp_seq ?_
  refine awp_seq ?_
  refine awp_run (s := ?s5) rfl ?o5 ?q5
  case o5 => simp; rfl
  refine awp_block ?_
  refine awp_loop (ι := Nat) (fun k => ⟨26, [(0, eEs a), (1, eEs b), (12, .I a.length), (13, .I k)], [], 16⟩) (fun k => k ≤ a.length ∧ ∀ i, i < k → a[i]? = b[i]?) (fun k => a.length - k) (0) ?_ (Le.snap [] rfl rfl (by simp)) ?_
  · simp
  rintro k ⟨hk, hp⟩
  refine awp_seq ?_
  refine awp_run (s := ?s6) rfl ?o6 ?q6
  case o6 => simp; rfl
  refine awp_seq ?_
  refine awp_cond _ rfl (fun h7 => ?_) fun h7 => ?_
  · try simp at h7
    have hw2 : IntKind.i64.wrap ((k : Int) + 1) = (k : Int) + 1 := w64 (by omega) (by omega)
    have hwp : 0 < k → IntKind.i64.wrap ((k : Int) - 1) = ((k - 1 : Nat) : Int) := fun h => by rw [w64 (by omega) (by omega)]; omega
    have hkp : k - 1 < a.length := by omega
    have hkb : k < b.length := by omega
    refine awp_skip ?_
    refine awp_seq ?_
    refine awp_block ?_
    refine awp_seq ?_
    refine awp_run (s := ?s8) rfl ?o8 ?q8
    case o8 => simp [h7, hw2, hwp, hkp, hkb]; rfl
    refine awp_dregc ⟨26, [(0, eEs a), (1, eEs b), (12, .I a.length), (13, .I k), (24, .B (decide (a[k] ≠ b[k])))], [], 16⟩ rfl ?_ ?_
    · simp [h7, hw2, hwp, hkp, hkb]
      exact ⟨rfl, Le.snap [] rfl rfl (by simp <;> exact wkB (by grind [ed_eq]))⟩
    refine awp_cond _ rfl (fun h9 => ?_) fun h9 => ?_
    · try simp at h9
      refine awp_seq ?_
      refine awp_run (s := ?s10) rfl ?o10 ?q10
      case o10 => simp [h7, hw2, hwp, hkp, hkb]; rfl
      refine awp_ret ?_
      have hn : a ≠ b := fun h => h9 (by simp [h])
      exact ⟨.inr rfl, RetOk.one (by simp [hn])⟩
    try simp at h9
    refine awp_skip ?_
    refine awp_run (s := ?s11) rfl ?o11 ?q11
    case o11 => simp [h7, hw2, hwp, hkp, hkb]; rfl
    refine ⟨k + 1, ⟨h7, fun i hi => ?_⟩, by omega, Le.snap [] rfl rfl (by simp [h7, hw2, hwp, hkp, hkb])⟩
    rcases Nat.lt_succ_iff_lt_or_eq.1 hi with h | rfl
    · exact hp i h
    · simp [h7, hkb, h9]
  try simp at h7
  have hall : ∀ i, i < a.length → a[i]? = b[i]? := fun i hi => hp i (by omega)
  refine awp_exit ?_
  refine hit ?_
  refine awp_seq ?_
  refine awp_run (s := ?s12) rfl ?o12 ?q12
  case o12 => simp; rfl
  refine awp_ret ?_
  have hy : a = b := list_eq (by omega) hall
  exact ⟨.inr rfl, RetOk.one (by simp [hy])⟩


end Go.Proofs.Ytnphfkceoklkkaa

/- Equal graphs. -/
namespace Go.Proofs.Ytnphfkceoklkkaa
open Go

/-- Equal graphs. -/
def EqG (a b : Gr) : Prop := a.size = b.size ∧ a.edges = b.edges ∧ a.gone = b.gone
instance (a b : Gr) : Decidable (EqG a b) := by unfold EqG; infer_instance

theorem graph_Same_ok (a b : Gr) (hl : a.edges.length ≤ 140737488355328) (hl2 : a.gone.length ≤ 140737488355328) : ACalls Try.prog ngraph_Same [eG a, eG b] [] (.B (decide (EqG a b))) [] := by
  refine sgraph_Same.acalls (Nat.le_of_ble_eq_true rfl) (Nat.le_of_ble_eq_true rfl) (Nat.le_refl _) ?_
  show awp _ 0 _ _ ⟨24, [(0, eG a), (1, eG b)], [], 16⟩
  refine awp_regc ⟨24, [(2, .pv (gC a)), (3, .pv (gC b))], [], 16⟩ rfl ?_ ?_
  · simp
    exact Le.snap [16, 24] rfl rfl (by simp)
  refine awp_regc ⟨24, [(4, .B (decide (EqG a b)))], [], 16⟩ rfl ?_ ?_
  · simp
    repeat' first
      | (refine callf nslices_Equal_Lapi_Edge_api_Edge rfl ?_; refine call0e (EqualE_ok _ _ hl) rfl ?_; simp)
      | (refine callf nslices_Equal_Lint_int rfl ?_; refine call0e (EqualI_ok _ _ hl2) rfl ?_; simp)
      | (refine gcase (fun hb => ?_) (fun hb => ?_) <;> (try rw [hb]) <;> (try simp at hb) <;> simp [*])
    all_goals exact Le.snap [] rfl rfl (by simp <;> exact wkB (by (try simp at *); grind [EqG]))
  refine awp_ret ?_
  exact ⟨.inr rfl, RetOk.one (by simp)⟩

theorem ref11_Same_ok (a b : Gr) (hl : a.edges.length ≤ 140737488355328) (hl2 : a.gone.length ≤ 140737488355328) : ACalls Try.prog nref11_Same [eG a, eG b] [] (.B (decide (EqG a b))) [] := by
  refine sref11_Same.acalls (Nat.le_of_ble_eq_true rfl) (Nat.le_of_ble_eq_true rfl) (Nat.le_refl _) ?_
  show awp _ 0 _ _ ⟨46, [(0, eG a), (1, eG b)], [], 16⟩
  refine awp_regc ⟨46, [(2, .pv (gC a)), (3, .pv (gC b))], [], 16⟩ rfl ?_ ?_
  · simp
    exact Le.snap [16, 24] rfl rfl (by simp)
  refine awp_seq ?_
  refine awp_regc ⟨46, [(2, .pv (gC a)), (3, .pv (gC b)), (27, .B (decide (¬ (a.size = b.size ∧ a.edges.length = b.edges.length ∧ a.gone = b.gone))))], [], 16⟩ rfl ?_ ?_
  · simp
    repeat' first
      | (refine callf nref03_SameInts rfl ?_; refine call0e (SameInts_ok _ _ hl2) rfl ?_; simp)
      | (refine gcase (fun hb => ?_) (fun hb => ?_) <;> (try rw [hb]) <;> (try simp at hb) <;> simp [*])
    all_goals exact Le.snap [] rfl rfl (by simp <;> exact wkB (by (try simp at *); grind [ed_eq]))
  refine awp_cond _ rfl (fun h1 => ?_) fun h1 => ?_
  · try simp at h1
    refine awp_seq ?_
    refine awp_run (s := ?s2) rfl ?o2 ?q2
    case o2 => simp; rfl
    refine awp_ret ?_
    have hn : ¬ EqG a b := fun h => by obtain ⟨e1, e2, e3⟩ := h; simp_all
    exact ⟨.inr rfl, RetOk.one (by simp [hn])⟩
  try simp at h1
  refine awp_skip ?_
  refine awp_seq ?_
  refine awp_seq ?_
  refine awp_run (s := ?s3) rfl ?o3 ?q3
  case o3 => simp; rfl
  refine awp_block ?_
  refine awp_loop (ι := Nat) (fun k => ⟨46, [(2, .pv (gC a)), (3, .pv (gC b)), (5, .I k)], [], 16⟩) (fun k => k ≤ a.edges.length ∧ ∀ i, i < k → a.edges[i]? = b.edges[i]?) (fun k => a.edges.length - k) (0) ?_ (Le.snap [] rfl rfl (by simp)) ?_
  · simp
  rintro k ⟨hk, hp⟩
  refine awp_seq ?_
  refine awp_seq ?_
  refine awp_run (s := ?s4) rfl ?o4 ?q4
  case o4 => simp; rfl
  refine awp_cond _ rfl (fun h5 => ?_) fun h5 => ?_
  · try simp at h5
    have hw2 : IntKind.i64.wrap ((k : Int) + 1) = (k : Int) + 1 := w64 (by omega) (by omega)
    have hwp : 0 < k → IntKind.i64.wrap ((k : Int) - 1) = ((k - 1 : Nat) : Int) := fun h => by rw [w64 (by omega) (by omega)]; omega
    have hkp : k - 1 < a.edges.length := by omega
    have hkb : k < b.edges.length := by have := h1.2.1; omega
    refine awp_skip ?_
    refine awp_seq ?_
    refine awp_block ?_
    refine awp_dregc ⟨46, [(2, .pv (gC a)), (3, .pv (gC b)), (5, .I k), (45, .B (decide (a.edges[k] ≠ b.edges[k])))], [], 16⟩ rfl ?_ ?_
    · simp [h5, hw2, hwp, hkp, hkb]
      exact ⟨rfl, Le.snap [] rfl rfl (by simp <;> exact wkB (by grind [ed_eq]))⟩
    refine awp_cond _ rfl (fun h6 => ?_) fun h6 => ?_
    · try simp at h6
      refine awp_seq ?_
      refine awp_run (s := ?s7) rfl ?o7 ?q7
      case o7 => simp [h5, hw2, hwp, hkp, hkb]; rfl
      refine awp_ret ?_
      have hn : ¬ EqG a b := fun h => h6 (by simp [h.2.1])
      exact ⟨.inr rfl, RetOk.one (by simp [hn])⟩
    try simp at h6
    refine awp_skip ?_
    refine awp_run (s := ?s8) rfl ?o8 ?q8
    case o8 => simp [h5, hw2, hwp, hkp, hkb]; rfl
    refine ⟨k + 1, ⟨h5, fun i hi => ?_⟩, by omega, Le.snap [] rfl rfl (by simp [h5, hw2, hwp, hkp, hkb])⟩
    rcases Nat.lt_succ_iff_lt_or_eq.1 hi with h | rfl
    · exact hp i h
    · simp [h5, hkb, h6]
  try simp at h5
  have hall : ∀ i, i < a.edges.length → a.edges[i]? = b.edges[i]? := fun i hi => hp i (by omega)
  refine awp_exit ?_
  refine hit ?_
  refine awp_seq ?_
  refine awp_run (s := ?s9) rfl ?o9 ?q9
  case o9 => simp; rfl
  refine awp_ret ?_
  have hy : EqG a b := ⟨h1.1, list_eq h1.2.1 hall, h1.2.2⟩
  exact ⟨.inr rfl, RetOk.one (by simp [hy])⟩

end Go.Proofs.Ytnphfkceoklkkaa

/- Graphs and edges as arguments. -/
namespace Go.Proofs.Ytnphfkceoklkkaa
open Go

/-- Less may be asked of what comes in. -/
theorem acalls_wk {P : Program} {f : FuncId} {xs ys : List AV} {hs : List Ent} {res : AV} {hs' : List (Option Ent)} (hl : xs.length = ys.length) (hw : ∀ i, i < ys.length → Wk (xs.getD i .dead) (ys.getD i .dead)) (h : ACalls P f ys hs res hs') : ACalls P f xs hs res hs' :=
  ⟨h.1, h.2.1, fun T M w vs h1 h2 h3 hr => h.2.2 T M w vs h1 h2 h3 ⟨hr.1.trans hl, fun i hi => (hw i hi).rep (hr.2 i (hl ▸ hi))⟩⟩

section
variable {H : Type}
/-- A number that fits. -/
def Fit (x : Int) : Prop := -9223372036854775808 ≤ x ∧ x ≤ 9223372036854775807

variable {P : Program} {tI tE tEs tIs tG : TypeId}

/-- A struct of three fields. -/
def St3 (P : Program) (t a b c : TypeId) : Prop := ∃ f1 f2 f3 : Field, P.underlying t = some (.struct #[f1, f2, f3]) ∧ f1.type = a ∧ f2.type = b ∧ f3.type = c

theorem int_of {n : Nat} (hI : P.underlying tI = some (.int .i64)) {d : DataW H} {cs : List AV} (h : avs P (n + 1) tI d = some cs) : ∃ x, cs = [.I x] ∧ Fit x := by
  cases d <;> simp [avs, hI] at h
  rename_i l
  cases l <;> simp at h
  obtain ⟨⟨rfl, hw⟩, rfl⟩ := h
  refine ⟨_, rfl, ?_⟩
  unfold Fit
  simpa [Lit.wf, IntKind.min, IntKind.max, IntKind.signed, IntKind.bits] using hw

theorem three_of {n : Nat} {t a b c : TypeId} (ht : St3 P t a b c) {d : DataW H} {cs : List AV} (h : avs P (n + 1) t d = some cs) : ∃ (d1 d2 d3 : DataW H) (c1 c2 c3 : List AV), avs P n a d1 = some c1 ∧ avs P n b d2 = some c2 ∧ avs P n c d3 = some c3 ∧ cs = c1 ++ (c2 ++ c3) := by
  obtain ⟨f1, f2, f3, hu, rfl, rfl, rfl⟩ := ht
  cases d <;> simp [avs, hu] at h
  rename_i ds
  obtain ⟨hl, l, h, rfl⟩ := h
  match ds, hl with
  | [d1, d2, d3], _ =>
    simp only [List.zip_cons_cons, List.zip_nil_right, List.zip_nil_left, List.mapM_cons, List.mapM_nil] at h
    cases h1 : avs P n f1.type d1 with
    | none => simp [h1] at h
    | some c1 =>
      cases h2 : avs P n f2.type d2 with
      | none => simp [h1, h2] at h
      | some c2 =>
        cases h3 : avs P n f3.type d3 with
        | none => simp [h1, h2, h3] at h
        | some c3 =>
          simp [h1, h2, h3] at h
          subst h
          exact ⟨d1, d2, d3, c1, c2, c3, h1, h2, h3, by simp⟩

theorem edge_of {n : Nat} (hI : P.underlying tI = some (.int .i64)) (hE : St3 P tE tI tI tI) {d : DataW H} {cs : List AV} (h : avs P (n + 2) tE d = some cs) : ∃ e : Ed, cs = eC e := by
  obtain ⟨d1, d2, d3, c1, c2, c3, h1, h2, h3, rfl⟩ := three_of hE h
  obtain ⟨x1, rfl, _⟩ := int_of hI h1
  obtain ⟨x2, rfl, _⟩ := int_of hI h2
  obtain ⟨x3, rfl, _⟩ := int_of hI h3
  exact ⟨⟨x1, x2, x3⟩, rfl⟩

theorem list_of {α : Type} {f : DataW H → Option (List AV)} (Q : α → List AV) : ∀ {ds : List (DataW H)} {rows : List (List AV)}, (∀ d row, f d = some row → ∃ a, row = Q a) → ds.mapM f = some rows → ∃ l : List α, rows = l.map Q
  | [], rows, _, h => by simp at h; subst h; exact ⟨[], rfl⟩
  | d :: ds, rows, hf, h => by
    simp only [List.mapM_cons] at h
    cases h1 : f d with
    | none => simp [h1] at h
    | some row =>
      cases h2 : ds.mapM f with
      | none => simp [h1, h2] at h
      | some rows' =>
        simp [h1, h2] at h
        subst h
        obtain ⟨a, rfl⟩ := hf d row h1
        obtain ⟨l, rfl⟩ := list_of Q hf h2
        exact ⟨a :: l, rfl⟩

theorem slice_of {α : Type} {n : Nat} {t e : TypeId} (ht : P.underlying t = some (.slice e)) (Q : α → List AV) (hf : ∀ (d : DataW H) row, avs P n e d = some row → ∃ a, row = Q a) {d : DataW H} {cs : List AV} (h : avs P (n + 1) t d = some cs) :
    ∃ (l : List α) (x : AV), cs = [x] ∧ Wk x (.vs (P.cellsOf e) false (l.map Q)) := by
  cases d <;> simp [avs, ht] at h
  · subst h; exact ⟨[], _, rfl, .nil _ _⟩
  · obtain ⟨rows, h, rfl⟩ := h
    obtain ⟨l, rfl⟩ := list_of Q hf h
    exact ⟨l, _, rfl, .refl _⟩

theorem graph_of {n : Nat} (hI : P.underlying tI = some (.int .i64)) (hE : St3 P tE tI tI tI) (hEs : P.underlying tEs = some (.slice tE)) (hIs : P.underlying tIs = some (.slice tI)) (cE : P.cellsOf tE = 3) (cI : P.cellsOf tI = 1) (hG : St3 P tG tI tEs tIs)
    {d : DataW H} {x : AV} (h : argAV P (n + 4) tG d = some x) : ∃ g : Gr, Wk x (eG g) ∧ Fit g.size := by
  have h' : ∃ cs, avs P (n + 4) tG d = some cs ∧ .agg cs = x := by
    obtain ⟨f1, f2, f3, hu, _⟩ := hG
    simpa only [argAV, hu, Option.map_eq_some_iff] using h
  clear h
  obtain ⟨cs, h, rfl⟩ := h'
  obtain ⟨d1, d2, d3, c1, c2, c3, h1, h2, h3, rfl⟩ := three_of hG h
  obtain ⟨x1, rfl, f1⟩ := int_of hI h1
  obtain ⟨x2, y2, rfl, w2⟩ := slice_of hEs (fun e : Ed => eC e) (fun d row h => edge_of hI hE h) h2
  obtain ⟨x3, y3, rfl, w3⟩ := slice_of hIs (fun x : Int => [AV.I x]) (fun d row h => by obtain ⟨x, h, _⟩ := int_of hI h; exact ⟨x, h⟩) h3
  rw [cE] at w2
  rw [cI] at w3
  refine ⟨⟨x1, x2, x3⟩, .agg _ _ rfl fun i => ?_, f1⟩
  match i with
  | 0 => exact .refl _
  | 1 => exact w2
  | 2 => exact w3
  | _ + 3 => exact .refl _

theorem edgeArg_of {n : Nat} (hI : P.underlying tI = some (.int .i64)) (hE : St3 P tE tI tI tI) {d : DataW H} {x : AV} (h : argAV P (n + 2) tE d = some x) : ∃ e : Ed, x = eE e := by
  have h' : ∃ cs, avs P (n + 2) tE d = some cs ∧ .agg cs = x := by
    obtain ⟨f1, f2, f3, hu, _⟩ := hE
    simpa only [argAV, hu, Option.map_eq_some_iff] using h
  clear h
  obtain ⟨cs, h, rfl⟩ := h'
  obtain ⟨e, rfl⟩ := edge_of hI hE h
  exact ⟨e, rfl⟩
end

end Go.Proofs.Ytnphfkceoklkkaa

/- Numbers and lists of numbers as arguments of a law. -/
namespace Go.Proofs.Ytnphfkceoklkkaa
open Go

theorem ownK : ownKnob Try.prog.godebug = none := by kernel_rfl
theorem laidK : laidOutB Try.prog = true := by kernel_rfl

section
variable {H : Type} {P : Program} {tI tIs : TypeId}

theorem intArg_of {n : Nat} (hI : P.underlying tI = some (.int .i64)) {d : DataW H} {x : AV} (h : argAV P (n + 1) tI d = some x) : ∃ k : Int, x = .I k ∧ Fit k := by
  simp only [argAV, hI, Option.bind_eq_some_iff] at h
  obtain ⟨cs, h1, h2⟩ := h
  obtain ⟨k, rfl, hf⟩ := int_of hI h1
  simp at h2
  exact ⟨k, h2.symm, hf⟩

theorem intsArg_of {n : Nat} (hI : P.underlying tI = some (.int .i64)) (hIs : P.underlying tIs = some (.slice tI)) (cI : P.cellsOf tI = 1) {d : DataW H} {x : AV} (h : argAV P (n + 2) tIs d = some x) : ∃ l : List Int, Wk x (ints l) := by
  simp only [argAV, hIs, Option.bind_eq_some_iff] at h
  obtain ⟨cs, h1, h2⟩ := h
  obtain ⟨l, y, rfl, hw⟩ := slice_of hIs (fun x : Int => [AV.I x]) (fun d row h => by obtain ⟨x, h, _⟩ := int_of hI h; exact ⟨x, h⟩) h1
  rw [cI] at hw
  simp at h2
  subst h2
  exact ⟨l, hw⟩

theorem args1 {n : Nat} {a : TypeId} {ds : List (DataW H)} {xs : List AV} (h : argsAV P n [a] ds = some xs) : ∃ (d1 : DataW H) (x1 : AV), ds = [d1] ∧ xs = [x1] ∧ argAV P n a d1 = some x1 := by
  match ds, h with
  | [], h => cases h
  | _ :: _ :: _, h => simp only [argsAV] at h; split at h <;> simp_all
  | [d1], h =>
    simp only [argsAV] at h
    cases h1 : argAV P n a d1 with
    | none => simp [h1] at h
    | some x1 =>
      simp [h1] at h
      exact ⟨d1, x1, rfl, h.symm, h1⟩

theorem args2 {n : Nat} {a b : TypeId} {ds : List (DataW H)} {xs : List AV} (h : argsAV P n [a, b] ds = some xs) : ∃ (d1 d2 : DataW H) (x1 x2 : AV), ds = [d1, d2] ∧ xs = [x1, x2] ∧ argAV P n a d1 = some x1 ∧ argAV P n b d2 = some x2 := by
  match ds, h with
  | [], h => cases h
  | [_], h => simp only [argsAV] at h; split at h <;> simp_all
  | _ :: _ :: _ :: _, h => simp only [argsAV] at h; split at h <;> simp_all
  | [d1, d2], h =>
    simp only [argsAV] at h
    cases h1 : argAV P n a d1 with
    | none => simp [h1] at h
    | some x1 =>
      cases h2 : argAV P n b d2 with
      | none => simp [h1, h2] at h
      | some x2 =>
        simp [h1, h2] at h
        exact ⟨d1, d2, x1, x2, rfl, h.symm, h1, h2⟩

end

end Go.Proofs.Ytnphfkceoklkkaa

/- The reference's answer: a graph with an edge. -/
namespace Go.Proofs.Ytnphfkceoklkkaa
open Go

theorem take_map_len {α β : Type} (f : α → β) (l : List α) : List.take l.length (List.map f l) = List.map f l := List.take_of_length_le (by simp)

def emptyG : Gr := ⟨0, [], []⟩

/-- A graph with one edge more. -/
def plusE (g : Gr) (e : Ed) : Gr := ⟨g.size, g.edges.take (idxE g.edges ⟨e.f, e.t, 0⟩) ++ e :: g.edges.drop (idxE g.edges ⟨e.f, e.t, 0⟩), g.gone⟩

open Classical in
noncomputable def withR (g : Gr) (e : Ed) : Gr × Int :=
  if ¬ GrOk g then (emptyG, 14) else if ¬ Fits g e then (emptyG, 4) else if ¬ (1 ≤ e.v ∧ e.v ≤ 3) then (emptyG, 2)
  else if AtE g.edges (idxE g.edges ⟨e.f, e.t, 0⟩) e.f e.t then (emptyG, 19) else if g.edges.length = 500 then (emptyG, 3) else (plusE g e, 0)

open Classical in
theorem ref11_With_ok (g : Gr) (e : Ed) (hl : g.edges.length * 24 ≤ 140737488355328) (hl2 : g.gone.length * 8 ≤ 140737488355328) : ACalls Try.prog nref11_With [eG g, eE e] [] (.tup [eG (withR g e).1, .I (withR g e).2]) [] := by
  refine sref11_With.acalls (Nat.le_of_ble_eq_true rfl) (Nat.le_of_ble_eq_true rfl) (Nat.le_refl _) ?_
  show awp _ 0 _ _ ⟨103, [(0, eG g), (1, eE e)], [], 16⟩
  refine awp_regc ⟨103, [(2, .pv (gC g)), (3, .pv (eC e)), (4, .pt 32 0 0)], [(32, some ⟨3, [[.I 0, .nilS, .nilS]], 0⟩)], 40⟩ rfl ?_ ?_
  · simp
    exact Le.var1 32 [16, 24] rfl rfl (Nat.le_of_ble_eq_true rfl) (by decide) rfl (by simp) (by simp) (by simp)
  refine awp_seq ?_
  refine awp_seq ?_
  refine awp_run (s := ?s1) rfl ?o1 ?q1
  case o1 => simp; refine call0e (ref11_Check_ok g (by omega) (by omega)) rfl ?_; simp; rfl
  refine awp_cond _ rfl (fun h2 => ?_) fun h2 => ?_
  · have hg : ¬ GrOk g := by
      intro hg
      simp [hg] at h2
    refine awp_seq ?_
    refine awp_run (s := ?s3) rfl ?o3 ?q3
    case o3 => simp; rfl
    refine awp_ret ?_
    refine ⟨.inr rfl, ?_⟩
    show RetOk [(4, some (true, 3)), (5, none)] 0 _ _ _
    refine RetOk.out (vs := [.agg [.I 0, .nilS, .nilS], .I 14]) [] [] (by simp) (by simp) (by simp) ?_ (by simp)
    have hr : withR g e = (emptyG, 14) := by grind [withR]
    simp [hr, emptyG]
    exact wkT2 (wkA3 (.refl _) (.nil _ _) (.nil _ _)) (.refl _)
  have hg : GrOk g := by
    rcases Classical.em (GrOk g) with h | h
    · exact h
    · simp [h] at h2
  refine awp_skip ?_
  refine awp_seq ?_
  refine awp_run (s := ?s4) rfl ?o4 ?q4
  case o4 => simp; refine call0e (ref11_index_ok g _ _ (by omega)) rfl ?_; simp; rfl
  refine awp_seq ?_
  refine awp_block ?_
  refine awp_regc ⟨103, [(2, .pv (gC g)), (3, .pv (eC e)), (4, .pt 32 0 0), (6, .I (idxE g.edges ⟨e.f, e.t, 0⟩)), (7, .B (decide (AtE g.edges (idxE g.edges ⟨e.f, e.t, 0⟩) e.f e.t))), (22, .B (decide (¬ Fits g e)))], [(32, some ⟨3, [[.I 0, .nilS, .nilS]], 0⟩)], 40⟩ rfl ?_ ?_
  · simp
    repeat' first
      | (refine callf nref11_Has rfl ?_; refine call0e (has_ok _ _ (by omega)) rfl ?_; simp)
      | (refine gcase (fun hb => ?_) (fun hb => ?_) <;> (try rw [hb]) <;> (try simp at hb) <;> simp [*])
    all_goals exact Le.var1 32 [] rfl rfl (Nat.le_of_ble_eq_true rfl) (by decide) rfl (by simp) (by simp) (by simp <;> exact wkB (by (try simp at *); grind [Fits]))
  refine awp_cond _ rfl (fun h5 => ?_) fun h5 => ?_
  · try simp at h5
    refine awp_seq ?_
    refine awp_run (s := ?s6) rfl ?o6 ?q6
    case o6 => simp; rfl
    refine awp_ret ?_
    refine ⟨.inr rfl, ?_⟩
    show RetOk [(4, some (true, 3)), (5, none)] 0 _ _ _
    refine RetOk.out (vs := [.agg [.I 0, .nilS, .nilS], .I 4]) [] [] (by simp) (by simp) (by simp) ?_ (by simp)
    have hr : withR g e = (emptyG, 4) := by grind [withR]
    simp [hr, emptyG]
    exact wkT2 (wkA3 (.refl _) (.nil _ _) (.nil _ _)) (.refl _)
  try simp at h5
  refine awp_regc ⟨103, [(2, .pv (gC g)), (3, .pv (eC e)), (4, .pt 32 0 0), (6, .I (idxE g.edges ⟨e.f, e.t, 0⟩)), (7, .B (decide (AtE g.edges (idxE g.edges ⟨e.f, e.t, 0⟩) e.f e.t))), (67, .B (decide (¬ (1 ≤ e.v ∧ e.v ≤ 3))))], [(32, some ⟨3, [[.I 0, .nilS, .nilS]], 0⟩)], 40⟩ rfl ?_ ?_
  · simp
    repeat' first
      | (refine gcase (fun hb => ?_) (fun hb => ?_) <;> (try rw [hb]) <;> (try simp at hb) <;> simp [*])
    all_goals exact Le.var1 32 [] rfl rfl (Nat.le_of_ble_eq_true rfl) (by decide) rfl (by simp) (by simp) (by simp <;> exact wkB (by (try simp at *); grind [Fits]))
  refine awp_cond _ rfl (fun h7 => ?_) fun h7 => ?_
  · try simp at h7
    refine awp_seq ?_
    refine awp_run (s := ?s8) rfl ?o8 ?q8
    case o8 => simp; rfl
    refine awp_ret ?_
    refine ⟨.inr rfl, ?_⟩
    show RetOk [(4, some (true, 3)), (5, none)] 0 _ _ _
    refine RetOk.out (vs := [.agg [.I 0, .nilS, .nilS], .I 2]) [] [] (by simp) (by simp) (by simp) ?_ (by simp)
    have hr : withR g e = (emptyG, 2) := by grind [withR]
    simp [hr, emptyG]
    exact wkT2 (wkA3 (.refl _) (.nil _ _) (.nil _ _)) (.refl _)
  try simp at h7
  refine awp_seq ?_
  refine awp_run (s := ?s9) rfl ?o9 ?q9
  case o9 => simp; rfl
  refine awp_cond _ rfl (fun h10 => ?_) fun h10 => ?_
  · try simp at h10
    refine awp_seq ?_
    refine awp_run (s := ?s11) rfl ?o11 ?q11
    case o11 => simp; rfl
    refine awp_ret ?_
    refine ⟨.inr rfl, ?_⟩
    show RetOk [(4, some (true, 3)), (5, none)] 0 _ _ _
    refine RetOk.out (vs := [.agg [.I 0, .nilS, .nilS], .I 19]) [] [] (by simp) (by simp) (by simp) ?_ (by simp)
    have hr : withR g e = (emptyG, 19) := by grind [withR]
    simp [hr, emptyG]
    exact wkT2 (wkA3 (.refl _) (.nil _ _) (.nil _ _)) (.refl _)
  try simp at h10
  refine awp_seq ?_
  refine awp_run (s := ?s12) rfl ?o12 ?q12
  case o12 => simp; rfl
  refine awp_cond _ rfl (fun h13 => ?_) fun h13 => ?_
  · try simp at h13
    refine awp_seq ?_
    refine awp_run (s := ?s14) rfl ?o14 ?q14
    case o14 => simp; rfl
    refine awp_ret ?_
    refine ⟨.inr rfl, ?_⟩
    show RetOk [(4, some (true, 3)), (5, none)] 0 _ _ _
    refine RetOk.out (vs := [.agg [.I 0, .nilS, .nilS], .I 3]) [] [] (by simp) (by simp) (by simp) ?_ (by simp)
    have hr : withR g e = (emptyG, 3) := by grind [withR]
    simp [hr, emptyG]
    exact wkT2 (wkA3 (.refl _) (.nil _ _) (.nil _ _)) (.refl _)
  try simp at h13
  refine awp_skip ?_
  have hle := idxE_le g.edges ⟨e.f, e.t, 0⟩
  refine awp_seq ?_
  refine awp_run (s := ?s20) rfl ?o20 ?q20
  case o20 => simp; refine callN2 (ref11_Copy_ok g hl hl2) rfl ?_; simp [Function.comp_def]; rfl
  have h500 : g.edges.length ≤ 500 := hg.1.2.2.1
  have hmin : min (idxE g.edges ⟨e.f, e.t, 0⟩) g.edges.length = idxE g.edges ⟨e.f, e.t, 0⟩ := Nat.min_eq_left hle
  have hr : withR g e = (plusE g e, 0) := by grind [withR]
  rw [hr]
  unfold plusE
  generalize idxE g.edges ⟨e.f, e.t, 0⟩ = k at *
  have htk : List.take (k + 1) (List.take k (List.map (fun e : Ed => [AV.I e.f, AV.I e.t, AV.I e.v]) g.edges) ++ [[AV.I e.f, AV.I e.t, AV.I e.v]]) = List.take k (List.map (fun e : Ed => [AV.I e.f, AV.I e.t, AV.I e.v]) g.edges) ++ [[AV.I e.f, AV.I e.t, AV.I e.v]] := List.take_of_length_le (by simp; exact Nat.min_le_left _ _)
  obtain ⟨E, hE⟩ : ∃ E, E = g.edges.take k ++ e :: g.edges.drop k := ⟨_, rfl⟩
  have hEl : k + 1 + (g.edges.length - k) = E.length := by subst hE; simp; omega
  have hrows : List.take k (List.map (fun e : Ed => [AV.I e.f, AV.I e.t, AV.I e.v]) g.edges) ++ [AV.I e.f, AV.I e.t, AV.I e.v] :: List.drop k (List.map (fun e : Ed => [AV.I e.f, AV.I e.t, AV.I e.v]) g.edges) = E.map fun e : Ed => [AV.I e.f, AV.I e.t, AV.I e.v] := by subst hE; simp [List.map_take, List.map_drop]
  rw [← hE]
  refine awp_seq ?_
  refine awp_drun (s := ?s15) (tr := ?t15) rfl ?o15 ?r15 ?q15
  case o15 =>
    simp [hmin, hle, htk, hEl, hrows]
    repeat' apply And.intro
    all_goals first | omega | rfl
  case r15 => rfl
  refine awp_seq ?_
  refine awp_run (s := ?s16) rfl ?o16 ?q16
  case o16 => simp; rfl
  refine awp_ret ?_
  refine ⟨.inr rfl, ?_⟩
  show RetOk [(4, some (true, 3)), (5, none)] 0 _ _ _
  refine RetOk.out (vs := [.agg [.I g.size, .rs 224 0 E.length, .rs 105 0 g.gone.length], .I 0]) [] [224, 105] (by simp) (by simp) (by simp) ?_ (by simp)
  simp [Function.comp_def, take_map_len]

end Go.Proofs.Ytnphfkceoklkkaa

/- The reference's answer: a graph without an edge. -/
namespace Go.Proofs.Ytnphfkceoklkkaa
open Go

theorem k_slvl1 {P : Program} {np id : Nat} {h : Nat → Option Ent} {K : AV → List Nat → List (Nat × Option Ent) → Prop} {s s' : Nat} {f : Bool} {rows : List (List AV)} {k : Nat} : aK P np id (.slc s true false false) [.vs s' f rows, .sc (.int .i64 ((k : Int) + 1))] h K = (k + 1 ≤ rows.length ∧ s' = s ∧ K (.vs s f (rows.drop (k + 1))) [] []) := by
  have := k_slvl (P := P) (np := np) (id := id) (h := h) (K := K) (s := s) (s' := s') (f := f) (rows := rows) (k := k + 1)
  rw [← this]
  rfl

/-- A graph with one edge less. -/
def minusE (g : Gr) (f t : Int) : Gr := ⟨g.size, g.edges.take (idxE g.edges ⟨f, t, 0⟩) ++ g.edges.drop (idxE g.edges ⟨f, t, 0⟩ + 1), g.gone⟩

open Classical in
noncomputable def withoutR (g : Gr) (f t : Int) : Gr × Int :=
  if ¬ GrOk g then (emptyG, 14) else if ¬ AtE g.edges (idxE g.edges ⟨f, t, 0⟩) f t then (emptyG, 19) else (minusE g f t, 0)

open Classical in
theorem ref11_Without_ok (g : Gr) (f t : Int) (hl : g.edges.length * 24 ≤ 140737488355328) (hl2 : g.gone.length * 8 ≤ 140737488355328) : ACalls Try.prog nref11_Without [eG g, .I f, .I t] [] (.tup [eG (withoutR g f t).1, .I (withoutR g f t).2]) [] := by
  refine sref11_Without.acalls (Nat.le_of_ble_eq_true rfl) (Nat.le_of_ble_eq_true rfl) (Nat.le_refl _) ?_
  show awp _ 0 _ _ ⟨40, [(0, eG g), (1, .I f), (2, .I t)], [], 16⟩
  refine awp_regc ⟨40, [(1, .I f), (2, .I t), (3, .pv (gC g)), (6, .pt 24 0 0)], [(24, some ⟨3, [[.I 0, .nilS, .nilS]], 0⟩)], 32⟩ rfl ?_ ?_
  · simp
    exact Le.var1 24 [16] rfl rfl (Nat.le_of_ble_eq_true rfl) (by decide) rfl (by simp) (by simp) (by simp)
  refine awp_seq ?_
  refine awp_seq ?_
  refine awp_run (s := ?s1) rfl ?o1 ?q1
  case o1 => simp; refine call0e (ref11_Check_ok g (by omega) (by omega)) rfl ?_; simp; rfl
  refine awp_cond _ rfl (fun h2 => ?_) fun h2 => ?_
  · have hg : ¬ GrOk g := by
      intro hg
      simp [hg] at h2
    refine awp_seq ?_
    refine awp_run (s := ?s3) rfl ?o3 ?q3
    case o3 => simp; rfl
    refine awp_ret ?_
    refine ⟨.inr rfl, ?_⟩
    show RetOk [(6, some (true, 3)), (7, none)] 0 _ _ _
    refine RetOk.out (vs := [.agg [.I 0, .nilS, .nilS], .I 14]) [] [] (by simp) (by simp) (by simp) ?_ (by simp)
    have hr : withoutR g f t = (emptyG, 14) := by grind [withoutR]
    simp [hr, emptyG]
    exact wkT2 (wkA3 (.refl _) (.nil _ _) (.nil _ _)) (.refl _)
  have hg : GrOk g := by
    rcases Classical.em (GrOk g) with h | h
    · exact h
    · simp [h] at h2
  refine awp_skip ?_
  refine awp_seq ?_
  refine awp_run (s := ?s4) rfl ?o4 ?q4
  case o4 => simp; refine call0e (ref11_index_ok g _ _ (by omega)) rfl ?_; simp; rfl
  refine awp_seq ?_
  refine awp_seq ?_
  refine awp_run (s := ?s5) rfl ?o5 ?q5
  case o5 => simp; rfl
  refine awp_cond _ rfl (fun h6 => ?_) fun h6 => ?_
  · try simp at h6
    refine awp_seq ?_
    refine awp_run (s := ?s7) rfl ?o7 ?q7
    case o7 => simp; rfl
    refine awp_ret ?_
    refine ⟨.inr rfl, ?_⟩
    show RetOk [(6, some (true, 3)), (7, none)] 0 _ _ _
    refine RetOk.out (vs := [.agg [.I 0, .nilS, .nilS], .I 19]) [] [] (by simp) (by simp) (by simp) ?_ (by simp)
    have hr : withoutR g f t = (emptyG, 19) := by grind [withoutR]
    simp [hr, emptyG]
    exact wkT2 (wkA3 (.refl _) (.nil _ _) (.nil _ _)) (.refl _)
  try simp at h6
  refine awp_skip ?_
  have h500 : g.edges.length ≤ 500 := hg.1.2.2.1
  have hr : withoutR g f t = (minusE g f t, 0) := by grind [withoutR]
  rw [hr]
  unfold minusE
  have hle : idxE g.edges ⟨f, t, 0⟩ + 1 ≤ g.edges.length := by
    obtain ⟨h, _⟩ := h6
    omega
  clear h6 hr
  generalize idxE g.edges ⟨f, t, 0⟩ = k at *
  have hle' : k ≤ g.edges.length := by omega
  have hw : IntKind.i64.wrap ((k : Int) + 1) = (k : Int) + 1 := w64 (by omega) (by omega)
  have hmin : min k g.edges.length = k := Nat.min_eq_left hle'
  obtain ⟨E, hE⟩ : ∃ E, E = g.edges.take k ++ g.edges.drop (k + 1) := ⟨_, rfl⟩
  have hEl : k + (g.edges.length - (k + 1)) = E.length := by subst hE; simp; omega
  have hrows : List.take k (List.map (fun e : Ed => [AV.I e.f, AV.I e.t, AV.I e.v]) g.edges) ++ List.drop (k + 1) (List.map (fun e : Ed => [AV.I e.f, AV.I e.t, AV.I e.v]) g.edges) = E.map fun e : Ed => [AV.I e.f, AV.I e.t, AV.I e.v] := by subst hE; simp [List.map_take, List.map_drop]
  have htk : List.take k (List.take k (List.map (fun e : Ed => [AV.I e.f, AV.I e.t, AV.I e.v]) g.edges)) = List.take k (List.map (fun e : Ed => [AV.I e.f, AV.I e.t, AV.I e.v]) g.edges) := List.take_of_length_le (by simp; exact Nat.min_le_left _ _)
  rw [← hE]
  refine awp_seq ?_
  refine awp_run (s := ?s20) rfl ?o20 ?q20
  case o20 => simp; refine callN2 (ref11_Copy_ok g hl hl2) rfl ?_; simp [Function.comp_def]; rfl
  refine awp_seq ?_
  refine awp_drun (s := ?s15) (tr := ?t15) rfl ?o15 ?r15 ?q15
  case o15 =>
    simp [hmin, hle, hle', htk, hEl, hrows, hw, k_slvl1]
    repeat' apply And.intro
    all_goals first | omega | rfl
  case r15 => rfl
  refine awp_seq ?_
  refine awp_run (s := ?s16) rfl ?o16 ?q16
  case o16 => simp; rfl
  refine awp_ret ?_
  refine ⟨.inr rfl, ?_⟩
  show RetOk [(6, some (true, 3)), (7, none)] 0 _ _ _
  refine RetOk.out (vs := [.agg [.I g.size, .rs 256 0 E.length, .rs 153 0 g.gone.length], .I 0]) [] [256, 153] (by simp) (by simp) (by simp) ?_ (by simp)
  simp [Function.comp_def, take_map_len]

end Go.Proofs.Ytnphfkceoklkkaa

/-
  DERIVED: THE SHELF's CONTRACTS AT THIS DUMP, IN PLAIN WORDS (tools/lay-plain.mjs out of 'YtnphfkceoklkkaaShelf.lean', which tools/lay-shelf.mjs wrote): THE SAME DECLARATIONS UNDER THE SAME NAMES: 'import', 'namespace', 'open', 'def', 'theorem' AND NOTHING ELSE: no command of the shelf's: FOR A HAND-IN. Each laying: the table of numbers ('.._ren') and one theorem, a field a fact of the dump's own or the kernel's comparison; each contract: ONE APPLICATION.
-/
namespace Go.Proofs
open Go.Shelf
def Try.lays189_ren : Go.Shelf.Ren := ⟨fun | 189 => 70 | 125 => 127 | 257 => 126 | 128 => 160 | 129 => 161 | 294 => 151 | 295 => 152 | 296 => 153 | 297 => 154 | 298 => 155 | 299 => 156 | 216 => 157 | 300 => 158 | 301 => 159 | 328 => 172 | 329 => 173 | 330 => 174 | 331 => 175 | 332 => 176 | 215 => 137 | 343 => 180 | n => n, fun | 28 => 22 | 3 => 3 | 46 => 128 | 0 => 0 | 51 => 142 | 53 => 144 | 4 => 4 | 183 => 155 | 182 => 154 | 131 => 94 | 5 => 5 | 9 => 9 | 218 => 171 | 222 => 175 | 228 => 178 | 229 => 179 | n => n, fun | n => n⟩
theorem Try.lays189 : Go.Proofs.Lays.n189 Try.prog Try.lays189_ren := {
  mixed := by kernel_rfl
  f125 := Try.func127.trans (congrArg some (by kernel_rfl))
  f128 := Try.func160.trans (congrArg some (by kernel_rfl))
  f129 := Try.func161.trans (congrArg some (by kernel_rfl))
  f189 := Try.func70.trans (congrArg some (by kernel_rfl))
  f215 := Try.func137.trans (congrArg some (by kernel_rfl))
  f216 := Try.func157.trans (congrArg some (by kernel_rfl))
  f257 := Try.func126.trans (congrArg some (by kernel_rfl))
  f294 := Try.func151.trans (congrArg some (by kernel_rfl))
  f295 := Try.func152.trans (congrArg some (by kernel_rfl))
  f296 := Try.func153.trans (congrArg some (by kernel_rfl))
  f297 := Try.func154.trans (congrArg some (by kernel_rfl))
  f298 := Try.func155.trans (congrArg some (by kernel_rfl))
  f299 := Try.func156.trans (congrArg some (by kernel_rfl))
  f300 := Try.func158.trans (congrArg some (by kernel_rfl))
  f301 := Try.func159.trans (congrArg some (by kernel_rfl))
  f328 := Try.func172.trans (congrArg some (by kernel_rfl))
  f329 := Try.func173.trans (congrArg some (by kernel_rfl))
  f330 := Try.func174.trans (congrArg some (by kernel_rfl))
  f331 := Try.func175.trans (congrArg some (by kernel_rfl))
  f332 := Try.func176.trans (congrArg some (by kernel_rfl))
  f343 := Try.func180.trans (congrArg some (by kernel_rfl))
  t0 := Try.underlying0
  a0 := Try.isAgg0
  z0 := Try.sizeOf0
  v0 := Try.zeroValue0
  t3 := Try.underlying3
  a3 := Try.isAgg3
  z3 := Try.sizeOf3
  v3 := Try.zeroValue3
  t4 := Try.underlying4
  a4 := Try.isAgg4
  z4 := Try.sizeOf4
  v4 := Try.zeroValue4
  t5 := Try.underlying5
  a5 := Try.isAgg5
  z5 := Try.sizeOf5
  v5 := Try.zeroValue5
  t9 := Try.underlying9
  a9 := Try.isAgg9
  z9 := Try.sizeOf9
  v9 := Try.zeroValue9
  t28 := Try.underlying22
  a28 := Try.isAgg22
  z28 := Try.sizeOf22
  v28 := Try.zeroValue22
  t46 := Try.underlying128
  a46 := Try.isAgg128
  z46 := Try.sizeOf128
  v46 := Try.zeroValue128
  t51 := Try.underlying142
  a51 := Try.isAgg142
  z51 := Try.sizeOf142
  v51 := Try.zeroValue142
  t53 := Try.underlying144
  a53 := Try.isAgg144
  z53 := Try.sizeOf144
  v53 := Try.zeroValue144
  t131 := Try.underlying94
  a131 := Try.isAgg94
  z131 := Try.sizeOf94
  v131 := Try.zeroValue94
  t182 := Try.underlying154
  a182 := Try.isAgg154
  z182 := Try.sizeOf154
  v182 := Try.zeroValue154
  t183 := Try.underlying155
  a183 := Try.isAgg155
  z183 := Try.sizeOf155
  v183 := Try.zeroValue155
  t218 := Try.underlying171
  a218 := Try.isAgg171
  z218 := Try.sizeOf171
  v218 := Try.zeroValue171
  t222 := Try.underlying175
  a222 := Try.isAgg175
  z222 := Try.sizeOf175
  v222 := Try.zeroValue175
  t228 := Try.underlying178
  a228 := Try.isAgg178
  z228 := Try.sizeOf178
  v228 := Try.zeroValue178
  t229 := Try.underlying179
  a229 := Try.isAgg179
  z229 := Try.sizeOf179
  v229 := Try.zeroValue179 }
end Go.Proofs

/- The library's sort of ints: the shelf's contract, as one of the value-level machine. -/
namespace Go.Proofs.Ytnphfkceoklkkaa
open Go

def iRows (l : List Int) : List (List AV) := l.map fun n => [AV.I n]

theorem Src.body {P : Program} {f : FuncId} {af : AFun} (s : Src P f af) : ∃ fn c, P.funcs[f]? = some fn ∧ fn.body = some c ∧ fn.name ≠ "runtime.NumGoroutine" := by
  obtain ⟨_, fn, hf, hc, hn⟩ := s
  unfold compF at hc
  cases hb : fn.body with
  | none => rw [hb] at hc; cases hc
  | some c => exact ⟨fn, c, hf, hb, hn⟩

theorem sort_some (zs : List Int) (h0 : zs ≠ []) (hl : zs.length < 4611686018427387904) :
    ACalls Try.prog nslices_Sort_Lint_int [.rs 0 0 zs.length] [{ s := 1, rows := iRows zs }] (.tup []) ([{ s := 1, rows := iRows (zs.mergeSort fun x y => decide (x ≤ y)) }].map some) := by
  refine ⟨sslices_Sort_Lint_int.body, by simp, fun T M w vs htok hhs hdom hrep => ?_⟩
  have hpos : 0 < zs.length := List.length_pos_iff.2 h0
  obtain ⟨hsz, hr⟩ := hrep
  have hr0 := hr 0 (by simp)
  simp only [List.getD_cons_zero] at hr0
  have hvs : vs = #[vs.getD 0 undef] := by
    apply Array.ext
    · simpa using hsz
    · intro i h1 h2
      have : i = 0 := by simp at h2; omega
      subst this
      simp [Array.getD, h1]
  rw [hvs]
  generalize vs.getD 0 undef = v at hr0
  cases hr0 with
  | rs _ _ _ _ cap a g hg hlc hn hb =>
  obtain ⟨g', hg', ent⟩ := hhs.ent 0 _ rfl
  rw [hg] at hg'
  obtain rfl := Option.some.inj hg'
  have hrl : (iRows zs).length = zs.length := by simp [iRows]
  cases hblk : g.blk with
  | none =>
    have := ent.none hblk
    simp [iRows] at this
    exact absurd this h0
  | some b =>
  obtain ⟨hcap, c0, t0, f0, hc0, hle0⟩ := hb b hblk
  obtain ⟨cells, ty, hw, htb, hlen, hrows⟩ := ent.blk b hblk
  have ha : a = some ⟨b, g.base + 0 * g.s, none⟩ := by
    rcases hcap with h | h
    · omega
    · exact h
  subst ha
  simp only [Nat.zero_mul, Nat.add_zero] at *
  have hcell : ∀ i, (hi : i < zs.length) → cells[g.base + i]? = some (.int .i64 zs[i]) := by
    intro i hi
    obtain ⟨u, hu, _, hru⟩ := hrows i 0 (by rw [hrl]; exact hi) (by decide)
    simp only [Nat.mul_one, Nat.add_zero] at hu
    rw [hu]
    have : ((iRows zs).getD i []).getD 0 .dead = .I zs[i] := by simp [iRows, List.getD, hi]
    rw [this] at hru
    cases hru
    rfl
  have hb' : b < w.heap.size := (Array.getElem?_eq_some_iff.1 hw).1
  refine (Any.slices_Sort_int Try.lays189 b g.base cap zs w ?_ hb' hl).mono ?_
  · intro j hj
    have hj' : j < zs.length := by simpa using hj
    constructor
    · show w.cell? _ = _
      unfold World.cell?
      simp only [hw]
      rw [hcell j hj']
      simp [hj']
    · unfold World.frozen?
      simp only [hw]
      simp
  · rintro e w' ⟨rfl, n, os, rfl⟩
    have hsl : (zs.mergeSort fun x y => decide (x ≤ y)).length = zs.length := List.length_mergeSort zs
    generalize (zs.mergeSort fun x y => decide (x ≤ y)) = ys at hsl
    have hh : ∀ b', b' < w.heap.size → (Go.Sort.grow (Go.Sort.putRow (Value.int .i64) (Go.Sort.ahead w n) b g.base ys.toArray) os).heap[b']? = if b' = b then some (.cells (Go.Sort.putCells (Value.int .i64) g.base ys.toArray cells) ty (0, 0)) else w.heap[b']? := by
      intro b' hb1
      have hsz' : (w.heap.modify b (Go.Sort.onCells (Go.Sort.putCells (Value.int .i64) g.base ys.toArray))).size = w.heap.size := Array.size_modify
      show ((w.heap.modify b (Go.Sort.onCells (Go.Sort.putCells (Value.int .i64) g.base ys.toArray))) ++ os)[b']? = _
      rw [Array.getElem?_append_left (by rw [hsz']; exact hb1), Array.getElem?_modify]
      by_cases hbb : b = b'
      · subst hbb
        rw [if_pos rfl, if_pos rfl, hw]
        rfl
      · rw [if_neg hbb, if_neg (Ne.symm hbb)]
    have hput : ∀ o, (o < g.base ∨ g.base + ys.length ≤ o) → (Go.Sort.putCells (Value.int .i64) g.base ys.toArray cells)[o]? = cells[o]? := by
      intro o ho
      unfold Go.Sort.putCells
      rw [Array.getElem?_mapIdx]
      cases hc : cells[o]? with
      | none => rfl
      | some u =>
        simp only [Option.map_some]
        rw [if_neg]
        simp
        omega
    have hput2 : ∀ i, (hi : i < ys.length) → (Go.Sort.putCells (Value.int .i64) g.base ys.toArray cells)[g.base + i]? = some (.int .i64 ys[i]) := by
      intro i hi
      unfold Go.Sort.putCells
      rw [Array.getElem?_mapIdx, hcell i (by omega)]
      simp only [Option.map_some]
      rw [if_pos (by simp; omega)]
      simp [hi]
    have hcs : (Go.Sort.putCells (Value.int .i64) g.base ys.toArray cells).size = cells.size := by
      unfold Go.Sort.putCells
      exact Array.size_mapIdx
    have hbig : w.heap.size ≤ (Go.Sort.grow (Go.Sort.putRow (Value.int .i64) (Go.Sort.ahead w n) b g.base ys.toArray) os).heap.size := by
      show w.heap.size ≤ ((w.heap.modify b _) ++ os).size
      rw [Array.size_append, Array.size_modify]
      omega
    have htb' : T b ≤ g.base := by simpa using htb
    generalize hw' : (Go.Sort.grow (Go.Sort.putRow (Value.int .i64) (Go.Sort.ahead w n) b g.base ys.toArray) os) = w' at hh hbig
    have hlt : ∀ b' o, w.heap[b']? = some o → b' < w.heap.size := fun b' o h => (Array.getElem?_eq_some_iff.1 h).1
    have hpr : Pres T w T w' := by
      refine ⟨fun _ => Nat.le_refl _, fun b' cs' ty' fz' h => ?_⟩
      rw [hh b' (hlt _ _ h)]
      by_cases hbb : b' = b
      · subst hbb
        rw [hw] at h
        cases h
        exact ⟨_, _, if_pos rfl, hcs, fun o ho => hput o (.inl (by omega))⟩
      · exact ⟨cs', fz', by rw [if_neg hbb]; exact h, rfl, fun _ _ => rfl⟩
    rw [hpOut_some]
    refine ⟨_, T, M, rfl, .tup M [] #[] rfl (fun i hi => by simp at hi), ⟨fun id e he => ?_, fun id id' e e' g1 g2 b' h1 h2 h3 h4 h5 h6 => ?_⟩, ⟨fun b' hb1 => ?_, fun _ _ _ => rfl, fun _ _ => rfl, ?_, ?_, ?_, hbig, fun b' hb1 hb2 => ?_, hpr, fun k g1 b' hk hg1 _ => ?_⟩⟩
    · have hid : id = 0 := by
        cases id with
        | zero => rfl
        | succ k => simp [hpOf] at he
      subst hid
      simp only [hpOf, List.getElem?_cons_zero, Option.some.injEq] at he
      subst he
      refine ⟨g, hg, ⟨ent.s, Nat.zero_le _, fun row hr => ?_, fun hn => (by rw [hblk] at hn; cases hn), fun b' hb1 => ?_⟩⟩
      · simp [iRows] at hr
        obtain ⟨x, _, rfl⟩ := hr
        rfl
      · rw [hblk] at hb1
        obtain rfl := Option.some.inj hb1
        refine ⟨_, ty, by rw [hh _ hb', if_pos rfl], by simpa using htb', by simp [iRows, hcs, hsl]; simpa [iRows] using hlen, fun i j hi hj => ?_⟩
        have hi' : i < ys.length := by simpa [iRows] using hi
        have hj' : j = 0 := by simp at hj; omega
        subst hj'
        refine ⟨.int .i64 ys[i], by simpa using hput2 i hi', rfl, ?_⟩
        have : ((iRows ys).getD i []).getD 0 .dead = .I ys[i] := by simp [iRows, List.getD, hi']
        rw [this]
        exact .sc _ _ rfl
    · have h0 : ∀ id e, hpOf [({ s := 1, rows := iRows ys } : Ent)] id = some e → id = 0 := by
        intro id e he
        cases id with
        | zero => rfl
        | succ k => simp [hpOf] at he
      rw [h0 _ _ h1, h0 _ _ h2]
    · obtain ⟨c1, ty1, fz1, h1, h2⟩ := htok b' hb1
      obtain ⟨c2, fz2, h3, h4, _⟩ := hpr.cell b' c1 ty1 fz1 h1
      exact ⟨c2, ty1, fz2, h3, by omega⟩
    · rw [← hw']; rfl
    · rw [← hw']; rfl
    · rw [← hw']; rfl
    · rw [hh b' hb1, if_neg]
      intro hbb
      exact hb2 ⟨0, g, by simp, hg, by rw [hblk, hbb]⟩
    · rw [hdom k hk] at hg1
      cases hg1

end Go.Proofs.Ytnphfkceoklkkaa

/- The library's sort of ints: of none too. -/
namespace Go.Proofs.Ytnphfkceoklkkaa
open Go

theorem After.refl {n : Nat} {T : Nat → Nat} {M : GM} {w : World} (htok : TOk T w) (hdom : ∀ k, n ≤ k → M k = none) : After n T M w T M w :=
  ⟨htok, fun _ _ _ => rfl, fun _ _ => rfl, rfl, rfl, rfl, Nat.le_refl _, fun _ _ _ => rfl, ⟨fun _ => Nat.le_refl _, fun _ cells _ fz h => ⟨cells, fz, h, rfl, fun _ _ => rfl⟩⟩, fun k g b hk h => by rw [hdom k hk] at h; cases h⟩

theorem arr1 {vs : Array Value} (h : vs.size = 1) : vs = #[vs.getD 0 undef] := by
  apply Array.ext
  · simpa using h
  · intro i h1 h2
    have : i = 0 := by simp at h2; omega
    subst this
    simp [Array.getD, h1]

theorem sort_nil : ACalls Try.prog nslices_Sort_Lint_int [.nilS] [] (.tup []) [] := by
  refine ⟨sslices_Sort_Lint_int.body, by simp, fun T M w vs htok hhs hdom hrep => ?_⟩
  obtain ⟨hsz, hr⟩ := hrep
  have hr0 := hr 0 (by simp)
  simp only [List.getD_cons_zero] at hr0
  rw [arr1 hsz]
  generalize vs.getD 0 undef = v at hr0
  cases hr0
  refine (Any.slices_Sort_int_none Try.lays189 none 0 w).mono ?_
  rintro e w' ⟨rfl, rfl⟩
  exact ⟨_, T, M, rfl, .tup M [] #[] rfl (fun i hi => by simp at hi), by rw [show ([] : List (Option Ent)) = List.map some [] from rfl, hpOut_some]; exact hhs, After.refl htok hdom⟩

theorem sort_ok (zs : List Int) (hl : zs.length < 4611686018427387904) :
    ACalls Try.prog nslices_Sort_Lint_int [.rs 0 0 zs.length] [{ s := 1, rows := iRows zs }] (.tup []) ([{ s := 1, rows := iRows (zs.mergeSort fun x y => decide (x ≤ y)) }].map some) := by
  by_cases h0 : zs = []
  · subst h0
    refine ⟨sslices_Sort_Lint_int.body, by simp, fun T M w vs htok hhs hdom hrep => ?_⟩
    obtain ⟨hsz, hr⟩ := hrep
    have hr0 := hr 0 (by simp)
    simp only [List.getD_cons_zero] at hr0
    rw [arr1 hsz]
    generalize vs.getD 0 undef = v at hr0
    cases hr0 with
    | rs _ _ _ _ cap a g hg hlc hn hb =>
    refine (Any.slices_Sort_int_none Try.lays189 a cap w).mono ?_
    rintro e w' ⟨rfl, rfl⟩
    exact ⟨_, T, M, rfl, .tup M [] #[] rfl (fun i hi => by simp at hi), by rw [hpOut_some]; simpa using hhs, After.refl htok hdom⟩
  · exact sort_some zs h0 hl

end Go.Proofs.Ytnphfkceoklkkaa

/- From where, and to where, edges lead. -/
namespace Go.Proofs.Ytnphfkceoklkkaa
open Go

def outs (l : List Ed) (key : Int) : List Int := l.filterMap fun e => if e.f = key then some e.t else none

theorem outs_succ (l : List Ed) (key : Int) (k : Nat) (h : k < l.length) : outs (l.take (k + 1)) key = outs (l.take k) key ++ if l[k].f = key then [l[k].t] else [] := by
  unfold outs
  rw [← List.take_concat_get h, List.concat_eq_append, List.filterMap_append]
  congr 1
  by_cases hc : l[k].f = key <;> simp [hc]

theorem outs_le (l : List Ed) (key : Int) : (outs l key).length ≤ l.length := List.length_filterMap_le _ _

theorem graph_Out_ok (g : Gr) (key : Int) (hl : g.edges.length ≤ 1099511627776) : ACalls Try.prog ngraph_Out [eG g, .I key] [] (.rs 0 0 (outs g.edges key).length) [some ⟨1, ((outs g.edges key).mergeSort fun x y => decide (x ≤ y)).map fun n => [AV.I n], 0⟩] := by
  refine sgraph_Out.acalls (Nat.le_of_ble_eq_true rfl) (Nat.le_of_ble_eq_true rfl) (Nat.zero_le _) ?_
  show awp _ 0 _ _ ⟨28, [(0, eG g), (1, .I key)], [], 16⟩
  refine awp_seq ?_
  refine awp_run (s := ?s0) rfl ?o0 ?q0
  case o0 => simp; rfl
  refine awp_seq ?_
  refine awp_run (s := ?s1) rfl ?o1 ?q1
  case o1 => simp; rfl
  refine awp_seq ?_
  refine awp_seq ?_
  refine awp_run (s := ?s2) rfl ?o2 ?q2
  case o2 => simp; rfl
  refine awp_block ?_
  refine awp_loop (ι := Nat) (fun k => ⟨28, [(1, .I key), (5, .rs 16 0 (outs (g.edges.take k) key).length), (9, eEs g.edges), (10, .I g.edges.length), (11, .I k)], [(16, some ⟨1, (outs (g.edges.take k) key).map fun n => [AV.I n], 0⟩)], 24⟩) (fun k => k ≤ g.edges.length) (fun k => g.edges.length - k) (0) ?_ (Le.lst [] [] [(16, 1)] rfl (by simp) (by simp) (by simp) (by simp) (by simp) (by simp) (by simp) (by simp [Up, outs]) (by simp [outs])) ?_
  · simp
  rintro k hk
  have hol : (outs (g.edges.take k) key).length ≤ k := Nat.le_trans (outs_le _ _) (by simp; exact Nat.min_le_left _ _)
  refine awp_seq ?_
  refine awp_run (s := ?s3) rfl ?o3 ?q3
  case o3 => simp; rfl
  refine awp_seq ?_
  refine awp_cond _ rfl (fun h4 => ?_) fun h4 => ?_
  · try simp at h4
    have hw2 : IntKind.i64.wrap ((k : Int) + 1) = (k : Int) + 1 := w64 (by omega) (by omega)
    have hwp : 0 < k → IntKind.i64.wrap ((k : Int) - 1) = ((k - 1 : Nat) : Int) := fun h => by rw [w64 (by omega) (by omega)]; omega
    have hkp : k - 1 < g.edges.length := by omega
    refine awp_skip ?_
    refine awp_seq ?_
    refine awp_block ?_
    refine awp_regc ⟨28, [(1, .I key), (5, .rs 16 0 (outs (g.edges.take k) key).length), (7, .pv (eC g.edges[k])), (9, eEs g.edges), (10, .I g.edges.length), (11, .I k)], [(16, some ⟨1, (outs (g.edges.take k) key).map fun n => [AV.I n], 0⟩)], 24⟩ rfl ?_ ?_
    · simp [h4, hw2, hwp, hkp]
      exact Le.var1 16 [48] rfl rfl (Nat.le_of_ble_eq_true rfl) (by decide) rfl (by simp [Function.comp_def]) (by simp) (by simp [h4, hw2, hwp, hkp])
    refine awp_seq ?_
    refine awp_run (s := ?s5) rfl ?o5 ?q5
    case o5 => simp [h4, hw2, hwp, hkp]; rfl
    refine awp_cond _ rfl (fun h6 => ?_) fun h6 => ?_
    · try simp at h6
      refine awp_run (s := ?s7) rfl ?o7 ?q7
      case o7 =>
        simp [h4, hw2, hwp, hkp, List.replicate]
        refine ⟨by omega, by omega, ?_⟩
        rfl
      refine awp_run (s := ?s8) rfl ?o8 ?q8
      case o8 => simp [h4, hw2, hwp, hkp]; rfl
      have hs := outs_succ g.edges key k h4
      rw [if_pos h6] at hs
      refine ⟨k + 1, h4, by omega, Le.ren1 88 16 [] rfl rfl (Nat.le_of_ble_eq_true rfl) (by decide) rfl (by simp [hs, Function.comp_def, take_map_len]) (by simp) (by simp [hs, hw2])⟩
    try simp at h6
    refine awp_skip ?_
    refine awp_run (s := ?s9) rfl ?o9 ?q9
    case o9 => simp [h4, hw2, hwp, hkp]; rfl
    have hs := outs_succ g.edges key k h4
    rw [if_neg h6, List.append_nil] at hs
    refine ⟨k + 1, h4, by omega, Le.var1 16 [] rfl rfl (Nat.le_of_ble_eq_true rfl) (by decide) rfl (by simp [hs, Function.comp_def, take_map_len]) (by simp) (by simp [hs, hw2])⟩
  try simp at h4
  have hkl : k = g.edges.length := by omega
  subst hkl
  have hol2 := outs_le g.edges key
  refine awp_exit ?_
  refine hit ?_
  refine awp_seq ?_
  refine awp_run (s := ?s10) rfl ?o10 ?q10
  case o10 =>
    simp
    refine callM1 (i := 16) rfl (e' := ⟨1, iRows (outs g.edges key), 0⟩) (by simp [iRows, Function.comp_def]) (sort_ok (outs g.edges key) (by omega)) (by simp) (by simp) ?_
    simp [iRows, Function.comp_def]
    rfl
  refine awp_seq ?_
  refine awp_run (s := ?s11) rfl ?o11 ?q11
  case o11 => simp; rfl
  refine awp_ret ?_
  exact ⟨.inr rfl, RetOk.out [16] [] rfl (by simp) (by simp) (by simp) (by simp [Function.comp_def])⟩

def inns (l : List Ed) (key : Int) : List Int := l.filterMap fun e => if e.t = key then some e.f else none

theorem inns_succ (l : List Ed) (key : Int) (k : Nat) (h : k < l.length) : inns (l.take (k + 1)) key = inns (l.take k) key ++ if l[k].t = key then [l[k].f] else [] := by
  unfold inns
  rw [← List.take_concat_get h, List.concat_eq_append, List.filterMap_append]
  congr 1
  by_cases hc : l[k].t = key <;> simp [hc]

theorem inns_le (l : List Ed) (key : Int) : (inns l key).length ≤ l.length := List.length_filterMap_le _ _

theorem graph_In_ok (g : Gr) (key : Int) (hl : g.edges.length ≤ 1099511627776) : ACalls Try.prog ngraph_In [eG g, .I key] [] (.rs 0 0 (inns g.edges key).length) [some ⟨1, ((inns g.edges key).mergeSort fun x y => decide (x ≤ y)).map fun n => [AV.I n], 0⟩] := by
  refine sgraph_In.acalls (Nat.le_of_ble_eq_true rfl) (Nat.le_of_ble_eq_true rfl) (Nat.zero_le _) ?_
  show awp _ 0 _ _ ⟨28, [(0, eG g), (1, .I key)], [], 16⟩
  refine awp_seq ?_
  refine awp_run (s := ?s0) rfl ?o0 ?q0
  case o0 => simp; rfl
  refine awp_seq ?_
  refine awp_run (s := ?s1) rfl ?o1 ?q1
  case o1 => simp; rfl
  refine awp_seq ?_
  refine awp_seq ?_
  refine awp_run (s := ?s2) rfl ?o2 ?q2
  case o2 => simp; rfl
  refine awp_block ?_
  refine awp_loop (ι := Nat) (fun k => ⟨28, [(1, .I key), (5, .rs 16 0 (inns (g.edges.take k) key).length), (9, eEs g.edges), (10, .I g.edges.length), (11, .I k)], [(16, some ⟨1, (inns (g.edges.take k) key).map fun n => [AV.I n], 0⟩)], 24⟩) (fun k => k ≤ g.edges.length) (fun k => g.edges.length - k) (0) ?_ (Le.lst [] [] [(16, 1)] rfl (by simp) (by simp) (by simp) (by simp) (by simp) (by simp) (by simp) (by simp [Up, inns]) (by simp [inns])) ?_
  · simp
  rintro k hk
  have hol : (inns (g.edges.take k) key).length ≤ k := Nat.le_trans (inns_le _ _) (by simp; exact Nat.min_le_left _ _)
  refine awp_seq ?_
  refine awp_run (s := ?s3) rfl ?o3 ?q3
  case o3 => simp; rfl
  refine awp_seq ?_
  refine awp_cond _ rfl (fun h4 => ?_) fun h4 => ?_
  · try simp at h4
    have hw2 : IntKind.i64.wrap ((k : Int) + 1) = (k : Int) + 1 := w64 (by omega) (by omega)
    have hwp : 0 < k → IntKind.i64.wrap ((k : Int) - 1) = ((k - 1 : Nat) : Int) := fun h => by rw [w64 (by omega) (by omega)]; omega
    have hkp : k - 1 < g.edges.length := by omega
    refine awp_skip ?_
    refine awp_seq ?_
    refine awp_block ?_
    refine awp_regc ⟨28, [(1, .I key), (5, .rs 16 0 (inns (g.edges.take k) key).length), (7, .pv (eC g.edges[k])), (9, eEs g.edges), (10, .I g.edges.length), (11, .I k)], [(16, some ⟨1, (inns (g.edges.take k) key).map fun n => [AV.I n], 0⟩)], 24⟩ rfl ?_ ?_
    · simp [h4, hw2, hwp, hkp]
      exact Le.var1 16 [48] rfl rfl (Nat.le_of_ble_eq_true rfl) (by decide) rfl (by simp [Function.comp_def]) (by simp) (by simp [h4, hw2, hwp, hkp])
    refine awp_seq ?_
    refine awp_run (s := ?s5) rfl ?o5 ?q5
    case o5 => simp [h4, hw2, hwp, hkp]; rfl
    refine awp_cond _ rfl (fun h6 => ?_) fun h6 => ?_
    · try simp at h6
      refine awp_run (s := ?s7) rfl ?o7 ?q7
      case o7 =>
        simp [h4, hw2, hwp, hkp, List.replicate]
        refine ⟨by omega, by omega, ?_⟩
        rfl
      refine awp_run (s := ?s8) rfl ?o8 ?q8
      case o8 => simp [h4, hw2, hwp, hkp]; rfl
      have hs := inns_succ g.edges key k h4
      rw [if_pos h6] at hs
      refine ⟨k + 1, h4, by omega, Le.ren1 88 16 [] rfl rfl (Nat.le_of_ble_eq_true rfl) (by decide) rfl (by simp [hs, Function.comp_def, take_map_len]) (by simp) (by simp [hs, hw2])⟩
    try simp at h6
    refine awp_skip ?_
    refine awp_run (s := ?s9) rfl ?o9 ?q9
    case o9 => simp [h4, hw2, hwp, hkp]; rfl
    have hs := inns_succ g.edges key k h4
    rw [if_neg h6, List.append_nil] at hs
    refine ⟨k + 1, h4, by omega, Le.var1 16 [] rfl rfl (Nat.le_of_ble_eq_true rfl) (by decide) rfl (by simp [hs, Function.comp_def, take_map_len]) (by simp) (by simp [hs, hw2])⟩
  try simp at h4
  have hkl : k = g.edges.length := by omega
  subst hkl
  have hol2 := inns_le g.edges key
  refine awp_exit ?_
  refine hit ?_
  refine awp_seq ?_
  refine awp_run (s := ?s10) rfl ?o10 ?q10
  case o10 =>
    simp
    refine callM1 (i := 16) rfl (e' := ⟨1, iRows (inns g.edges key), 0⟩) (by simp [iRows, Function.comp_def]) (sort_ok (inns g.edges key) (by omega)) (by simp) (by simp) ?_
    simp [iRows, Function.comp_def]
    rfl
  refine awp_seq ?_
  refine awp_run (s := ?s11) rfl ?o11 ?q11
  case o11 => simp; rfl
  refine awp_ret ?_
  exact ⟨.inr rfl, RetOk.out [16] [] rfl (by simp) (by simp) (by simp) (by simp [Function.comp_def])⟩


end Go.Proofs.Ytnphfkceoklkkaa

/- The search for an edge. -/
namespace Go.Proofs.Ytnphfkceoklkkaa
open Go

@[simp] theorem conv_fn {ρ : List (Nat × Nat)} {sn : List Nat} {h : Nat → Option Ent} {n : Nat} {f : Fn} {a b : List AV} : conv ρ sn h (n + 1) (.fn f a b) = .fn f (a.map (conv ρ sn h n)) (b.map (conv ρ sn h n)) := (rfl)

theorem BinarySearch_ok (l : List Ed) (e : Ed) (hl : l.length ≤ 1099511627776) (hm : ∀ (i j : Nat) (hi : i < l.length) (hj : j < l.length), i ≤ j → Bef l[j] e → Bef l[i] e) : ACalls Try.prog nslices_BinarySearchFunc_Lapi_Edge_api_Edge_api_Edge [eEs l, eE e, .fn (.func ngraph_compare) [] []] [] (.tup [.I (idxE l e), .B (decide (AtE l (idxE l e) e.f e.t))]) [] := by
  refine sslices_BinarySearchFunc_Lapi_Edge_api_Edge_api_Edge.acalls (Nat.le_of_ble_eq_true rfl) (Nat.le_of_ble_eq_true rfl) (Nat.le_refl _) ?_
  show awp _ 0 _ _ ⟨49, [(0, eEs l), (1, eE e), (2, .fn (.func ngraph_compare) [] [])], [], 16⟩
  refine awp_regc ⟨49, [(0, eEs l), (2, .fn (.func ngraph_compare) [] []), (4, .pv (eC e))], [], 16⟩ rfl ?_ ?_
  · simp
    exact Le.snap [16] rfl rfl (by simp)
  refine awp_seq ?_
  refine awp_run (s := ?s1) rfl ?o1 ?q1
  case o1 => simp; rfl
  refine awp_seq ?_
  refine awp_run (s := ?s2) rfl ?o2 ?q2
  case o2 => simp; rfl
  refine awp_seq ?_
  refine awp_block ?_
  refine awp_loop (ι := Nat × Nat) (fun p => ⟨49, [(0, eEs l), (2, .fn (.func ngraph_compare) [] []), (4, .pv (eC e)), (8, .I l.length), (9, .I p.1), (10, .I p.2)], [], 16⟩) (fun p => p.1 ≤ p.2 ∧ p.2 ≤ l.length ∧ (∀ q, q < p.1 → BefAt l e q) ∧ ∀ q (h : q < l.length), p.2 ≤ q → ¬ Bef l[q] e) (fun p => p.2 - p.1) ((0, l.length)) ?_ (Le.snap [] rfl rfl (by simp)) ?_
  · simp
    intro q h h2
    omega
  rintro ⟨i, j⟩ ⟨hij, hjn, hlo, hhi⟩
  simp only at hij hjn hlo hhi
  refine awp_seq ?_
  refine awp_seq ?_
  refine awp_run (s := ?s3) rfl ?o3 ?q3
  case o3 => simp; rfl
  refine awp_cond _ rfl (fun h4 => ?_) fun h4 => ?_
  · try simp at h4
    refine awp_skip ?_
    refine awp_block ?_
    have hw : IntKind.i64.wrap ((i : Int) + (j : Int)) = (i : Int) + (j : Int) := w64 (by omega) (by omega)
    have hu : IntKind.u64.wrap ((i : Int) + (j : Int)) = (i : Int) + (j : Int) := by rw [IntKind.wrap_u64]; omega
    have hd : Int.fdiv ((i : Int) + (j : Int)) 2 = (((i + j) / 2 : Nat) : Int) := by rw [Int.fdiv_eq_ediv_of_nonneg _ (by decide)]; omega
    have hw3 : IntKind.i64.wrap (((i + j) / 2 : Nat) : Int) = (((i + j) / 2 : Nat) : Int) := w64 (by omega) (by omega)
    refine awp_regc ⟨49, [(0, eEs l), (2, .fn (.func ngraph_compare) [] []), (4, .pv (eC e)), (8, .I l.length), (9, .I i), (10, .I j), (11, .I ((i + j) / 2 : Nat))], [], 16⟩ rfl ?_ ?_
    · simp [hw, hu, hd, hw3, IntKind.bits, -Int.natCast_ediv, -Int.natCast_add]
      exact Le.snap [] rfl rfl (by simp [hw, hu, hd, hw3])
    obtain ⟨m, hmd⟩ : ∃ m, m = (i + j) / 2 := ⟨_, rfl⟩
    rw [← hmd]
    have hml : m < l.length := by omega
    have hm1 : IntKind.i64.wrap ((m : Int) + 1) = (m : Int) + 1 := w64 (by omega) (by omega)
    refine awp_seq ?_
    refine awp_drun (s := ?s6) (tr := ?t6) rfl ?o6 ?r6 ?q6
    case o6 => simp [hml]; refine call0e (graph_compare_ok l[m] e) rfl ?_; simp; constructor <;> rfl
    case r6 => rfl
    refine awp_cond _ rfl (fun h7 => ?_) fun h7 => ?_
    · simp only [decide_eq_true_eq, decide_eq_false_iff_not, cmpE_lt] at h7
      refine awp_run (s := ?s8) rfl ?o8 ?q8
      case o8 => simp; rfl
      refine ⟨(m + 1, j), ⟨by simp only; omega, hjn, fun q hq hql => ?_, hhi⟩, by simp only; omega, Le.snap [] rfl rfl (by simp [hm1])⟩
      exact hm q m hql hml (by simp only at hq; omega) h7
    simp only [decide_eq_true_eq, decide_eq_false_iff_not, cmpE_lt] at h7
    refine awp_run (s := ?s9) rfl ?o9 ?q9
    case o9 => simp; rfl
    refine ⟨(i, m), ⟨by simp only; omega, by simp only; omega, hlo, fun q hql hq hb => ?_⟩, by simp only; omega, Le.snap [] rfl rfl (by simp)⟩
    exact h7 (hm m q hml hql hq hb)
  try simp at h4
  refine awp_exit ?_
  refine hit ?_
  have hji : j = i := by omega
  subst hji
  rw [idxE_of hjn hlo (fun h => hhi _ h (Nat.le_refl _))]
  refine awp_dregc ⟨49, [(6, .I j), (7, .B (decide (AtE l j e.f e.t)))], [], 16⟩ rfl ?_ ?_
  · simp
    repeat' first
      | (refine callf ngraph_compare rfl ?_; refine call0e (graph_compare_ok _ e) rfl ?_; simp)
      | (refine gcase (fun hb => ?_) (fun hb => ?_) <;> (try rw [hb]) <;> (try simp at hb) <;> simp [*])
    all_goals exact ⟨rfl, Le.snap [] rfl rfl (by simp <;> exact wkB (by (try simp at *); grind [AtE, cmpE_eq]))⟩
  refine awp_ret ?_
  exact ⟨.inr rfl, RetOk.out [] [] rfl (by simp) (by simp) (by simp) (by simp)⟩

end Go.Proofs.Ytnphfkceoklkkaa
