/- Texts of this claim, merged. -/
import Derived.Test.YtnphfkceoklkkaaVf8
import Derived.Test.YtnphfkceoklkkaaVf5
import Derived.Test.YtnphfkceoklkkaaRows
set_option linter.unusedSimpArgs false
set_option linter.unusedVariables false
set_option linter.unusedSectionVars false
/- First contracts. -/
namespace Go.Proofs.Ytnphfkceoklkkaa
open Go
abbrev ints (l : List Int) : AV := .vs 1 false (l.map fun n => [AV.I n])

theorem has_ok (l : List Int) (n : Int) (hl : l.length ≤ 140737488355328) : ACalls Try.prog nref11_Has [ints l, .I n] [] (.B (l.contains n)) [] := by
  refine sref11_Has.acalls (by simp [cref11_Has]) (by simp) (by simp) ?_
  show awp _ 0 _ _ ⟨18, [(0, ints l), (1, .I n)], [], 16⟩
  refine awp_seq (awp_run (s := ?s1) rfl ?o1 ?q1)
  case o1 => simp; rfl
  refine awp_seq (awp_seq (awp_run (s := ?s2) rfl ?o2 ?q2))
  case o2 => simp; rfl
  refine awp_block ?_
  refine awp_loop (ι := Nat) (fun k => { sz := 18, t := [(0, ints l), (1, .I n), (5, .I k)], h := [], n := 16 }) (fun k => k ≤ l.length ∧ n ∉ l.take k) (fun k => l.length - k) 0 (by simp) ?_ ?_
  · refine Le.slots rfl rfl ?_
    simp [ints]
  · rintro k ⟨hk, hn⟩
    refine awp_seq (awp_seq (awp_run (s := ?s3) rfl ?o3 ?q3))
    case o3 => simp; rfl
    refine awp_cond _ rfl ?_ ?_
    · intro hlt
      simp only [decide_eq_true_eq, Int.ofNat_lt] at hlt
      show awp _ _ _ _ _
      refine awp_seq (awp_block (awp_seq (awp_run (s := ?s4) rfl ?o4 ?q4)))
      case o4 => simp [hlt]; rfl
      refine awp_cond _ rfl ?_ ?_
      · intro heq
        refine awp_seq (awp_run (s := ?s5) rfl ?o5 ?q5)
        case o5 => simp; rfl
        refine ⟨.inr rfl, RetOk.one ?_⟩
        have : n ∈ l := by simp at heq; simp [← heq]
        simp [this]
      · intro hne
        refine awp_skip (awp_run (s := ?s6) rfl ?o6 ?q6)
        case o6 => simp; rfl
        refine ⟨k + 1, ⟨by omega, ?_⟩, by omega, Le.slots rfl rfl ?_⟩
        · intro hm
          simp at hne
          rw [List.take_succ_eq_append_getElem hlt] at hm
          rcases List.mem_append.1 hm with h | h
          · exact hn h
          · exact hne (List.mem_singleton.1 h).symm
        · have hw : IntKind.i64.wrap ((k : Int) + 1) = ((k + 1 : Nat) : Int) := w64 (by omega) (by omega)
          simp [Wk.refl, hw]
    · intro hge
      refine awp_exit (hit ?_)
      refine awp_seq (awp_run (s := ?s7) rfl ?o7 ?q7)
      case o7 => simp; rfl
      refine awp_ret ⟨.inr rfl, RetOk.one ?_⟩
      simp at hge
      have : n ∉ l := by
        have : l.take k = l := List.take_of_length_le hge
        rw [this] at hn
        exact hn
      simp [this]

end Go.Proofs.Ytnphfkceoklkkaa

/- Comparisons; lists. -/
namespace Go.Proofs.Ytnphfkceoklkkaa
open Go

theorem isNaN_ok (x : Int) : ACalls Try.prog ncmp_isNaN_int [.I x] [] (.B false) [] := by
  refine scmp_isNaN_int.acalls (Nat.le_of_ble_eq_true rfl) (Nat.le_of_ble_eq_true rfl) (Nat.le_refl _) ?_
  show awp _ 0 _ _ ⟨6, [(0, .I x)], [], 16⟩
  refine awp_seq (awp_run (s := ?s1) rfl ?o1 ?q1)
  case o1 => simp; rfl
  refine awp_seq (awp_run (s := ?s2) rfl ?o2 ?q2)
  case o2 => simp; rfl
  exact awp_ret ⟨.inr rfl, RetOk.one (by simp)⟩

theorem lists_In_ok (n lo hi : Int) : ACalls Try.prog nlists_In [.I n, .I lo, .I hi] [] (.B (decide (lo ≤ n) && decide (n ≤ hi))) [] := by
  refine slists_In.acalls (Nat.le_of_ble_eq_true rfl) (Nat.le_of_ble_eq_true rfl) (Nat.le_refl _) ?_
  show awp _ 0 _ _ ⟨15, [(0, .I n), (1, .I lo), (2, .I hi)], [], 16⟩
  refine awp_seq (awp_run (s := ?s1) rfl ?o1 ?q1)
  case o1 => simp; rfl
  by_cases h : lo ≤ n
  · refine awp_seq (awp_run (s := ?s2) rfl ?o2 ?q2)
    case o2 => simp [h]; rfl
    exact awp_ret ⟨.inr rfl, RetOk.one (by simp [h])⟩
  · refine awp_seq (awp_run (s := ?s3) rfl ?o3 ?q3)
    case o3 => simp [h]; rfl
    exact awp_ret ⟨.inr rfl, RetOk.one (by simp [h])⟩

def cmpI (x y : Int) : Int := if x < y then -1 else if x > y then 1 else 0

theorem compare_ok (x y : Int) : ACalls Try.prog ncmp_Compare_int [.I x, .I y] [] (.I (cmpI x y)) [] := by
  refine scmp_Compare_int.acalls (Nat.le_of_ble_eq_true rfl) (Nat.le_of_ble_eq_true rfl) (Nat.le_refl _) ?_
  show awp _ 0 _ _ ⟨20, [(0, .I x), (1, .I y)], [], 16⟩
  refine awp_seq (awp_run (s := ?s1) rfl ?o1 ?q1)
  case o1 => simp; rfl
  refine awp_seq (awp_run (s := ?s2) rfl ?o2 ?q2)
  case o2 => simp; refine call0e (isNaN_ok _) rfl ?_; simp; rfl
  refine awp_seq (awp_run (s := ?s3) rfl ?o3 ?q3)
  case o3 => simp; refine call0e (isNaN_ok _) rfl ?_; simp; rfl
  refine awp_seq (awp_seq (awp_run (s := ?s4) rfl ?o4 ?q4))
  case o4 => simp; rfl
  refine awp_cond _ rfl (fun h => by cases h) fun _ => awp_skip ?_
  refine awp_seq (awp_seq (awp_run (s := ?s5) rfl ?o5 ?q5))
  case o5 => simp; rfl
  refine awp_cond _ rfl (fun h => by cases h) fun _ => awp_skip ?_
  refine awp_seq (awp_seq (awp_run (s := ?s6) rfl ?o6 ?q6))
  case o6 => simp; rfl
  refine awp_cond _ rfl (fun h => ?_) fun h1 => awp_skip ?_
  · refine awp_seq (awp_run (s := ?s7) rfl ?o7 ?q7)
    case o7 => simp; rfl
    exact awp_ret ⟨.inr rfl, RetOk.one (by simp at h; simp [cmpI, h])⟩
  refine awp_seq (awp_seq (awp_run (s := ?s8) rfl ?o8 ?q8))
  case o8 => simp; rfl
  refine awp_cond _ rfl (fun h => ?_) fun h2 => awp_skip ?_
  · refine awp_seq (awp_run (s := ?s9) rfl ?o9 ?q9)
    case o9 => simp; rfl
    exact awp_ret ⟨.inr rfl, RetOk.one (by simp at h h1; simp [cmpI, h, Int.not_lt.2 h1])⟩
  refine awp_seq (awp_run (s := ?s10) rfl ?o10 ?q10)
  case o10 => simp; rfl
  exact awp_ret ⟨.inr rfl, RetOk.one (by simp at h1 h2; simp [cmpI, Int.not_lt.2 h1, Int.not_lt.2 h2])⟩

end Go.Proofs.Ytnphfkceoklkkaa

/- The order of edges. -/
namespace Go.Proofs.Ytnphfkceoklkkaa
open Go

theorem iget {l : List Int} {k : Nat} (h : k < l.length) : (l.map fun n => [AV.I n])[k]? = some [.I l[k]] := by simp [h]

theorem or_ok (l : List Int) (hl : l.length ≤ 140737488355328) : ACalls Try.prog ncmp_Or_int [ints l] [] (.I ((l.find? (· != 0)).getD 0)) [] := by
  refine scmp_Or_int.acalls (Nat.le_of_ble_eq_true rfl) (Nat.le_of_ble_eq_true rfl) (Nat.le_refl _) ?_
  show awp _ 0 _ _ ⟨18, [(0, ints l)], [], 16⟩
  refine awp_seq ?_
  refine awp_run (s := ?s1) rfl ?o1 ?q1
  case o1 => simp; rfl
  refine awp_seq ?_
  refine awp_run (s := ?s2) rfl ?o2 ?q2
  case o2 => simp; rfl
  refine awp_seq ?_
  refine awp_seq ?_
  refine awp_run (s := ?s3) rfl ?o3 ?q3
  case o3 => simp; rfl
  refine awp_block ?_
  refine awp_loop (ι := Nat) (fun k => ⟨18, [(3, .I 0), (6, ints l), (7, .I l.length), (8, .I k)], [], 16⟩) (fun k => k ≤ l.length ∧ l.find? (· != 0) = (l.drop k).find? (· != 0)) (fun k => l.length - k) 0 ?_ (Le.slots rfl rfl ?_) ?_
  · simp
  · simp
  rintro k ⟨hk, hf⟩
  refine awp_seq ?_
  refine awp_run (s := ?s4) rfl ?o4 ?q4
  case o4 => simp; rfl
  refine awp_seq ?_
  refine awp_cond _ rfl (fun h5 => ?_) fun h5 => ?_
  · simp at h5
    rw [List.drop_eq_getElem_cons h5, List.find?_cons] at hf
    refine awp_skip ?_
    refine awp_seq ?_
    refine awp_block ?_
    refine awp_seq ?_
    refine awp_run (s := ?s6) rfl ?o6 ?q6
    case o6 => simp [h5]; rfl
    refine awp_seq ?_
    refine awp_run (s := ?s7) rfl ?o7 ?q7
    case o7 => simp; rfl
    refine awp_cond _ rfl (fun h8 => ?_) fun h8 => ?_
    · refine awp_seq ?_
      refine awp_run (s := ?s9) rfl ?o9 ?q9
      case o9 => simp; rfl
      refine awp_ret ?_
      rw [h8] at hf
      exact ⟨.inr rfl, RetOk.one (by simp [hf])⟩
    refine awp_skip ?_
    refine awp_run (s := ?s10) rfl ?o10 ?q10
    case o10 => simp; rfl
    rw [h8] at hf
    have hw : IntKind.i64.wrap ((k : Int) + 1) = (k : Int) + 1 := w64 (by omega) (by omega)
    refine ⟨k + 1, ⟨h5, hf⟩, by omega, Le.slots rfl rfl ?_⟩
    simp [hw]
  simp at h5
  rw [List.drop_eq_nil_of_le h5] at hf
  refine awp_exit ?_
  refine hit ?_
  refine awp_seq ?_
  refine awp_run (s := ?s11) rfl ?o11 ?q11
  case o11 => simp; rfl
  refine awp_ret ?_
  exact ⟨.inr rfl, RetOk.one (by simp [hf])⟩

end Go.Proofs.Ytnphfkceoklkkaa

/- Edges: their order. -/
namespace Go.Proofs.Ytnphfkceoklkkaa
open Go

structure Ed where
  f : Int
  t : Int
  v : Int
  deriving DecidableEq, Inhabited

abbrev Ed.row (e : Ed) : List AV := [.I e.f, .I e.t, .I e.v]
abbrev eE (e : Ed) : AV := .agg [.I e.f, .I e.t, .I e.v]
abbrev eEs (l : List Ed) : AV := .vs 3 false (l.map fun e => [.I e.f, .I e.t, .I e.v])

def cmpE (a b : Ed) : Int := ([cmpI a.f b.f, cmpI a.t b.t].find? (· != 0)).getD 0

theorem graph_compare_ok (a b : Ed) : ACalls Try.prog ngraph_compare [eE a, eE b] [] (.I (cmpE a b)) [] := by
  refine sgraph_compare.acalls (Nat.le_of_ble_eq_true rfl) (Nat.le_of_ble_eq_true rfl) (Nat.le_refl _) ?_
  show awp _ 0 _ _ ⟨17, [(0, eE a), (1, eE b)], [], 16⟩
  refine awp_seq ?_
  refine awp_run (s := ?s1) rfl ?o1 ?q1
  case o1 => simp; rfl
  refine awp_seq ?_
  refine awp_drun (s := ?s2) (tr := ?t2) rfl ?o2 ?r2 ?q2
  case o2 =>
    simp; refine call0e (compare_ok ..) rfl ?_; simp; refine call0e (compare_ok ..) rfl ?_; simp [fillR]

    refine call0s [120] (or_ok [cmpI a.f b.f, cmpI a.t b.t] (by simp)) (by simp) (.sc _) ?_; simp; constructor <;> rfl
  case r2 => rfl
  refine awp_ret ?_
  exact ⟨.inr rfl, RetOk.one (by simp; exact .refl _)⟩

end Go.Proofs.Ytnphfkceoklkkaa

/- Membership; rising lists. -/
namespace Go.Proofs.Ytnphfkceoklkkaa
open Go

def idxI (l : List Int) (x : Int) : Int := if x ∈ l then (l.idxOf x : Int) else -1

theorem slices_Index_Lint_int_ok (l : List Int) (x : Int) (hl : l.length ≤ 140737488355328) : ACalls Try.prog nslices_Index_Lint_int [ints l, .I x] [] (.I (idxI l x)) [] := by
  refine sslices_Index_Lint_int.acalls (Nat.le_of_ble_eq_true rfl) (Nat.le_of_ble_eq_true rfl) (Nat.le_refl _) ?_
  show awp _ 0 _ _ ⟨19, [(0, ints l), (1, .I x)], [], 16⟩
  refine awp_seq ?_
  refine awp_run (s := ?s1) rfl ?o1 ?q1
  case o1 => simp; rfl
  refine awp_seq ?_
  refine awp_seq ?_
  refine awp_run (s := ?s2) rfl ?o2 ?q2
  case o2 => simp; rfl
  refine awp_block ?_
  refine awp_loop (ι := Nat) (fun k => ⟨19, [(0, ints l), (1, .I x), (6, ints l), (7, .I l.length), (8, .I k)], [], 16⟩) (fun k => k ≤ l.length ∧ x ∉ l.take k) (fun k => l.length - k) 0 ?_ (Le.slots rfl rfl ?_) ?_
  · simp
  · simp
  rintro k ⟨hk, hn⟩
  refine awp_seq ?_
  refine awp_run (s := ?s3) rfl ?o3 ?q3
  case o3 => simp; rfl
  refine awp_seq ?_
  refine awp_cond _ rfl (fun h4 => ?_) fun h4 => ?_
  · simp at h4
    refine awp_skip ?_
    refine awp_seq ?_
    refine awp_block ?_
    refine awp_seq ?_
    refine awp_run (s := ?s5) rfl ?o5 ?q5
    case o5 => simp; rfl
    refine awp_seq ?_
    refine awp_run (s := ?s6) rfl ?o6 ?q6
    case o6 => simp [h4]; rfl
    refine awp_cond _ rfl (fun h7 => ?_) fun h7 => ?_
    · refine awp_seq ?_
      refine awp_run (s := ?s8) rfl ?o8 ?q8
      case o8 => simp; rfl
      refine awp_ret ?_
      have hm : x ∈ l := by simp at h7; rw [h7]; exact List.getElem_mem h4
      have hi : l.idxOf x = k := by
        simp at h7
        have h1 : l = l.take k ++ x :: l.drop (k + 1) := by rw [h7, ← List.drop_eq_getElem_cons h4, List.take_append_drop]
        rw [h1, List.idxOf_append, if_neg hn, List.idxOf_cons_self]
        simp
        omega
      exact ⟨.inr rfl, RetOk.one (by simp [idxI, hm, hi])⟩
    refine awp_skip ?_
    refine awp_run (s := ?s9) rfl ?o9 ?q9
    case o9 => simp; rfl
    have hw : IntKind.i64.wrap ((k : Int) + 1) = (k : Int) + 1 := w64 (by omega) (by omega)
    refine ⟨k + 1, ⟨h4, ?_⟩, by omega, Le.slots rfl rfl ?_⟩
    · intro hm
      simp at h7
      rw [List.take_succ_eq_append_getElem h4] at hm
      rcases List.mem_append.1 hm with h | h
      · exact hn h
      · exact h7 (List.mem_singleton.1 h)
    · simp [hw]
  simp at h4
  refine awp_exit ?_
  refine hit ?_
  refine awp_seq ?_
  refine awp_run (s := ?s10) rfl ?o10 ?q10
  case o10 => simp; rfl
  refine awp_ret ?_
  rw [List.take_of_length_le h4] at hn
  exact ⟨.inr rfl, RetOk.one (by simp [idxI, hn])⟩

theorem contains_ok (l : List Int) (x : Int) (hl : l.length ≤ 140737488355328) : ACalls Try.prog nslices_Contains_Lint_int [ints l, .I x] [] (.B (decide (x ∈ l))) [] := by
  refine sslices_Contains_Lint_int.acalls (Nat.le_of_ble_eq_true rfl) (Nat.le_of_ble_eq_true rfl) (Nat.le_refl _) ?_
  show awp _ 0 _ _ ⟨9, [(0, ints l), (1, .I x)], [], 16⟩
  refine awp_seq ?_
  refine awp_run (s := ?s1) rfl ?o1 ?q1
  case o1 => simp; rfl
  refine awp_seq ?_
  refine awp_run (s := ?s2) rfl ?o2 ?q2
  case o2 => simp; refine call0e (slices_Index_Lint_int_ok l x hl) rfl ?_; simp; rfl
  refine awp_ret ?_
  have : decide (0 ≤ idxI l x) = decide (x ∈ l) := by
    unfold idxI
    by_cases h : x ∈ l
    · simp [h]
    · simp [h]
  exact ⟨.inr rfl, RetOk.one (by simp [this])⟩

end Go.Proofs.Ytnphfkceoklkkaa

/- Rising lists. -/
namespace Go.Proofs.Ytnphfkceoklkkaa
open Go

def RiseAt (l : List Int) (lo hi : Int) (i : Nat) : Prop := ∀ h : i < l.length, lo ≤ l[i] ∧ l[i] ≤ hi ∧ (0 < i → l[i - 1] < l[i])
def Rise (l : List Int) (lo hi : Int) : Prop := ∀ i, RiseAt l lo hi i

open Classical in
theorem lists_Rising_ok (l : List Int) (lo hi : Int) (hl : l.length ≤ 140737488355328) : ACalls Try.prog nlists_Rising [ints l, .I lo, .I hi] [] (.B (decide (Rise l lo hi))) [] := by
  refine slists_Rising.acalls (Nat.le_of_ble_eq_true rfl) (Nat.le_of_ble_eq_true rfl) (Nat.le_refl _) ?_
  show awp _ 0 _ _ ⟨38, [(0, ints l), (1, .I lo), (2, .I hi)], [], 16⟩
  refine awp_seq ?_
  refine awp_run (s := ?s1) rfl ?o1 ?q1
  case o1 => simp; rfl
  refine awp_seq ?_
  refine awp_seq ?_
  refine awp_run (s := ?s2) rfl ?o2 ?q2
  case o2 => simp; rfl
  refine awp_block ?_
  refine awp_loop (ι := Nat) (fun k => ⟨38, [(0, ints l), (1, .I lo), (2, .I hi), (9, ints l), (10, .I l.length), (11, .I k)], [], 16⟩) (fun k => k ≤ l.length ∧ ∀ i, i < k → RiseAt l lo hi i) (fun k => l.length - k) 0 ?_ (Le.slots rfl rfl ?_) ?_
  · simp
  · simp
  rintro k ⟨hk, hp⟩
  refine awp_seq ?_
  refine awp_run (s := ?s3) rfl ?o3 ?q3
  case o3 => simp; rfl
  refine awp_seq ?_
  refine awp_cond _ rfl (fun h4 => ?_) fun h4 => ?_
  · simp at h4
    have hw : IntKind.i64.wrap ((k : Int) + 1) = (k : Int) + 1 := w64 (by omega) (by omega)
    refine awp_skip ?_
    refine awp_seq ?_
    refine awp_block ?_
    refine awp_seq ?_
    refine awp_run (s := ?s5) rfl ?o5 ?q5
    case o5 => simp [h4]; rfl
    refine awp_seq ?_
    by_cases a1 : l[k] < lo
    · refine awp_run (s := ?s21) rfl ?o21 ?q21
      case o21 => simp [a1]; rfl
      refine awp_cond _ rfl (fun _ => ?_) fun h => by cases h
      refine awp_seq ?_
      refine awp_run (s := ?s21b) rfl ?o21b ?q21b
      case o21b => simp; rfl
      refine awp_ret ?_
      have hn : ¬ Rise l lo hi := fun h => by have := h k h4; omega
      exact ⟨.inr rfl, RetOk.one (by simp [hn])⟩
    by_cases a2 : hi < l[k]
    · refine awp_run (s := ?s22) rfl ?o22 ?q22
      case o22 => simp [a1, a2]; rfl
      refine awp_cond _ rfl (fun _ => ?_) fun h => by cases h
      refine awp_seq ?_
      refine awp_run (s := ?s22b) rfl ?o22b ?q22b
      case o22b => simp; rfl
      refine awp_ret ?_
      have hn : ¬ Rise l lo hi := fun h => by have := h k h4; omega
      exact ⟨.inr rfl, RetOk.one (by simp [hn])⟩
    by_cases a3 : 0 < k
    · have hw1 : IntKind.i64.wrap ((k : Int) - 1) = ((k - 1 : Nat) : Int) := by rw [w64 (by omega) (by omega)]; omega
      have h5 : k - 1 < l.length := by omega
      by_cases a4 : l[k] ≤ l[k - 1]
      · refine awp_run (s := ?s23) rfl ?o23 ?q23
        case o23 => simp [a1, a2, a3, a4, hw1, h5]; rfl
        refine awp_cond _ rfl (fun _ => ?_) fun h => by cases h
        refine awp_seq ?_
        refine awp_run (s := ?s23b) rfl ?o23b ?q23b
        case o23b => simp; rfl
        refine awp_ret ?_
        have hn : ¬ Rise l lo hi := fun h => by have := h k h4; have := this.2.2 a3; omega
        exact ⟨.inr rfl, RetOk.one (by simp [hn])⟩
      · refine awp_run (s := ?s24) rfl ?o24 ?q24
        case o24 => simp [a1, a2, a3, a4, hw1, h5]; rfl
        refine awp_cond _ rfl (fun h => by cases h) fun _ => awp_skip ?_
        refine awp_run (s := ?s24b) rfl ?o24b ?q24b
        case o24b => simp; rfl
        refine ⟨k + 1, ⟨h4, fun i hi => ?_⟩, by omega, Le.slots rfl rfl ?_⟩
        · rcases Nat.lt_succ_iff_lt_or_eq.1 hi with h | rfl
          · exact hp i h
          · intro _; exact ⟨by omega, by omega, fun _ => by omega⟩
        · simp [hw]
    · refine awp_run (s := ?s25) rfl ?o25 ?q25
      case o25 => simp [a1, a2, a3]; rfl
      refine awp_cond _ rfl (fun h => by cases h) fun _ => awp_skip ?_
      refine awp_run (s := ?s25b) rfl ?o25b ?q25b
      case o25b => simp; rfl
      refine ⟨k + 1, ⟨h4, fun i hi => ?_⟩, by omega, Le.slots rfl rfl ?_⟩
      · rcases Nat.lt_succ_iff_lt_or_eq.1 hi with h | rfl
        · exact hp i h
        · intro _; exact ⟨by omega, by omega, fun h => absurd h a3⟩
      · simp [hw]
  simp at h4
  refine awp_exit ?_
  refine hit ?_
  refine awp_seq ?_
  refine awp_run (s := ?s10) rfl ?o10 ?q10
  case o10 => simp; rfl
  refine awp_ret ?_
  have hy : Rise l lo hi := fun i hi => hp i (by omega) hi
  exact ⟨.inr rfl, RetOk.one (by simp [hy])⟩

end Go.Proofs.Ytnphfkceoklkkaa

/- Which edges may be in a graph. -/
namespace Go.Proofs.Ytnphfkceoklkkaa
open Go

structure Gr where
  size : Int
  edges : List Ed
  gone : List Int

abbrev gC (g : Gr) : List AV := [.I g.size, eEs g.edges, ints g.gone]
abbrev eG (g : Gr) : AV := .agg (gC g)
abbrev eC (e : Ed) : List AV := [.I e.f, .I e.t, .I e.v]

/-- An edge may be in the graph. -/
def Fits (g : Gr) (e : Ed) : Prop := 0 ≤ e.f ∧ e.f ≤ g.size - 1 ∧ 0 ≤ e.t ∧ e.t ≤ g.size - 1 ∧ e.f ≠ e.t ∧ e.f ∉ g.gone ∧ e.t ∉ g.gone

instance (g : Gr) (e : Ed) : Decidable (Fits g e) := by unfold Fits; infer_instance

theorem graph_fits_ok (g : Gr) (e : Ed) (hs : 0 ≤ g.size) (hs' : g.size ≤ 64) (hl : g.gone.length ≤ 140737488355328) : ACalls Try.prog ngraph_fits [eG g, eE e] [] (.B (decide (Fits g e))) [] := by
  refine sgraph_fits.acalls (Nat.le_of_ble_eq_true rfl) (Nat.le_of_ble_eq_true rfl) (Nat.le_refl _) ?_
  show awp _ 0 _ _ ⟨42, [(0, eG g), (1, eE e)], [], 16⟩
  refine awp_regc ⟨42, [(2, .pv (gC g)), (3, .pv (eC e)), (4, .B false)], [], 16⟩ rfl ?_ ?_
  · simp -implicitDefEqProofs
    exact Le.snap [16, 24] rfl rfl (by simp)
  have hw : IntKind.i64.wrap (g.size - 1) = g.size - 1 := w64 (by omega) (by omega)
  refine awp_regc ⟨42, [(4, .B (decide (Fits g e)))], [], 16⟩ rfl ?_ ?_
  · simp [hw]
    repeat' first
      | (refine callf nlists_In rfl ?_; refine call0e (lists_In_ok ..) rfl ?_; simp [hw])
      | (refine callf nslices_Contains_Lint_int rfl ?_; refine call0e (contains_ok _ _ hl) rfl ?_; simp [hw])
      | (refine gcase (fun hb => ?_) (fun hb => ?_) <;> (try rw [hb]) <;> simp [hw])
    all_goals exact Le.snap [] rfl rfl (by simp; exact wkB (by simp at *; grind [Fits]))
  refine awp_ret ?_
  exact ⟨.inr rfl, RetOk.one (by simp)⟩

end Go.Proofs.Ytnphfkceoklkkaa

/- What is wrong with a graph. -/
namespace Go.Proofs.Ytnphfkceoklkkaa
open Go

/-- What a graph must have, but for its edges. -/
def GrPre (g : Gr) : Prop := 0 ≤ g.size ∧ g.size ≤ 64 ∧ g.edges.length ≤ 500 ∧ Rise g.gone 0 (g.size - 1)
def EdAt (g : Gr) (i : Nat) : Prop := ∀ h : i < g.edges.length, Fits g g.edges[i] ∧ 1 ≤ g.edges[i].v ∧ g.edges[i].v ≤ 3 ∧ (0 < i → cmpE g.edges[i - 1] g.edges[i] < 0)
def GrOk (g : Gr) : Prop := GrPre g ∧ ∀ i, EdAt g i

open Classical in
theorem graph_Check_ok (g : Gr) (hl : g.edges.length ≤ 140737488355328) (hl2 : g.gone.length ≤ 140737488355328) : ACalls Try.prog ngraph_Check [eG g] [] (.I (if GrOk g then 0 else 14)) [] := by
  refine sgraph_Check.acalls (Nat.le_of_ble_eq_true rfl) (Nat.le_of_ble_eq_true rfl) (Nat.le_refl _) ?_
  show awp _ 0 _ _ ⟨58, [(0, eG g)], [], 16⟩
  refine awp_regc ⟨58, [(1, .pv (gC g))], [], 16⟩ rfl ?_ ?_
  · simp
    exact Le.snap [16] rfl rfl (by simp)
  refine awp_seq ?_
  refine awp_regc ⟨58, [(1, .pv (gC g)), (23, .B (decide (¬ GrPre g)))], [], 16⟩ rfl ?_ ?_
  · simp
    repeat' first
      | (refine callf nlists_In rfl ?_; refine call0e (lists_In_ok ..) rfl ?_; simp)
      | (refine callf nlists_Rising rfl ?_; have hw : IntKind.i64.wrap (g.size - 1) = g.size - 1 := w64 (by omega) (by omega); rw [hw]; refine call0e (lists_Rising_ok _ _ _ hl2) rfl ?_; simp)
      | (refine gcase (fun hb => ?_) (fun hb => ?_) <;> (try rw [hb]) <;> (try simp at hb) <;> simp [hb])
    all_goals exact Le.snap [] rfl rfl (by simp; exact wkB (by (try simp at *); grind [GrPre]))
  refine awp_cond _ rfl (fun h1 => ?_) fun h1 => ?_
  · refine awp_seq ?_
    refine awp_run (s := ?s2) rfl ?o2 ?q2
    case o2 => simp; rfl
    refine awp_ret ?_
    simp at h1
    exact ⟨.inr rfl, RetOk.one (by simp [GrOk, h1])⟩
  simp at h1
  have hs := h1.1
  have hs2 := h1.2.1
  refine awp_skip ?_
  refine awp_seq ?_
  refine awp_seq ?_
  refine awp_run (s := ?s3) rfl ?o3 ?q3
  case o3 => simp; rfl
  refine awp_block ?_
  refine awp_loop (ι := Nat) (fun k => ⟨58, [(1, .pv (gC g)), (25, eEs g.edges), (26, .I g.edges.length), (27, .I k)], [], 16⟩) (fun k => k ≤ g.edges.length ∧ ∀ i, i < k → EdAt g i) (fun k => g.edges.length - k) (0) ?_ (Le.snap [] rfl rfl (by simp)) ?_
  · simp
  rintro k ⟨hk, hp⟩
  refine awp_seq ?_
  refine awp_run (s := ?s4) rfl ?o4 ?q4
  case o4 => simp; rfl
  refine awp_seq ?_
  refine awp_cond _ rfl (fun h5 => ?_) fun h5 => ?_
  · simp at h5
    have hw2 : IntKind.i64.wrap ((k : Int) + 1) = (k : Int) + 1 := w64 (by omega) (by omega)
    have hwp : 0 < k → IntKind.i64.wrap ((k : Int) - 1) = ((k - 1 : Nat) : Int) := fun h => by rw [w64 (by omega) (by omega)]; omega
    have h5' : k - 1 < g.edges.length := by omega
    refine awp_skip ?_
    refine awp_seq ?_
    refine awp_block ?_
    refine awp_regc ⟨58, [(1, .pv (gC g)), (3, .I k), (4, .pv (eC g.edges[k])), (25, eEs g.edges), (26, .I g.edges.length), (27, .I k)], [], 16⟩ rfl ?_ ?_
    · simp [h5]
      exact Le.snap [48] rfl rfl (by simp)
    refine awp_dregc ⟨58, [(1, .pv (gC g)), (25, eEs g.edges), (26, .I g.edges.length), (27, .I k), (56, .B (decide (¬ EdAt g k)))], [], 16⟩ rfl ?_ ?_
    · simp
      repeat' first
        | (refine callf ngraph_fits rfl ?_; refine call0e (graph_fits_ok g _ hs hs2 hl2) rfl ?_; simp)
        | (refine callf nlists_In rfl ?_; refine call0e (lists_In_ok ..) rfl ?_; simp)
        | (refine callf ngraph_compare rfl ?_; refine call0e (graph_compare_ok ..) rfl ?_; simp)
        | (refine gcase (fun hb => ?_) (fun hb => ?_) <;> (try rw [hb]) <;> (try simp at hb) <;> simp [hb, h5, h5', hwp])
      all_goals exact ⟨rfl, Le.snap [] rfl rfl (by simp; exact wkB (by (try simp at *); grind [EdAt]))⟩
    refine awp_cond _ rfl (fun h6 => ?_) fun h6 => ?_
    · refine awp_seq ?_
      refine awp_run (s := ?s7) rfl ?o7 ?q7
      case o7 => simp; rfl
      refine awp_ret ?_
      have hn : ¬ GrOk g := fun h => by simp at h6; exact h6 (h.2 k)
      exact ⟨.inr rfl, RetOk.one (by simp [hn])⟩
    simp at h6
    refine awp_skip ?_
    refine awp_run (s := ?s8) rfl ?o8 ?q8
    case o8 => simp; rfl
    refine ⟨k + 1, ⟨h5, fun i hi => ?_⟩, ?_, Le.snap [] rfl rfl (by simp [hw2])⟩
    · rcases Nat.lt_succ_iff_lt_or_eq.1 hi with h | rfl
      · exact hp i h
      · exact h6
    · omega
  simp at h5
  have hy : GrOk g := ⟨h1, fun i hi => hp i (by omega) hi⟩
  refine awp_exit ?_
  refine hit ?_
  refine awp_seq ?_
  refine awp_run (s := ?s9) rfl ?o9 ?q9
  case o9 => simp; rfl
  refine awp_ret ?_
  exact ⟨.inr rfl, RetOk.one (by simp [hy])⟩
end Go.Proofs.Ytnphfkceoklkkaa

/- The reference's answer: what is wrong with a graph. -/
namespace Go.Proofs.Ytnphfkceoklkkaa
open Go

/-- The order of edges. -/
def Bef (a b : Ed) : Prop := a.f < b.f ∨ a.f = b.f ∧ a.t < b.t
instance (a b : Ed) : Decidable (Bef a b) := by unfold Bef; infer_instance

theorem cmpE_lt {a b : Ed} : cmpE a b < 0 ↔ Bef a b := by
  simp only [cmpE, cmpI, Bef]
  grind
theorem cmpE_eq {a b : Ed} : cmpE a b = 0 ↔ a.f = b.f ∧ a.t = b.t := by
  simp only [cmpE, cmpI]
  grind

theorem ref11_before_ok (a b : Ed) : ACalls Try.prog nref11_before [eE a, eE b] [] (.B (decide (Bef a b))) [] := by
  refine sref11_before.acalls (Nat.le_of_ble_eq_true rfl) (Nat.le_of_ble_eq_true rfl) (Nat.le_refl _) ?_
  show awp _ 0 _ _ ⟨24, [(0, eE a), (1, eE b)], [], 16⟩
  refine awp_regc ⟨24, [(2, .pv (eC a)), (3, .pv (eC b))], [], 16⟩ rfl ?_ ?_
  · simp
    exact Le.snap [16, 24] rfl rfl (by simp)
  refine awp_regc ⟨24, [(4, .B (decide (Bef a b)))], [], 16⟩ rfl ?_ ?_
  · simp
    repeat' first
      | (refine gcase (fun hb => ?_) (fun hb => ?_) <;> (try rw [hb]) <;> (try simp at hb) <;> simp [hb])
    all_goals exact Le.snap [] rfl rfl (by simp; exact wkB (by (try simp at *); grind [Bef]))
  refine awp_ret ?_
  exact ⟨.inr rfl, RetOk.one (by simp)⟩

open Classical in
theorem ref11_Set_ok (l : List Int) (n : Int) (hl : l.length ≤ 140737488355328) : ACalls Try.prog nref11_Set [ints l, .I n] [] (.B (decide (Rise l 0 (n - 1)))) [] := by
  refine sref11_Set.acalls (Nat.le_of_ble_eq_true rfl) (Nat.le_of_ble_eq_true rfl) (Nat.le_refl _) ?_
  show awp _ 0 _ _ ⟨41, [(0, ints l), (1, .I n)], [], 16⟩
  refine awp_seq ?_
  refine awp_run (s := ?s1) rfl ?o1 ?q1
  case o1 => simp; rfl
  refine awp_seq ?_
  refine awp_seq ?_
  refine awp_run (s := ?s2) rfl ?o2 ?q2
  case o2 => simp; rfl
  refine awp_block ?_
  refine awp_loop (ι := Nat) (fun k => ⟨41, [(0, ints l), (1, .I n), (5, .I k)], [], 16⟩) (fun k => k ≤ l.length ∧ ∀ i, i < k → RiseAt l 0 (n - 1) i) (fun k => l.length - k) (0) ?_ (Le.snap [] rfl rfl (by simp)) ?_
  · simp
  rintro k ⟨hk, hp⟩
  refine awp_seq ?_
  refine awp_seq ?_
  refine awp_run (s := ?s3) rfl ?o3 ?q3
  case o3 => simp; rfl
  refine awp_cond _ rfl (fun h4 => ?_) fun h4 => ?_
  · try simp at h4
    have hw2 : IntKind.i64.wrap ((k : Int) + 1) = (k : Int) + 1 := w64 (by omega) (by omega)
    have hwp : 0 < k → IntKind.i64.wrap ((k : Int) - 1) = ((k - 1 : Nat) : Int) := fun h => by rw [w64 (by omega) (by omega)]; omega
    have hkp : k - 1 < l.length := by omega
    refine awp_skip ?_
    refine awp_seq ?_
    refine awp_block ?_
    refine awp_dregc ⟨41, [(0, ints l), (1, .I n), (5, .I k), (40, .B (decide (¬ RiseAt l 0 (n - 1) k)))], [], 16⟩ rfl ?_ ?_
    · simp [h4, hw2, hwp, hkp]
      repeat' first
        | (refine gcase (fun hb => ?_) (fun hb => ?_) <;> (try rw [hb]) <;> (try simp at hb) <;> simp [hb, h4, hw2, hwp, hkp])
      all_goals exact ⟨rfl, Le.snap [] rfl rfl (by simp; exact wkB (by (try simp at *); grind [RiseAt]))⟩
    refine awp_cond _ rfl (fun h5 => ?_) fun h5 => ?_
    · try simp at h5
      refine awp_seq ?_
      refine awp_run (s := ?s6) rfl ?o6 ?q6
      case o6 => simp [h4, hw2, hwp, hkp]; rfl
      refine awp_ret ?_
      have hn : ¬ Rise l 0 (n - 1) := fun h => h5 (h k)
      exact ⟨.inr rfl, RetOk.one (by simp [hn])⟩
    try simp at h5
    refine awp_skip ?_
    refine awp_run (s := ?s7) rfl ?o7 ?q7
    case o7 => simp [h4, hw2, hwp, hkp]; rfl
    refine ⟨k + 1, ⟨h4, fun i hi => ?_⟩, by omega, Le.snap [] rfl rfl (by simp [h4, hw2, hwp, hkp])⟩
    rcases Nat.lt_succ_iff_lt_or_eq.1 hi with h | rfl
    · exact hp i h
    · exact h5
  try simp at h4
  have hall : ∀ i, i < l.length → RiseAt l 0 (n - 1) i := fun i hi => hp i (by omega)
  refine awp_exit ?_
  refine hit ?_
  refine awp_seq ?_
  refine awp_run (s := ?s8) rfl ?o8 ?q8
  case o8 => simp; rfl
  refine awp_ret ?_
  have hy : Rise l 0 (n - 1) := fun i hi => hall i hi hi
  exact ⟨.inr rfl, RetOk.one (by simp [hy])⟩

end Go.Proofs.Ytnphfkceoklkkaa

/- The reference's answer: what is wrong with a graph. -/
namespace Go.Proofs.Ytnphfkceoklkkaa
open Go

def EdA (g : Gr) (e : Ed) : Prop := 0 ≤ e.f ∧ e.f < g.size ∧ 0 ≤ e.t ∧ e.t < g.size ∧ e.f ≠ e.t ∧ 1 ≤ e.v ∧ e.v ≤ 3
instance (g : Gr) (e : Ed) : Decidable (EdA g e) := by unfold EdA; infer_instance
def EdB (g : Gr) (k : Nat) : Prop := ∀ h : k < g.edges.length, (0 < k → Bef g.edges[k - 1] g.edges[k]) ∧ g.edges[k].f ∉ g.gone ∧ g.edges[k].t ∉ g.gone

theorem edAt_iff (g : Gr) (k : Nat) (h : k < g.edges.length) : EdAt g k ↔ EdA g g.edges[k] ∧ EdB g k := by
  simp only [EdAt, EdA, EdB, Fits, cmpE_lt]
  grind

open Classical in
theorem ref11_Check_ok (g : Gr) (hl : g.edges.length ≤ 140737488355328) (hl2 : g.gone.length ≤ 140737488355328) : ACalls Try.prog nref11_Check [eG g] [] (.I (if GrOk g then 0 else 14)) [] := by
  refine sref11_Check.acalls (Nat.le_of_ble_eq_true rfl) (Nat.le_of_ble_eq_true rfl) (Nat.le_refl _) ?_
  show awp _ 0 _ _ ⟨105, [(0, eG g)], [], 16⟩
  refine awp_regc ⟨105, [(1, .pv (gC g))], [], 16⟩ rfl ?_ ?_
  · simp
    exact Le.snap [16] rfl rfl (by simp)
  refine awp_seq ?_
  refine awp_regc ⟨105, [(1, .pv (gC g)), (26, .B (decide (¬ GrPre g)))], [], 16⟩ rfl ?_ ?_
  · simp
    repeat' first
      | (refine callf nref11_Set rfl ?_; refine call0e (ref11_Set_ok _ _ hl2) rfl ?_; simp)
      | (refine gcase (fun hb => ?_) (fun hb => ?_) <;> (try rw [hb]) <;> (try simp at hb) <;> simp [hb])
    all_goals exact Le.snap [] rfl rfl (by simp; exact wkB (by (try simp at *); grind [GrPre, EdA, EdB]))
  refine awp_cond _ rfl (fun h1 => ?_) fun h1 => ?_
  · try simp at h1
    refine awp_seq ?_
    refine awp_run (s := ?s2) rfl ?o2 ?q2
    case o2 => simp; rfl
    refine awp_ret ?_
    exact ⟨.inr rfl, RetOk.one (by simp [GrOk, h1])⟩
  try simp at h1
  refine awp_skip ?_
  refine awp_seq ?_
  refine awp_seq ?_
  refine awp_run (s := ?s3) rfl ?o3 ?q3
  case o3 => simp; rfl
  refine awp_block ?_
  refine awp_loop (ι := Nat) (fun k => ⟨105, [(1, .pv (gC g)), (3, .I k)], [], 16⟩) (fun k => k ≤ g.edges.length ∧ ∀ i, i < k → EdAt g i) (fun k => g.edges.length - k) (0) ?_ (Le.snap [] rfl rfl (by simp)) ?_
  · simp
  rintro k ⟨hk, hp⟩
  refine awp_seq ?_
  refine awp_seq ?_
  refine awp_run (s := ?s4) rfl ?o4 ?q4
  case o4 => simp; rfl
  refine awp_cond _ rfl (fun h5 => ?_) fun h5 => ?_
  · try simp at h5
    have hw2 : IntKind.i64.wrap ((k : Int) + 1) = (k : Int) + 1 := w64 (by omega) (by omega)
    have hwp : 0 < k → IntKind.i64.wrap ((k : Int) - 1) = ((k - 1 : Nat) : Int) := fun h => by rw [w64 (by omega) (by omega)]; omega
    have hkp : k - 1 < g.edges.length := by omega
    refine awp_skip ?_
    refine awp_seq ?_
    refine awp_block ?_
    refine awp_regc ⟨105, [(1, .pv (gC g)), (3, .I k), (4, .pv (eC g.edges[k]))], [], 16⟩ rfl ?_ ?_
    · simp [h5, hw2, hwp, hkp]
      exact Le.snap [96] rfl rfl (by simp [h5, hw2, hwp, hkp])
    refine awp_seq ?_
    refine awp_regc ⟨105, [(1, .pv (gC g)), (3, .I k), (4, .pv (eC g.edges[k])), (77, .B (decide (¬ EdA g g.edges[k])))], [], 16⟩ rfl ?_ ?_
    · simp [h5, hw2, hwp, hkp]
      repeat' first
        | (refine gcase (fun hb => ?_) (fun hb => ?_) <;> (try rw [hb]) <;> (try simp at hb) <;> simp [hb, h5, hw2, hwp, hkp])
      all_goals exact Le.snap [] rfl rfl (by simp; exact wkB (by (try simp at *); grind [GrPre, EdA, EdB]))
    refine awp_cond _ rfl (fun h6 => ?_) fun h6 => ?_
    · try simp at h6
      refine awp_seq ?_
      refine awp_run (s := ?s7) rfl ?o7 ?q7
      case o7 => simp [h5, hw2, hwp, hkp]; rfl
      refine awp_ret ?_
      have hn : ¬ GrOk g := fun h => by have h2 := (edAt_iff g k h5).1 (h.2 k); simp_all
      exact ⟨.inr rfl, RetOk.one (by simp [hn])⟩
    try simp at h6
    refine awp_skip ?_
    refine awp_dregc ⟨105, [(1, .pv (gC g)), (3, .I k), (104, .B (decide (¬ EdB g k)))], [], 16⟩ rfl ?_ ?_
    · simp [h5, hw2, hwp, hkp]
      repeat' first
        | (refine callf nref11_before rfl ?_; refine call0e (ref11_before_ok ..) rfl ?_; simp [h5, hw2, hwp, hkp])
        | (refine callf nref11_Has rfl ?_; refine call0e (has_ok _ _ hl2) rfl ?_; simp [h5, hw2, hwp, hkp])
        | (refine gcase (fun hb => ?_) (fun hb => ?_) <;> (try rw [hb]) <;> (try simp at hb) <;> simp [hb, h5, hw2, hwp, hkp])
      all_goals exact ⟨rfl, Le.snap [] rfl rfl (by simp; exact wkB (by (try simp at *); grind [GrPre, EdA, EdB]))⟩
    refine awp_cond _ rfl (fun h8 => ?_) fun h8 => ?_
    · try simp at h8
      refine awp_seq ?_
      refine awp_run (s := ?s9) rfl ?o9 ?q9
      case o9 => simp [h5, hw2, hwp, hkp]; rfl
      refine awp_ret ?_
      have hn : ¬ GrOk g := fun h => by have h2 := (edAt_iff g k h5).1 (h.2 k); simp_all
      exact ⟨.inr rfl, RetOk.one (by simp [hn])⟩
    try simp at h8
    refine awp_skip ?_
    refine awp_run (s := ?s10) rfl ?o10 ?q10
    case o10 => simp [h5, hw2, hwp, hkp]; rfl
    refine ⟨k + 1, ⟨h5, fun i hi => ?_⟩, by omega, Le.snap [] rfl rfl (by simp [h5, hw2, hwp, hkp])⟩
    rcases Nat.lt_succ_iff_lt_or_eq.1 hi with h | rfl
    · exact hp i h
    · exact (edAt_iff g i h5).2 ⟨h6, h8⟩
  try simp at h5
  have hall : ∀ i, i < g.edges.length → EdAt g i := fun i hi => hp i (by omega)
  refine awp_exit ?_
  refine hit ?_
  refine awp_seq ?_
  refine awp_run (s := ?s11) rfl ?o11 ?q11
  case o11 => simp; rfl
  refine awp_ret ?_
  have hy : GrOk g := ⟨h1, fun i hi => hall i hi hi⟩
  exact ⟨.inr rfl, RetOk.one (by simp [hy])⟩

end Go.Proofs.Ytnphfkceoklkkaa

/- Copies of lists; the place of an edge in a list. -/
namespace Go.Proofs.Ytnphfkceoklkkaa
open Go

theorem cloneI_ok (l : List Int) (hl : l.length * 8 ≤ 140737488355328) : ACalls Try.prog nslices_Clone_Lint_int [ints l] [] (.rs 0 0 l.length) [some ⟨1, l.map fun n => [AV.I n], 0⟩] := by
  cases l with
  | nil =>
    refine acalls_mt fun ad c => ?_
    refine sslices_Clone_Lint_int.acalls (Nat.le_of_ble_eq_true rfl) (Nat.le_of_ble_eq_true rfl) (Nat.zero_le _) ?_
    show awp _ 0 _ _ ⟨8, [(0, .sc (.slice ad 0 c))], [], 16⟩
    refine awp_seq ?_
    refine awp_run (s := ?s1) rfl ?o1 ?q1
    case o1 => simp; rfl
    refine awp_cut (ι := Unit) (fun _ => ⟨8, [(0, .vs 1 false [])], [], 40⟩) (fun _ => True) ?_ fun _ _ => ?_
    · refine awp_seq ?_
      refine awp_run (s := ?s2) rfl ?o2 ?q2
      case o2 => simp; rfl
      refine awp_cond _ rfl (fun h3 => ?_) fun h3 => ?_
      · refine awp_regc ⟨8, [(2, .rs 40 0 0)], [(40, some ⟨1, [], 0⟩)], 48⟩ rfl ?_ ?_
        · simp
          exact Le.lst [] [] [(40, 1)] rfl (by simp) (by simp) (by simp) (by simp) (by simp) (by simp) (by simp) (by simp [Up]) (by simp)
        refine awp_ret ?_
        exact ⟨.inr rfl, RetOk.out [40] [] rfl (by simp) (by simp) (by simp) (by simp)⟩
      refine awp_skip ?_
      exact ⟨(), trivial, Le.slots rfl rfl (by simp; exact .mt _ _ _)⟩
    refine awp_seq ?_
    refine awp_run (s := ?s5) rfl ?o5 ?q5
    case o5 => simp [List.replicate]; rfl
    refine awp_ret ?_
    exact ⟨.inr rfl, RetOk.out [56] [] rfl (by simp) (by simp) (by simp) (by simp)⟩
  | cons x l =>
    refine sslices_Clone_Lint_int.acalls (Nat.le_of_ble_eq_true rfl) (Nat.le_of_ble_eq_true rfl) (Nat.zero_le _) ?_
    show awp _ 0 _ _ ⟨8, [(0, ints (x :: l))], [], 16⟩
    refine awp_seq ?_
    refine awp_run (s := ?t1) rfl ?p1 ?r1
    case p1 => simp; rfl
    refine awp_seq ?_
    refine awp_seq ?_
    refine awp_run (s := ?t2) rfl ?p2 ?r2
    case p2 => simp; rfl
    refine awp_cond _ rfl (fun h3 => by cases h3) fun h3 => ?_
    refine awp_skip ?_
    refine awp_seq ?_
    refine awp_run (s := ?t4) rfl ?p4 ?r4
    case p4 => simp [List.replicate]; refine ⟨by simpa using hl, by simp at hl; omega, ?_⟩; rfl
    refine awp_ret ?_
    exact ⟨.inr rfl, RetOk.out [56] [] rfl (by simp) (by simp) (by simp) (by simp [Function.comp_def])⟩

theorem cloneE_ok (l : List Ed) (hl : l.length * 24 ≤ 140737488355328) : ACalls Try.prog nslices_Clone_Lapi_Edge_api_Edge [eEs l] [] (.rs 0 0 l.length) [some ⟨3, l.map fun e => [AV.I e.f, AV.I e.t, AV.I e.v], 0⟩] := by
  cases l with
  | nil =>
    refine acalls_mt fun ad c => ?_
    refine sslices_Clone_Lapi_Edge_api_Edge.acalls (Nat.le_of_ble_eq_true rfl) (Nat.le_of_ble_eq_true rfl) (Nat.zero_le _) ?_
    show awp _ 0 _ _ ⟨8, [(0, .sc (.slice ad 0 c))], [], 16⟩
    refine awp_seq ?_
    refine awp_run (s := ?s1) rfl ?o1 ?q1
    case o1 => simp; rfl
    refine awp_cut (ι := Unit) (fun _ => ⟨8, [(0, .vs 3 false [])], [], 40⟩) (fun _ => True) ?_ fun _ _ => ?_
    · refine awp_seq ?_
      refine awp_run (s := ?s2) rfl ?o2 ?q2
      case o2 => simp; rfl
      refine awp_cond _ rfl (fun h3 => ?_) fun h3 => ?_
      · refine awp_regc ⟨8, [(2, .rs 40 0 0)], [(40, some ⟨3, [], 0⟩)], 48⟩ rfl ?_ ?_
        · simp
          exact Le.lst [] [] [(40, 3)] rfl (by simp) (by simp) (by simp) (by simp) (by simp) (by simp) (by simp) (by simp [Up]) (by simp)
        refine awp_ret ?_
        exact ⟨.inr rfl, RetOk.out [40] [] rfl (by simp) (by simp) (by simp) (by simp)⟩
      refine awp_skip ?_
      exact ⟨(), trivial, Le.slots rfl rfl (by simp; exact .mt _ _ _)⟩
    refine awp_seq ?_
    refine awp_run (s := ?s5) rfl ?o5 ?q5
    case o5 => simp [List.replicate]; rfl
    refine awp_ret ?_
    exact ⟨.inr rfl, RetOk.out [56] [] rfl (by simp) (by simp) (by simp) (by simp)⟩
  | cons x l =>
    refine sslices_Clone_Lapi_Edge_api_Edge.acalls (Nat.le_of_ble_eq_true rfl) (Nat.le_of_ble_eq_true rfl) (Nat.zero_le _) ?_
    show awp _ 0 _ _ ⟨8, [(0, eEs (x :: l))], [], 16⟩
    refine awp_seq ?_
    refine awp_run (s := ?t1) rfl ?p1 ?r1
    case p1 => simp; rfl
    refine awp_seq ?_
    refine awp_seq ?_
    refine awp_run (s := ?t2) rfl ?p2 ?r2
    case p2 => simp; rfl
    refine awp_cond _ rfl (fun h3 => by cases h3) fun h3 => ?_
    refine awp_skip ?_
    refine awp_seq ?_
    refine awp_run (s := ?t4) rfl ?p4 ?r4
    case p4 => simp [List.replicate]; refine ⟨by simpa using hl, by simp at hl; omega, ?_⟩; rfl
    refine awp_ret ?_
    exact ⟨.inr rfl, RetOk.out [56] [] rfl (by simp) (by simp) (by simp) (by simp [Function.comp_def])⟩


end Go.Proofs.Ytnphfkceoklkkaa

/- The place of an edge in a list. -/
namespace Go.Proofs.Ytnphfkceoklkkaa
open Go

/-- Where an edge stands, or would stand. -/
def idxE (l : List Ed) (e : Ed) : Nat := l.findIdx fun x => !decide (Bef x e)
def AtE (l : List Ed) (k : Nat) (f t : Int) : Prop := ∃ h : k < l.length, l[k].f = f ∧ l[k].t = t
instance (l : List Ed) (k : Nat) (f t : Int) : Decidable (AtE l k f t) := by unfold AtE; infer_instance
def BefAt (l : List Ed) (e : Ed) (k : Nat) : Prop := ∀ h : k < l.length, Bef l[k] e

theorem idxE_le (l : List Ed) (e : Ed) : idxE l e ≤ l.length := List.findIdx_le_length

theorem idxE_of {l : List Ed} {e : Ed} {k : Nat} (hk : k ≤ l.length) (h1 : ∀ i, i < k → BefAt l e i) (h2 : ∀ h : k < l.length, ¬ Bef l[k] e) : idxE l e = k := by
  unfold idxE
  rcases Nat.lt_or_ge k l.length with h | h
  · rw [List.findIdx_eq h]
    refine ⟨by simpa using h2 h, fun j hj => ?_⟩
    simpa using h1 j hj (by omega)
  · obtain rfl : k = l.length := by omega
    rw [List.findIdx_eq_length]
    intro x hx
    obtain ⟨i, hi, rfl⟩ := List.mem_iff_getElem.1 hx
    simpa using h1 i hi hi

theorem ref11_index_ok (g : Gr) (f t : Int) (hl : g.edges.length ≤ 140737488355328) : ACalls Try.prog nref11_index [eG g, .I f, .I t] [] (.tup [.I (idxE g.edges ⟨f, t, 0⟩), .B (decide (AtE g.edges (idxE g.edges ⟨f, t, 0⟩) f t))]) [] := by
  refine sref11_index.acalls (Nat.le_of_ble_eq_true rfl) (Nat.le_of_ble_eq_true rfl) (Nat.le_refl _) ?_
  show awp _ 0 _ _ ⟨53, [(0, eG g), (1, .I f), (2, .I t)], [], 16⟩
  refine awp_regc ⟨53, [(1, .I f), (2, .I t), (3, .pv (gC g))], [], 16⟩ rfl ?_ ?_
  · simp
    exact Le.snap [16] rfl rfl (by simp)
  refine awp_seq ?_
  refine awp_run (s := ?s1) rfl ?o1 ?q1
  case o1 => simp; rfl
  refine awp_seq ?_
  refine awp_block ?_
  refine awp_loop (ι := Nat) (fun k => ⟨53, [(1, .I f), (2, .I t), (3, .pv (gC g)), (8, .I k)], [], 16⟩) (fun k => k ≤ g.edges.length ∧ ∀ i, i < k → BefAt g.edges ⟨f, t, 0⟩ i) (fun k => g.edges.length - k) (0) ?_ (Le.snap [] rfl rfl (by simp)) ?_
  · simp
  rintro k ⟨hk, hp⟩
  refine awp_seq ?_
  refine awp_regc ⟨53, [(1, .I f), (2, .I t), (3, .pv (gC g)), (8, .I k), (24, .B (decide (∃ h : k < g.edges.length, Bef g.edges[k] ⟨f, t, 0⟩)))], [], 16⟩ rfl ?_ ?_
  · simp
    repeat' first
      | (refine callf nref11_before rfl ?_; refine call0e (ref11_before_ok _ ⟨f, t, 0⟩) rfl ?_; simp)
      | (refine gcase (fun hb => ?_) (fun hb => ?_) <;> (try rw [hb]) <;> (try simp at hb) <;> simp [*])
    all_goals exact Le.snap [] rfl rfl (by simp <;> exact wkB (by (try simp at *); grind))
  refine awp_cond _ rfl (fun h2 => ?_) fun h2 => ?_
  · try simp at h2
    obtain ⟨h2, h2b⟩ := h2
    have hw2 : IntKind.i64.wrap ((k : Int) + 1) = (k : Int) + 1 := w64 (by omega) (by omega)
    have hwp : 0 < k → IntKind.i64.wrap ((k : Int) - 1) = ((k - 1 : Nat) : Int) := fun h => by rw [w64 (by omega) (by omega)]; omega
    have hkp : k - 1 < g.edges.length := by omega
    refine awp_skip ?_
    refine awp_block ?_
    refine awp_run (s := ?s3) rfl ?o3 ?q3
    case o3 => simp [h2, hw2, hwp, hkp]; rfl
    refine ⟨k + 1, ⟨h2, fun i hi => ?_⟩, by omega, Le.snap [] rfl rfl (by simp [h2, hw2, hwp, hkp])⟩
    rcases Nat.lt_succ_iff_lt_or_eq.1 hi with h | rfl
    · exact hp i h
    · exact fun _ => h2b
  try simp at h2
  rw [idxE_of hk hp h2]
  refine awp_exit ?_
  refine hit ?_
  refine awp_dregc ⟨53, [(6, .I k), (7, .B (decide (AtE g.edges k f t)))], [], 16⟩ rfl ?_ ?_
  · simp
    repeat' first
      | (refine gcase (fun hb => ?_) (fun hb => ?_) <;> (try rw [hb]) <;> (try simp at hb) <;> simp [*])
    all_goals exact ⟨rfl, Le.snap [] rfl rfl (by simp <;> exact wkB (by (try simp at *); grind [AtE]))⟩
  refine awp_ret ?_
  exact ⟨.inr rfl, RetOk.out [] [] rfl (by simp) (by simp) (by simp) (by simp)⟩

end Go.Proofs.Ytnphfkceoklkkaa

/- Copies of graphs. -/
namespace Go.Proofs.Ytnphfkceoklkkaa
open Go

theorem ref11_Copy_ok (g : Gr) (hl : g.edges.length * 24 ≤ 140737488355328) (hl2 : g.gone.length * 8 ≤ 140737488355328) : ACalls Try.prog nref11_Copy [eG g] [] (.agg [.I g.size, .rs 0 0 g.edges.length, .rs 1 0 g.gone.length]) [some ⟨3, g.edges.map fun e => [AV.I e.f, AV.I e.t, AV.I e.v], 0⟩, some ⟨1, g.gone.map fun n => [AV.I n], 0⟩] := by
  refine sref11_Copy.acalls (Nat.le_of_ble_eq_true rfl) (Nat.le_of_ble_eq_true rfl) (Nat.zero_le _) ?_
  show awp _ 0 _ _ ⟨12, [(0, eG g)], [], 16⟩
  have hl3 : g.edges.length ≤ 140737488355328 := by omega
  have hl4 : g.gone.length ≤ 140737488355328 := by omega
  refine awp_seq ?_
  refine awp_run (s := ?s0) rfl ?o0 ?q0
  case o0 => simp; rfl
  refine awp_seq ?_
  refine awp_drun (s := ?s1) (tr := ?t1) rfl ?o1 ?r1 ?q1
  case o1 => simp [hl, hl2, hl3, hl4]; constructor <;> rfl
  case r1 => rfl
  refine awp_ret ?_
  refine ⟨.inr rfl, ?_⟩
  show RetOk [(2, some (true, 3))] 0 _ _ _
  exact RetOk.out (vs := [.agg [.I g.size, .rs 64 0 g.edges.length, .rs 88 0 g.gone.length]]) [64, 88] [] (by simp) (by simp) (by simp) (by simp) (by simp [Function.comp_def])

theorem graph_copied_ok (g : Gr) (hl : g.edges.length * 24 ≤ 140737488355328) (hl2 : g.gone.length * 8 ≤ 140737488355328) : ACalls Try.prog ngraph_copied [eG g] [] (.agg [.I g.size, .rs 0 0 g.edges.length, .rs 1 0 g.gone.length]) [some ⟨3, g.edges.map fun e => [AV.I e.f, AV.I e.t, AV.I e.v], 0⟩, some ⟨1, g.gone.map fun n => [AV.I n], 0⟩] := by
  refine sgraph_copied.acalls (Nat.le_of_ble_eq_true rfl) (Nat.le_of_ble_eq_true rfl) (Nat.zero_le _) ?_
  show awp _ 0 _ _ ⟨12, [(0, eG g)], [], 16⟩
  have hl3 : g.edges.length ≤ 140737488355328 := by omega
  have hl4 : g.gone.length ≤ 140737488355328 := by omega
  refine awp_seq ?_
  refine awp_run (s := ?s0) rfl ?o0 ?q0
  case o0 => simp; rfl
  refine awp_seq ?_
  refine awp_drun (s := ?s1) (tr := ?t1) rfl ?o1 ?r1 ?q1
  case o1 => simp; refine callN1 (cloneE_ok _ hl) rfl ?_; simp; refine callN1 (cloneI_ok _ hl2) rfl ?_; simp [Function.comp_def]; constructor <;> rfl
  case r1 => rfl
  refine awp_ret ?_
  refine ⟨.inr rfl, ?_⟩
  show RetOk [(2, some (true, 3))] 0 _ _ _
  exact RetOk.out (vs := [.agg [.I g.size, .rs 64 0 g.edges.length, .rs 88 0 g.gone.length]]) [64, 88] [] (by simp) (by simp) (by simp) (by simp) (by simp [Function.comp_def])


end Go.Proofs.Ytnphfkceoklkkaa

/- Equal lists. -/
namespace Go.Proofs.Ytnphfkceoklkkaa
open Go

theorem list_eq {α : Type} {a b : List α} (h : a.length = b.length) (hp : ∀ i, i < a.length → a[i]? = b[i]?) : a = b := by
  apply List.ext_getElem? 
  intro i
  rcases Nat.lt_or_ge i a.length with h1 | h1
  · exact hp i h1
  · rw [List.getElem?_eq_none h1, List.getElem?_eq_none (by omega)]

theorem ed_eq {a b : Ed} : a = b ↔ a.f = b.f ∧ a.t = b.t ∧ a.v = b.v := by
  cases a; cases b; simp

theorem SameInts_ok (a b : List Int) (hl : a.length ≤ 140737488355328) : ACalls Try.prog nref03_SameInts [ints a, ints b] [] (.B (decide (a = b))) [] := by
  refine sref03_SameInts.acalls (Nat.le_of_ble_eq_true rfl) (Nat.le_of_ble_eq_true rfl) (Nat.le_refl _) ?_
  show awp _ 0 _ _ ⟨26, [(0, ints a), (1, ints b)], [], 16⟩
  refine awp_seq ?_
  refine awp_run (s := ?s1) rfl ?o1 ?q1
  case o1 => simp; rfl
  refine awp_seq ?_
  refine awp_seq ?_
  refine awp_run (s := ?s2) rfl ?o2 ?q2
  case o2 => simp; rfl
  refine awp_cond _ rfl (fun h3 => ?_) fun h3 => ?_
  · try simp at h3
    refine awp_seq ?_
    refine awp_run (s := ?s4) rfl ?o4 ?q4
    case o4 => simp; rfl
    refine awp_ret ?_
    have hn : a ≠ b := fun h => h3 (by rw [h])
    exact ⟨.inr rfl, RetOk.one (by simp [hn])⟩
  try simp at h3
  refine awp_skip ?_
  refine awp_seq ?_
  refine awp_seq ?_
  refine awp_run (s := ?s5) rfl ?o5 ?q5
  case o5 => simp; rfl
  refine awp_block ?_
  refine awp_loop (ι := Nat) (fun k => ⟨26, [(0, ints a), (1, ints b), (5, .I k)], [], 16⟩) (fun k => k ≤ a.length ∧ ∀ i, i < k → a[i]? = b[i]?) (fun k => a.length - k) (0) ?_ (Le.snap [] rfl rfl (by simp)) ?_
  · simp
  rintro k ⟨hk, hp⟩
  refine awp_seq ?_
  refine awp_seq ?_
  refine awp_run (s := ?s6) rfl ?o6 ?q6
  case o6 => simp; rfl
  refine awp_cond _ rfl (fun h7 => ?_) fun h7 => ?_
  · try simp at h7
    have hw2 : IntKind.i64.wrap ((k : Int) + 1) = (k : Int) + 1 := w64 (by omega) (by omega)
    have hwp : 0 < k → IntKind.i64.wrap ((k : Int) - 1) = ((k - 1 : Nat) : Int) := fun h => by rw [w64 (by omega) (by omega)]; omega
    have hkp : k - 1 < a.length := by omega
    have hkb : k < b.length := by omega
    refine awp_skip ?_
    refine awp_seq ?_
    refine awp_block ?_
    refine awp_seq ?_
    refine awp_drun (s := ?s8) (tr := ?t8) rfl ?o8 ?r8 ?q8
    case o8 => simp [h7, hw2, hwp, hkp, hkb]; constructor <;> rfl
    case r8 => rfl
    refine awp_cond _ rfl (fun h9 => ?_) fun h9 => ?_
    · try simp at h9
      refine awp_seq ?_
      refine awp_run (s := ?s10) rfl ?o10 ?q10
      case o10 => simp [h7, hw2, hwp, hkp, hkb]; rfl
      refine awp_ret ?_
      have hn : a ≠ b := fun h => h9 (by simp [h])
      exact ⟨.inr rfl, RetOk.one (by simp [hn])⟩
    try simp at h9
    refine awp_skip ?_
    refine awp_run (s := ?s11) rfl ?o11 ?q11
    case o11 => simp [h7, hw2, hwp, hkp, hkb]; rfl
    refine ⟨k + 1, ⟨h7, fun i hi => ?_⟩, by omega, Le.snap [] rfl rfl (by simp [h7, hw2, hwp, hkp, hkb])⟩
    rcases Nat.lt_succ_iff_lt_or_eq.1 hi with h | rfl
    · exact hp i h
    · simp [h7, hkb, h9]
  try simp at h7
  have hall : ∀ i, i < a.length → a[i]? = b[i]? := fun i hi => hp i (by omega)
  refine awp_exit ?_
  refine hit ?_
  refine awp_seq ?_
  refine awp_run (s := ?s12) rfl ?o12 ?q12
  case o12 => simp; rfl
  refine awp_ret ?_
  have hy : a = b := list_eq (by omega) hall
  exact ⟨.inr rfl, RetOk.one (by simp [hy])⟩

theorem EqualI_ok (a b : List Int) (hl : a.length ≤ 140737488355328) : ACalls Try.prog nslices_Equal_Lint_int [ints a, ints b] [] (.B (decide (a = b))) [] := by
  refine sslices_Equal_Lint_int.acalls (Nat.le_of_ble_eq_true rfl) (Nat.le_of_ble_eq_true rfl) (Nat.le_refl _) ?_
  show awp _ 0 _ _ ⟨26, [(0, ints a), (1, ints b)], [], 16⟩
  refine awp_seq ?_
  refine awp_run (s := ?s1) rfl ?o1 ?q1
  case o1 => simp; rfl
  refine awp_seq ?_
  refine awp_seq ?_
  refine awp_run (s := ?s2) rfl ?o2 ?q2
  case o2 => simp; rfl
  refine awp_cond _ rfl (fun h3 => ?_) fun h3 => ?_
  · try simp at h3
    refine awp_seq ?_
    refine awp_run (s := ?s4) rfl ?o4 ?q4
    case o4 => simp; rfl
    refine awp_ret ?_
    have hn : a ≠ b := fun h => h3 (by rw [h])
    exact ⟨.inr rfl, RetOk.one (by simp [hn])⟩
  try simp at h3
  refine awp_skip ?_
  refine awp_seq ?_
  refine awp_seq ?_
  refine awp_run (s := ?s5) rfl ?o5 ?q5
  case o5 => simp; rfl
  refine awp_block ?_
  refine awp_loop (ι := Nat) (fun k => ⟨26, [(0, ints a), (1, ints b), (12, .I a.length), (13, .I k)], [], 16⟩) (fun k => k ≤ a.length ∧ ∀ i, i < k → a[i]? = b[i]?) (fun k => a.length - k) (0) ?_ (Le.snap [] rfl rfl (by simp)) ?_
  · simp
  rintro k ⟨hk, hp⟩
  refine awp_seq ?_
  refine awp_run (s := ?s6) rfl ?o6 ?q6
  case o6 => simp; rfl
  refine awp_seq ?_
  refine awp_cond _ rfl (fun h7 => ?_) fun h7 => ?_
  · try simp at h7
    have hw2 : IntKind.i64.wrap ((k : Int) + 1) = (k : Int) + 1 := w64 (by omega) (by omega)
    have hwp : 0 < k → IntKind.i64.wrap ((k : Int) - 1) = ((k - 1 : Nat) : Int) := fun h => by rw [w64 (by omega) (by omega)]; omega
    have hkp : k - 1 < a.length := by omega
    have hkb : k < b.length := by omega
    refine awp_skip ?_
    refine awp_seq ?_
    refine awp_block ?_
    refine awp_seq ?_
    refine awp_run (s := ?s8) rfl ?o8 ?q8
    case o8 => simp [h7, hw2, hwp, hkp, hkb]; rfl
    refine awp_seq ?_
    refine awp_drun (s := ?s9) (tr := ?t9) rfl ?o9 ?r9 ?q9
    case o9 => simp [h7, hw2, hwp, hkp, hkb]; constructor <;> rfl
    case r9 => rfl
    refine awp_cond _ rfl (fun h10 => ?_) fun h10 => ?_
    · try simp at h10
      refine awp_seq ?_
      refine awp_run (s := ?s11) rfl ?o11 ?q11
      case o11 => simp [h7, hw2, hwp, hkp, hkb]; rfl
      refine awp_ret ?_
      have hn : a ≠ b := fun h => h10 (by simp [h])
      exact ⟨.inr rfl, RetOk.one (by simp [hn])⟩
    try simp at h10
    refine awp_skip ?_
    refine awp_run (s := ?s12) rfl ?o12 ?q12
    case o12 => simp [h7, hw2, hwp, hkp, hkb]; rfl
    refine ⟨k + 1, ⟨h7, fun i hi => ?_⟩, by omega, Le.snap [] rfl rfl (by simp [h7, hw2, hwp, hkp, hkb])⟩
    rcases Nat.lt_succ_iff_lt_or_eq.1 hi with h | rfl
    · exact hp i h
    · simp [h7, hkb, h10]
  try simp at h7
  have hall : ∀ i, i < a.length → a[i]? = b[i]? := fun i hi => hp i (by omega)
  refine awp_exit ?_
  refine hit ?_
  refine awp_seq ?_
  refine awp_run (s := ?s13) rfl ?o13 ?q13
  case o13 => simp; rfl
  refine awp_ret ?_
  have hy : a = b := list_eq (by omega) hall
  exact ⟨.inr rfl, RetOk.one (by simp [hy])⟩

theorem EqualE_ok (a b : List Ed) (hl : a.length ≤ 140737488355328) : ACalls Try.prog nslices_Equal_Lapi_Edge_api_Edge [eEs a, eEs b] [] (.B (decide (a = b))) [] := by
  refine sslices_Equal_Lapi_Edge_api_Edge.acalls (Nat.le_of_ble_eq_true rfl) (Nat.le_of_ble_eq_true rfl) (Nat.le_refl _) ?_
  show awp _ 0 _ _ ⟨26, [(0, eEs a), (1, eEs b)], [], 16⟩
  refine awp_seq ?_
  refine awp_run (s := ?s1) rfl ?o1 ?q1
  case o1 => simp; rfl
  refine awp_seq ?_
  refine awp_seq ?_
  refine awp_run (s := ?s2) rfl ?o2 ?q2
  case o2 => simp; rfl
  refine awp_cond _ rfl (fun h3 => ?_) fun h3 => ?_
  · try simp at h3
    refine awp_seq ?_
    refine awp_run (s := ?s4) rfl ?o4 ?q4
    case o4 => simp; rfl
    refine awp_ret ?_
    have hn : a ≠ b := fun h => h3 (by rw [h])
    exact ⟨.inr rfl, RetOk.one (by simp [hn])⟩
  try simp at h3
  refine awp_skip ?_
  refine awp_seq ?_
  refine awp_seq ?_
  refine awp_run (s := ?s5) rfl ?o5 ?q5
  case o5 => simp; rfl
  refine awp_block ?_
  refine awp_loop (ι := Nat) (fun k => ⟨26, [(0, eEs a), (1, eEs b), (12, .I a.length), (13, .I k)], [], 16⟩) (fun k => k ≤ a.length ∧ ∀ i, i < k → a[i]? = b[i]?) (fun k => a.length - k) (0) ?_ (Le.snap [] rfl rfl (by simp)) ?_
  · simp
  rintro k ⟨hk, hp⟩
  refine awp_seq ?_
  refine awp_run (s := ?s6) rfl ?o6 ?q6
  case o6 => simp; rfl
  refine awp_seq ?_
  refine awp_cond _ rfl (fun h7 => ?_) fun h7 => ?_
  · try simp at h7
    have hw2 : IntKind.i64.wrap ((k : Int) + 1) = (k : Int) + 1 := w64 (by omega) (by omega)
    have hwp : 0 < k → IntKind.i64.wrap ((k : Int) - 1) = ((k - 1 : Nat) : Int) := fun h => by rw [w64 (by omega) (by omega)]; omega
    have hkp : k - 1 < a.length := by omega
    have hkb : k < b.length := by omega
    refine awp_skip ?_
    refine awp_seq ?_
    refine awp_block ?_
    refine awp_seq ?_
    refine awp_run (s := ?s8) rfl ?o8 ?q8
    case o8 => simp [h7, hw2, hwp, hkp, hkb]; rfl
    refine awp_dregc ⟨26, [(0, eEs a), (1, eEs b), (12, .I a.length), (13, .I k), (24, .B (decide (a[k] ≠ b[k])))], [], 16⟩ rfl ?_ ?_
    · simp [h7, hw2, hwp, hkp, hkb]
      exact ⟨rfl, Le.snap [] rfl rfl (by simp <;> exact wkB (by grind [ed_eq]))⟩
    refine awp_cond _ rfl (fun h9 => ?_) fun h9 => ?_
    · try simp at h9
      refine awp_seq ?_
      refine awp_run (s := ?s10) rfl ?o10 ?q10
      case o10 => simp [h7, hw2, hwp, hkp, hkb]; rfl
      refine awp_ret ?_
      have hn : a ≠ b := fun h => h9 (by simp [h])
      exact ⟨.inr rfl, RetOk.one (by simp [hn])⟩
    try simp at h9
    refine awp_skip ?_
    refine awp_run (s := ?s11) rfl ?o11 ?q11
    case o11 => simp [h7, hw2, hwp, hkp, hkb]; rfl
    refine ⟨k + 1, ⟨h7, fun i hi => ?_⟩, by omega, Le.snap [] rfl rfl (by simp [h7, hw2, hwp, hkp, hkb])⟩
    rcases Nat.lt_succ_iff_lt_or_eq.1 hi with h | rfl
    · exact hp i h
    · simp [h7, hkb, h9]
  try simp at h7
  have hall : ∀ i, i < a.length → a[i]? = b[i]? := fun i hi => hp i (by omega)
  refine awp_exit ?_
  refine hit ?_
  refine awp_seq ?_
  refine awp_run (s := ?s12) rfl ?o12 ?q12
  case o12 => simp; rfl
  refine awp_ret ?_
  have hy : a = b := list_eq (by omega) hall
  exact ⟨.inr rfl, RetOk.one (by simp [hy])⟩


end Go.Proofs.Ytnphfkceoklkkaa

/- Equal graphs. -/
namespace Go.Proofs.Ytnphfkceoklkkaa
open Go

/-- Equal graphs. -/
def EqG (a b : Gr) : Prop := a.size = b.size ∧ a.edges = b.edges ∧ a.gone = b.gone
instance (a b : Gr) : Decidable (EqG a b) := by unfold EqG; infer_instance

theorem graph_Same_ok (a b : Gr) (hl : a.edges.length ≤ 140737488355328) (hl2 : a.gone.length ≤ 140737488355328) : ACalls Try.prog ngraph_Same [eG a, eG b] [] (.B (decide (EqG a b))) [] := by
  refine sgraph_Same.acalls (Nat.le_of_ble_eq_true rfl) (Nat.le_of_ble_eq_true rfl) (Nat.le_refl _) ?_
  show awp _ 0 _ _ ⟨24, [(0, eG a), (1, eG b)], [], 16⟩
  refine awp_regc ⟨24, [(2, .pv (gC a)), (3, .pv (gC b))], [], 16⟩ rfl ?_ ?_
  · simp
    exact Le.snap [16, 24] rfl rfl (by simp)
  refine awp_regc ⟨24, [(4, .B (decide (EqG a b)))], [], 16⟩ rfl ?_ ?_
  · simp
    repeat' first
      | (refine callf nslices_Equal_Lapi_Edge_api_Edge rfl ?_; refine call0e (EqualE_ok _ _ hl) rfl ?_; simp)
      | (refine callf nslices_Equal_Lint_int rfl ?_; refine call0e (EqualI_ok _ _ hl2) rfl ?_; simp)
      | (refine gcase (fun hb => ?_) (fun hb => ?_) <;> (try rw [hb]) <;> (try simp at hb) <;> simp [*])
    all_goals exact Le.snap [] rfl rfl (by simp <;> exact wkB (by (try simp at *); grind [EqG]))
  refine awp_ret ?_
  exact ⟨.inr rfl, RetOk.one (by simp)⟩

theorem ref11_Same_ok (a b : Gr) (hl : a.edges.length ≤ 140737488355328) (hl2 : a.gone.length ≤ 140737488355328) : ACalls Try.prog nref11_Same [eG a, eG b] [] (.B (decide (EqG a b))) [] := by
  refine sref11_Same.acalls (Nat.le_of_ble_eq_true rfl) (Nat.le_of_ble_eq_true rfl) (Nat.le_refl _) ?_
  show awp _ 0 _ _ ⟨46, [(0, eG a), (1, eG b)], [], 16⟩
  refine awp_regc ⟨46, [(2, .pv (gC a)), (3, .pv (gC b))], [], 16⟩ rfl ?_ ?_
  · simp
    exact Le.snap [16, 24] rfl rfl (by simp)
  refine awp_seq ?_
  refine awp_regc ⟨46, [(2, .pv (gC a)), (3, .pv (gC b)), (27, .B (decide (¬ (a.size = b.size ∧ a.edges.length = b.edges.length ∧ a.gone = b.gone))))], [], 16⟩ rfl ?_ ?_
  · simp
    repeat' first
      | (refine callf nref03_SameInts rfl ?_; refine call0e (SameInts_ok _ _ hl2) rfl ?_; simp)
      | (refine gcase (fun hb => ?_) (fun hb => ?_) <;> (try rw [hb]) <;> (try simp at hb) <;> simp [*])
    all_goals exact Le.snap [] rfl rfl (by simp <;> exact wkB (by (try simp at *); grind [ed_eq]))
  refine awp_cond _ rfl (fun h1 => ?_) fun h1 => ?_
  · try simp at h1
    refine awp_seq ?_
    refine awp_run (s := ?s2) rfl ?o2 ?q2
    case o2 => simp; rfl
    refine awp_ret ?_
    have hn : ¬ EqG a b := fun h => by obtain ⟨e1, e2, e3⟩ := h; simp_all
    exact ⟨.inr rfl, RetOk.one (by simp [hn])⟩
  try simp at h1
  refine awp_skip ?_
  refine awp_seq ?_
  refine awp_seq ?_
  refine awp_run (s := ?s3) rfl ?o3 ?q3
  case o3 => simp; rfl
  refine awp_block ?_
  refine awp_loop (ι := Nat) (fun k => ⟨46, [(2, .pv (gC a)), (3, .pv (gC b)), (5, .I k)], [], 16⟩) (fun k => k ≤ a.edges.length ∧ ∀ i, i < k → a.edges[i]? = b.edges[i]?) (fun k => a.edges.length - k) (0) ?_ (Le.snap [] rfl rfl (by simp)) ?_
  · simp
  rintro k ⟨hk, hp⟩
  refine awp_seq ?_
  refine awp_seq ?_
  refine awp_run (s := ?s4) rfl ?o4 ?q4
  case o4 => simp; rfl
  refine awp_cond _ rfl (fun h5 => ?_) fun h5 => ?_
  · try simp at h5
    have hw2 : IntKind.i64.wrap ((k : Int) + 1) = (k : Int) + 1 := w64 (by omega) (by omega)
    have hwp : 0 < k → IntKind.i64.wrap ((k : Int) - 1) = ((k - 1 : Nat) : Int) := fun h => by rw [w64 (by omega) (by omega)]; omega
    have hkp : k - 1 < a.edges.length := by omega
    have hkb : k < b.edges.length := by have := h1.2.1; omega
    refine awp_skip ?_
    refine awp_seq ?_
    refine awp_block ?_
    refine awp_dregc ⟨46, [(2, .pv (gC a)), (3, .pv (gC b)), (5, .I k), (45, .B (decide (a.edges[k] ≠ b.edges[k])))], [], 16⟩ rfl ?_ ?_
    · simp [h5, hw2, hwp, hkp, hkb]
      exact ⟨rfl, Le.snap [] rfl rfl (by simp <;> exact wkB (by grind [ed_eq]))⟩
    refine awp_cond _ rfl (fun h6 => ?_) fun h6 => ?_
    · try simp at h6
      refine awp_seq ?_
      refine awp_run (s := ?s7) rfl ?o7 ?q7
      case o7 => simp [h5, hw2, hwp, hkp, hkb]; rfl
      refine awp_ret ?_
      have hn : ¬ EqG a b := fun h => h6 (by simp [h.2.1])
      exact ⟨.inr rfl, RetOk.one (by simp [hn])⟩
    try simp at h6
    refine awp_skip ?_
    refine awp_run (s := ?s8) rfl ?o8 ?q8
    case o8 => simp [h5, hw2, hwp, hkp, hkb]; rfl
    refine ⟨k + 1, ⟨h5, fun i hi => ?_⟩, by omega, Le.snap [] rfl rfl (by simp [h5, hw2, hwp, hkp, hkb])⟩
    rcases Nat.lt_succ_iff_lt_or_eq.1 hi with h | rfl
    · exact hp i h
    · simp [h5, hkb, h6]
  try simp at h5
  have hall : ∀ i, i < a.edges.length → a.edges[i]? = b.edges[i]? := fun i hi => hp i (by omega)
  refine awp_exit ?_
  refine hit ?_
  refine awp_seq ?_
  refine awp_run (s := ?s9) rfl ?o9 ?q9
  case o9 => simp; rfl
  refine awp_ret ?_
  have hy : EqG a b := ⟨h1.1, list_eq h1.2.1 hall, h1.2.2⟩
  exact ⟨.inr rfl, RetOk.one (by simp [hy])⟩

end Go.Proofs.Ytnphfkceoklkkaa

/- Graphs and edges as arguments. -/
namespace Go.Proofs.Ytnphfkceoklkkaa
open Go

/-- Less may be asked of what comes in. -/
theorem acalls_wk {P : Program} {f : FuncId} {xs ys : List AV} {hs : List Ent} {res : AV} {hs' : List (Option Ent)} (hl : xs.length = ys.length) (hw : ∀ i, i < ys.length → Wk (xs.getD i .dead) (ys.getD i .dead)) (h : ACalls P f ys hs res hs') : ACalls P f xs hs res hs' :=
  ⟨h.1, h.2.1, fun T M w vs h1 h2 h3 hr => h.2.2 T M w vs h1 h2 h3 ⟨hr.1.trans hl, fun i hi => (hw i hi).rep (hr.2 i (hl ▸ hi))⟩⟩

section
variable {H : Type}
/-- A number that fits. -/
def Fit (x : Int) : Prop := -9223372036854775808 ≤ x ∧ x ≤ 9223372036854775807

variable {P : Program} {tI tE tEs tIs tG : TypeId}

/-- A struct of three fields. -/
def St3 (P : Program) (t a b c : TypeId) : Prop := ∃ f1 f2 f3 : Field, P.underlying t = some (.struct #[f1, f2, f3]) ∧ f1.type = a ∧ f2.type = b ∧ f3.type = c

theorem int_of {n : Nat} (hI : P.underlying tI = some (.int .i64)) {d : DataW H} {cs : List AV} (h : avs P (n + 1) tI d = some cs) : ∃ x, cs = [.I x] ∧ Fit x := by
  cases d <;> simp [avs, hI] at h
  rename_i l
  cases l <;> simp at h
  obtain ⟨⟨rfl, hw⟩, rfl⟩ := h
  refine ⟨_, rfl, ?_⟩
  unfold Fit
  simpa [Lit.wf, IntKind.min, IntKind.max, IntKind.signed, IntKind.bits] using hw

theorem three_of {n : Nat} {t a b c : TypeId} (ht : St3 P t a b c) {d : DataW H} {cs : List AV} (h : avs P (n + 1) t d = some cs) : ∃ (d1 d2 d3 : DataW H) (c1 c2 c3 : List AV), avs P n a d1 = some c1 ∧ avs P n b d2 = some c2 ∧ avs P n c d3 = some c3 ∧ cs = c1 ++ (c2 ++ c3) := by
  obtain ⟨f1, f2, f3, hu, rfl, rfl, rfl⟩ := ht
  cases d <;> simp [avs, hu] at h
  rename_i ds
  obtain ⟨hl, l, h, rfl⟩ := h
  match ds, hl with
  | [d1, d2, d3], _ =>
    simp only [List.zip_cons_cons, List.zip_nil_right, List.zip_nil_left, List.mapM_cons, List.mapM_nil] at h
    cases h1 : avs P n f1.type d1 with
    | none => simp [h1] at h
    | some c1 =>
      cases h2 : avs P n f2.type d2 with
      | none => simp [h1, h2] at h
      | some c2 =>
        cases h3 : avs P n f3.type d3 with
        | none => simp [h1, h2, h3] at h
        | some c3 =>
          simp [h1, h2, h3] at h
          subst h
          exact ⟨d1, d2, d3, c1, c2, c3, h1, h2, h3, by simp⟩

theorem edge_of {n : Nat} (hI : P.underlying tI = some (.int .i64)) (hE : St3 P tE tI tI tI) {d : DataW H} {cs : List AV} (h : avs P (n + 2) tE d = some cs) : ∃ e : Ed, cs = eC e := by
  obtain ⟨d1, d2, d3, c1, c2, c3, h1, h2, h3, rfl⟩ := three_of hE h
  obtain ⟨x1, rfl, _⟩ := int_of hI h1
  obtain ⟨x2, rfl, _⟩ := int_of hI h2
  obtain ⟨x3, rfl, _⟩ := int_of hI h3
  exact ⟨⟨x1, x2, x3⟩, rfl⟩

theorem list_of {α : Type} {f : DataW H → Option (List AV)} (Q : α → List AV) : ∀ {ds : List (DataW H)} {rows : List (List AV)}, (∀ d row, f d = some row → ∃ a, row = Q a) → ds.mapM f = some rows → ∃ l : List α, rows = l.map Q
  | [], rows, _, h => by simp at h; subst h; exact ⟨[], rfl⟩
  | d :: ds, rows, hf, h => by
    simp only [List.mapM_cons] at h
    cases h1 : f d with
    | none => simp [h1] at h
    | some row =>
      cases h2 : ds.mapM f with
      | none => simp [h1, h2] at h
      | some rows' =>
        simp [h1, h2] at h
        subst h
        obtain ⟨a, rfl⟩ := hf d row h1
        obtain ⟨l, rfl⟩ := list_of Q hf h2
        exact ⟨a :: l, rfl⟩

theorem slice_of {α : Type} {n : Nat} {t e : TypeId} (ht : P.underlying t = some (.slice e)) (Q : α → List AV) (hf : ∀ (d : DataW H) row, avs P n e d = some row → ∃ a, row = Q a) {d : DataW H} {cs : List AV} (h : avs P (n + 1) t d = some cs) :
    ∃ (l : List α) (x : AV), cs = [x] ∧ Wk x (.vs (P.cellsOf e) false (l.map Q)) := by
  cases d <;> simp [avs, ht] at h
  · subst h; exact ⟨[], _, rfl, .nil _ _⟩
  · obtain ⟨rows, h, rfl⟩ := h
    obtain ⟨l, rfl⟩ := list_of Q hf h
    exact ⟨l, _, rfl, .refl _⟩

theorem graph_of {n : Nat} (hI : P.underlying tI = some (.int .i64)) (hE : St3 P tE tI tI tI) (hEs : P.underlying tEs = some (.slice tE)) (hIs : P.underlying tIs = some (.slice tI)) (cE : P.cellsOf tE = 3) (cI : P.cellsOf tI = 1) (hG : St3 P tG tI tEs tIs)
    {d : DataW H} {x : AV} (h : argAV P (n + 4) tG d = some x) : ∃ g : Gr, Wk x (eG g) ∧ Fit g.size := by
  have h' : ∃ cs, avs P (n + 4) tG d = some cs ∧ .agg cs = x := by
    obtain ⟨f1, f2, f3, hu, _⟩ := hG
    simpa only [argAV, hu, Option.map_eq_some_iff] using h
  clear h
  obtain ⟨cs, h, rfl⟩ := h'
  obtain ⟨d1, d2, d3, c1, c2, c3, h1, h2, h3, rfl⟩ := three_of hG h
  obtain ⟨x1, rfl, f1⟩ := int_of hI h1
  obtain ⟨x2, y2, rfl, w2⟩ := slice_of hEs (fun e : Ed => eC e) (fun d row h => edge_of hI hE h) h2
  obtain ⟨x3, y3, rfl, w3⟩ := slice_of hIs (fun x : Int => [AV.I x]) (fun d row h => by obtain ⟨x, h, _⟩ := int_of hI h; exact ⟨x, h⟩) h3
  rw [cE] at w2
  rw [cI] at w3
  refine ⟨⟨x1, x2, x3⟩, .agg _ _ rfl fun i => ?_, f1⟩
  match i with
  | 0 => exact .refl _
  | 1 => exact w2
  | 2 => exact w3
  | _ + 3 => exact .refl _

theorem edgeArg_of {n : Nat} (hI : P.underlying tI = some (.int .i64)) (hE : St3 P tE tI tI tI) {d : DataW H} {x : AV} (h : argAV P (n + 2) tE d = some x) : ∃ e : Ed, x = eE e := by
  have h' : ∃ cs, avs P (n + 2) tE d = some cs ∧ .agg cs = x := by
    obtain ⟨f1, f2, f3, hu, _⟩ := hE
    simpa only [argAV, hu, Option.map_eq_some_iff] using h
  clear h
  obtain ⟨cs, h, rfl⟩ := h'
  obtain ⟨e, rfl⟩ := edge_of hI hE h
  exact ⟨e, rfl⟩
end

end Go.Proofs.Ytnphfkceoklkkaa

/- Numbers and lists of numbers as arguments of a law. -/
namespace Go.Proofs.Ytnphfkceoklkkaa
open Go

theorem ownK : ownKnob Try.prog.godebug = none := by kernel_rfl
theorem laidK : laidOutB Try.prog = true := by kernel_rfl

section
variable {H : Type} {P : Program} {tI tIs : TypeId}

theorem intArg_of {n : Nat} (hI : P.underlying tI = some (.int .i64)) {d : DataW H} {x : AV} (h : argAV P (n + 1) tI d = some x) : ∃ k : Int, x = .I k ∧ Fit k := by
  simp only [argAV, hI, Option.bind_eq_some_iff] at h
  obtain ⟨cs, h1, h2⟩ := h
  obtain ⟨k, rfl, hf⟩ := int_of hI h1
  simp at h2
  exact ⟨k, h2.symm, hf⟩

theorem intsArg_of {n : Nat} (hI : P.underlying tI = some (.int .i64)) (hIs : P.underlying tIs = some (.slice tI)) (cI : P.cellsOf tI = 1) {d : DataW H} {x : AV} (h : argAV P (n + 2) tIs d = some x) : ∃ l : List Int, Wk x (ints l) := by
  simp only [argAV, hIs, Option.bind_eq_some_iff] at h
  obtain ⟨cs, h1, h2⟩ := h
  obtain ⟨l, y, rfl, hw⟩ := slice_of hIs (fun x : Int => [AV.I x]) (fun d row h => by obtain ⟨x, h, _⟩ := int_of hI h; exact ⟨x, h⟩) h1
  rw [cI] at hw
  simp at h2
  subst h2
  exact ⟨l, hw⟩

theorem args1 {n : Nat} {a : TypeId} {ds : List (DataW H)} {xs : List AV} (h : argsAV P n [a] ds = some xs) : ∃ (d1 : DataW H) (x1 : AV), ds = [d1] ∧ xs = [x1] ∧ argAV P n a d1 = some x1 := by
  match ds, h with
  | [], h => cases h
  | _ :: _ :: _, h => simp only [argsAV] at h; split at h <;> simp_all
  | [d1], h =>
    simp only [argsAV] at h
    cases h1 : argAV P n a d1 with
    | none => simp [h1] at h
    | some x1 =>
      simp [h1] at h
      exact ⟨d1, x1, rfl, h.symm, h1⟩

theorem args2 {n : Nat} {a b : TypeId} {ds : List (DataW H)} {xs : List AV} (h : argsAV P n [a, b] ds = some xs) : ∃ (d1 d2 : DataW H) (x1 x2 : AV), ds = [d1, d2] ∧ xs = [x1, x2] ∧ argAV P n a d1 = some x1 ∧ argAV P n b d2 = some x2 := by
  match ds, h with
  | [], h => cases h
  | [_], h => simp only [argsAV] at h; split at h <;> simp_all
  | _ :: _ :: _ :: _, h => simp only [argsAV] at h; split at h <;> simp_all
  | [d1, d2], h =>
    simp only [argsAV] at h
    cases h1 : argAV P n a d1 with
    | none => simp [h1] at h
    | some x1 =>
      cases h2 : argAV P n b d2 with
      | none => simp [h1, h2] at h
      | some x2 =>
        simp [h1, h2] at h
        exact ⟨d1, d2, x1, x2, rfl, h.symm, h1, h2⟩

end

end Go.Proofs.Ytnphfkceoklkkaa
