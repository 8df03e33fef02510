/- Texts of this claim, merged. -/
import Derived.Test.YtlhjelookgjmpaaGreatRa6
import Derived.Test.YtlhjelookgjmpaaGreatRa5
import Derived.Test.YtlhjelookgjmpaaGreatRows
set_option linter.unusedSimpArgs false
set_option linter.unusedVariables false
set_option linter.unusedSectionVars false
namespace Go.Proofs.YtlhjelookgjmpaaGreat
open Go
theorem list_eq {α : Type} {a b : List α} (h : a.length = b.length) (hp : ∀ i, i < a.length → a[i]? = b[i]?) : a = b := by
  apply List.ext_getElem?
  intro i
  rcases Nat.lt_or_ge i a.length with h1 | h1
  · exact hp i h1
  · rw [List.getElem?_eq_none h1, List.getElem?_eq_none (by omega)]
theorem EqualI_ok (a b : List Int) (hl : a.length ≤ 140737488355328) : ACalls Tryz.prog nslices_Equal_Lint_int [ints a, ints b] [] (.B (decide (a = b))) [] := by
  refine sslices_Equal_Lint_int.acalls (Nat.le_of_ble_eq_true rfl) (Nat.le_of_ble_eq_true rfl) (Nat.le_refl _) ?_
  show awp _ 0 _ _ ⟨26, [(0, ints a), (1, ints b)], [], 16⟩
  refine awp_seq ?_
  refine awp_run (s := ?s1) rfl ?o1 ?q1
  case o1 => simp; rfl
  refine awp_seq ?_
  refine awp_seq ?_
  refine awp_run (s := ?s2) rfl ?o2 ?q2
  case o2 => simp; rfl
  refine awp_cond _ rfl (fun h3 => ?_) fun h3 => ?_
  · try simp at h3
    refine awp_seq ?_
    refine awp_run (s := ?s4) rfl ?o4 ?q4
    case o4 => simp; rfl
    refine awp_ret ?_
    have hn : a ≠ b := fun h => h3 (by rw [h])
    exact ⟨.inr rfl, RetOk.one (by simp [hn])⟩
  try simp at h3
  refine awp_skip ?_
  refine awp_seq ?_
  refine awp_seq ?_
  refine awp_run (s := ?s5) rfl ?o5 ?q5
  case o5 => simp; rfl
  refine awp_block ?_
  refine awp_loop (ι := Nat) (fun k => ⟨26, [(0, ints a), (1, ints b), (12, .I a.length), (13, .I k)], [], 16⟩) (fun k => k ≤ a.length ∧ ∀ i, i < k → a[i]? = b[i]?) (fun k => a.length - k) (0) ?_ (Le.snap [] rfl rfl (by simp)) ?_
  · simp
  rintro k ⟨hk, hp⟩
  refine awp_seq ?_
  refine awp_run (s := ?s6) rfl ?o6 ?q6
  case o6 => simp; rfl
  refine awp_seq ?_
  refine awp_cond _ rfl (fun h7 => ?_) fun h7 => ?_
  · try simp at h7
    have hw2 : IntKind.i64.wrap ((k : Int) + 1) = (k : Int) + 1 := w64 (by omega) (by omega)
    have hwp : 0 < k → IntKind.i64.wrap ((k : Int) - 1) = ((k - 1 : Nat) : Int) := fun h => by rw [w64 (by omega) (by omega)]; omega
    have hkp : k - 1 < a.length := by omega
    have hkb : k < b.length := by omega
    refine awp_skip ?_
    refine awp_seq ?_
    refine awp_block ?_
    refine awp_seq ?_
    refine awp_run (s := ?s8) rfl ?o8 ?q8
    case o8 => simp [h7, hw2, hwp, hkp, hkb]; rfl
    refine awp_seq ?_
    refine awp_drun (s := ?s9) (tr := ?t9) rfl ?o9 ?r9 ?q9
    case o9 => simp [h7, hw2, hwp, hkp, hkb]; constructor <;> rfl
    case r9 => rfl
    refine awp_cond _ rfl (fun h10 => ?_) fun h10 => ?_
    · try simp at h10
      refine awp_seq ?_
      refine awp_run (s := ?s11) rfl ?o11 ?q11
      case o11 => simp [h7, hw2, hwp, hkp, hkb]; rfl
      refine awp_ret ?_
      have hn : a ≠ b := fun h => h10 (by simp [h])
      exact ⟨.inr rfl, RetOk.one (by simp [hn])⟩
    try simp at h10
    refine awp_skip ?_
    refine awp_run (s := ?s12) rfl ?o12 ?q12
    case o12 => simp [h7, hw2, hwp, hkp, hkb]; rfl
    refine ⟨k + 1, ⟨h7, fun i hi => ?_⟩, by omega, Le.snap [] rfl rfl (by simp [h7, hw2, hwp, hkp, hkb])⟩
    rcases Nat.lt_succ_iff_lt_or_eq.1 hi with h | rfl
    · exact hp i h
    · simp [h7, hkb, h10]
  try simp at h7
  have hall : ∀ i, i < a.length → a[i]? = b[i]? := fun i hi => hp i (by omega)
  refine awp_exit ?_
  refine hit ?_
  refine awp_seq ?_
  refine awp_run (s := ?s13) rfl ?o13 ?q13
  case o13 => simp; rfl
  refine awp_ret ?_
  have hy : a = b := list_eq (by omega) hall
  exact ⟨.inr rfl, RetOk.one (by simp [hy])⟩
end Go.Proofs.YtlhjelookgjmpaaGreat
namespace Go.Proofs.YtlhjelookgjmpaaGreat
open Go
def EqG (a b : Gr) : Prop := a.size = b.size ∧ a.edges = b.edges ∧ a.gone = b.gone
instance (a b : Gr) : Decidable (EqG a b) := by unfold EqG; infer_instance
end Go.Proofs.YtlhjelookgjmpaaGreat
namespace Go.Proofs.YtlhjelookgjmpaaGreat
open Go
section
variable {H : Type}
def Fit (x : Int) : Prop := -9223372036854775808 ≤ x ∧ x ≤ 9223372036854775807
variable {P : Program} {tI tE tEs tIs tG : TypeId}
theorem int_of {n : Nat} (hI : P.underlying tI = some (.int .i64)) {d : DataW H} {cs : List AV} (h : avs P (n + 1) tI d = some cs) : ∃ x, cs = [.I x] ∧ Fit x := by
  cases d <;> simp [avs, hI] at h
  rename_i l
  cases l <;> simp at h
  obtain ⟨⟨rfl, hw⟩, rfl⟩ := h
  refine ⟨_, rfl, ?_⟩
  unfold Fit
  simpa [Lit.wf, IntKind.min, IntKind.max, IntKind.signed, IntKind.bits] using hw
end
end Go.Proofs.YtlhjelookgjmpaaGreat
namespace Go.Proofs.YtlhjelookgjmpaaGreat
open Go
theorem ownK : ownKnob Tryz.prog.godebug = none := by kernel_rfl
theorem laidK : laidOutB Tryz.prog = true := by kernel_rfl
section
variable {H : Type} {P : Program} {tI tIs : TypeId}
end
end Go.Proofs.YtlhjelookgjmpaaGreat
namespace Go.Proofs.YtlhjelookgjmpaaGreat
open Go
theorem args3b {H : Type} {P : Program} {n : Nat} {a b c : TypeId} {ds : List (DataW H)} {xs : List AV} (h : argsAV P n [a, b, c] ds = some xs) : ∃ (d1 d2 d3 : DataW H) (x1 x2 x3 : AV), ds = [d1, d2, d3] ∧ xs = [x1, x2, x3] ∧ argAV P n a d1 = some x1 ∧ argAV P n b d2 = some x2 ∧ argAV P n c d3 = some x3 := by
  match ds, h with
  | [], h => cases h
  | [_], h => simp only [argsAV] at h; split at h <;> simp_all
  | [_, _], h => simp only [argsAV] at h; split at h <;> simp_all
  | _ :: _ :: _ :: _ :: _, h => simp only [argsAV] at h; split at h <;> simp_all
  | [d1, d2, d3], h =>
    simp only [argsAV] at h
    cases h1 : argAV P n a d1 with
    | none => simp [h1] at h
    | some x1 =>
      cases h2 : argAV P n b d2 with
      | none => simp [h1, h2] at h
      | some x2 =>
        cases h3 : argAV P n c d3 with
        | none => simp [h1, h2, h3] at h
        | some x3 =>
          simp [h1, h2, h3] at h
          exact ⟨d1, d2, d3, x1, x2, x3, rfl, h.symm, h1, h2, h3⟩
end Go.Proofs.YtlhjelookgjmpaaGreat
