/- At most one vouch is active between two keys, and later statements do not matter (VouchOnce). -/
import Derived.Test.YtnphfkceoklkkaaVo5
import Derived.Test.YtnphfkceoklkkaaVo11
set_option linter.unusedSimpArgs false
set_option linter.unusedVariables false
set_option linter.unusedSectionVars false
namespace Go.Proofs.Ytnphfkceoklkkaa
open Go Go.ChangeShapes Go.WideShapes Go.ChangeAt Go.RowKit
set_option maxRecDepth 100000 in
theorem vouchOnce_contract (H : Type) (enc : TypeId × Value → H) (W : World) (base : Nat) (args : Array Value) (ds gs : List (DataW H)) (before : List MemPlace)
    (hval : ∀ (j : Nat) t v, Try.f5.params[j]? = some t → args[j]? = some v → Value.okWide Try.prog W .any base t v)
    (hW : DataW.Whole enc Try.prog Try.f5.params.toList Rows.vouchOnceSpec.vars false W args.toList ds gs before) :
    Calls Try.prog 5 args W fun e W' => ∃ v, e = .returned v ∧ Rows.vouchOnceSpec.post enc Try.prog Try.f5 false true false false W args v W' := by
  have hp : Try.f5.params.toList = [22, 3] := by rw [Try.params5]
  have hlen : ∃ d0 d1, ds = [d0, d1] := by
    obtain ⟨p, q, hA, _⟩ := hW
    rw [hp] at hA
    obtain ⟨_, _, d0, d1, _, _, _, rfl, _⟩ := trodAll_two hA
    exact ⟨d0, d1, rfl⟩
  obtain ⟨d0, d1, rfl⟩ := hlen
  refine law_bridge (P := Try.prog) (f := Try.f5) (s := Rows.vouchOnceSpec) (n := 2) (tb := 4) laidK hp ?_ ?_ Try.underlying4 ?_ hval hW ?_ ?_ ?_ fun xs hxs => ?_
  · kernel_rfl
  · kernel_rfl
  · rfl
  · rfl
  · rfl
  · rfl
  obtain ⟨e0, e1, x0, x1, he, rfl, h0, h1⟩ := args2 hxs
  obtain ⟨l0, w0⟩ := intsArg_of (tI := 3) Try.underlying3 Try.underlying22 (by kernel_rfl) h0
  obtain ⟨n1, rfl, f1⟩ := intArg_of Try.underlying3 h1
  refine acalls_wk (ys := [ints l0, .I n1]) rfl (fun i hi => ?_) (law10_VouchOnce_ok l0 n1 f1)
  match i with
  | 0 => exact w0
  | 1 => exact .refl _
set_option maxRecDepth 100000 in
theorem vouchOnce_lifted (os : Os) (started : os.Started) (H : Type) (enc : TypeId × Value → H) :
    ReturnsInHanded {} Try.checked os 5 .any (Rows.vouchOnceSpec.pre6 enc Try.prog Try.f5 Rows.vouchOnceRow.domain false) (Rows.vouchOnceSpec.post enc Try.prog Try.f5 false true false false) := by
  refine returnsInHanded_of_change (C := Try.checked) ownK started (by kernel_rfl) Try.func5
    (ChangeSpec.witness6 (enc := enc) (C := Try.checked) false ⟨#[], #[.slice none 0 0, .int .i64 0], []⟩ 5 (by kernel_rfl) (by kernel_rfl) (by kernel_rfl) (by kernel_rfl)) ?_
  intro W base args ds gs before hval hW _ _
  exact vouchOnce_contract H enc W base args ds gs before hval hW
theorem vouchOnce : Rows.VouchOnceSaid :=
  OpenClaim.holds_of_wide 5 Try.f5 rfl rfl rfl rfl rfl rfl rfl ⟨rfl, rfl, rfl, rfl, rfl⟩ rfl rfl rfl rfl rfl (by kernel_rfl) Try.func5 (by kernel_rfl)
    (of_decide_eq_true (by kernel_rfl)) (by unfold Func.isWrapper; first | (rw [if_pos (by decide +kernel)]; kernel_rfl) | (rw [if_neg (by decide +kernel)]; exact ⟨rfl, rfl⟩))
    (fun os started H enc _ => vouchOnce_lifted os started H enc)
end Go.Proofs.Ytnphfkceoklkkaa
