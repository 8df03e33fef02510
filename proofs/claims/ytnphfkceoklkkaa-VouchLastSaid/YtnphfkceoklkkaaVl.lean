/- VouchLast: the active vouch between two keys is the last one by then, as long as it has not ended and was not revoked, for all made chains. No condition. -/
import Derived.Test.YtnphfkceoklkkaaVl9
import Derived.Test.YtnphfkceoklkkaaVl18
set_option linter.unusedSimpArgs false
set_option linter.unusedVariables false
set_option linter.unusedSectionVars false
namespace Go.Proofs.Ytnphfkceoklkkaa
open Go Go.ChangeShapes Go.WideShapes Go.ChangeAt Go.RowKit

set_option maxRecDepth 100000 in
theorem vouchLast_contract (H : Type) (enc : TypeId × Value → H) (W : World) (base : Nat) (args : Array Value) (ds gs : List (DataW H)) (before : List MemPlace)
    (hval : ∀ (j : Nat) t v, Try.f6.params[j]? = some t → args[j]? = some v → Value.okWide Try.prog W .any base t v)
    (hW : DataW.Whole enc Try.prog Try.f6.params.toList Rows.vouchLastSpec.vars false W args.toList ds gs before) :
    Calls Try.prog 6 args W fun e W' => ∃ v, e = .returned v ∧ Rows.vouchLastSpec.post enc Try.prog Try.f6 false true false false W args v W' := by
  have hp : Try.f6.params.toList = [22] := by rw [Try.params6]
  have hlen : ∃ d0, ds = [d0] := by
    obtain ⟨p, q, hA, _⟩ := hW
    rw [hp] at hA
    obtain ⟨_, d0, _, rfl, _⟩ := trodAll_one hA
    exact ⟨d0, rfl⟩
  obtain ⟨d0, rfl⟩ := hlen
  refine law_bridge (P := Try.prog) (f := Try.f6) (s := Rows.vouchLastSpec) (n := 2) (tb := 4) laidK hp ?_ ?_ Try.underlying4 ?_ hval hW ?_ ?_ ?_ fun xs hxs => ?_
  · kernel_rfl
  · kernel_rfl
  · rfl
  · rfl
  · rfl
  · rfl
  obtain ⟨e0, x0, he, rfl, h0⟩ := args1 hxs
  obtain ⟨l0, w0⟩ := intsArg_of (tI := 3) Try.underlying3 Try.underlying22 (by kernel_rfl) h0
  refine acalls_wk (ys := [ints l0]) rfl (fun i hi => ?_) (law10_VouchLast_ok l0)
  match i with
  | 0 => exact w0

set_option maxRecDepth 100000 in
theorem vouchLast_lifted (os : Os) (started : os.Started) (H : Type) (enc : TypeId × Value → H) :
    ReturnsInHanded {} Try.checked os 6 .any (Rows.vouchLastSpec.pre6 enc Try.prog Try.f6 Rows.vouchLastRow.domain false) (Rows.vouchLastSpec.post enc Try.prog Try.f6 false true false false) := by
  refine returnsInHanded_of_change (C := Try.checked) ownK started (by kernel_rfl) Try.func6
    (ChangeSpec.witness6 (enc := enc) (C := Try.checked) false ⟨#[], #[.slice none 0 0], []⟩ 6 (by kernel_rfl) (by kernel_rfl) (by kernel_rfl) (by kernel_rfl)) ?_
  intro W base args ds gs before hval hW _ _
  exact vouchLast_contract H enc W base args ds gs before hval hW

theorem vouchLast : Rows.VouchLastSaid :=
  OpenClaim.holds_of_wide 6 Try.f6 rfl rfl rfl rfl rfl rfl rfl ⟨rfl, rfl, rfl, rfl, rfl⟩ rfl rfl rfl rfl rfl (by kernel_rfl) Try.func6 (by kernel_rfl)
    (of_decide_eq_true (by kernel_rfl)) (by unfold Func.isWrapper; first | (rw [if_pos (by decide +kernel)]; kernel_rfl) | (rw [if_neg (by decide +kernel)]; exact ⟨rfl, rfl⟩))
    (fun os started H enc _ => vouchLast_lifted os started H enc)

end Go.Proofs.Ytnphfkceoklkkaa
