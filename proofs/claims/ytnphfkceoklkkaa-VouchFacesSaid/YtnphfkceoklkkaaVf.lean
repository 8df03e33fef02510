/- Two authors vouch, vouch again, revoke and leave: the program and the reference say the same (VouchFaces). -/
import Derived.Test.YtnphfkceoklkkaaVf9
import Derived.Test.YtnphfkceoklkkaaVf18
set_option linter.unusedSimpArgs false
set_option linter.unusedVariables false
set_option linter.unusedSectionVars false
namespace Go.Proofs.Ytnphfkceoklkkaa
open Go Go.ChangeShapes Go.WideShapes Go.ChangeAt Go.RowKit

set_option maxRecDepth 100000 in
theorem vouchFaces_contract (H : Type) (enc : TypeId × Value → H) (W : World) (base : Nat) (args : Array Value) (ds gs : List (DataW H)) (before : List MemPlace)
    (hval : ∀ (j : Nat) t v, Try.f4.params[j]? = some t → args[j]? = some v → Value.okWide Try.prog W .any base t v)
    (hW : DataW.Whole enc Try.prog Try.f4.params.toList Rows.vouchFacesSpec.vars false W args.toList ds gs before) :
    Calls Try.prog 4 args W fun e W' => ∃ v, e = .returned v ∧ Rows.vouchFacesSpec.post enc Try.prog Try.f4 false true false false W args v W' := by
  have hp : Try.f4.params.toList = [22] := by rw [Try.params4]
  have hlen : ∃ d0, ds = [d0] := by
    obtain ⟨p, q, hA, _⟩ := hW
    rw [hp] at hA
    obtain ⟨_, d0, _, rfl, _⟩ := trodAll_one hA
    exact ⟨d0, rfl⟩
  obtain ⟨d0, rfl⟩ := hlen
  refine law_bridge (P := Try.prog) (f := Try.f4) (s := Rows.vouchFacesSpec) (n := 2) (tb := 4) laidK hp ?_ ?_ Try.underlying4 ?_ hval hW ?_ ?_ ?_ fun xs hxs => ?_
  · kernel_rfl
  · kernel_rfl
  · rfl
  · rfl
  · rfl
  · rfl
  obtain ⟨e0, x0, he, rfl, h0⟩ := args1 hxs
  obtain ⟨l0, w0⟩ := intsArg_of (tI := 3) Try.underlying3 Try.underlying22 (by kernel_rfl) h0
  refine acalls_wk (ys := [ints l0]) rfl (fun i hi => ?_) (law10_VouchFaces_ok l0)
  match i with
  | 0 => exact w0

set_option maxRecDepth 100000 in
theorem vouchFaces_lifted (os : Os) (started : os.Started) (H : Type) (enc : TypeId × Value → H) :
    ReturnsInHanded {} Try.checked os 4 .any (Rows.vouchFacesSpec.pre6 enc Try.prog Try.f4 Rows.vouchFacesRow.domain false) (Rows.vouchFacesSpec.post enc Try.prog Try.f4 false true false false) := by
  refine returnsInHanded_of_change (C := Try.checked) ownK started (by kernel_rfl) Try.func4
    (ChangeSpec.witness6 (enc := enc) (C := Try.checked) false ⟨#[], #[.slice none 0 0], []⟩ 4 (by kernel_rfl) (by kernel_rfl) (by kernel_rfl) (by kernel_rfl)) ?_
  intro W base args ds gs before hval hW _ _
  exact vouchFaces_contract H enc W base args ds gs before hval hW

theorem vouchFaces : Rows.VouchFacesSaid :=
  OpenClaim.holds_of_wide 4 Try.f4 rfl rfl rfl rfl rfl rfl rfl ⟨rfl, rfl, rfl, rfl, rfl⟩ rfl rfl rfl rfl rfl (by kernel_rfl) Try.func4 (by kernel_rfl)
    (of_decide_eq_true (by kernel_rfl)) (by unfold Func.isWrapper; first | (rw [if_pos (by decide +kernel)]; kernel_rfl) | (rw [if_neg (by decide +kernel)]; exact ⟨rfl, rfl⟩))
    (fun os started H enc _ => vouchFaces_lifted os started H enc)

end Go.Proofs.Ytnphfkceoklkkaa
