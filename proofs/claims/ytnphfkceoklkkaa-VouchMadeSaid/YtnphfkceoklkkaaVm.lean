/- What the functions of package vouch answer to what counts in made stores is what the reference answers (VouchMade). -/
import Derived.Test.YtnphfkceoklkkaaVm5
import Derived.Test.YtnphfkceoklkkaaVm12
set_option linter.unusedSimpArgs false
set_option linter.unusedVariables false
set_option linter.unusedSectionVars false
namespace Go.Proofs.Ytnphfkceoklkkaa
open Go Go.ChangeShapes Go.WideShapes Go.ChangeAt Go.RowKit
set_option maxRecDepth 100000 in
theorem vouchMade_contract (H : Type) (enc : TypeId × Value → H) (W : World) (base : Nat) (args : Array Value) (ds gs : List (DataW H)) (before : List MemPlace)
    (hval : ∀ (j : Nat) t v, Try.f3.params[j]? = some t → args[j]? = some v → Value.okWide Try.prog W .any base t v)
    (hW : DataW.Whole enc Try.prog Try.f3.params.toList Rows.vouchMadeSpec.vars false W args.toList ds gs before) :
    Calls Try.prog 3 args W fun e W' => ∃ v, e = .returned v ∧ Rows.vouchMadeSpec.post enc Try.prog Try.f3 false true false false W args v W' := by
  have hp : Try.f3.params.toList = [22, 3, 23] := by rw [Try.params3]
  have hlen : ∃ d0 d1 d2, ds = [d0, d1, d2] := by
    obtain ⟨p, q, hA, _⟩ := hW
    rw [hp] at hA
    obtain ⟨_, _, _, d0, d1, d2, _, _, _, _, rfl, _⟩ := trodAll_three hA
    exact ⟨d0, d1, d2, rfl⟩
  obtain ⟨d0, d1, d2, rfl⟩ := hlen
  refine law_bridge (P := Try.prog) (f := Try.f3) (s := Rows.vouchMadeSpec) (n := 2) (tb := 4) laidK hp ?_ ?_ Try.underlying4 ?_ hval hW ?_ ?_ ?_ fun xs hxs => ?_
  · kernel_rfl
  · kernel_rfl
  · rfl
  · rfl
  · rfl
  · rfl
  obtain ⟨e0, e1, e2, x0, x1, x2, he, rfl, h0, h1, h2⟩ := args3b hxs
  obtain ⟨l0, w0⟩ := intsArg_of (tI := 3) Try.underlying3 Try.underlying22 (by kernel_rfl) h0
  obtain ⟨n1, rfl, f1⟩ := intArg_of Try.underlying3 h1
  obtain ⟨a2, b2, rfl, _, _⟩ := pairArg_of Try.underlying3 Try.underlying23 h2
  refine acalls_wk (ys := [ints l0, .I n1, .agg [.I a2, .I b2]]) rfl (fun i hi => ?_) (law10_VouchMade_ok l0 n1 a2 b2)
  match i with
  | 0 => exact w0
  | 1 => exact .refl _
  | 2 => exact .refl _
set_option maxRecDepth 100000 in
theorem vouchMade_lifted (os : Os) (started : os.Started) (H : Type) (enc : TypeId × Value → H) :
    ReturnsInHanded {} Try.checked os 3 .any (Rows.vouchMadeSpec.pre6 enc Try.prog Try.f3 Rows.vouchMadeRow.domain false) (Rows.vouchMadeSpec.post enc Try.prog Try.f3 false true false false) := by
  refine returnsInHanded_of_change (C := Try.checked) ownK started (by kernel_rfl) Try.func3
    (ChangeSpec.witness6 (enc := enc) (C := Try.checked) false ⟨#[], #[.slice none 0 0, .int .i64 0, .agg #[.int .i64 0, .int .i64 0]], []⟩ 3 (by kernel_rfl) (by kernel_rfl) (by kernel_rfl) (by kernel_rfl)) ?_
  intro W base args ds gs before hval hW _ _
  exact vouchMade_contract H enc W base args ds gs before hval hW
theorem vouchMade : Rows.VouchMadeSaid :=
  OpenClaim.holds_of_wide 3 Try.f3 rfl rfl rfl rfl rfl rfl rfl ⟨rfl, rfl, rfl, rfl, rfl⟩ rfl rfl rfl rfl rfl (by kernel_rfl) Try.func3 (by kernel_rfl)
    (of_decide_eq_true (by kernel_rfl)) (by unfold Func.isWrapper; first | (rw [if_pos (by decide +kernel)]; kernel_rfl) | (rw [if_neg (by decide +kernel)]; exact ⟨rfl, rfl⟩))
    (fun os started H enc _ => vouchMade_lifted os started H enc)
end Go.Proofs.Ytnphfkceoklkkaa
