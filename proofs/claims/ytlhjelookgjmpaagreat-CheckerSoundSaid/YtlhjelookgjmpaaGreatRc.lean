/- The law CheckerSound holds: it returns true and its arguments read as before. -/
import Derived.Test.YtlhjelookgjmpaaGreatRc7
import Derived.Test.YtlhjelookgjmpaaGreatRc16
set_option linter.unusedSimpArgs false
set_option linter.unusedVariables false
set_option linter.unusedSectionVars false
namespace Go.Proofs.YtlhjelookgjmpaaGreat
open Go Go.ChangeShapes Go.WideShapes Go.ChangeAt Go.RowKit
set_option maxRecDepth 100000 in
theorem checkerSound_contract (H : Type) (enc : TypeId × Value → H) (W : World) (base : Nat) (args : Array Value) (ds gs : List (DataW H)) (before : List MemPlace)
    (hval : ∀ (j : Nat) t v, Tryz.f7.params[j]? = some t → args[j]? = some v → Value.okWide Tryz.prog W .any base t v)
    (hW : DataW.Whole enc Tryz.prog Tryz.f7.params.toList Rows.checkerSoundSpec.vars false W args.toList ds gs before) :
    Calls Tryz.prog 7 args W fun e W' => ∃ v, e = .returned v ∧ Rows.checkerSoundSpec.post enc Tryz.prog Tryz.f7 false true false false W args v W' := by
  have hp : Tryz.f7.params.toList = [22] := by rw [Tryz.params7]
  have hlen : ∃ d0, ds = [d0] := by
    obtain ⟨p, q, hA, _⟩ := hW
    rw [hp] at hA
    obtain ⟨_, d0, _, rfl, _⟩ := trodAll_one hA
    exact ⟨d0, rfl⟩
  obtain ⟨d0, rfl⟩ := hlen
  refine law_bridge (P := Tryz.prog) (f := Tryz.f7) (s := Rows.checkerSoundSpec) (n := 2) (tb := 4) laidK hp ?_ ?_ Tryz.underlying4 ?_ hval hW ?_ ?_ ?_ fun xs hxs => ?_
  · kernel_rfl
  · kernel_rfl
  · rfl
  · rfl
  · rfl
  · rfl
  obtain ⟨e0, x0, he, rfl, h0⟩ := args1 hxs
  obtain ⟨l0, w0⟩ := intsArg_of (tI := 3) Tryz.underlying3 Tryz.underlying22 (by kernel_rfl) h0
  refine acalls_wk (ys := [ints l0]) rfl (fun i hi => ?_) (law44_CheckerSound_ok l0)
  match i with
  | 0 => exact w0
set_option maxRecDepth 100000 in
theorem checkerSound_lifted (os : Os) (started : os.Started) (H : Type) (enc : TypeId × Value → H) :
    ReturnsInHanded {} Tryz.checked os 7 .any (Rows.checkerSoundSpec.pre6 enc Tryz.prog Tryz.f7 Rows.checkerSoundRow.domain false) (Rows.checkerSoundSpec.post enc Tryz.prog Tryz.f7 false true false false) := by
  refine returnsInHanded_of_change (C := Tryz.checked) ownK started (by kernel_rfl) Tryz.func7
    (ChangeSpec.witness6 (enc := enc) (C := Tryz.checked) false ⟨#[], #[.slice none 0 0], []⟩ 7 (by kernel_rfl) (by kernel_rfl) (by kernel_rfl) (by kernel_rfl)) ?_
  intro W base args ds gs before hval hW _ _
  exact checkerSound_contract H enc W base args ds gs before hval hW
theorem checkerSound : Rows.CheckerSoundSaid :=
  OpenClaim.holds_of_wide 7 Tryz.f7 rfl rfl rfl rfl rfl rfl rfl ⟨rfl, rfl, rfl, rfl, rfl⟩ rfl rfl rfl rfl rfl (by kernel_rfl) Tryz.func7 (by kernel_rfl)
    (of_decide_eq_true (by kernel_rfl)) (by unfold Func.isWrapper; first | (rw [if_pos (by decide +kernel)]; kernel_rfl) | (rw [if_neg (by decide +kernel)]; exact ⟨rfl, rfl⟩))
    (fun os started H enc _ => checkerSound_lifted os started H enc)
end Go.Proofs.YtlhjelookgjmpaaGreat
