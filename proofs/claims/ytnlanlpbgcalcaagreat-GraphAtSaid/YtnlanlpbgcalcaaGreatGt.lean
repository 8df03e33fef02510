/- The graph of a time is the reference's (GraphAt). -/
import Derived.Test.YtnlanlpbgcalcaaGreatGt7
import Derived.Test.YtnlanlpbgcalcaaGreatGt13
set_option linter.unusedSimpArgs false
set_option linter.unusedVariables false
set_option linter.unusedSectionVars false
namespace Go.Proofs.YtnlanlpbgcalcaaGreat
open Go Go.ChangeShapes Go.WideShapes Go.ChangeAt Go.RowKit
theorem args3b {H : Type} {P : Program} {n : Nat} {a b c : TypeId} {ds : List (DataW H)} {xs : List AV} (h : argsAV P n [a, b, c] ds = some xs) : ∃ (d1 d2 d3 : DataW H) (x1 x2 x3 : AV), ds = [d1, d2, d3] ∧ xs = [x1, x2, x3] ∧ argAV P n a d1 = some x1 ∧ argAV P n b d2 = some x2 ∧ argAV P n c d3 = some x3 := by
  match ds, h with
  | [], h => cases h
  | [_], h => simp only [argsAV] at h; split at h <;> simp_all
  | [_, _], h => simp only [argsAV] at h; split at h <;> simp_all
  | _ :: _ :: _ :: _ :: _, h => simp only [argsAV] at h; split at h <;> simp_all
  | [d1, d2, d3], h =>
    simp only [argsAV] at h
    cases h1 : argAV P n a d1 with
    | none => simp [h1] at h
    | some x1 =>
      cases h2 : argAV P n b d2 with
      | none => simp [h1, h2] at h
      | some x2 =>
        cases h3 : argAV P n c d3 with
        | none => simp [h1, h2, h3] at h
        | some x3 =>
          simp [h1, h2, h3] at h
          exact ⟨d1, d2, d3, x1, x2, x3, rfl, h.symm, h1, h2, h3⟩
set_option maxRecDepth 100000 in
theorem graphAt_contract (H : Type) (enc : TypeId × Value → H) (W : World) (base : Nat) (args : Array Value) (ds gs : List (DataW H)) (before : List MemPlace)
    (hval : ∀ (j : Nat) t v, Tryz.f4.params[j]? = some t → args[j]? = some v → Value.okWide Tryz.prog W .any base t v)
    (hW : DataW.Whole enc Tryz.prog Tryz.f4.params.toList Rows.graphAtSpec.vars false W args.toList ds gs before) :
    Calls Tryz.prog 4 args W fun e W' => ∃ v, e = .returned v ∧ Rows.graphAtSpec.post enc Tryz.prog Tryz.f4 false true false false W args v W' := by
  have hp : Tryz.f4.params.toList = [22, 3, 3] := by rw [Tryz.params4]
  have hlen : ∃ d0 d1 d2, ds = [d0, d1, d2] := by
    obtain ⟨p, q, hA, _⟩ := hW
    rw [hp] at hA
    obtain ⟨_, _, _, d0, d1, d2, _, _, _, _, rfl, _⟩ := trodAll_three hA
    exact ⟨d0, d1, d2, rfl⟩
  obtain ⟨d0, d1, d2, rfl⟩ := hlen
  refine law_bridge (P := Tryz.prog) (f := Tryz.f4) (s := Rows.graphAtSpec) (n := 2) (tb := 4) laidK hp ?_ ?_ Tryz.underlying4 ?_ hval hW ?_ ?_ ?_ fun xs hxs => ?_
  · kernel_rfl
  · kernel_rfl
  · rfl
  · rfl
  · rfl
  · rfl
  obtain ⟨e0, e1, e2, x0, x1, x2, he, rfl, h0, h1, h2⟩ := args3b hxs
  obtain ⟨l0, w0⟩ := intsArg_of (tI := 3) Tryz.underlying3 Tryz.underlying22 (by kernel_rfl) h0
  obtain ⟨n1, rfl, f1⟩ := intArg_of Tryz.underlying3 h1
  obtain ⟨n2, rfl, f2⟩ := intArg_of Tryz.underlying3 h2
  refine acalls_wk (ys := [ints l0, .I n1, .I n2]) rfl (fun i hi => ?_) (law11_GraphAt_ok l0 n1 n2)
  match i with
  | 0 => exact w0
  | 1 => exact .refl _
  | 2 => exact .refl _
set_option maxRecDepth 100000 in
theorem graphAt_lifted (os : Os) (started : os.Started) (H : Type) (enc : TypeId × Value → H) :
    ReturnsInHanded {} Tryz.checked os 4 .any (Rows.graphAtSpec.pre6 enc Tryz.prog Tryz.f4 Rows.graphAtRow.domain false) (Rows.graphAtSpec.post enc Tryz.prog Tryz.f4 false true false false) := by
  refine returnsInHanded_of_change (C := Tryz.checked) ownK started (by kernel_rfl) Tryz.func4
    (ChangeSpec.witness6 (enc := enc) (C := Tryz.checked) false ⟨#[], #[.slice none 0 0, .int .i64 0, .int .i64 0], []⟩ 4 (by kernel_rfl) (by kernel_rfl) (by kernel_rfl) (by kernel_rfl)) ?_
  intro W base args ds gs before hval hW _ _
  exact graphAt_contract H enc W base args ds gs before hval hW
theorem graphAt : Rows.GraphAtSaid :=
  OpenClaim.holds_of_wide 4 Tryz.f4 rfl rfl rfl rfl rfl rfl rfl ⟨rfl, rfl, rfl, rfl, rfl⟩ rfl rfl rfl rfl rfl (by kernel_rfl) Tryz.func4 (by kernel_rfl)
    (of_decide_eq_true (by kernel_rfl)) (by unfold Func.isWrapper; first | (rw [if_pos (by decide +kernel)]; kernel_rfl) | (rw [if_neg (by decide +kernel)]; exact ⟨rfl, rfl⟩))
    (fun os started H enc _ => graphAt_lifted os started H enc)
end Go.Proofs.YtnlanlpbgcalcaaGreat
