/- The law CheckerRaw, where what it reads is of bulk at most 1048576: it returns true and its arguments read as before. -/
import Derived.Test.YtlhjelookgjmpaaGreatRa13
import Derived.Test.YtlhjelookgjmpaaGreatRa14
import Derived.JoinedCond
set_option linter.unusedSimpArgs false
set_option linter.unusedVariables false
set_option linter.unusedSectionVars false
namespace Go.Proofs.YtlhjelookgjmpaaGreat
open Go Go.ChangeShapes Go.WideShapes Go.ChangeAt Go.RowKit
set_option maxRecDepth 100000 in
theorem checkerRaw_contract (H : Type) (enc : TypeId × Value → H) (W : World) (base : Nat) (args : Array Value) (ds gs : List (DataW H)) (before : List MemPlace)
    (hval : ∀ (j : Nat) t v, Tryz.f5.params[j]? = some t → args[j]? = some v → Value.okWide Tryz.prog W .any base t v)
    (hW : DataW.Whole enc Tryz.prog Tryz.f5.params.toList Rows.checkerRawSpec.vars false W args.toList ds gs before) (hk : Rows.uptoSmall H (ds ++ gs) = true) :
    Calls Tryz.prog 5 args W fun e W' => ∃ v, e = .returned v ∧ Rows.checkerRawSpec.post enc Tryz.prog Tryz.f5 false true false false W args v W' := by
  have hp : Tryz.f5.params.toList = [22, 36, 22] := by rw [Tryz.params5]
  have hbd : ∀ d ∈ ds, Rows.uptoBulk d ≤ 1048576 := fun d hd => Nat.le_trans (bulk_mem (List.mem_append_left _ hd)) (of_decide_eq_true hk)
  have hlen : ∃ d0 d1 d2, ds = [d0, d1, d2] := by
    obtain ⟨p, q, hA, _⟩ := hW
    rw [hp] at hA
    obtain ⟨_, _, _, d0, d1, d2, _, _, _, _, rfl, _⟩ := trodAll_three hA
    exact ⟨d0, d1, d2, rfl⟩
  obtain ⟨d0, d1, d2, rfl⟩ := hlen
  refine law_bridge (P := Tryz.prog) (f := Tryz.f5) (s := Rows.checkerRawSpec) (n := 4) (tb := 4) laidK hp ?_ ?_ Tryz.underlying4 ?_ hval hW ?_ ?_ ?_ fun xs hxs => ?_
  · kernel_rfl
  · kernel_rfl
  · rfl
  · rfl
  · rfl
  · rfl
  obtain ⟨e0, e1, e2, x0, x1, x2, he, rfl, h0, h1, h2⟩ := args3b hxs
  simp only [List.cons.injEq, and_true] at he
  obtain ⟨rfl, rfl, rfl⟩ := he
  have q0 := hbd d0 (by simp)
  obtain ⟨l0, w0, b0⟩ := intsArg_ofB (tI := 3) Tryz.underlying3 Tryz.underlying22 (by kernel_rfl) h0
  have m0 := Nat.le_trans b0 q0
  have q1 := hbd d1 (by simp)
  obtain ⟨x1, w1, b1⟩ := expl_of (tI := 3) (tIs := 22) (tPs := 34) (tB := 4) Tryz.underlying3 Tryz.underlying22 (by kernel_rfl) Tryz.underlying34 (by kernel_rfl) Tryz.underlying4 ⟨_, _, _, _, _, Tryz.underlying36, rfl, rfl, rfl, rfl, rfl⟩ h1
  have m1 := Nat.le_trans b1.b q1
  have m1p := Nat.le_trans b1.p q1
  have m1w := fun w hw => Nat.le_trans (b1.w w hw) q1
  have m1s := Nat.le_trans b1.s q1
  have q2 := hbd d2 (by simp)
  obtain ⟨l2, w2, b2⟩ := intsArg_ofB (tI := 3) Tryz.underlying3 Tryz.underlying22 (by kernel_rfl) h2
  have m2 := Nat.le_trans b2 q2
  refine acalls_rp (ys := [ints l0, eX x1, ints l2]) rfl (fun i hi => ?_) (law44_CheckerRaw_ok l0 x1 l2 (by omega) (by omega) (fun w hw => Nat.le_trans (m1w w hw) (by omega)) (by omega) (by omega))
  match i with
  | 0 => exact .wk w0
  | 1 => exact w1
  | 2 => exact .wk w2
set_option maxRecDepth 100000 in
theorem checkerRaw_lifted (os : Os) (started : os.Started) (H : Type) (enc : TypeId × Value → H) (F : Stop.Interp) :
    ReturnsInHanded {} Tryz.checked os 5 .any ((Rows.OpenSpec.upto Rows.checkerRawSpec).pre6 enc Tryz.prog Tryz.f5 Rows.checkerRawUptoRow.domain false) (((Rows.OpenSpec.upto Rows.checkerRawSpec).at F).post enc Tryz.prog Tryz.f5 false true false false) := by
  refine returnsInHanded_of_cond (C := Tryz.checked) (s := Rows.OpenSpec.upto Rows.checkerRawSpec) (k := Rows.uptoSmall) rfl ownK started (by kernel_rfl) Tryz.func5
    (OpenSpec.witness (enc := enc) (C := Tryz.checked) (s := Rows.OpenSpec.upto Rows.checkerRawSpec) (k := Rows.uptoSmall) rfl false ⟨#[], #[.slice none 0 0, .agg #[.int .i64 0, .bool false, .slice none 0 0, .slice none 0 0, .slice none 0 0], .slice none 0 0], []⟩ 5 (by kernel_rfl) (by kernel_rfl) (by kernel_rfl)
      (x := ([.nil, .agg [.lit (.int .i64 0), .lit (.bool false), .nil, .nil, .nil], .nil], [], [])) (by kernel_rfl) rfl (by kernel_rfl)) ?_
  intro W base args ds gs before hval hW _ hk _
  exact checkerRaw_contract H enc W base args ds gs before hval hW hk
theorem checkerRaw : Rows.CheckerRawUptoSaid :=
  OpenClaim.holds_of_cond 5 Tryz.f5 rfl rfl rfl rfl rfl rfl rfl ⟨rfl, rfl, rfl, rfl, rfl⟩ rfl rfl rfl rfl rfl (by kernel_rfl) Tryz.func5 (by kernel_rfl)
    (of_decide_eq_true (by kernel_rfl)) (by unfold Func.isWrapper; first | (rw [if_pos (by decide +kernel)]; kernel_rfl) | (rw [if_neg (by decide +kernel)]; exact ⟨rfl, rfl⟩))
    (fun os started H enc _ F => checkerRaw_lifted os started H enc F)
end Go.Proofs.YtlhjelookgjmpaaGreat
