/- The law ExplainOne holds: it returns true and its arguments read as before. -/
import Derived.Test.YteiabadhhhckfaaGreatRf6
import Derived.Test.YteiabadhhhckfaaGreatRf17
set_option linter.unusedSimpArgs false
set_option linter.unusedVariables false
set_option linter.unusedSectionVars false
namespace Go.Proofs.YteiabadhhhckfaaGreat
open Go Go.ChangeShapes Go.WideShapes Go.ChangeAt Go.RowKit
set_option maxRecDepth 100000 in
theorem zgK (H : Type) (enc : TypeId × Value → H) (W : World) (base : Nat) (args : Array Value) (ds gs : List (DataW H)) (before : List MemPlace)
  (hval : ∀ (j : Nat) t v,Tryz.f18.params[j]? = some t → args[j]? = some v → Value.okWide Tryz.prog W .any base t v)
  (hW : DataW.Whole enc Tryz.prog Tryz.f18.params.toList Rows.explainOneSpec.vars false W args.toList ds gs before) :
  Calls Tryz.prog 18 args W fun e W'=>∃ v,e = .returned v ∧ Rows.explainOneSpec.post enc Tryz.prog Tryz.f18 false true false false W args v W':=by
 have hp : Tryz.f18.params.toList = [22]:=by rw [Tryz.params18]
 have hlen : ∃ d0,ds = [d0]:=by
  obtain ⟨p,q,hA,_⟩:=hW
  rw [hp] at hA
  obtain ⟨_,d0,_,rfl,_⟩:=trodAll_one hA
  exact ⟨d0,rfl⟩
 obtain ⟨d0,rfl⟩:=hlen
 refine zgl (P:=Tryz.prog) (f:=Tryz.f18) (s:=Rows.explainOneSpec) (n:=2) (tb:=4) ztD hp ?_ ?_ Tryz.underlying4 ?_ hval hW ?_ ?_ ?_ fun xs hxs=>?_
 ·kernel_rfl
 ·kernel_rfl
 ·rfl
 ·rfl
 ·rfl
 ·rfl
 obtain ⟨e0,x0,he,rfl,h0⟩:=zuR hxs
 obtain ⟨l0,w0⟩:=zgj (tI:=3) Tryz.underlying3 Tryz.underlying22 (by kernel_rfl) h0
 refine zhw (ys:=[ints l0]) rfl (fun i hi=>?_) (zgI l0)
 match i with
 | 0=>exact w0
set_option maxRecDepth 100000 in
theorem ziT (os : Os) (started : os.Started) (H : Type) (enc : TypeId × Value → H) :
  ReturnsInHanded {} Tryz.checked os 18 .any (Rows.explainOneSpec.pre6 enc Tryz.prog Tryz.f18 Rows.explainOneRow.domain false) (Rows.explainOneSpec.post enc Tryz.prog Tryz.f18 false true false false):=by
 refine returnsInHanded_of_change (C:=Tryz.checked) ownK started (by kernel_rfl) Tryz.func18
  (ChangeSpec.witness6 (enc:=enc) (C:=Tryz.checked) false ⟨#[],#[.slice none 0 0],[]⟩ 18 (by kernel_rfl) (by kernel_rfl) (by kernel_rfl) (by kernel_rfl)) ?_
 intro W base args ds gs before hval hW _ _
 exact zgK H enc W base args ds gs before hval hW
set_option maxHeartbeats 8000000 in
theorem zig : joinedFacts Tryz.prog 18 Tryz.f18 Rows.explainOneSpec Rows.explainOneRow = true:=by
 unfold joinedFacts
 simp only [Bool.and_eq_true]
 repeat' refine And.intro ?_ ?_
 all_goals (as_aux_lemma=>kernel_rfl)
set_option maxHeartbeats 4000000 in
theorem zkc : Tryz.f18.isWrapper Tryz.prog Rows.explainOneRow.wrapper Rows.explainOneRow.mainSum:=by unfold Func.isWrapper; first | (rw [if_pos (by decide +kernel)]; kernel_rfl) | (rw [if_neg (by decide +kernel)]; exact ⟨rfl,rfl⟩)
set_option maxHeartbeats 4000000 in
theorem explainOne : Rows.ExplainOneSaid :=
 OpenClaim.holds_of_wide 18 Tryz.f18 rfl rfl rfl rfl rfl rfl rfl ⟨rfl,rfl,rfl,rfl,rfl⟩ rfl rfl rfl rfl rfl (by kernel_rfl) Tryz.func18 zig
  (of_decide_eq_true (by kernel_rfl)) zkc
  (fun os started H enc _=>ziT os started H enc)
end Go.Proofs.YteiabadhhhckfaaGreat
