/- The law ExplainCuts holds: it returns true and its arguments read as before. -/
import Derived.Test.YteiabadhhhckfaaGreatRf6
import Derived.Test.YteiabadhhhckfaaGreatRf17
set_option linter.unusedSimpArgs false
set_option linter.unusedVariables false
set_option linter.unusedSectionVars false
namespace Go.Proofs.YteiabadhhhckfaaGreat
open Go Go.ChangeShapes Go.WideShapes Go.ChangeAt Go.RowKit
set_option maxRecDepth 100000 in
theorem zgx (H : Type) (enc : TypeId × Value → H) (W : World) (base : Nat) (args : Array Value) (ds gs : List (DataW H)) (before : List MemPlace)
  (hval : ∀ (j : Nat) t v,Tryz.f17.params[j]? = some t → args[j]? = some v → Value.okWide Tryz.prog W .any base t v)
  (hW : DataW.Whole enc Tryz.prog Tryz.f17.params.toList Rows.explainCutsSpec.vars false W args.toList ds gs before) :
  Calls Tryz.prog 17 args W fun e W'=>∃ v,e = .returned v ∧ Rows.explainCutsSpec.post enc Tryz.prog Tryz.f17 false true false false W args v W':=by
 have hp : Tryz.f17.params.toList = [22]:=by rw [Tryz.params17]
 have hlen : ∃ d0,ds = [d0]:=by
  obtain ⟨p,q,hA,_⟩:=hW
  rw [hp] at hA
  obtain ⟨_,d0,_,rfl,_⟩:=trodAll_one hA
  exact ⟨d0,rfl⟩
 obtain ⟨d0,rfl⟩:=hlen
 refine zgl (P:=Tryz.prog) (f:=Tryz.f17) (s:=Rows.explainCutsSpec) (n:=2) (tb:=4) ztD hp ?_ ?_ Tryz.underlying4 ?_ hval hW ?_ ?_ ?_ fun xs hxs=>?_
 ·kernel_rfl
 ·kernel_rfl
 ·rfl
 ·rfl
 ·rfl
 ·rfl
 obtain ⟨e0,x0,he,rfl,h0⟩:=zuR hxs
 obtain ⟨l0,w0⟩:=zgj (tI:=3) Tryz.underlying3 Tryz.underlying22 (by kernel_rfl) h0
 refine zhw (ys:=[ints l0]) rfl (fun i hi=>?_) (zgw l0)
 match i with
 | 0=>exact w0
set_option maxRecDepth 100000 in
theorem zhK (os : Os) (started : os.Started) (H : Type) (enc : TypeId × Value → H) :
  ReturnsInHanded {} Tryz.checked os 17 .any (Rows.explainCutsSpec.pre6 enc Tryz.prog Tryz.f17 Rows.explainCutsRow.domain false) (Rows.explainCutsSpec.post enc Tryz.prog Tryz.f17 false true false false):=by
 refine returnsInHanded_of_change (C:=Tryz.checked) ownK started (by kernel_rfl) Tryz.func17
  (ChangeSpec.witness6 (enc:=enc) (C:=Tryz.checked) false ⟨#[],#[.slice none 0 0],[]⟩ 17 (by kernel_rfl) (by kernel_rfl) (by kernel_rfl) (by kernel_rfl)) ?_
 intro W base args ds gs before hval hW _ _
 exact zgx H enc W base args ds gs before hval hW
set_option maxHeartbeats 8000000 in
theorem zh1 : joinedFacts Tryz.prog 17 Tryz.f17 Rows.explainCutsSpec Rows.explainCutsRow = true:=by
 unfold joinedFacts
 simp only [Bool.and_eq_true]
 repeat' refine And.intro ?_ ?_
 all_goals (as_aux_lemma=>kernel_rfl)
set_option maxHeartbeats 4000000 in
theorem zjy : Tryz.f17.isWrapper Tryz.prog Rows.explainCutsRow.wrapper Rows.explainCutsRow.mainSum:=by unfold Func.isWrapper; first | (rw [if_pos (by decide +kernel)]; kernel_rfl) | (rw [if_neg (by decide +kernel)]; exact ⟨rfl,rfl⟩)
set_option maxHeartbeats 4000000 in
theorem explainCuts : Rows.ExplainCutsSaid :=
 OpenClaim.holds_of_wide 17 Tryz.f17 rfl rfl rfl rfl rfl rfl rfl ⟨rfl,rfl,rfl,rfl,rfl⟩ rfl rfl rfl rfl rfl (by kernel_rfl) Tryz.func17 zh1
  (of_decide_eq_true (by kernel_rfl)) zjy
  (fun os started H enc _=>zhK os started H enc)
end Go.Proofs.YteiabadhhhckfaaGreat
