/- The law UpdateSteps holds: it returns true and its arguments read as before. -/
import Derived.Test.YthmaflecfppoiaaGreatRq7
import Derived.Test.YthmaflecfppoiaaGreatRq17
set_option linter.unusedSimpArgs false
set_option linter.unusedVariables false
set_option linter.unusedSectionVars false
namespace Go.Proofs.YthmaflecfppoiaaGreat
open Go Go.ChangeShapes Go.WideShapes Go.ChangeAt Go.RowKit
set_option maxRecDepth 100000 in
theorem zgT (H : Type) (enc : TypeId × Value→H) (W : World) (base : Nat) (args : Array Value) (ds gs : List (DataW H)) (before : List MemPlace)
  (hval : ∀ (j : Nat) t v,Tryz.f7.params[j]? = some t→args[j]? = some v→Value.okWide Tryz.prog W .any base t v)
  (hW : DataW.Whole enc Tryz.prog Tryz.f7.params.toList Rows.updateStepsSpec.vars false W args.toList ds gs before) :
  Calls Tryz.prog 7 args W fun e W'=>∃ v,e = .returned v∧Rows.updateStepsSpec.post enc Tryz.prog Tryz.f7 false true false false W args v W':=by
 have hp : Tryz.f7.params.toList=[22,22]:=by rw [Tryz.params7]
 have hlen : ∃ d0 d1,ds=[d0,d1]:=by
  obtain ⟨p,q,hA,_⟩:=hW
  rw [hp] at hA
  obtain ⟨_,_,d0,d1,_,_,_,rfl,_⟩:=trodAll_two hA
  exact ⟨d0,d1,rfl⟩
 obtain ⟨d0,d1,rfl⟩:=hlen
 refine zsI (P:=Tryz.prog) (f:=Tryz.f7) (s:=Rows.updateStepsSpec) (n:=2) (tb:=4) zxS hp ?_ ?_ Tryz.underlying4 ?_ hval hW ?_ ?_ ?_ fun xs hxs=>?_
 ·kernel_rfl
 ·kernel_rfl
 ·rfl
 ·rfl
 ·rfl
 ·rfl
 obtain ⟨e0,e1,x0,x1,he,rfl,h0,h1⟩:=zxB hxs
 obtain ⟨l0,w0⟩:=zmv (tI:=3) Tryz.underlying3 Tryz.underlying22 (by kernel_rfl) h0
 obtain ⟨l1,w1⟩:=zmv (tI:=3) Tryz.underlying3 Tryz.underlying22 (by kernel_rfl) h1
 refine zs3 (ys:=[ints l0,ints l1]) rfl (fun i hi=>?_) (zgW l0 l1)
 match i with
 | 0=>exact w0
 | 1=>exact w1
set_option maxRecDepth 100000 in
theorem zhC (os : Os) (started : os.Started) (H : Type) (enc : TypeId × Value→H) :
  ReturnsInHanded {} Tryz.checked os 7 .any (Rows.updateStepsSpec.pre6 enc Tryz.prog Tryz.f7 Rows.updateStepsRow.domain false) (Rows.updateStepsSpec.post enc Tryz.prog Tryz.f7 false true false false):=by
 refine returnsInHanded_of_change (C:=Tryz.checked) ownK started (by kernel_rfl) Tryz.func7
  (ChangeSpec.witness6 (enc:=enc) (C:=Tryz.checked) false ⟨#[],#[.slice none 0 0,.slice none 0 0],[]⟩ 7 (by kernel_rfl) (by kernel_rfl) (by kernel_rfl) (by kernel_rfl)) ?_
 intro W base args ds gs before hval hW _ _
 exact zgT H enc W base args ds gs before hval hW
set_option maxHeartbeats 8000000 in
theorem zhP : joinedFacts Tryz.prog 7 Tryz.f7 Rows.updateStepsSpec Rows.updateStepsRow=true:=by
 unfold joinedFacts
 simp only [Bool.and_eq_true]
 repeat' refine And.intro ?_ ?_
 all_goals (as_aux_lemma=>kernel_rfl)
set_option maxHeartbeats 4000000 in
theorem zjH : Tryz.f7.isWrapper Tryz.prog Rows.updateStepsRow.wrapper Rows.updateStepsRow.mainSum:=by unfold Func.isWrapper; first | (rw [if_pos (by decide +kernel)]; kernel_rfl) | (rw [if_neg (by decide +kernel)]; exact ⟨rfl,rfl⟩)
set_option maxHeartbeats 4000000 in
theorem updateSteps : Rows.UpdateStepsSaid :=
 OpenClaim.holds_of_wide 7 Tryz.f7 rfl rfl rfl rfl rfl rfl rfl ⟨rfl,rfl,rfl,rfl,rfl⟩ rfl rfl rfl rfl rfl (by kernel_rfl) Tryz.func7 zhP
  (of_decide_eq_true (by kernel_rfl)) zjH
  (fun os started H enc _=>zhC os started H enc)
end Go.Proofs.YthmaflecfppoiaaGreat
