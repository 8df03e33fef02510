/- The law UpdateOrder holds: it returns true and its arguments read as before. -/
import Derived.Test.YthmaflecfppoiaaGreatRo7
import Derived.Test.YthmaflecfppoiaaGreatRo16
set_option linter.unusedSimpArgs false
set_option linter.unusedVariables false
set_option linter.unusedSectionVars false
namespace Go.Proofs.YthmaflecfppoiaaGreat
open Go Go.ChangeShapes Go.WideShapes Go.ChangeAt Go.RowKit
set_option maxRecDepth 100000 in
theorem zgr (H : Type) (enc : TypeId × Value → H) (W : World) (base : Nat) (args : Array Value) (ds gs : List (DataW H)) (before : List MemPlace)
  (hval : ∀ (j : Nat) t v,Tryz.f6.params[j]? = some t → args[j]? = some v → Value.okWide Tryz.prog W .any base t v)
  (hW : DataW.Whole enc Tryz.prog Tryz.f6.params.toList Rows.updateOrderSpec.vars false W args.toList ds gs before) :
  Calls Tryz.prog 6 args W fun e W'=>∃ v,e = .returned v ∧ Rows.updateOrderSpec.post enc Tryz.prog Tryz.f6 false true false false W args v W':=by
 have hp : Tryz.f6.params.toList = [22]:=by rw [Tryz.params6]
 have hlen : ∃ d0,ds = [d0]:=by
  obtain ⟨p,q,hA,_⟩:=hW
  rw [hp] at hA
  obtain ⟨_,d0,_,rfl,_⟩:=trodAll_one hA
  exact ⟨d0,rfl⟩
 obtain ⟨d0,rfl⟩:=hlen
 refine zlw (P:=Tryz.prog) (f:=Tryz.f6) (s:=Rows.updateOrderSpec) (n:=2) (tb:=4) zvj hp ?_ ?_ Tryz.underlying4 ?_ hval hW ?_ ?_ ?_ fun xs hxs=>?_
 ·kernel_rfl
 ·kernel_rfl
 ·rfl
 ·rfl
 ·rfl
 ·rfl
 obtain ⟨e0,x0,he,rfl,h0⟩:=zu2 hxs
 obtain ⟨l0,w0⟩:=zlq (tI:=3) Tryz.underlying3 Tryz.underlying22 (by kernel_rfl) h0
 refine znL (ys:=[ints l0]) rfl (fun i hi=>?_) (zgp l0)
 match i with
 | 0=>exact w0
set_option maxRecDepth 100000 in
theorem zhN (os : Os) (started : os.Started) (H : Type) (enc : TypeId × Value → H) :
  ReturnsInHanded {} Tryz.checked os 6 .any (Rows.updateOrderSpec.pre6 enc Tryz.prog Tryz.f6 Rows.updateOrderRow.domain false) (Rows.updateOrderSpec.post enc Tryz.prog Tryz.f6 false true false false):=by
 refine returnsInHanded_of_change (C:=Tryz.checked) ownK started (by kernel_rfl) Tryz.func6
  (ChangeSpec.witness6 (enc:=enc) (C:=Tryz.checked) false ⟨#[],#[.slice none 0 0],[]⟩ 6 (by kernel_rfl) (by kernel_rfl) (by kernel_rfl) (by kernel_rfl)) ?_
 intro W base args ds gs before hval hW _ _
 exact zgr H enc W base args ds gs before hval hW
set_option maxHeartbeats 8000000 in
theorem zhC : joinedFacts Tryz.prog 6 Tryz.f6 Rows.updateOrderSpec Rows.updateOrderRow = true:=by
 unfold joinedFacts
 simp only [Bool.and_eq_true]
 repeat' refine And.intro ?_ ?_
 all_goals (as_aux_lemma=>kernel_rfl)
set_option maxHeartbeats 4000000 in
theorem ziP : Tryz.f6.isWrapper Tryz.prog Rows.updateOrderRow.wrapper Rows.updateOrderRow.mainSum:=by unfold Func.isWrapper; first | (rw [if_pos (by decide +kernel)]; kernel_rfl) | (rw [if_neg (by decide +kernel)]; exact ⟨rfl,rfl⟩)
set_option maxHeartbeats 4000000 in
theorem updateOrder : Rows.UpdateOrderSaid :=
 OpenClaim.holds_of_wide 6 Tryz.f6 rfl rfl rfl rfl rfl rfl rfl ⟨rfl,rfl,rfl,rfl,rfl⟩ rfl rfl rfl rfl rfl (by kernel_rfl) Tryz.func6 zhC
  (of_decide_eq_true (by kernel_rfl)) ziP
  (fun os started H enc _=>zhN os started H enc)
end Go.Proofs.YthmaflecfppoiaaGreat
