/- The law UpdateApplies holds: it returns true and its arguments read as before. -/
import Derived.Test.YthmaflecfppoiaaGreatRn16
import Derived.Test.YthmaflecfppoiaaGreatRn17
set_option linter.unusedSimpArgs false
set_option linter.unusedVariables false
set_option linter.unusedSectionVars false
namespace Go.Proofs.YthmaflecfppoiaaGreat
open Go Go.ChangeShapes Go.WideShapes Go.ChangeAt Go.RowKit
set_option maxRecDepth 100000 in
theorem zfT (H : Type) (enc : TypeId × Value → H) (W : World) (base : Nat) (args : Array Value) (ds gs : List (DataW H)) (before : List MemPlace)
  (hval : ∀ (j : Nat) t v,Tryz.f3.params[j]? = some t → args[j]? = some v → Value.okWide Tryz.prog W .any base t v)
  (hW : DataW.Whole enc Tryz.prog Tryz.f3.params.toList Rows.updateAppliesSpec.vars false W args.toList ds gs before) :
  Calls Tryz.prog 3 args W fun e W'=>∃ v,e = .returned v ∧ Rows.updateAppliesSpec.post enc Tryz.prog Tryz.f3 false true false false W args v W':=by
 have hp : Tryz.f3.params.toList = [22,26]:=by rw [Tryz.params3]
 have hlen : ∃ d0 d1,ds = [d0,d1]:=by
  obtain ⟨p,q,hA,_⟩:=hW
  rw [hp] at hA
  obtain ⟨_,_,d0,d1,_,_,_,rfl,_⟩:=trodAll_two hA
  exact ⟨d0,d1,rfl⟩
 obtain ⟨d0,d1,rfl⟩:=hlen
 refine zrH (P:=Tryz.prog) (f:=Tryz.f3) (s:=Rows.updateAppliesSpec) (n:=3) (tb:=4) zw5 hp ?_ ?_ Tryz.underlying4 ?_ hval hW ?_ ?_ ?_ fun xs hxs=>?_
 ·kernel_rfl
 ·kernel_rfl
 ·rfl
 ·rfl
 ·rfl
 ·rfl
 obtain ⟨e0,e1,x0,x1,he,rfl,h0,h1⟩:=zxo hxs
 obtain ⟨l0,w0⟩:=zrL (tI:=3) Tryz.underlying3 Tryz.underlying22 (by kernel_rfl) h0
 obtain ⟨s1,rfl⟩:=zrN (tI:=3) (tB:=4) (tE:=24) Tryz.underlying3 Tryz.underlying4 ⟨_,_,_,Tryz.underlying24,rfl,rfl,rfl⟩ ⟨_,_,Tryz.underlying26,rfl,rfl⟩ h1
 refine zsn (ys:=[ints l0,eSt s1]) rfl (fun i hi=>?_) (zfR l0 s1)
 match i with
 | 0=>exact w0
 | 1=>exact .refl _
set_option maxRecDepth 100000 in
theorem zgV (os : Os) (started : os.Started) (H : Type) (enc : TypeId × Value → H) :
  ReturnsInHanded {} Tryz.checked os 3 .any (Rows.updateAppliesSpec.pre6 enc Tryz.prog Tryz.f3 Rows.updateAppliesRow.domain false) (Rows.updateAppliesSpec.post enc Tryz.prog Tryz.f3 false true false false):=by
 refine returnsInHanded_of_change (C:=Tryz.checked) ownK started (by kernel_rfl) Tryz.func3
  (ChangeSpec.witness6 (enc:=enc) (C:=Tryz.checked) false ⟨#[],#[.slice none 0 0,.agg #[.bool false,.int .i64 0,.int .i64 0,.int .i64 0]],[]⟩ 3 (by kernel_rfl) (by kernel_rfl) (by kernel_rfl) (by kernel_rfl)) ?_
 intro W base args ds gs before hval hW _ _
 exact zfT H enc W base args ds gs before hval hW
set_option maxHeartbeats 8000000 in
theorem zgW : joinedFacts Tryz.prog 3 Tryz.f3 Rows.updateAppliesSpec Rows.updateAppliesRow = true:=by
 unfold joinedFacts
 simp only [Bool.and_eq_true]
 repeat' refine And.intro ?_ ?_
 all_goals (as_aux_lemma=>kernel_rfl)
set_option maxHeartbeats 4000000 in
theorem zhV : Tryz.f3.isWrapper Tryz.prog Rows.updateAppliesRow.wrapper Rows.updateAppliesRow.mainSum:=by unfold Func.isWrapper; first | (rw [if_pos (by decide +kernel)]; kernel_rfl) | (rw [if_neg (by decide +kernel)]; exact ⟨rfl,rfl⟩)
set_option maxHeartbeats 4000000 in
theorem updateApplies : Rows.UpdateAppliesSaid :=
 OpenClaim.holds_of_wide 3 Tryz.f3 rfl rfl rfl rfl rfl rfl rfl ⟨rfl,rfl,rfl,rfl,rfl⟩ rfl rfl rfl rfl rfl (by kernel_rfl) Tryz.func3 zgW
  (of_decide_eq_true (by kernel_rfl)) zhV
  (fun os started H enc _=>zgV os started H enc)
end Go.Proofs.YthmaflecfppoiaaGreat
