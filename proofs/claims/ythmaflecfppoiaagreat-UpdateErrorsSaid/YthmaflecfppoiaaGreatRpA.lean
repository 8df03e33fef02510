/- The law UpdateErrors holds: it returns true and its arguments read as before. -/
import Derived.Test.YthmaflecfppoiaaGreatRp7
import Derived.Test.YthmaflecfppoiaaGreatRp17
set_option linter.unusedSimpArgs false
set_option linter.unusedVariables false
set_option linter.unusedSectionVars false
namespace Go.Proofs.YthmaflecfppoiaaGreat
open Go Go.ChangeShapes Go.WideShapes Go.ChangeAt Go.RowKit
set_option maxRecDepth 100000 in
theorem zf2 (H:Type) (enc:TypeId × Value→H) (W:World) (base:Nat) (args:Array Value) (ds gs:List (DataW H)) (before:List MemPlace)
  (hval:∀ (j:Nat) t v,Tryz.f4.params[j]? = some t→args[j]? = some v→Value.okWide Tryz.prog W .any base t v)
  (hW:DataW.Whole enc Tryz.prog Tryz.f4.params.toList Rows.updateErrorsSpec.vars false W args.toList ds gs before) :
  Calls Tryz.prog 4 args W fun e W'=>∃ v,e = .returned v∧Rows.updateErrorsSpec.post enc Tryz.prog Tryz.f4 false true false false W args v W':=by
 have hp:Tryz.f4.params.toList=[22,3]:=by rw [Tryz.params4]
 have hlen:∃ d0 d1,ds=[d0,d1]:=by
  obtain⟨p,q,hA,_⟩:=hW
  rw [hp] at hA
  obtain⟨_,_,d0,d1,_,_,_,rfl,_⟩:=trodAll_two hA
  exact⟨d0,d1,rfl⟩
 obtain⟨d0,d1,rfl⟩:=hlen
 refine zrG (P:=Tryz.prog) (f:=Tryz.f4) (s:=Rows.updateErrorsSpec) (n:=2) (tb:=4) zxr hp ?_ ?_ Tryz.underlying4 ?_ hval hW ?_ ?_ ?_ fun xs hxs=>?_
 ·kernel_rfl
 ·kernel_rfl
 ·rfl
 ·rfl
 ·rfl
 ·rfl
 obtain⟨e0,e1,x0,x1,he,rfl,h0,h1⟩:=zxu hxs
 obtain⟨l0,w0⟩:=zse (tI:=3) Tryz.underlying3 Tryz.underlying22 (by kernel_rfl) h0
 obtain⟨n1,rfl,f1⟩:=zsV Tryz.underlying3 h1
 refine ztL (ys:=[ints l0,.I n1]) rfl (fun i hi=>?_) (zf9 l0 n1)
 match i with
 | 0=>exact w0
 | 1=>exact .refl _
set_option maxRecDepth 100000 in
theorem zho (os:Os) (started:os.Started) (H:Type) (enc:TypeId × Value→H) :
  ReturnsInHanded {} Tryz.checked os 4 .any (Rows.updateErrorsSpec.pre6 enc Tryz.prog Tryz.f4 Rows.updateErrorsRow.domain false) (Rows.updateErrorsSpec.post enc Tryz.prog Tryz.f4 false true false false):=by
 refine returnsInHanded_of_change (C:=Tryz.checked) ownK started (by kernel_rfl) Tryz.func4
  (ChangeSpec.witness6 (enc:=enc) (C:=Tryz.checked) false ⟨#[],#[.slice none 0 0,.int .i64 0],[]⟩ 4 (by kernel_rfl) (by kernel_rfl) (by kernel_rfl) (by kernel_rfl)) ?_
 intro W base args ds gs before hval hW _ _
 exact zf2 H enc W base args ds gs before hval hW
set_option maxHeartbeats 8000000 in
theorem zhF:joinedFacts Tryz.prog 4 Tryz.f4 Rows.updateErrorsSpec Rows.updateErrorsRow=true:=by
 unfold joinedFacts
 simp only [Bool.and_eq_true]
 repeat' refine And.intro ?_ ?_
 all_goals (as_aux_lemma=>kernel_rfl)
set_option maxHeartbeats 4000000 in
theorem ziT:Tryz.f4.isWrapper Tryz.prog Rows.updateErrorsRow.wrapper Rows.updateErrorsRow.mainSum:=by unfold Func.isWrapper; first | (rw [if_pos (by decide +kernel)]; kernel_rfl) | (rw [if_neg (by decide +kernel)]; exact⟨rfl,rfl⟩)
set_option maxHeartbeats 4000000 in
theorem updateErrors:Rows.UpdateErrorsSaid :=
 OpenClaim.holds_of_wide 4 Tryz.f4 rfl rfl rfl rfl rfl rfl rfl ⟨rfl,rfl,rfl,rfl,rfl⟩ rfl rfl rfl rfl rfl (by kernel_rfl) Tryz.func4 zhF
  (of_decide_eq_true (by kernel_rfl)) ziT
  (fun os started H enc _=>zho os started H enc)
end Go.Proofs.YthmaflecfppoiaaGreat
