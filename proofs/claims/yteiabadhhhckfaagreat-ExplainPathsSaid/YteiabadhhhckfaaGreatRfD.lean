/- The law ExplainPaths holds: it returns true and its arguments read as before. -/
import Derived.Test.YteiabadhhhckfaaGreatRf17
set_option linter.unusedSimpArgs false
set_option linter.unusedVariables false
set_option linter.unusedSectionVars false
namespace Go.Proofs.YteiabadhhhckfaaGreat
open Go Go.ChangeShapes Go.WideShapes Go.ChangeAt Go.RowKit
set_option maxRecDepth 100000 in
theorem zfI (H : Type) (enc : TypeId × Value → H) (W : World) (base : Nat) (args : Array Value) (ds gs : List (DataW H)) (before : List MemPlace)
  (hval : ∀ (j : Nat) t v,Tryz.f14.params[j]? = some t → args[j]? = some v → Value.okWide Tryz.prog W .any base t v)
  (hW : DataW.Whole enc Tryz.prog Tryz.f14.params.toList Rows.explainPathsSpec.vars false W args.toList ds gs before) :
  Calls Tryz.prog 14 args W fun e W'=>∃ v,e = .returned v ∧ Rows.explainPathsSpec.post enc Tryz.prog Tryz.f14 false true false false W args v W':=by
 have hp : Tryz.f14.params.toList = [22,5]:=by rw [Tryz.params14]
 have hlen : ∃ d0 d1,ds = [d0,d1]:=by
  obtain ⟨p,q,hA,_⟩:=hW
  rw [hp] at hA
  obtain ⟨_,_,d0,d1,_,_,_,rfl,_⟩:=trodAll_two hA
  exact ⟨d0,d1,rfl⟩
 obtain ⟨d0,d1,rfl⟩:=hlen
 refine zgl (P:=Tryz.prog) (f:=Tryz.f14) (s:=Rows.explainPathsSpec) (n:=2) (tb:=4) ztD hp ?_ ?_ Tryz.underlying4 ?_ hval hW ?_ ?_ ?_ fun xs hxs=>?_
 ·kernel_rfl
 ·kernel_rfl
 ·rfl
 ·rfl
 ·rfl
 ·rfl
 obtain ⟨e0,e1,x0,x1,he,rfl,h0,h1⟩:=zwu hxs
 obtain ⟨l0,w0⟩:=zgj (tI:=3) Tryz.underlying3 Tryz.underlying22 (by kernel_rfl) h0
 obtain ⟨n1,rfl,f1,f1b⟩:=zqC Tryz.underlying5 h1
 refine zhw (ys:=[ints l0,.sc (.int .u8 n1)]) rfl (fun i hi=>?_) (zfN l0 n1)
 match i with
 | 0=>exact w0
 | 1=>exact .refl _
set_option maxRecDepth 100000 in
theorem zgL (os : Os) (started : os.Started) (H : Type) (enc : TypeId × Value → H) :
  ReturnsInHanded {} Tryz.checked os 14 .any (Rows.explainPathsSpec.pre6 enc Tryz.prog Tryz.f14 Rows.explainPathsRow.domain false) (Rows.explainPathsSpec.post enc Tryz.prog Tryz.f14 false true false false):=by
 refine returnsInHanded_of_change (C:=Tryz.checked) ownK started (by kernel_rfl) Tryz.func14
  (ChangeSpec.witness6 (enc:=enc) (C:=Tryz.checked) false ⟨#[],#[.slice none 0 0,.int .u8 0],[]⟩ 14 (by kernel_rfl) (by kernel_rfl) (by kernel_rfl) (by kernel_rfl)) ?_
 intro W base args ds gs before hval hW _ _
 exact zfI H enc W base args ds gs before hval hW
set_option maxHeartbeats 8000000 in
theorem zgS : joinedFacts Tryz.prog 14 Tryz.f14 Rows.explainPathsSpec Rows.explainPathsRow = true:=by
 unfold joinedFacts
 simp only [Bool.and_eq_true]
 repeat' refine And.intro ?_ ?_
 all_goals (as_aux_lemma=>kernel_rfl)
set_option maxHeartbeats 4000000 in
theorem ziI : Tryz.f14.isWrapper Tryz.prog Rows.explainPathsRow.wrapper Rows.explainPathsRow.mainSum:=by unfold Func.isWrapper; first | (rw [if_pos (by decide +kernel)]; kernel_rfl) | (rw [if_neg (by decide +kernel)]; exact ⟨rfl,rfl⟩)
set_option maxHeartbeats 4000000 in
theorem explainPaths : Rows.ExplainPathsSaid :=
 OpenClaim.holds_of_wide 14 Tryz.f14 rfl rfl rfl rfl rfl rfl rfl ⟨rfl,rfl,rfl,rfl,rfl⟩ rfl rfl rfl rfl rfl (by kernel_rfl) Tryz.func14 zgS
  (of_decide_eq_true (by kernel_rfl)) ziI
  (fun os started H enc _=>zgL os started H enc)
end Go.Proofs.YteiabadhhhckfaaGreat
