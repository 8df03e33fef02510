/- The law ExplainKeys holds: it returns true and its arguments read as before. -/
import Derived.Test.YteiabadhhhckfaaGreatRi6
import Derived.Test.YteiabadhhhckfaaGreatRi13
import Derived.Test.YteiabadhhhckfaaGreatRi16
set_option linter.unusedSimpArgs false
set_option linter.unusedVariables false
set_option linter.unusedSectionVars false
namespace Go.Proofs.YteiabadhhhckfaaGreat
open Go Go.ChangeShapes Go.WideShapes Go.ChangeAt Go.RowKit
set_option maxRecDepth 100000 in
theorem zfN (H : Type) (enc : TypeId × Value → H) (W : World) (base : Nat) (args : Array Value) (ds gs : List (DataW H)) (before : List MemPlace)
  (hval : ∀ (j : Nat) t v,Tryz.f13.params[j]? = some t → args[j]? = some v → Value.okWide Tryz.prog W .any base t v)
  (hW : DataW.Whole enc Tryz.prog Tryz.f13.params.toList Rows.explainKeysSpec.vars false W args.toList ds gs before) :
  Calls Tryz.prog 13 args W fun e W'=>∃ v,e = .returned v ∧ Rows.explainKeysSpec.post enc Tryz.prog Tryz.f13 false true false false W args v W':=by
 have hp : Tryz.f13.params.toList = [22,66,22]:=by rw [Tryz.params13]
 have hlen : ∃ d0 d1 d2,ds = [d0,d1,d2]:=by
  obtain ⟨p,q,hA,_⟩:=hW
  rw [hp] at hA
  obtain ⟨_,_,_,d0,d1,d2,_,_,_,_,rfl,_⟩:=trodAll_three hA
  exact ⟨d0,d1,d2,rfl⟩
 obtain ⟨d0,d1,d2,rfl⟩:=hlen
 refine zpx (P:=Tryz.prog) (f:=Tryz.f13) (s:=Rows.explainKeysSpec) (n:=3) (tb:=4) zvp hp ?_ ?_ Tryz.underlying4 ?_ hval hW ?_ ?_ ?_ fun xs hxs=>?_
 ·kernel_rfl
 ·kernel_rfl
 ·rfl
 ·rfl
 ·rfl
 ·rfl
 obtain ⟨e0,e1,e2,x0,x1,x2,he,rfl,h0,h1,h2⟩:=zug hxs
 obtain ⟨l0,w0⟩:=zkM (tI:=3) Tryz.underlying3 Tryz.underlying22 (by kernel_rfl) h0
 obtain ⟨l1,w1⟩:=zqp (tI:=3) Tryz.underlying3 ⟨_,_,_,Tryz.underlying80,rfl,rfl,rfl⟩ Tryz.underlying66 (by kernel_rfl) h1
 obtain ⟨l2,w2⟩:=zkM (tI:=3) Tryz.underlying3 Tryz.underlying22 (by kernel_rfl) h2
 refine zrh (ys:=[ints l0,eEs l1,ints l2]) rfl (fun i hi=>?_) (zfP l0 l1 l2)
 match i with
 | 0=>exact w0
 | 1=>exact w1
 | 2=>exact w2
set_option maxRecDepth 100000 in
theorem zhi (os : Os) (started : os.Started) (H : Type) (enc : TypeId × Value → H) :
  ReturnsInHanded {} Tryz.checked os 13 .any (Rows.explainKeysSpec.pre6 enc Tryz.prog Tryz.f13 Rows.explainKeysRow.domain false) (Rows.explainKeysSpec.post enc Tryz.prog Tryz.f13 false true false false):=by
 refine returnsInHanded_of_change (C:=Tryz.checked) ownK started (by kernel_rfl) Tryz.func13
  (ChangeSpec.witness6 (enc:=enc) (C:=Tryz.checked) false ⟨#[],#[.slice none 0 0,.slice none 0 0,.slice none 0 0],[]⟩ 13 (by kernel_rfl) (by kernel_rfl) (by kernel_rfl) (by kernel_rfl)) ?_
 intro W base args ds gs before hval hW _ _
 exact zfN H enc W base args ds gs before hval hW
set_option maxHeartbeats 8000000 in
theorem zgS : joinedFacts Tryz.prog 13 Tryz.f13 Rows.explainKeysSpec Rows.explainKeysRow = true:=by
 unfold joinedFacts
 simp only [Bool.and_eq_true]
 repeat' refine And.intro ?_ ?_
 all_goals (as_aux_lemma=>kernel_rfl)
set_option maxHeartbeats 4000000 in
theorem zit : Tryz.f13.isWrapper Tryz.prog Rows.explainKeysRow.wrapper Rows.explainKeysRow.mainSum:=by unfold Func.isWrapper; first | (rw [if_pos (by decide +kernel)]; kernel_rfl) | (rw [if_neg (by decide +kernel)]; exact ⟨rfl,rfl⟩)
set_option maxHeartbeats 4000000 in
theorem explainKeys : Rows.ExplainKeysSaid :=
 OpenClaim.holds_of_wide 13 Tryz.f13 rfl rfl rfl rfl rfl rfl rfl ⟨rfl,rfl,rfl,rfl,rfl⟩ rfl rfl rfl rfl rfl (by kernel_rfl) Tryz.func13 zgS
  (of_decide_eq_true (by kernel_rfl)) zit
  (fun os started H enc _=>zhi os started H enc)
end Go.Proofs.YteiabadhhhckfaaGreat
