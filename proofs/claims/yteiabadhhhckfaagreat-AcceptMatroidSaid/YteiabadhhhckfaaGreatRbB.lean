/- The law AcceptMatroid holds: it returns true and its arguments read as before. -/
import Derived.Test.YteiabadhhhckfaaGreatRb7
import Derived.Test.YteiabadhhhckfaaGreatRb16
set_option linter.unusedSimpArgs false
set_option linter.unusedVariables false
set_option linter.unusedSectionVars false
namespace Go.Proofs.YteiabadhhhckfaaGreat
open Go Go.ChangeShapes Go.WideShapes Go.ChangeAt Go.RowKit
set_option maxRecDepth 100000 in
theorem ze3 (H : Type) (enc : TypeId × Value → H) (W : World) (base : Nat) (args : Array Value) (ds gs : List (DataW H)) (before : List MemPlace)
  (hval : ∀ (j : Nat) t v,Tryz.f9.params[j]? = some t → args[j]? = some v → Value.okWide Tryz.prog W .any base t v)
  (hW : DataW.Whole enc Tryz.prog Tryz.f9.params.toList Rows.acceptMatroidSpec.vars false W args.toList ds gs before) :
  Calls Tryz.prog 9 args W fun e W'=>∃ v,e = .returned v ∧ Rows.acceptMatroidSpec.post enc Tryz.prog Tryz.f9 false true false false W args v W':=by
 have hp : Tryz.f9.params.toList = [22]:=by rw [Tryz.params9]
 have hlen : ∃ d0,ds = [d0]:=by
  obtain ⟨p,q,hA,_⟩:=hW
  rw [hp] at hA
  obtain ⟨_,d0,_,rfl,_⟩:=trodAll_one hA
  exact ⟨d0,rfl⟩
 obtain ⟨d0,rfl⟩:=hlen
 refine zkn (P:=Tryz.prog) (f:=Tryz.f9) (s:=Rows.acceptMatroidSpec) (n:=2) (tb:=4) zs0 hp ?_ ?_ Tryz.underlying4 ?_ hval hW ?_ ?_ ?_ fun xs hxs=>?_
 ·kernel_rfl
 ·kernel_rfl
 ·rfl
 ·rfl
 ·rfl
 ·rfl
 obtain ⟨e0,x0,he,rfl,h0⟩:=ztM hxs
 obtain ⟨l0,w0⟩:=zkF (tI:=3) Tryz.underlying3 Tryz.underlying22 (by kernel_rfl) h0
 refine zm0 (ys:=[ints l0]) rfl (fun i hi=>?_) (zeZ l0)
 match i with
 | 0=>exact w0
set_option maxRecDepth 100000 in
theorem zfT (os : Os) (started : os.Started) (H : Type) (enc : TypeId × Value → H) :
  ReturnsInHanded {} Tryz.checked os 9 .any (Rows.acceptMatroidSpec.pre6 enc Tryz.prog Tryz.f9 Rows.acceptMatroidRow.domain false) (Rows.acceptMatroidSpec.post enc Tryz.prog Tryz.f9 false true false false):=by
 refine returnsInHanded_of_change (C:=Tryz.checked) ownK started (by kernel_rfl) Tryz.func9
  (ChangeSpec.witness6 (enc:=enc) (C:=Tryz.checked) false ⟨#[],#[.slice none 0 0],[]⟩ 9 (by kernel_rfl) (by kernel_rfl) (by kernel_rfl) (by kernel_rfl)) ?_
 intro W base args ds gs before hval hW _ _
 exact ze3 H enc W base args ds gs before hval hW
set_option maxHeartbeats 8000000 in
theorem zfS : joinedFacts Tryz.prog 9 Tryz.f9 Rows.acceptMatroidSpec Rows.acceptMatroidRow = true:=by
 unfold joinedFacts
 simp only [Bool.and_eq_true]
 repeat' refine And.intro ?_ ?_
 all_goals (as_aux_lemma=>kernel_rfl)
set_option maxHeartbeats 4000000 in
theorem zgJ : Tryz.f9.isWrapper Tryz.prog Rows.acceptMatroidRow.wrapper Rows.acceptMatroidRow.mainSum:=by unfold Func.isWrapper; first | (rw [if_pos (by decide +kernel)]; kernel_rfl) | (rw [if_neg (by decide +kernel)]; exact ⟨rfl,rfl⟩)
set_option maxHeartbeats 4000000 in
theorem acceptMatroid : Rows.AcceptMatroidSaid :=
 OpenClaim.holds_of_wide 9 Tryz.f9 rfl rfl rfl rfl rfl rfl rfl ⟨rfl,rfl,rfl,rfl,rfl⟩ rfl rfl rfl rfl rfl (by kernel_rfl) Tryz.func9 zfS
  (of_decide_eq_true (by kernel_rfl)) zgJ
  (fun os started H enc _=>zfT os started H enc)
end Go.Proofs.YteiabadhhhckfaaGreat
