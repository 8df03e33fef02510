/- The law AcceptShown holds: it returns true and its arguments read as before. -/
import Derived.Test.YteiabadhhhckfaaGreatRc7
import Derived.Test.YteiabadhhhckfaaGreatRc16
set_option linter.unusedSimpArgs false
set_option linter.unusedVariables false
set_option linter.unusedSectionVars false
namespace Go.Proofs.YteiabadhhhckfaaGreat
open Go Go.ChangeShapes Go.WideShapes Go.ChangeAt Go.RowKit
set_option maxRecDepth 100000 in
theorem zfR (H : Type) (enc : TypeId × Value → H) (W : World) (base : Nat) (args : Array Value) (ds gs : List (DataW H)) (before : List MemPlace)
  (hval : ∀ (j : Nat) t v,Tryz.f8.params[j]? = some t → args[j]? = some v → Value.okWide Tryz.prog W .any base t v)
  (hW : DataW.Whole enc Tryz.prog Tryz.f8.params.toList Rows.acceptShownSpec.vars false W args.toList ds gs before) :
  Calls Tryz.prog 8 args W fun e W'=>∃ v,e = .returned v ∧ Rows.acceptShownSpec.post enc Tryz.prog Tryz.f8 false true false false W args v W':=by
 have hp : Tryz.f8.params.toList = [22]:=by rw [Tryz.params8]
 have hlen : ∃ d0,ds = [d0]:=by
  obtain ⟨p,q,hA,_⟩:=hW
  rw [hp] at hA
  obtain ⟨_,d0,_,rfl,_⟩:=trodAll_one hA
  exact ⟨d0,rfl⟩
 obtain ⟨d0,rfl⟩:=hlen
 refine zkq (P:=Tryz.prog) (f:=Tryz.f8) (s:=Rows.acceptShownSpec) (n:=2) (tb:=4) ztR hp ?_ ?_ Tryz.underlying4 ?_ hval hW ?_ ?_ ?_ fun xs hxs=>?_
 ·kernel_rfl
 ·kernel_rfl
 ·rfl
 ·rfl
 ·rfl
 ·rfl
 obtain ⟨e0,x0,he,rfl,h0⟩:=ztS hxs
 obtain ⟨l0,w0⟩:=zkl (tI:=3) Tryz.underlying3 Tryz.underlying22 (by kernel_rfl) h0
 refine zmr (ys:=[ints l0]) rfl (fun i hi=>?_) (zfP l0)
 match i with
 | 0=>exact w0
set_option maxRecDepth 100000 in
theorem zgN (os : Os) (started : os.Started) (H : Type) (enc : TypeId × Value → H) :
  ReturnsInHanded {} Tryz.checked os 8 .any (Rows.acceptShownSpec.pre6 enc Tryz.prog Tryz.f8 Rows.acceptShownRow.domain false) (Rows.acceptShownSpec.post enc Tryz.prog Tryz.f8 false true false false):=by
 refine returnsInHanded_of_change (C:=Tryz.checked) ownK started (by kernel_rfl) Tryz.func8
  (ChangeSpec.witness6 (enc:=enc) (C:=Tryz.checked) false ⟨#[],#[.slice none 0 0],[]⟩ 8 (by kernel_rfl) (by kernel_rfl) (by kernel_rfl) (by kernel_rfl)) ?_
 intro W base args ds gs before hval hW _ _
 exact zfR H enc W base args ds gs before hval hW
set_option maxHeartbeats 8000000 in
theorem zgV : joinedFacts Tryz.prog 8 Tryz.f8 Rows.acceptShownSpec Rows.acceptShownRow = true:=by
 unfold joinedFacts
 simp only [Bool.and_eq_true]
 repeat' refine And.intro ?_ ?_
 all_goals (as_aux_lemma=>kernel_rfl)
set_option maxHeartbeats 4000000 in
theorem zhV : Tryz.f8.isWrapper Tryz.prog Rows.acceptShownRow.wrapper Rows.acceptShownRow.mainSum:=by unfold Func.isWrapper; first | (rw [if_pos (by decide +kernel)]; kernel_rfl) | (rw [if_neg (by decide +kernel)]; exact ⟨rfl,rfl⟩)
set_option maxHeartbeats 4000000 in
theorem acceptShown : Rows.AcceptShownSaid :=
 OpenClaim.holds_of_wide 8 Tryz.f8 rfl rfl rfl rfl rfl rfl rfl ⟨rfl,rfl,rfl,rfl,rfl⟩ rfl rfl rfl rfl rfl (by kernel_rfl) Tryz.func8 zgV
  (of_decide_eq_true (by kernel_rfl)) zhV
  (fun os started H enc _=>zgN os started H enc)
end Go.Proofs.YteiabadhhhckfaaGreat
