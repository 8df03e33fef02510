/- The law AcceptLast holds: it returns true and its arguments read as before. -/
import Derived.Test.YteiabadhhhckfaaGreatRd7
import Derived.Test.YteiabadhhhckfaaGreatRd15
set_option linter.unusedSimpArgs false
set_option linter.unusedVariables false
set_option linter.unusedSectionVars false
namespace Go.Proofs.YteiabadhhhckfaaGreat
open Go Go.ChangeShapes Go.WideShapes Go.ChangeAt Go.RowKit
set_option maxRecDepth 100000 in
theorem zfQ (H : Type) (enc : TypeId × Value → H) (W : World) (base : Nat) (args : Array Value) (ds gs : List (DataW H)) (before : List MemPlace)
  (hval : ∀ (j : Nat) t v,Tryz.f12.params[j]? = some t → args[j]? = some v → Value.okWide Tryz.prog W .any base t v)
  (hW : DataW.Whole enc Tryz.prog Tryz.f12.params.toList Rows.acceptLastSpec.vars false W args.toList ds gs before) :
  Calls Tryz.prog 12 args W fun e W'=>∃ v,e = .returned v ∧ Rows.acceptLastSpec.post enc Tryz.prog Tryz.f12 false true false false W args v W':=by
 have hp : Tryz.f12.params.toList = [22]:=by rw [Tryz.params12]
 have hlen : ∃ d0,ds = [d0]:=by
  obtain ⟨p,q,hA,_⟩:=hW
  rw [hp] at hA
  obtain ⟨_,d0,_,rfl,_⟩:=trodAll_one hA
  exact ⟨d0,rfl⟩
 obtain ⟨d0,rfl⟩:=hlen
 refine zhp (P:=Tryz.prog) (f:=Tryz.f12) (s:=Rows.acceptLastSpec) (n:=2) (tb:=4) zsb hp ?_ ?_ Tryz.underlying4 ?_ hval hW ?_ ?_ ?_ fun xs hxs=>?_
 ·kernel_rfl
 ·kernel_rfl
 ·rfl
 ·rfl
 ·rfl
 ·rfl
 obtain ⟨e0,x0,he,rfl,h0⟩:=zsE hxs
 obtain ⟨l0,w0⟩:=zhl (tI:=3) Tryz.underlying3 Tryz.underlying22 (by kernel_rfl) h0
 refine ziv (ys:=[ints l0]) rfl (fun i hi=>?_) (zfH l0)
 match i with
 | 0=>exact w0
set_option maxRecDepth 100000 in
theorem zgU (os : Os) (started : os.Started) (H : Type) (enc : TypeId × Value → H) :
  ReturnsInHanded {} Tryz.checked os 12 .any (Rows.acceptLastSpec.pre6 enc Tryz.prog Tryz.f12 Rows.acceptLastRow.domain false) (Rows.acceptLastSpec.post enc Tryz.prog Tryz.f12 false true false false):=by
 refine returnsInHanded_of_change (C:=Tryz.checked) ownK started (by kernel_rfl) Tryz.func12
  (ChangeSpec.witness6 (enc:=enc) (C:=Tryz.checked) false ⟨#[],#[.slice none 0 0],[]⟩ 12 (by kernel_rfl) (by kernel_rfl) (by kernel_rfl) (by kernel_rfl)) ?_
 intro W base args ds gs before hval hW _ _
 exact zfQ H enc W base args ds gs before hval hW
set_option maxHeartbeats 8000000 in
theorem zgT : joinedFacts Tryz.prog 12 Tryz.f12 Rows.acceptLastSpec Rows.acceptLastRow = true:=by
 unfold joinedFacts
 simp only [Bool.and_eq_true]
 repeat' refine And.intro ?_ ?_
 all_goals (as_aux_lemma=>kernel_rfl)
set_option maxHeartbeats 4000000 in
theorem ziA : Tryz.f12.isWrapper Tryz.prog Rows.acceptLastRow.wrapper Rows.acceptLastRow.mainSum:=by unfold Func.isWrapper; first | (rw [if_pos (by decide +kernel)]; kernel_rfl) | (rw [if_neg (by decide +kernel)]; exact ⟨rfl,rfl⟩)
set_option maxHeartbeats 4000000 in
theorem acceptLast : Rows.AcceptLastSaid :=
 OpenClaim.holds_of_wide 12 Tryz.f12 rfl rfl rfl rfl rfl rfl rfl ⟨rfl,rfl,rfl,rfl,rfl⟩ rfl rfl rfl rfl rfl (by kernel_rfl) Tryz.func12 zgT
  (of_decide_eq_true (by kernel_rfl)) ziA
  (fun os started H enc _=>zgU os started H enc)
end Go.Proofs.YteiabadhhhckfaaGreat
