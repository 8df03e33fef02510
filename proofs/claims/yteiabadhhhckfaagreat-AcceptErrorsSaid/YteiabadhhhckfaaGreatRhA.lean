/- The law AcceptErrors holds: it returns true and its arguments read as before. -/
import Derived.Test.YteiabadhhhckfaaGreatRh6
import Derived.Test.YteiabadhhhckfaaGreatRh14
import Derived.Test.YteiabadhhhckfaaGreatRh16
set_option linter.unusedSimpArgs false
set_option linter.unusedVariables false
set_option linter.unusedSectionVars false
namespace Go.Proofs.YteiabadhhhckfaaGreat
open Go Go.ChangeShapes Go.WideShapes Go.ChangeAt Go.RowKit
set_option maxRecDepth 100000 in
theorem zfP (H : Type) (enc : TypeId × Value → H) (W : World) (base : Nat) (args : Array Value) (ds gs : List (DataW H)) (before : List MemPlace)
  (hval : ∀ (j : Nat) t v,Tryz.f4.params[j]? = some t → args[j]? = some v → Value.okWide Tryz.prog W .any base t v)
  (hW : DataW.Whole enc Tryz.prog Tryz.f4.params.toList Rows.acceptErrorsSpec.vars false W args.toList ds gs before) :
  Calls Tryz.prog 4 args W fun e W'=>∃ v,e = .returned v ∧ Rows.acceptErrorsSpec.post enc Tryz.prog Tryz.f4 false true false false W args v W':=by
 have hp : Tryz.f4.params.toList = [22,32,36]:=by rw [Tryz.params4]
 have hlen : ∃ d0 d1 d2,ds = [d0,d1,d2]:=by
  obtain ⟨p,q,hA,_⟩:=hW
  rw [hp] at hA
  obtain ⟨_,_,_,d0,d1,d2,_,_,_,_,rfl,_⟩:=trodAll_three hA
  exact ⟨d0,d1,d2,rfl⟩
 obtain ⟨d0,d1,d2,rfl⟩:=hlen
 refine zlm (P:=Tryz.prog) (f:=Tryz.f4) (s:=Rows.acceptErrorsSpec) (n:=5) (tb:=4) zuL hp ?_ ?_ Tryz.underlying4 ?_ hval hW ?_ ?_ ?_ fun xs hxs=>?_
 ·kernel_rfl
 ·kernel_rfl
 ·rfl
 ·rfl
 ·rfl
 ·rfl
 obtain ⟨e0,e1,e2,x0,x1,x2,he,rfl,h0,h1,h2⟩:=ztn hxs
 obtain ⟨l0,w0⟩:=zlx (tI:=3) Tryz.underlying3 Tryz.underlying22 (by kernel_rfl) h0
 obtain ⟨p1,w1⟩:=zn4 (tI:=3) Tryz.underlying3 Tryz.underlying22 (by kernel_rfl) ⟨_,_,_,Tryz.underlying32,rfl,rfl,rfl⟩ h1
 obtain ⟨a2,f2,R2,w2,b2⟩:=zmR (tI:=3) Tryz.underlying3 Tryz.underlying22 (by kernel_rfl) ⟨_,_,Tryz.underlying53,rfl,rfl⟩ Tryz.underlying34 (by kernel_rfl) ⟨_,_,_,Tryz.underlying36,rfl,rfl,rfl⟩ h2
 refine zof (ys:=[ints l0,eP p1,eAcc a2 f2 R2]) rfl (fun i hi=>?_) (zfS l0 p1 a2 f2 R2 b2)
 match i with
 | 0=>exact w0
 | 1=>exact w1
 | 2=>exact w2
set_option maxRecDepth 100000 in
theorem zgD (os : Os) (started : os.Started) (H : Type) (enc : TypeId × Value → H) :
  ReturnsInHanded {} Tryz.checked os 4 .any (Rows.acceptErrorsSpec.pre6 enc Tryz.prog Tryz.f4 Rows.acceptErrorsRow.domain false) (Rows.acceptErrorsSpec.post enc Tryz.prog Tryz.f4 false true false false):=by
 refine returnsInHanded_of_change (C:=Tryz.checked) ownK started (by kernel_rfl) Tryz.func4
  (ChangeSpec.witness6 (enc:=enc) (C:=Tryz.checked) false ⟨#[],#[.slice none 0 0,.agg #[.slice none 0 0,.slice none 0 0,.int .i64 0],.agg #[.slice none 0 0,.slice none 0 0,.slice none 0 0]],[]⟩ 4 (by kernel_rfl) (by kernel_rfl) (by kernel_rfl) (by kernel_rfl)) ?_
 intro W base args ds gs before hval hW _ _
 exact zfP H enc W base args ds gs before hval hW
set_option maxHeartbeats 8000000 in
theorem zgN : joinedFacts Tryz.prog 4 Tryz.f4 Rows.acceptErrorsSpec Rows.acceptErrorsRow = true:=by
 unfold joinedFacts
 simp only [Bool.and_eq_true]
 repeat' refine And.intro ?_ ?_
 all_goals (as_aux_lemma=>kernel_rfl)
set_option maxHeartbeats 4000000 in
theorem zid : Tryz.f4.isWrapper Tryz.prog Rows.acceptErrorsRow.wrapper Rows.acceptErrorsRow.mainSum:=by unfold Func.isWrapper; first | (rw [if_pos (by decide +kernel)]; kernel_rfl) | (rw [if_neg (by decide +kernel)]; exact ⟨rfl,rfl⟩)
set_option maxHeartbeats 4000000 in
theorem acceptErrors : Rows.AcceptErrorsSaid :=
 OpenClaim.holds_of_wide 4 Tryz.f4 rfl rfl rfl rfl rfl rfl rfl ⟨rfl,rfl,rfl,rfl,rfl⟩ rfl rfl rfl rfl rfl (by kernel_rfl) Tryz.func4 zgN
  (of_decide_eq_true (by kernel_rfl)) zid
  (fun os started H enc _=>zgD os started H enc)
end Go.Proofs.YteiabadhhhckfaaGreat
