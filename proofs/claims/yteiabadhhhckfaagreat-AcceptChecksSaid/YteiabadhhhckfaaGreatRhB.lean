/- The law AcceptChecks holds: it returns true and its arguments read as before. -/
import Derived.Test.YteiabadhhhckfaaGreatRh6
import Derived.Test.YteiabadhhhckfaaGreatRh17
set_option linter.unusedSimpArgs false
set_option linter.unusedVariables false
set_option linter.unusedSectionVars false
namespace Go.Proofs.YteiabadhhhckfaaGreat
open Go Go.ChangeShapes Go.WideShapes Go.ChangeAt Go.RowKit
set_option maxRecDepth 100000 in
theorem zfy (H : Type) (enc : TypeId × Value → H) (W : World) (base : Nat) (args : Array Value) (ds gs : List (DataW H)) (before : List MemPlace)
  (hval : ∀ (j : Nat) t v,Tryz.f5.params[j]? = some t → args[j]? = some v → Value.okWide Tryz.prog W .any base t v)
  (hW : DataW.Whole enc Tryz.prog Tryz.f5.params.toList Rows.acceptChecksSpec.vars false W args.toList ds gs before) :
  Calls Tryz.prog 5 args W fun e W'=>∃ v,e = .returned v ∧ Rows.acceptChecksSpec.post enc Tryz.prog Tryz.f5 false true false false W args v W':=by
 have hp : Tryz.f5.params.toList = [22,3,3]:=by rw [Tryz.params5]
 have hlen : ∃ d0 d1 d2,ds = [d0,d1,d2]:=by
  obtain ⟨p,q,hA,_⟩:=hW
  rw [hp] at hA
  obtain ⟨_,_,_,d0,d1,d2,_,_,_,_,rfl,_⟩:=trodAll_three hA
  exact ⟨d0,d1,d2,rfl⟩
 obtain ⟨d0,d1,d2,rfl⟩:=hlen
 refine zlm (P:=Tryz.prog) (f:=Tryz.f5) (s:=Rows.acceptChecksSpec) (n:=2) (tb:=4) zuL hp ?_ ?_ Tryz.underlying4 ?_ hval hW ?_ ?_ ?_ fun xs hxs=>?_
 ·kernel_rfl
 ·kernel_rfl
 ·rfl
 ·rfl
 ·rfl
 ·rfl
 obtain ⟨e0,e1,e2,x0,x1,x2,he,rfl,h0,h1,h2⟩:=ztn hxs
 obtain ⟨l0,w0⟩:=zlx (tI:=3) Tryz.underlying3 Tryz.underlying22 (by kernel_rfl) h0
 obtain ⟨n1,rfl,f1⟩:=znF Tryz.underlying3 h1
 obtain ⟨n2,rfl,f2⟩:=znF Tryz.underlying3 h2
 refine zof (ys:=[ints l0,.I n1,.I n2]) rfl (fun i hi=>?_) (zfN l0 n1 n2)
 match i with
 | 0=>exact w0
 | 1=>exact .refl _
 | 2=>exact .refl _
set_option maxRecDepth 100000 in
theorem zgO (os : Os) (started : os.Started) (H : Type) (enc : TypeId × Value → H) :
  ReturnsInHanded {} Tryz.checked os 5 .any (Rows.acceptChecksSpec.pre6 enc Tryz.prog Tryz.f5 Rows.acceptChecksRow.domain false) (Rows.acceptChecksSpec.post enc Tryz.prog Tryz.f5 false true false false):=by
 refine returnsInHanded_of_change (C:=Tryz.checked) ownK started (by kernel_rfl) Tryz.func5
  (ChangeSpec.witness6 (enc:=enc) (C:=Tryz.checked) false ⟨#[],#[.slice none 0 0,.int .i64 0,.int .i64 0],[]⟩ 5 (by kernel_rfl) (by kernel_rfl) (by kernel_rfl) (by kernel_rfl)) ?_
 intro W base args ds gs before hval hW _ _
 exact zfy H enc W base args ds gs before hval hW
set_option maxHeartbeats 8000000 in
theorem zgw : joinedFacts Tryz.prog 5 Tryz.f5 Rows.acceptChecksSpec Rows.acceptChecksRow = true:=by
 unfold joinedFacts
 simp only [Bool.and_eq_true]
 repeat' refine And.intro ?_ ?_
 all_goals (as_aux_lemma=>kernel_rfl)
set_option maxHeartbeats 4000000 in
theorem zhG : Tryz.f5.isWrapper Tryz.prog Rows.acceptChecksRow.wrapper Rows.acceptChecksRow.mainSum:=by unfold Func.isWrapper; first | (rw [if_pos (by decide +kernel)]; kernel_rfl) | (rw [if_neg (by decide +kernel)]; exact ⟨rfl,rfl⟩)
set_option maxHeartbeats 4000000 in
theorem acceptChecks : Rows.AcceptChecksSaid :=
 OpenClaim.holds_of_wide 5 Tryz.f5 rfl rfl rfl rfl rfl rfl rfl ⟨rfl,rfl,rfl,rfl,rfl⟩ rfl rfl rfl rfl rfl (by kernel_rfl) Tryz.func5 zgw
  (of_decide_eq_true (by kernel_rfl)) zhG
  (fun os started H enc _=>zgO os started H enc)
end Go.Proofs.YteiabadhhhckfaaGreat
