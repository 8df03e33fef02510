/- The law StationaryErrors holds: it returns true and its arguments read as before. -/
import Derived.Test.YtfdbhehkkobfgaaGreatRu6
import Derived.Test.YtfdbhehkkobfgaaGreatRu10
import Derived.Test.YtfdbhehkkobfgaaGreatRu14
set_option linter.unusedSimpArgs false
set_option linter.unusedVariables false
set_option linter.unusedSectionVars false
namespace Go.Proofs.YtfdbhehkkobfgaaGreat
open Go Go.ChangeShapes Go.WideShapes Go.ChangeAt Go.RowKit
set_option maxRecDepth 100000 in
theorem zdC (H : Type) (enc : TypeId × Value → H) (W : World) (base : Nat) (args : Array Value) (ds gs : List (DataW H)) (before : List MemPlace)
  (hval : ∀ (j : Nat) t v,Tryz.f4.params[j]? = some t → args[j]? = some v → Value.okWide Tryz.prog W .any base t v)
  (hW : DataW.Whole enc Tryz.prog Tryz.f4.params.toList Rows.stationaryErrorsSpec.vars false W args.toList ds gs before) :
  Calls Tryz.prog 4 args W fun e W'=>∃ v,e = .returned v ∧ Rows.stationaryErrorsSpec.post enc Tryz.prog Tryz.f4 false true false false W args v W':=by
 have hp : Tryz.f4.params.toList = [22,32,3]:=by rw [Tryz.params4]
 have hlen : ∃ d0 d1 d2,ds = [d0,d1,d2]:=by
  obtain ⟨p,q,hA,_⟩:=hW
  rw [hp] at hA
  obtain ⟨_,_,_,d0,d1,d2,_,_,_,_,rfl,_⟩:=trodAll_three hA
  exact ⟨d0,d1,d2,rfl⟩
 obtain ⟨d0,d1,d2,rfl⟩:=hlen
 refine zi1 (P:=Tryz.prog) (f:=Tryz.f4) (s:=Rows.stationaryErrorsSpec) (n:=3) (tb:=4) ztJ hp ?_ ?_ Tryz.underlying4 ?_ hval hW ?_ ?_ ?_ fun xs hxs=>?_
 ·kernel_rfl
 ·kernel_rfl
 ·rfl
 ·rfl
 ·rfl
 ·rfl
 obtain ⟨e0,e1,e2,x0,x1,x2,he,rfl,h0,h1,h2⟩:=zrK hxs
 obtain ⟨l0,w0⟩:=zgd (tI:=3) Tryz.underlying3 Tryz.underlying22 (by kernel_rfl) h0
 obtain ⟨p1,w1⟩:=zkz (tI:=3) Tryz.underlying3 Tryz.underlying22 (by kernel_rfl) ⟨_,_,_,Tryz.underlying32,rfl,rfl,rfl⟩ h1
 obtain ⟨n2,rfl,f2⟩:=zkP Tryz.underlying3 h2
 refine zkp (ys:=[ints l0,eP p1,.I n2]) rfl (fun i hi=>?_) (zhO l0 p1 n2)
 match i with
 | 0=>exact w0
 | 1=>exact w1
 | 2=>exact .refl _
set_option maxRecDepth 100000 in
theorem zdX (os : Os) (started : os.Started) (H : Type) (enc : TypeId × Value → H) :
  ReturnsInHanded {} Tryz.checked os 4 .any (Rows.stationaryErrorsSpec.pre6 enc Tryz.prog Tryz.f4 Rows.stationaryErrorsRow.domain false) (Rows.stationaryErrorsSpec.post enc Tryz.prog Tryz.f4 false true false false):=by
 refine returnsInHanded_of_change (C:=Tryz.checked) ownK started (by kernel_rfl) Tryz.func4
  (ChangeSpec.witness6 (enc:=enc) (C:=Tryz.checked) false ⟨#[],#[.slice none 0 0,.agg #[.slice none 0 0,.slice none 0 0,.int .i64 0],.int .i64 0],[]⟩ 4 (by kernel_rfl) (by kernel_rfl) (by kernel_rfl) (by kernel_rfl)) ?_
 intro W base args ds gs before hval hW _ _
 exact zdC H enc W base args ds gs before hval hW
set_option maxHeartbeats 8000000 in
theorem zeg : joinedFacts Tryz.prog 4 Tryz.f4 Rows.stationaryErrorsSpec Rows.stationaryErrorsRow = true:=by
 unfold joinedFacts
 simp only [Bool.and_eq_true]
 repeat' refine And.intro ?_ ?_
 all_goals (as_aux_lemma=>kernel_rfl)
set_option maxHeartbeats 4000000 in
theorem zeV : Tryz.f4.isWrapper Tryz.prog Rows.stationaryErrorsRow.wrapper Rows.stationaryErrorsRow.mainSum:=by unfold Func.isWrapper; first | (rw [if_pos (by decide +kernel)]; kernel_rfl) | (rw [if_neg (by decide +kernel)]; exact ⟨rfl,rfl⟩)
set_option maxHeartbeats 4000000 in
theorem stationaryErrors : Rows.StationaryErrorsSaid :=
 OpenClaim.holds_of_wide 4 Tryz.f4 rfl rfl rfl rfl rfl rfl rfl ⟨rfl,rfl,rfl,rfl,rfl⟩ rfl rfl rfl rfl rfl (by kernel_rfl) Tryz.func4 zeg
  (of_decide_eq_true (by kernel_rfl)) zeV
  (fun os started H enc _=>zdX os started H enc)
end Go.Proofs.YtfdbhehkkobfgaaGreat
