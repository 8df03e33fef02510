/- The law StationaryMade holds: it returns true and its arguments read as before. -/
import Derived.Test.YtfdbhehkkobfgaaGreatRu6
import Derived.Test.YtfdbhehkkobfgaaGreatRu14
set_option linter.unusedSimpArgs false
set_option linter.unusedVariables false
set_option linter.unusedSectionVars false
namespace Go.Proofs.YtfdbhehkkobfgaaGreat
open Go Go.ChangeShapes Go.WideShapes Go.ChangeAt Go.RowKit
set_option maxRecDepth 100000 in
theorem zef (H : Type) (enc : TypeId × Value → H) (W : World) (base : Nat) (args : Array Value) (ds gs : List (DataW H)) (before : List MemPlace)
  (hval : ∀ (j : Nat) t v,Tryz.f3.params[j]? = some t → args[j]? = some v → Value.okWide Tryz.prog W .any base t v)
  (hW : DataW.Whole enc Tryz.prog Tryz.f3.params.toList Rows.stationaryMadeSpec.vars false W args.toList ds gs before) :
  Calls Tryz.prog 3 args W fun e W'=>∃ v,e = .returned v ∧ Rows.stationaryMadeSpec.post enc Tryz.prog Tryz.f3 false true false false W args v W':=by
 have hp : Tryz.f3.params.toList = [22,22,3]:=by rw [Tryz.params3]
 have hlen : ∃ d0 d1 d2,ds = [d0,d1,d2]:=by
  obtain ⟨p,q,hA,_⟩:=hW
  rw [hp] at hA
  obtain ⟨_,_,_,d0,d1,d2,_,_,_,_,rfl,_⟩:=trodAll_three hA
  exact ⟨d0,d1,d2,rfl⟩
 obtain ⟨d0,d1,d2,rfl⟩:=hlen
 refine zi1 (P:=Tryz.prog) (f:=Tryz.f3) (s:=Rows.stationaryMadeSpec) (n:=2) (tb:=4) ztJ hp ?_ ?_ Tryz.underlying4 ?_ hval hW ?_ ?_ ?_ fun xs hxs=>?_
 ·kernel_rfl
 ·kernel_rfl
 ·rfl
 ·rfl
 ·rfl
 ·rfl
 obtain ⟨e0,e1,e2,x0,x1,x2,he,rfl,h0,h1,h2⟩:=zrK hxs
 obtain ⟨l0,w0⟩:=zgd (tI:=3) Tryz.underlying3 Tryz.underlying22 (by kernel_rfl) h0
 obtain ⟨l1,w1⟩:=zgd (tI:=3) Tryz.underlying3 Tryz.underlying22 (by kernel_rfl) h1
 obtain ⟨n2,rfl,f2⟩:=zkP Tryz.underlying3 h2
 refine zkp (ys:=[ints l0,ints l1,.I n2]) rfl (fun i hi=>?_) (zj4 l0 l1 n2)
 match i with
 | 0=>exact w0
 | 1=>exact w1
 | 2=>exact .refl _
set_option maxRecDepth 100000 in
theorem zex (os : Os) (started : os.Started) (H : Type) (enc : TypeId × Value → H) :
  ReturnsInHanded {} Tryz.checked os 3 .any (Rows.stationaryMadeSpec.pre6 enc Tryz.prog Tryz.f3 Rows.stationaryMadeRow.domain false) (Rows.stationaryMadeSpec.post enc Tryz.prog Tryz.f3 false true false false):=by
 refine returnsInHanded_of_change (C:=Tryz.checked) ownK started (by kernel_rfl) Tryz.func3
  (ChangeSpec.witness6 (enc:=enc) (C:=Tryz.checked) false ⟨#[],#[.slice none 0 0,.slice none 0 0,.int .i64 0],[]⟩ 3 (by kernel_rfl) (by kernel_rfl) (by kernel_rfl) (by kernel_rfl)) ?_
 intro W base args ds gs before hval hW _ _
 exact zef H enc W base args ds gs before hval hW
set_option maxHeartbeats 8000000 in
theorem zeD : joinedFacts Tryz.prog 3 Tryz.f3 Rows.stationaryMadeSpec Rows.stationaryMadeRow = true:=by
 unfold joinedFacts
 simp only [Bool.and_eq_true]
 repeat' refine And.intro ?_ ?_
 all_goals (as_aux_lemma=>kernel_rfl)
set_option maxHeartbeats 4000000 in
theorem zfq : Tryz.f3.isWrapper Tryz.prog Rows.stationaryMadeRow.wrapper Rows.stationaryMadeRow.mainSum:=by unfold Func.isWrapper; first | (rw [if_pos (by decide +kernel)]; kernel_rfl) | (rw [if_neg (by decide +kernel)]; exact ⟨rfl,rfl⟩)
set_option maxHeartbeats 4000000 in
theorem stationaryMade : Rows.StationaryMadeSaid :=
 OpenClaim.holds_of_wide 3 Tryz.f3 rfl rfl rfl rfl rfl rfl rfl ⟨rfl,rfl,rfl,rfl,rfl⟩ rfl rfl rfl rfl rfl (by kernel_rfl) Tryz.func3 zeD
  (of_decide_eq_true (by kernel_rfl)) zfq
  (fun os started H enc _=>zex os started H enc)
end Go.Proofs.YtfdbhehkkobfgaaGreat
