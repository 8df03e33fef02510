/- compareGrows,from its contract -/
import Derived.Test.YtkngdgplbojdlaaGreatRv7
import Derived.Test.YtkngdgplbojdlaaGreatRv16
set_option linter.unusedSimpArgs false
set_option linter.unusedVariables false
set_option linter.unusedSectionVars false
namespace Go.Proofs.YtkngdgplbojdlaaGreat
open Go Go.ChangeShapes Go.WideShapes Go.ChangeAt Go.RowKit
set_option maxRecDepth 100000 in
theorem zhK (H : Type) (enc : TypeId × Value→H) (W : World) (base : Nat) (args : Array Value) (ds gs : List (DataW H)) (before : List MemPlace)
  (hval : ∀ (j : Nat) t v,Tryz.f7.params[j]? = some t→args[j]? = some v→Value.okWide Tryz.prog W .any base t v)
  (hW : DataW.Whole enc Tryz.prog Tryz.f7.params.toList Rows.compareGrowsSpec.vars false W args.toList ds gs before) :
  Calls Tryz.prog 7 args W fun e W'=>∃ v,e = .returned v∧Rows.compareGrowsSpec.post enc Tryz.prog Tryz.f7 false true false false W args v W':=by
 have hp : Tryz.f7.params.toList=[22]:=by rw [Tryz.params7]
 have hlen : ∃ d0,ds=[d0]:=by
  obtain ⟨p,q,hA,_⟩:=hW
  rw [hp] at hA
  obtain ⟨_,d0,_,rfl,_⟩:=trodAll_one hA
  exact ⟨d0,rfl⟩
 obtain ⟨d0,rfl⟩:=hlen
 refine zsF (P:=Tryz.prog) (f:=Tryz.f7) (s:=Rows.compareGrowsSpec) (n:=2) (tb:=4) zzz hp ?_ ?_ Tryz.underlying4 ?_ hval hW ?_ ?_ ?_ fun xs hxs=>?_
 ·kernel_rfl
 ·kernel_rfl
 ·rfl
 ·rfl
 ·rfl
 ·rfl
 obtain ⟨e0,x0,he,rfl,h0⟩:=zz1 hxs
 obtain ⟨l0,w0⟩:=zr9 (tI:=3) Tryz.underlying3 Tryz.underlying22 (by kernel_rfl) h0
 refine zuE (ys:=[ints l0]) rfl (fun i hi=>?_) (zhJ l0)
 match i with
 | 0=>exact w0
set_option maxRecDepth 100000 in
theorem ziF (os : Os) (started : os.Started) (H : Type) (enc : TypeId × Value→H) :
  ReturnsInHanded {} Tryz.checked os 7 .any (Rows.compareGrowsSpec.pre6 enc Tryz.prog Tryz.f7 Rows.compareGrowsRow.domain false) (Rows.compareGrowsSpec.post enc Tryz.prog Tryz.f7 false true false false):=by
 refine returnsInHanded_of_change (C:=Tryz.checked) ownK started (by kernel_rfl) Tryz.func7
  (ChangeSpec.witness6 (enc:=enc) (C:=Tryz.checked) false ⟨#[],#[.slice none 0 0],[]⟩ 7 (by kernel_rfl) (by kernel_rfl) (by kernel_rfl) (by kernel_rfl)) ?_
 intro W base args ds gs before hval hW _ _
 exact zhK H enc W base args ds gs before hval hW
set_option maxHeartbeats 8000000 in
theorem ziK : joinedFacts Tryz.prog 7 Tryz.f7 Rows.compareGrowsSpec Rows.compareGrowsRow=true:=by
 unfold joinedFacts
 simp only [Bool.and_eq_true]
 repeat' refine And.intro ?_ ?_
 all_goals (as_aux_lemma=>kernel_rfl)
set_option maxHeartbeats 4000000 in
theorem zjW : Tryz.f7.isWrapper Tryz.prog Rows.compareGrowsRow.wrapper Rows.compareGrowsRow.mainSum:=by unfold Func.isWrapper; first | (rw [if_pos (by decide +kernel)]; kernel_rfl) | (rw [if_neg (by decide +kernel)]; exact ⟨rfl,rfl⟩)
set_option maxHeartbeats 4000000 in
theorem compareGrows : Rows.CompareGrowsSaid :=
 OpenClaim.holds_of_wide 7 Tryz.f7 rfl rfl rfl rfl rfl rfl rfl ⟨rfl,rfl,rfl,rfl,rfl⟩ rfl rfl rfl rfl rfl (by kernel_rfl) Tryz.func7 ziK
  (of_decide_eq_true (by kernel_rfl)) zjW
  (fun os started H enc _=>ziF os started H enc)
end Go.Proofs.YtkngdgplbojdlaaGreat
