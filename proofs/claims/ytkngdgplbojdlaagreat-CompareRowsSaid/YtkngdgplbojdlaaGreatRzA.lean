/- CompareRows (P22.1): for every list of numbers the law returns true: the rows of compare.Table are those of the keys that are reached,in order,and each says of its key what the layers say. Condition: none. -/
import Derived.Test.YtkngdgplbojdlaaGreatRz3
import Derived.Test.YtkngdgplbojdlaaGreatRz7
set_option linter.unusedSimpArgs false
set_option linter.unusedVariables false
set_option linter.unusedSectionVars false
set_option maxRecDepth 100000
set_option maxHeartbeats 8000000
noncomputable section
namespace Go.Proofs.YtkngdgplbojdlaaGreat
open Go Go.ChangeShapes Go.WideShapes Go.ChangeAt Go.RowKit
theorem zeR (H : Type) (enc : TypeId × Value->H) (W : World) (base : Nat) (args : Array Value) (ds gs : List (DataW H)) (before : List MemPlace)
  (hval : ∀ (j : Nat) t v,Tryz.f6.params[j]? = some t->args[j]? = some v->Value.okWide Tryz.prog W .any base t v)
  (hW : DataW.Whole enc Tryz.prog Tryz.f6.params.toList Rows.compareRowsSpec.vars false W args.toList ds gs before) :
  Calls Tryz.prog 6 args W λ e W'=>∃ v,e = .returned v/\Rows.compareRowsSpec.post enc Tryz.prog Tryz.f6 false true false false W args v W':=by
 have hp : Tryz.f6.params.toList=[22]:=by rw [Tryz.params6]
 have hlen : ∃ d0,ds=[d0]:=by
  obtain ⟨p,q,hA,_⟩:=hW;rw [hp] at hA;obtain ⟨_,d0,_,rfl,_⟩:=trodAll_one hA;exact ⟨d0,rfl⟩
 obtain ⟨d0,rfl⟩:=hlen;refine zpY (P:=Tryz.prog) (f:=Tryz.f6) (s:=Rows.compareRowsSpec) (n:=2) (tb:=4) zyk hp ?_ ?_ Tryz.underlying4 ?_ hval hW ?_ ?_ ?_ λ xs hxs=>?_
 .kernel_rfl
 .kernel_rfl
 .rfl
 .rfl
 .rfl
 .rfl
 obtain ⟨e0,x0,he,rfl,h0⟩:=zyg hxs;obtain ⟨l0,w0⟩:=zpW (tI:=3) Tryz.underlying3 Tryz.underlying22 (by kernel_rfl) h0
 refine zrL (ys:=[ints l0]) rfl (λ i hi=>?_) (zeP l0)
 match i with
 | 0=>exact w0
theorem zfp (os : Os) (started : os.Started) (H : Type) (enc : TypeId × Value->H) :
  ReturnsInHanded {} Tryz.checked os 6 .any (Rows.compareRowsSpec.pre6 enc Tryz.prog Tryz.f6 Rows.compareRowsRow.domain false) (Rows.compareRowsSpec.post enc Tryz.prog Tryz.f6 false true false false):=by
 refine returnsInHanded_of_change (C:=Tryz.checked) ownK started (by kernel_rfl) Tryz.func6
  (ChangeSpec.witness6 (enc:=enc) (C:=Tryz.checked) false ⟨#[],#[.slice none 0 0],[]⟩ 6 (by kernel_rfl) (by kernel_rfl) (by kernel_rfl) (by kernel_rfl)) ?_
 intro W base args ds gs before hval hW _ _;exact zeR H enc W base args ds gs before hval hW
theorem zfy : joinedFacts Tryz.prog 6 Tryz.f6 Rows.compareRowsSpec Rows.compareRowsRow=true:=by
 unfold joinedFacts;simp only [QT]
 repeat' refine And.intro ?_ ?_
 all_goals (as_aux_lemma=>kernel_rfl)
theorem zho : Tryz.f6.isWrapper Tryz.prog Rows.compareRowsRow.wrapper Rows.compareRowsRow.mainSum:=by unfold Func.isWrapper; first | (rw [if_pos (by decide +kernel)]; kernel_rfl) | (rw [if_neg (by decide +kernel)]; exact ⟨rfl,rfl⟩)
theorem compareRows : Rows.CompareRowsSaid :=
 OpenClaim.holds_of_wide 6 Tryz.f6 rfl rfl rfl rfl rfl rfl rfl ⟨rfl,rfl,rfl,rfl,rfl⟩ rfl rfl rfl rfl rfl (by kernel_rfl) Tryz.func6 zfy
  (of_decide_eq_true (by kernel_rfl)) zho
  (λ os started H enc _=>zfp os started H enc)
end Go.Proofs.YtkngdgplbojdlaaGreat
