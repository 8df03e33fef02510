/- trustflowtop.TopKept: what the law returns is true. -/
import Derived.Test.YtkabgnlcllmleaaGreatRb3
import Derived.Test.YtkabgnlcllmleaaGreatRb7
set_option linter.unusedSimpArgs false
set_option linter.unusedVariables false
set_option linter.unusedSectionVars false
set_option maxRecDepth 100000
set_option maxHeartbeats 8000000
noncomputable section
namespace Go.Proofs.YtkabgnlcllmleaaGreat
open Go Go.ChangeShapes Go.WideShapes Go.ChangeAt Go.RowKit
theorem ZR (H:Type) (enc:TypeId × Value->H) (W:World) (base:Nat) (args:Array Value) (ds gs:List (DataW H)) (before:List MemPlace) (u:∀ (j:Nat) t v,Tryz.f3.params[j]? = some t->args[j]? = some v->Value.okWide Tryz.prog W .any base t v) (hW:DataW.Whole enc Tryz.prog Tryz.f3.params.toList Rows.topKeptSpec.vars false W args.toList ds gs before) :
  Calls Tryz.prog 3 args W λ e W'=>∃ v,e = .returned v/\Rows.topKeptSpec.post enc Tryz.prog Tryz.f3 false true false false W args v W':=by
 have hp:Tryz.f3.params.toList=[22]:=by rw[Tryz.params3]
 have h1:∃ d0,ds=[d0]:=by
  obtain⟨p,q,hA,_⟩:=hW;rw[hp] at hA;obtain⟨_,d0,_,rfl,_⟩:=trodAll_one hA;exact⟨d0,rfl⟩
 obtain⟨d0,rfl⟩:=h1;refine rT (P:=Tryz.prog) (f:=Tryz.f3) (s:=Rows.topKeptSpec) (n:=2) (tb:=4) ZW hp ?_ ?_ Tryz.underlying4 ?_ u hW ?_ ?_ ?_ λ xs h2=>?_
 .kernel_rfl
 .kernel_rfl
 .rfl
 .rfl
 .rfl
 .rfl
 obtain⟨e0,x0,he,rfl,h0⟩:=ZV h2;obtain⟨l0,w0⟩:=pX (tI:=3) Tryz.underlying3 Tryz.underlying22 (by kernel_rfl) h0
 refine eU (ys:=[AA l0]) rfl (λ i hi=>?_) (lN l0)
 match i with
 | 0=>exact w0
theorem k7 (os:Os) (q:os.Started) (H:Type) (enc:TypeId × Value->H) :
  ReturnsInHanded {} Tryz.checked os 3 .any (Rows.topKeptSpec.pre6 enc Tryz.prog Tryz.f3 Rows.topKeptRow.domain false) (Rows.topKeptSpec.post enc Tryz.prog Tryz.f3 false true false false):=by
 refine returnsInHanded_of_change (C:=Tryz.checked) RV q (by kernel_rfl) Tryz.func3
  (ChangeSpec.witness6 (enc:=enc) (C:=Tryz.checked) false ⟨#[],#[.slice none 0 0],[]⟩ 3 (by kernel_rfl) (by kernel_rfl) (by kernel_rfl) (by kernel_rfl)) ?_
 intro W base args ds gs before u hW _ _;exact ZR H enc W base args ds gs before u hW
theorem qK:joinedFacts Tryz.prog 3 Tryz.f3 Rows.topKeptSpec Rows.topKeptRow=true:=by
 unfold joinedFacts;simp only[QH]
 repeat' refine And.intro ?_ ?_
 all_goals (as_aux_lemma=>kernel_rfl)
theorem iX:Tryz.f3.isWrapper Tryz.prog Rows.topKeptRow.wrapper Rows.topKeptRow.mainSum:=by unfold Func.isWrapper;first | (rw[if_pos (by decide +kernel)];kernel_rfl) | (rw[if_neg (by decide +kernel)];exact⟨rfl,rfl⟩)
theorem topKept:Rows.TopKeptSaid :=
 OpenClaim.holds_of_wide 3 Tryz.f3 rfl rfl rfl rfl rfl rfl rfl ⟨rfl,rfl,rfl,rfl,rfl⟩ rfl rfl rfl rfl rfl (by kernel_rfl) Tryz.func3 qK
  (of_decide_eq_true (by kernel_rfl)) iX
  (λ os started H enc _=>k7 os started H enc)
end Go.Proofs.YtkabgnlcllmleaaGreat
