/- law30.StandingLater: what the law returns is true. -/
import Derived.Test.YtklclphfcibagaaGreatRb3
import Derived.Test.YtklclphfcibagaaGreatRb8
set_option linter.unusedSimpArgs false
set_option linter.unusedVariables false
set_option linter.unusedSectionVars false
set_option maxRecDepth 100000
set_option maxHeartbeats 8000000
noncomputable section
namespace Go.Proofs.YtklclphfcibagaaGreat
open Go Go.ChangeShapes Go.WideShapes Go.ChangeAt Go.RowKit
theorem XG (H:Type) (enc:TypeId × Value->H) (W:World) (base:Nat) (args:Array Value) (ds gs:List (DataW H)) (before:List MemPlace) (u:∀ (j:Nat) t v,Tryz.f4.params[j]? = some t->args[j]? = some v->Value.okWide Tryz.prog W .any base t v) (hW:DataW.Whole enc Tryz.prog Tryz.f4.params.toList Rows.standingLaterSpec.vars false W args.toList ds gs before) :
  Calls Tryz.prog 4 args W λ e W'=>∃ v,e = .returned v/\Rows.standingLaterSpec.post enc Tryz.prog Tryz.f4 false true false false W args v W':=by
 have hp:Tryz.f4.params.toList=[22,5]:=by rw[Tryz.params4]
 have h2:∃ d0 d1,ds=[d0,d1]:=by
  obtain⟨p,q,hA,_⟩:=hW;rw[hp] at hA;obtain⟨_,_,d0,d1,_,_,_,rfl,_⟩:=trodAll_two hA;exact⟨d0,d1,rfl⟩
 obtain⟨d0,d1,rfl⟩:=h2;refine TB (P:=Tryz.prog) (f:=Tryz.f4) (s:=Rows.standingLaterSpec) (n:=2) (tb:=4) Sd hp ?_ ?_ Tryz.underlying4 ?_ u hW ?_ ?_ ?_ λ xs h3=>?_
 .kernel_rfl
 .kernel_rfl
 .rfl
 .rfl
 .rfl
 .rfl
 obtain⟨e0,e1,x0,x1,he,rfl,h0,h1⟩:=Rc h3;obtain⟨l0,w0⟩:=Ri (tI:=3) Tryz.underlying3 Tryz.underlying22 (by kernel_rfl) h0
 obtain⟨n1,rfl,f1,f1b⟩:=TG Tryz.underlying5 h1;refine VV (ys:=[AA l0,.sc (.int .u8 n1)]) rfl (λ i hi=>?_) (fL l0 n1 f1 f1b)
 match i with
 | 0=>exact w0
 | 1=>exact .refl _
theorem YZ (os:Os) (q:os.Started) (H:Type) (enc:TypeId × Value->H) :
  ReturnsInHanded {} Tryz.checked os 4 .any (Rows.standingLaterSpec.pre6 enc Tryz.prog Tryz.f4 Rows.standingLaterRow.domain false) (Rows.standingLaterSpec.post enc Tryz.prog Tryz.f4 false true false false):=by
 refine returnsInHanded_of_change (C:=Tryz.checked) KR q (by kernel_rfl) Tryz.func4
  (ChangeSpec.witness6 (enc:=enc) (C:=Tryz.checked) false ⟨#[],#[.slice none 0 0,.int .u8 0],[]⟩ 4 (by kernel_rfl) (by kernel_rfl) (by kernel_rfl) (by kernel_rfl)) ?_
 intro W base args ds gs before u hW _ _;exact XG H enc W base args ds gs before u hW
theorem eZ:joinedFacts Tryz.prog 4 Tryz.f4 Rows.standingLaterSpec Rows.standingLaterRow=true:=by
 unfold joinedFacts;simp only[QW]
 repeat' refine And.intro ?_ ?_
 all_goals (as_aux_lemma=>kernel_rfl)
theorem cL:Tryz.f4.isWrapper Tryz.prog Rows.standingLaterRow.wrapper Rows.standingLaterRow.mainSum:=by unfold Func.isWrapper;first | (rw[if_pos (by decide +kernel)];kernel_rfl) | (rw[if_neg (by decide +kernel)];exact⟨rfl,rfl⟩)
theorem standingLater:Rows.StandingLaterSaid :=
 OpenClaim.holds_of_wide 4 Tryz.f4 rfl rfl rfl rfl rfl rfl rfl ⟨rfl,rfl,rfl,rfl,rfl⟩ rfl rfl rfl rfl rfl (by kernel_rfl) Tryz.func4 eZ
  (of_decide_eq_true (by kernel_rfl)) cL
  (λ os started H enc _=>YZ os started H enc)
end Go.Proofs.YtklclphfcibagaaGreat
