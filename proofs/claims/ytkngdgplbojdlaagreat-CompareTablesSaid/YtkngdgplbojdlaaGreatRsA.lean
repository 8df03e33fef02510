/- CompareTables (P22.1): for every list of numbers,every salt and every pair of numbers the law returns true: compare.Table and its reference answer alike. Condition: none. -/
import Derived.Test.YtkngdgplbojdlaaGreatRs3
import Derived.Test.YtkngdgplbojdlaaGreatRs8
set_option linter.unusedSimpArgs false
set_option linter.unusedVariables false
set_option linter.unusedSectionVars false
set_option maxRecDepth 100000
set_option maxHeartbeats 8000000
noncomputable section
namespace Go.Proofs.YtkngdgplbojdlaaGreat
open Go Go.ChangeShapes Go.WideShapes Go.ChangeAt Go.RowKit
theorem bW (H:Type) (enc:TypeId × Value->H) (W:World) (base:Nat) (args:Array Value) (ds gs:List (DataW H)) (before:List MemPlace) (h3:∀ (j:Nat) t v,Tryz.f3.params[j]? = some t->args[j]? = some v->Value.okWide Tryz.prog W .any base t v) (hW:DataW.Whole enc Tryz.prog Tryz.f3.params.toList Rows.compareTablesSpec.vars false W args.toList ds gs before) :
  Calls Tryz.prog 3 args W λ e W'=>∃ v,e = .returned v/\Rows.compareTablesSpec.post enc Tryz.prog Tryz.f3 false true false false W args v W':=by
 have hp:Tryz.f3.params.toList=[22,9,23]:=by rw[Tryz.params3]
 have h4:∃ d0 d1 d2,ds=[d0,d1,d2]:=by
  obtain⟨p,q,hA,_⟩:=hW;rw[hp] at hA;obtain⟨_,_,_,d0,d1,d2,_,_,_,_,rfl,_⟩:=trodAll_three hA;exact⟨d0,d1,d2,rfl⟩
 obtain⟨d0,d1,d2,rfl⟩:=h4;refine dV (P:=Tryz.prog) (f:=Tryz.f3) (s:=Rows.compareTablesSpec) (n:=2) (tb:=4) ZC hp ?_ ?_ Tryz.underlying4 ?_ h3 hW ?_ ?_ ?_ λ xs h5=>?_
 .kernel_rfl
 .kernel_rfl
 .rfl
 .rfl
 .rfl
 .rfl
 obtain⟨e0,e1,e2,x0,x1,x2,he,rfl,h0,h1,h2⟩:=Zw h5;obtain⟨l0,w0⟩:=n8 (tI:=3) Tryz.underlying3 Tryz.underlying22 (by kernel_rfl) h0
 obtain⟨s1,rfl⟩:=vZ Tryz.underlying9 h1;obtain⟨a2,b2,rfl,_,_⟩:=Y6 Tryz.underlying3 Tryz.underlying23 h2;refine j8 (ys:=[AA l0,.sc (.string s1),.agg [.I a2,.I b2]]) rfl (λ i hi=>?_) (oN l0 s1 a2 b2)
 match i with
 | 0=>exact w0
 | 1=>exact .refl _
 | 2=>exact .refl _
theorem tT (os:Os) (h0:os.Started) (H:Type) (enc:TypeId × Value->H) :
  ReturnsInHanded {} Tryz.checked os 3 .any (Rows.compareTablesSpec.pre6 enc Tryz.prog Tryz.f3 Rows.compareTablesRow.domain false) (Rows.compareTablesSpec.post enc Tryz.prog Tryz.f3 false true false false):=by
 refine returnsInHanded_of_change (C:=Tryz.checked) OH h0 (by kernel_rfl) Tryz.func3
  (ChangeSpec.witness6 (enc:=enc) (C:=Tryz.checked) false ⟨#[],#[.slice none 0 0,.string ⟨#[]⟩,.agg #[.int .i64 0,.int .i64 0]],[]⟩ 3 (by kernel_rfl) (by kernel_rfl) (by kernel_rfl) (by kernel_rfl)) ?_
 intro W base args ds gs before h1 hW _ _;exact bW H enc W base args ds gs before h1 hW
theorem Zz:joinedFacts Tryz.prog 3 Tryz.f3 Rows.compareTablesSpec Rows.compareTablesRow=true:=by
 unfold joinedFacts;simp only[QM]
 repeat' refine And.intro ?_ ?_
 all_goals (as_aux_lemma=>kernel_rfl)
theorem kR:Tryz.f3.isWrapper Tryz.prog Rows.compareTablesRow.wrapper Rows.compareTablesRow.mainSum:=by unfold Func.isWrapper;first | (rw[if_pos (by decide +kernel)];kernel_rfl) | (rw[if_neg (by decide +kernel)];exact⟨rfl,rfl⟩)
theorem compareTables:Rows.CompareTablesSaid :=
 OpenClaim.holds_of_wide 3 Tryz.f3 rfl rfl rfl rfl rfl rfl rfl ⟨rfl,rfl,rfl,rfl,rfl⟩ rfl rfl rfl rfl rfl (by kernel_rfl) Tryz.func3 Zz
  (of_decide_eq_true (by kernel_rfl)) kR
  (λ os started H enc _=>tT os started H enc)
end Go.Proofs.YtkngdgplbojdlaaGreat
