/- compareBound,from its contract -/
import Derived.Test.YtkngdgplbojdlaaGreatRw6
import Derived.Test.YtkngdgplbojdlaaGreatRw18
set_option linter.unusedSimpArgs false
set_option linter.unusedVariables false
set_option linter.unusedSectionVars false
namespace Go.Proofs.YtkngdgplbojdlaaGreat
open Go Go.ChangeShapes Go.WideShapes Go.ChangeAt Go.RowKit
set_option maxRecDepth 100000 in
theorem zh0 (H : Type) (enc : TypeId × Value->H) (W : World) (base : Nat) (args : Array Value) (ds gs : List (DataW H)) (before : List MemPlace)
  (hval : ∀ (j : Nat) t v,Tryz.f5.params[j]? = some t->args[j]? = some v->Value.okWide Tryz.prog W .any base t v)
  (hW : DataW.Whole enc Tryz.prog Tryz.f5.params.toList Rows.compareBoundSpec.vars false W args.toList ds gs before) :
  Calls Tryz.prog 5 args W λ e W'=>∃ v,e = .returned v/\Rows.compareBoundSpec.post enc Tryz.prog Tryz.f5 false true false false W args v W':=by
 have hp : Tryz.f5.params.toList=[22]:=by rw [Tryz.params5]
 have hlen : ∃ d0,ds=[d0]:=by
  obtain ⟨p,q,hA,_⟩:=hW;rw [hp] at hA;obtain ⟨_,d0,_,rfl,_⟩:=trodAll_one hA;exact ⟨d0,rfl⟩
 obtain ⟨d0,rfl⟩:=hlen;refine zuo (P:=Tryz.prog) (f:=Tryz.f5) (s:=Rows.compareBoundSpec) (n:=2) (tb:=4) zBv hp ?_ ?_ Tryz.underlying4 ?_ hval hW ?_ ?_ ?_ λ xs hxs=>?_
 .kernel_rfl
 .kernel_rfl
 .rfl
 .rfl
 .rfl
 .rfl
 obtain ⟨e0,x0,he,rfl,h0⟩:=zBf hxs;obtain ⟨l0,w0⟩:=zup (tI:=3) Tryz.underlying3 Tryz.underlying22 (by kernel_rfl) h0
 refine zvY (ys:=[ints l0]) rfl (λ i hi=>?_) (zii l0)
 match i with
 | 0=>exact w0
set_option maxRecDepth 100000 in
theorem zjx (os : Os) (started : os.Started) (H : Type) (enc : TypeId × Value->H) :
  ReturnsInHanded {} Tryz.checked os 5 .any (Rows.compareBoundSpec.pre6 enc Tryz.prog Tryz.f5 Rows.compareBoundRow.domain false) (Rows.compareBoundSpec.post enc Tryz.prog Tryz.f5 false true false false):=by
 refine returnsInHanded_of_change (C:=Tryz.checked) ownK started (by kernel_rfl) Tryz.func5
  (ChangeSpec.witness6 (enc:=enc) (C:=Tryz.checked) false ⟨#[],#[.slice none 0 0],[]⟩ 5 (by kernel_rfl) (by kernel_rfl) (by kernel_rfl) (by kernel_rfl)) ?_
 intro W base args ds gs before hval hW _ _;exact zh0 H enc W base args ds gs before hval hW
set_option maxHeartbeats 8000000 in
theorem zjw : joinedFacts Tryz.prog 5 Tryz.f5 Rows.compareBoundSpec Rows.compareBoundRow=true:=by
 unfold joinedFacts;simp only [Bool.and_eq_true]
 repeat' refine And.intro ?_ ?_
 all_goals (as_aux_lemma=>kernel_rfl)
set_option maxHeartbeats 4000000 in
theorem zk3 : Tryz.f5.isWrapper Tryz.prog Rows.compareBoundRow.wrapper Rows.compareBoundRow.mainSum:=by unfold Func.isWrapper; first | (rw [if_pos (by decide +kernel)]; kernel_rfl) | (rw [if_neg (by decide +kernel)]; exact ⟨rfl,rfl⟩)
set_option maxHeartbeats 4000000 in
theorem compareBound : Rows.CompareBoundSaid :=
 OpenClaim.holds_of_wide 5 Tryz.f5 rfl rfl rfl rfl rfl rfl rfl ⟨rfl,rfl,rfl,rfl,rfl⟩ rfl rfl rfl rfl rfl (by kernel_rfl) Tryz.func5 zjw
  (of_decide_eq_true (by kernel_rfl)) zk3
  (λ os started H enc _=>zjx os started H enc)
end Go.Proofs.YtkngdgplbojdlaaGreat
