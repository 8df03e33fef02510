/- compareRings,from its contract -/
import Derived.Test.YtkngdgplbojdlaaGreatRx7
import Derived.Test.YtkngdgplbojdlaaGreatRx19
set_option linter.unusedSimpArgs false
set_option linter.unusedVariables false
set_option linter.unusedSectionVars false
namespace Go.Proofs.YtkngdgplbojdlaaGreat
open Go Go.ChangeShapes Go.WideShapes Go.ChangeAt Go.RowKit
set_option maxRecDepth 100000 in
theorem zil (H : Type) (enc : TypeId × Value->H) (W : World) (base : Nat) (args : Array Value) (ds gs : List (DataW H)) (before : List MemPlace)
  (hval : ∀ (j : Nat) t v,Tryz.f4.params[j]? = some t->args[j]? = some v->Value.okWide Tryz.prog W .any base t v)
  (hW : DataW.Whole enc Tryz.prog Tryz.f4.params.toList Rows.compareRingsSpec.vars false W args.toList ds gs before) :
  Calls Tryz.prog 4 args W λ e W'=>∃ v,e = .returned v/\Rows.compareRingsSpec.post enc Tryz.prog Tryz.f4 false true false false W args v W':=by
 have hp : Tryz.f4.params.toList=[22,3,3]:=by rw [Tryz.params4]
 have hlen : ∃ d0 d1 d2,ds=[d0,d1,d2]:=by
  obtain ⟨p,q,hA,_⟩:=hW;rw [hp] at hA;obtain ⟨_,_,_,d0,d1,d2,_,_,_,_,rfl,_⟩:=trodAll_three hA;exact ⟨d0,d1,d2,rfl⟩
 obtain ⟨d0,d1,d2,rfl⟩:=hlen;refine zt9 (P:=Tryz.prog) (f:=Tryz.f4) (s:=Rows.compareRingsSpec) (n:=2) (tb:=4) zA8 hp ?_ ?_ Tryz.underlying4 ?_ hval hW ?_ ?_ ?_ λ xs hxs=>?_
 .kernel_rfl
 .kernel_rfl
 .rfl
 .rfl
 .rfl
 .rfl
 obtain ⟨e0,e1,e2,x0,x1,x2,he,rfl,h0,h1,h2⟩:=zAo hxs;obtain ⟨l0,w0⟩:=ztM (tI:=3) Tryz.underlying3 Tryz.underlying22 (by kernel_rfl) h0
 obtain ⟨n1,rfl,f1⟩:=zqM Tryz.underlying3 h1;obtain ⟨n2,rfl,f2⟩:=zqM Tryz.underlying3 h2;refine zwa (ys:=[ints l0,.I n1,.I n2]) rfl (λ i hi=>?_) (zh6 l0 n1 n2)
 match i with
 | 0=>exact w0
 | 1=>exact .refl _
 | 2=>exact .refl _
set_option maxRecDepth 100000 in
theorem zjm (os : Os) (started : os.Started) (H : Type) (enc : TypeId × Value->H) :
  ReturnsInHanded {} Tryz.checked os 4 .any (Rows.compareRingsSpec.pre6 enc Tryz.prog Tryz.f4 Rows.compareRingsRow.domain false) (Rows.compareRingsSpec.post enc Tryz.prog Tryz.f4 false true false false):=by
 refine returnsInHanded_of_change (C:=Tryz.checked) ownK started (by kernel_rfl) Tryz.func4
  (ChangeSpec.witness6 (enc:=enc) (C:=Tryz.checked) false ⟨#[],#[.slice none 0 0,.int .i64 0,.int .i64 0],[]⟩ 4 (by kernel_rfl) (by kernel_rfl) (by kernel_rfl) (by kernel_rfl)) ?_
 intro W base args ds gs before hval hW _ _;exact zil H enc W base args ds gs before hval hW
set_option maxHeartbeats 8000000 in
theorem zjr : joinedFacts Tryz.prog 4 Tryz.f4 Rows.compareRingsSpec Rows.compareRingsRow=true:=by
 unfold joinedFacts;simp only [Bool.and_eq_true]
 repeat' refine And.intro ?_ ?_
 all_goals (as_aux_lemma=>kernel_rfl)
set_option maxHeartbeats 4000000 in
theorem zkI : Tryz.f4.isWrapper Tryz.prog Rows.compareRingsRow.wrapper Rows.compareRingsRow.mainSum:=by unfold Func.isWrapper; first | (rw [if_pos (by decide +kernel)]; kernel_rfl) | (rw [if_neg (by decide +kernel)]; exact ⟨rfl,rfl⟩)
set_option maxHeartbeats 4000000 in
theorem compareRings : Rows.CompareRingsSaid :=
 OpenClaim.holds_of_wide 4 Tryz.f4 rfl rfl rfl rfl rfl rfl rfl ⟨rfl,rfl,rfl,rfl,rfl⟩ rfl rfl rfl rfl rfl (by kernel_rfl) Tryz.func4 zjr
  (of_decide_eq_true (by kernel_rfl)) zkI
  (λ os started H enc _=>zjm os started H enc)
end Go.Proofs.YtkngdgplbojdlaaGreat
