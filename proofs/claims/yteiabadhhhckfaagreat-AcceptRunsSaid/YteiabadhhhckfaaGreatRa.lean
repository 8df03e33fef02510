/- The law AcceptRuns holds: it returns true and its arguments read as before. -/
import Derived.Test.YteiabadhhhckfaaGreatRa7
import Derived.Test.YteiabadhhhckfaaGreatRa16
set_option linter.unusedSimpArgs false
set_option linter.unusedVariables false
set_option linter.unusedSectionVars false
namespace Go.Proofs.YteiabadhhhckfaaGreat
open Go Go.ChangeShapes Go.WideShapes Go.ChangeAt Go.RowKit
set_option maxRecDepth 100000 in
theorem acceptRuns_contract (H : Type) (enc : TypeId × Value → H) (W : World) (base : Nat) (args : Array Value) (ds gs : List (DataW H)) (before : List MemPlace)
  (hval : ∀ (j : Nat) t v,Tryz.f3.params[j]? = some t → args[j]? = some v → Value.okWide Tryz.prog W .any base t v)
  (hW : DataW.Whole enc Tryz.prog Tryz.f3.params.toList Rows.acceptRunsSpec.vars false W args.toList ds gs before) :
  Calls Tryz.prog 3 args W fun e W'=>∃ v,e = .returned v ∧ Rows.acceptRunsSpec.post enc Tryz.prog Tryz.f3 false true false false W args v W':=by
 have hp : Tryz.f3.params.toList = [22,22]:=by rw [Tryz.params3]
 have hlen : ∃ d0 d1,ds = [d0,d1]:=by
  obtain ⟨p,q,hA,_⟩:=hW
  rw [hp] at hA
  obtain ⟨_,_,d0,d1,_,_,_,rfl,_⟩:=trodAll_two hA
  exact ⟨d0,d1,rfl⟩
 obtain ⟨d0,d1,rfl⟩:=hlen
 refine law_bridge (P:=Tryz.prog) (f:=Tryz.f3) (s:=Rows.acceptRunsSpec) (n:=2) (tb:=4) laidK hp ?_ ?_ Tryz.underlying4 ?_ hval hW ?_ ?_ ?_ fun xs hxs=>?_
 ·kernel_rfl
 ·kernel_rfl
 ·rfl
 ·rfl
 ·rfl
 ·rfl
 obtain ⟨e0,e1,x0,x1,he,rfl,h0,h1⟩:=args2 hxs
 obtain ⟨l0,w0⟩:=intsArg_of (tI:=3) Tryz.underlying3 Tryz.underlying22 (by kernel_rfl) h0
 obtain ⟨l1,w1⟩:=intsArg_of (tI:=3) Tryz.underlying3 Tryz.underlying22 (by kernel_rfl) h1
 refine acalls_wk (ys:=[ints l0,ints l1]) rfl (fun i hi=>?_) (law17_AcceptRuns_ok l0 l1)
 match i with
 | 0=>exact w0
 | 1=>exact w1
set_option maxRecDepth 100000 in
theorem acceptRuns_lifted (os : Os) (started : os.Started) (H : Type) (enc : TypeId × Value → H) :
  ReturnsInHanded {} Tryz.checked os 3 .any (Rows.acceptRunsSpec.pre6 enc Tryz.prog Tryz.f3 Rows.acceptRunsRow.domain false) (Rows.acceptRunsSpec.post enc Tryz.prog Tryz.f3 false true false false):=by
 refine returnsInHanded_of_change (C:=Tryz.checked) ownK started (by kernel_rfl) Tryz.func3
  (ChangeSpec.witness6 (enc:=enc) (C:=Tryz.checked) false ⟨#[],#[.slice none 0 0,.slice none 0 0],[]⟩ 3 (by kernel_rfl) (by kernel_rfl) (by kernel_rfl) (by kernel_rfl)) ?_
 intro W base args ds gs before hval hW _ _
 exact acceptRuns_contract H enc W base args ds gs before hval hW
set_option maxHeartbeats 8000000 in
theorem acceptRuns_closed : joinedFacts Tryz.prog 3 Tryz.f3 Rows.acceptRunsSpec Rows.acceptRunsRow = true:=by
 unfold joinedFacts
 simp only [Bool.and_eq_true]
 repeat' refine And.intro ?_ ?_
 all_goals (as_aux_lemma=>kernel_rfl)
set_option maxHeartbeats 4000000 in
theorem acceptRuns_wrap : Tryz.f3.isWrapper Tryz.prog Rows.acceptRunsRow.wrapper Rows.acceptRunsRow.mainSum:=by unfold Func.isWrapper; first | (rw [if_pos (by decide +kernel)]; kernel_rfl) | (rw [if_neg (by decide +kernel)]; exact ⟨rfl,rfl⟩)
set_option maxHeartbeats 4000000 in
theorem acceptRuns : Rows.AcceptRunsSaid :=
 OpenClaim.holds_of_wide 3 Tryz.f3 rfl rfl rfl rfl rfl rfl rfl ⟨rfl,rfl,rfl,rfl,rfl⟩ rfl rfl rfl rfl rfl (by kernel_rfl) Tryz.func3 acceptRuns_closed
  (of_decide_eq_true (by kernel_rfl)) acceptRuns_wrap
  (fun os started H enc _=>acceptRuns_lifted os started H enc)
end Go.Proofs.YteiabadhhhckfaaGreat
