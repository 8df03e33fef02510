/- The law StationaryBalance holds: it returns true and its arguments read as before. -/
import Derived.Test.YtfdbhehkkobfgaaRt6
import Derived.Test.YtfdbhehkkobfgaaRt14
set_option linter.unusedSimpArgs false
set_option linter.unusedVariables false
set_option linter.unusedSectionVars false
namespace Go.Proofs.Ytfdbhehkkobfgaa
open Go Go.ChangeShapes Go.WideShapes Go.ChangeAt Go.RowKit
set_option maxRecDepth 100000 in
theorem zdd (H : Type) (enc : TypeId × Value → H) (W : World) (base : Nat) (args : Array Value) (ds gs : List (DataW H)) (before : List MemPlace)
  (hval : ∀ (j : Nat) t v,Try.f3.params[j]? = some t → args[j]? = some v → Value.okWide Try.prog W .any base t v)
  (hW : DataW.Whole enc Try.prog Try.f3.params.toList Rows.stationaryBalanceSpec.vars false W args.toList ds gs before) :
  Calls Try.prog 3 args W fun e W'=>∃ v,e = .returned v ∧ Rows.stationaryBalanceSpec.post enc Try.prog Try.f3 false true false false W args v W':=by
 have hp : Try.f3.params.toList = [22]:=by rw [Try.params3]
 have hlen : ∃ d0,ds = [d0]:=by
  obtain ⟨p,q,hA,_⟩:=hW
  rw [hp] at hA
  obtain ⟨_,d0,_,rfl,_⟩:=trodAll_one hA
  exact ⟨d0,rfl⟩
 obtain ⟨d0,rfl⟩:=hlen
 refine zfX (P:=Try.prog) (f:=Try.f3) (s:=Rows.stationaryBalanceSpec) (n:=2) (tb:=4) zrV hp ?_ ?_ Try.underlying4 ?_ hval hW ?_ ?_ ?_ fun xs hxs=>?_
 ·kernel_rfl
 ·kernel_rfl
 ·rfl
 ·rfl
 ·rfl
 ·rfl
 obtain ⟨e0,x0,he,rfl,h0⟩:=zrv hxs
 obtain ⟨l0,w0⟩:=zf9 (tI:=3) Try.underlying3 Try.underlying22 (by kernel_rfl) h0
 refine zha (ys:=[ints l0]) rfl (fun i hi=>?_) (zgB l0)
 match i with
 | 0=>exact w0
set_option maxRecDepth 100000 in
theorem zdB (os : Os) (started : os.Started) (H : Type) (enc : TypeId × Value → H) :
  ReturnsInHanded {} Try.checked os 3 .any (Rows.stationaryBalanceSpec.pre6 enc Try.prog Try.f3 Rows.stationaryBalanceRow.domain false) (Rows.stationaryBalanceSpec.post enc Try.prog Try.f3 false true false false):=by
 refine returnsInHanded_of_change (C:=Try.checked) ownK started (by kernel_rfl) Try.func3
  (ChangeSpec.witness6 (enc:=enc) (C:=Try.checked) false ⟨#[],#[.slice none 0 0],[]⟩ 3 (by kernel_rfl) (by kernel_rfl) (by kernel_rfl) (by kernel_rfl)) ?_
 intro W base args ds gs before hval hW _ _
 exact zdd H enc W base args ds gs before hval hW
set_option maxHeartbeats 8000000 in
theorem zdw : joinedFacts Try.prog 3 Try.f3 Rows.stationaryBalanceSpec Rows.stationaryBalanceRow = true:=by
 unfold joinedFacts
 simp only [Bool.and_eq_true]
 repeat' refine And.intro ?_ ?_
 all_goals (as_aux_lemma=>kernel_rfl)
set_option maxHeartbeats 4000000 in
theorem zeq : Try.f3.isWrapper Try.prog Rows.stationaryBalanceRow.wrapper Rows.stationaryBalanceRow.mainSum:=by unfold Func.isWrapper; first | (rw [if_pos (by decide +kernel)]; kernel_rfl) | (rw [if_neg (by decide +kernel)]; exact ⟨rfl,rfl⟩)
set_option maxHeartbeats 4000000 in
theorem stationaryBalance : Rows.StationaryBalanceSaid :=
 OpenClaim.holds_of_wide 3 Try.f3 rfl rfl rfl rfl rfl rfl rfl ⟨rfl,rfl,rfl,rfl,rfl⟩ rfl rfl rfl rfl rfl (by kernel_rfl) Try.func3 zdw
  (of_decide_eq_true (by kernel_rfl)) zeq
  (fun os started H enc _=>zdB os started H enc)
end Go.Proofs.Ytfdbhehkkobfgaa
