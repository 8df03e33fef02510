/- law30.StandingVouches: what the law returns is true,for every two bytes. -/
import Derived.Test.YtklclphfcibagaaGreatRy7
import Derived.Test.YtklclphfcibagaaGreatRy16
set_option linter.unusedSimpArgs false
set_option linter.unusedVariables false
set_option linter.unusedSectionVars false
namespace Go.Proofs.YtklclphfcibagaaGreat
open Go Go.ChangeShapes Go.WideShapes Go.ChangeAt Go.RowKit
set_option maxRecDepth 100000 in
theorem zfs (H : Type) (enc : TypeId × Value → H) (W : World) (base : Nat) (args : Array Value) (ds gs : List (DataW H)) (before : List MemPlace)
  (hval : ∀ (j : Nat) t v,Tryz.f5.params[j]? = some t → args[j]? = some v → Value.okWide Tryz.prog W .any base t v)
  (hW : DataW.Whole enc Tryz.prog Tryz.f5.params.toList Rows.standingVouchesSpec.vars false W args.toList ds gs before) :
  Calls Tryz.prog 5 args W fun e W'=>∃ v,e = .returned v ∧ Rows.standingVouchesSpec.post enc Tryz.prog Tryz.f5 false true false false W args v W':=by
 have hp : Tryz.f5.params.toList = [5,5]:=by rw [Tryz.params5]
 have hlen : ∃ d0 d1,ds = [d0,d1]:=by
  obtain ⟨p,q,hA,_⟩:=hW
  rw [hp] at hA
  obtain ⟨_,_,d0,d1,_,_,_,rfl,_⟩:=trodAll_two hA
  exact ⟨d0,d1,rfl⟩
 obtain ⟨d0,d1,rfl⟩:=hlen
 refine zqK (P:=Tryz.prog) (f:=Tryz.f5) (s:=Rows.standingVouchesSpec) (n:=2) (tb:=4) zA5 hp ?_ ?_ Tryz.underlying4 ?_ hval hW ?_ ?_ ?_ fun xs hxs=>?_
 ·kernel_rfl
 ·kernel_rfl
 ·rfl
 ·rfl
 ·rfl
 ·rfl
 obtain ⟨e0,e1,x0,x1,he,rfl,h0,h1⟩:=zAb hxs
 obtain ⟨n0,rfl,f0,f0b⟩:=zl6 Tryz.underlying5 h0
 obtain ⟨n1,rfl,f1,f1b⟩:=zl6 Tryz.underlying5 h1
 refine zsw (ys:=[.sc (.int .u8 n0),.sc (.int .u8 n1)]) rfl (fun i hi=>?_) (zfp n0 n1 f0 f0b f1 f1b)
 match i with
 | 0=>exact .refl _
 | 1=>exact .refl _
set_option maxRecDepth 100000 in
theorem zf1 (os : Os) (started : os.Started) (H : Type) (enc : TypeId × Value → H) :
  ReturnsInHanded {} Tryz.checked os 5 .any (Rows.standingVouchesSpec.pre6 enc Tryz.prog Tryz.f5 Rows.standingVouchesRow.domain false) (Rows.standingVouchesSpec.post enc Tryz.prog Tryz.f5 false true false false):=by
 refine returnsInHanded_of_change (C:=Tryz.checked) ownK started (by kernel_rfl) Tryz.func5
  (ChangeSpec.witness6 (enc:=enc) (C:=Tryz.checked) false ⟨#[],#[.int .u8 0,.int .u8 0],[]⟩ 5 (by kernel_rfl) (by kernel_rfl) (by kernel_rfl) (by kernel_rfl)) ?_
 intro W base args ds gs before hval hW _ _
 exact zfs H enc W base args ds gs before hval hW
set_option maxHeartbeats 8000000 in
theorem zf2 : joinedFacts Tryz.prog 5 Tryz.f5 Rows.standingVouchesSpec Rows.standingVouchesRow = true:=by
 unfold joinedFacts
 simp only [Bool.and_eq_true]
 repeat' refine And.intro ?_ ?_
 all_goals (as_aux_lemma=>kernel_rfl)
set_option maxHeartbeats 4000000 in
theorem zgP : Tryz.f5.isWrapper Tryz.prog Rows.standingVouchesRow.wrapper Rows.standingVouchesRow.mainSum:=by unfold Func.isWrapper; first | (rw [if_pos (by decide +kernel)]; kernel_rfl) | (rw [if_neg (by decide +kernel)]; exact ⟨rfl,rfl⟩)
set_option maxHeartbeats 4000000 in
theorem standingVouches : Rows.StandingVouchesSaid :=
 OpenClaim.holds_of_wide 5 Tryz.f5 rfl rfl rfl rfl rfl rfl rfl ⟨rfl,rfl,rfl,rfl,rfl⟩ rfl rfl rfl rfl rfl (by kernel_rfl) Tryz.func5 zf2
  (of_decide_eq_true (by kernel_rfl)) zgP
  (fun os started H enc _=>zf1 os started H enc)
end Go.Proofs.YtklclphfcibagaaGreat
