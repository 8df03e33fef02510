/- The law CheckerMade holds: it returns true and its arguments read as before. -/
import Derived.Test.YtlhjelookgjmpaaGreatRe7
import Derived.Test.YtlhjelookgjmpaaGreatRe16
set_option linter.unusedSimpArgs false
set_option linter.unusedVariables false
set_option linter.unusedSectionVars false
namespace Go.Proofs.YtlhjelookgjmpaaGreat
open Go Go.ChangeShapes Go.WideShapes Go.ChangeAt Go.RowKit
set_option maxRecDepth 100000 in
theorem checkerMade_contract (H : Type) (enc : TypeId × Value → H) (W : World) (base : Nat) (args : Array Value) (ds gs : List (DataW H)) (before : List MemPlace)
  (hval : ∀ (j : Nat) t v,Tryz.f8.params[j]? = some t → args[j]? = some v → Value.okWide Tryz.prog W .any base t v)
  (hW : DataW.Whole enc Tryz.prog Tryz.f8.params.toList Rows.checkerMadeSpec.vars false W args.toList ds gs before) :
  Calls Tryz.prog 8 args W fun e W'=>∃ v,e = .returned v ∧ Rows.checkerMadeSpec.post enc Tryz.prog Tryz.f8 false true false false W args v W':=by
 have hp : Tryz.f8.params.toList = [22,5]:=by rw [Tryz.params8]
 have hlen : ∃ d0 d1,ds = [d0,d1]:=by
  obtain ⟨p,q,hA,_⟩:=hW
  rw [hp] at hA
  obtain ⟨_,_,d0,d1,_,_,_,rfl,_⟩:=trodAll_two hA
  exact ⟨d0,d1,rfl⟩
 obtain ⟨d0,d1,rfl⟩:=hlen
 refine law_bridge (P:=Tryz.prog) (f:=Tryz.f8) (s:=Rows.checkerMadeSpec) (n:=2) (tb:=4) laidK hp ?_ ?_ Tryz.underlying4 ?_ hval hW ?_ ?_ ?_ fun xs hxs=>?_
 ·kernel_rfl
 ·kernel_rfl
 ·rfl
 ·rfl
 ·rfl
 ·rfl
 obtain ⟨e0,e1,x0,x1,he,rfl,h0,h1⟩:=args2 hxs
 obtain ⟨l0,w0⟩:=intsArg_of (tI:=3) Tryz.underlying3 Tryz.underlying22 (by kernel_rfl) h0
 obtain ⟨n1,rfl,f1,f1b⟩:=byteArg_of Tryz.underlying5 h1
 refine acalls_wk (ys:=[ints l0,.sc (.int .u8 n1)]) rfl (fun i hi=>?_) (law44_CheckerMade_ok l0 n1)
 match i with
 | 0=>exact w0
 | 1=>exact .refl _
set_option maxRecDepth 100000 in
theorem checkerMade_lifted (os : Os) (started : os.Started) (H : Type) (enc : TypeId × Value → H) :
  ReturnsInHanded {} Tryz.checked os 8 .any (Rows.checkerMadeSpec.pre6 enc Tryz.prog Tryz.f8 Rows.checkerMadeRow.domain false) (Rows.checkerMadeSpec.post enc Tryz.prog Tryz.f8 false true false false):=by
 refine returnsInHanded_of_change (C:=Tryz.checked) ownK started (by kernel_rfl) Tryz.func8
  (ChangeSpec.witness6 (enc:=enc) (C:=Tryz.checked) false ⟨#[],#[.slice none 0 0,.int .u8 0],[]⟩ 8 (by kernel_rfl) (by kernel_rfl) (by kernel_rfl) (by kernel_rfl)) ?_
 intro W base args ds gs before hval hW _ _
 exact checkerMade_contract H enc W base args ds gs before hval hW
theorem checkerMade : Rows.CheckerMadeSaid :=
 OpenClaim.holds_of_wide 8 Tryz.f8 rfl rfl rfl rfl rfl rfl rfl ⟨rfl,rfl,rfl,rfl,rfl⟩ rfl rfl rfl rfl rfl (by kernel_rfl) Tryz.func8 (by kernel_rfl)
  (of_decide_eq_true (by kernel_rfl)) (by unfold Func.isWrapper; first | (rw [if_pos (by decide +kernel)]; kernel_rfl) | (rw [if_neg (by decide +kernel)]; exact ⟨rfl,rfl⟩))
  (fun os started H enc _=>checkerMade_lifted os started H enc)
end Go.Proofs.YtlhjelookgjmpaaGreat
