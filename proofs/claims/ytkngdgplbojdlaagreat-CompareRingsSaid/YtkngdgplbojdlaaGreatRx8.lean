/- Texts of this claim,merged. -/
import Derived.Test.YtkngdgplbojdlaaGreatRx7
set_option linter.unusedSimpArgs false
set_option linter.unusedVariables false
set_option linter.unusedSectionVars false
namespace Go.Proofs.YtkngdgplbojdlaaGreat
open Go
def outs (l : List Ed) (key : Int) : List Int:=l.filterMap λ e=>if e.f=key then some e.t else none
theorem zpQ (l : List Ed) (key : Int) (k : Nat) (h : k<l.length) : outs (l.take (k+1)) key=outs (l.take k) key++if l[k].f=key then [l[k].t] else []:=by
 unfold outs;rw [<- List.take_concat_get h,List.concat_eq_append,List.filterMap_append]
 congr 1
 by_cases hc : l[k].f=key <;> simp [hc]
theorem zsh (l : List Ed) (key : Int) : (outs l key).length<=l.length:=List.length_filterMap_le _ _
theorem zqV (g : Gr) (key : Int) (hl : g.edges.length<=1099511627776) : zaj Tryz.prog zeP [eG g,.I key] [] (.rs 0 0 (outs g.edges key).length) [some ⟨1,((outs g.edges key).mergeSort λ x y=>decide (x<=y)).map λ n=>[AV.I n],0⟩]:=by
 refine ziN.ac ?_;show awp _ 0 _ _ ⟨28,[(0,eG g),(1,.I key)],[],16⟩;refine zab ?_;refine zan ?_;refine zab ?_;refine zan ?_;refine zab ?_;refine zab ?_;refine zan ?_;refine zaf ?_;refine zas (ι:=Nat) (λ k=>⟨28,[(1,.I key),(5,.rs 16 0 (outs (g.edges.take k) key).length),(9,eEs g.edges),(10,.I g.edges.length),(11,.I k)],[(16,some ⟨1,(outs (g.edges.take k) key).map λ n=>[AV.I n],0⟩)],24⟩) (λ k=>k<=g.edges.length) (λ k=>g.edges.length - k) (0) ?_ (Le.lst [] [] [(16,1)] rfl (by simp) (by simp) (by simp) (by simp) (by simp) (by simp) (by simp) (by simp [Up,outs]) (by simp [outs])) ?_
 .simp
 rintro k hk
 have hol : (outs (g.edges.take k) key).length<=k:=Nat.le_trans (zsh _ _) (by simp; exact Nat.min_le_left _ _)
 refine zab ?_;refine zan ?_;refine zab ?_;refine zad _ rfl (λ h4=>?_) λ h4=>?_
 .try simp at h4
  have hw2 : IntKind.i64.wrap ((k : Int)+1)=(k : Int)+1:=w6;have hwp : 0<k->IntKind.i64.wrap ((k : Int) - 1)=((k - 1 : Nat) : Int):=λ h=>by rw [w6]; omega
  have hkp : k - 1<g.edges.length:=by omega
  refine zae ?_;refine zab ?_;refine zaf ?_;refine zaa ⟨28,[(1,.I key),(5,.rs 16 0 (outs (g.edges.take k) key).length),(7,.pv (eC g.edges[k])),(9,eEs g.edges),(10,.I g.edges.length),(11,.I k)],[(16,some ⟨1,(outs (g.edges.take k) key).map λ n=>[AV.I n],0⟩)],24⟩ rfl ?_ ?_
  .simp [h4,hw2,hwp,hkp]
   exact Le.var1 16 [48] rfl rfl (nbz rfl) (by decide) rfl (by simp [fcd]) (by simp) (by simp [h4,hw2,hwp,hkp])
  refine zab ?_;refine zar (s:=?s5) rfl ?o5 ?q5
  case o5=>simp [h4,hw2,hwp,hkp]; rfl
  refine zad _ rfl (λ h6=>?_) λ h6=>?_
  .try simp at h6
   refine zar (s:=?s7) rfl ?o7 ?q7
   case o7 =>
    simp [h4,hw2,hwp,hkp,List.replicate];refine ⟨by omega,by omega,?_⟩
    rfl
   refine zar (s:=?s8) rfl ?o8 ?q8
   case o8=>simp [h4,hw2,hwp,hkp]; rfl
   have hs:=zpQ g.edges key k h4;rw [if_pos h6] at hs;refine ⟨k+1,h4,by omega,Le.ren1 88 16 [] rfl rfl (nbz rfl) (by decide) rfl (by simp [hs,fcd,zac]) (by simp) (by simp [hs,hw2])⟩
  try simp at h6
  refine zae ?_;refine zar (s:=?s9) rfl ?o9 ?q9
  case o9=>simp [h4,hw2,hwp,hkp]; rfl
  have hs:=zpQ g.edges key k h4;rw [if_neg h6,List.append_nil] at hs;refine ⟨k+1,h4,by omega,Le.var1 16 [] rfl rfl (nbz rfl) (by decide) rfl (by simp [hs,fcd,zac]) (by simp) (by simp [hs,hw2])⟩
 try simp at h4
 have hkl : k=g.edges.length:=by omega
 subst hkl;have hol2:=zsh g.edges key;refine zaq ?_;refine hit ?_;refine zab ?_;refine zar (s:=?s10) rfl ?o10 ?q10
 case o10 =>
  simp;refine zcz (i:=16) rfl (e':=⟨1,zgc (outs g.edges key),0⟩) (by simp [zgc,fcd]) (zuF (outs g.edges key) (by omega)) (by simp) (by simp) ?_
  simp [zgc,fcd];rfl
 refine zab ?_;refine zan ?_;refine zai ?_;exact ⟨.inr rfl,zao.out [16] [] rfl (by simp) (by simp) (by simp) (by simp [fcd])⟩
@[simp] theorem zBh {ρ : List (Nat × Nat)} {sn : List Nat} {h : Nat->Option Ent} {n : Nat} {f : Fn} {a b : List AV} : conv ρ sn h (n+1) (.fn f a b) = .fn f (a.map (conv ρ sn h n)) (b.map (conv ρ sn h n)):=(rfl)
end Go.Proofs.YtkngdgplbojdlaaGreat
