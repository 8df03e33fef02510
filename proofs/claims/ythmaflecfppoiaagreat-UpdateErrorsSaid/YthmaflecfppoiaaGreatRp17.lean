/- Texts of this claim,merged. -/
import Derived.Test.YthmaflecfppoiaaGreatRp16
import Derived.Test.YthmaflecfppoiaaGreatRp13
import Derived.Test.YthmaflecfppoiaaGreatRp15
import Derived.Test.YthmaflecfppoiaaGreatRp12
set_option linter.unusedSimpArgs false
set_option linter.unusedVariables false
set_option linter.unusedSectionVars false
namespace Go.Proofs.YthmaflecfppoiaaGreat
open Go
structure AlS where
 i:Nat
 g:Gr
 acc:List Int
 f:List Int
 R:List (Int × List Int)
def OnW (p:Pol) (g0:Gr) (acc0 f0:List Int) (R0:List (Int × List Int)) (n:Nat) (g:Gr) (acc f:List Int) (R:List (Int × List Int)):Prop :=
 (n=0∧g=g0∧acc=acc0∧f=f0∧R=R0)∨(0<n∧acc=accG g p∧R=refG g p∧zcH g p (zav (accG g p)) f)
structure AlI (p:Pol) (g0:Gr) (acc0 f0:List Int) (R0:List (Int × List Int)) (l:List GStp) (s:AlS):Prop where
 le:s.i≤l.length
 ok:GrOk s.g
 pol:zaY s.g.size p
 sz:s.g.size<20
 on:OnW p g0 acc0 f0 R0 s.i s.g s.acc s.f s.R
 run:runS g0 l=((runS s.g (l.drop s.i)).1,(runS s.g (l.drop s.i)).2.1+s.i,(runS s.g (l.drop s.i)).2.2)
variable {p:Pol} {g0:Gr} {acc0 f0:List Int} {R0:List (Int × List Int)} {l:List GStp} {s:AlS}
theorem zeF {g:Gr} {f:List Int} (hg:GrOk g) (hp:zaY g.size p) (hN:g.size<20) (hf:zcH g p (zav (accG g p)) f) :
  zai Tryz.prog zaM [eG g,eP p,eAcc (accG g p) f (refG g p)] [] (.I 0) []∧zai Tryz.prog zaX [eG g,eP p,eAcc (accG g p) f (refG g p)] [] (.I 0) []:=by
 have hT:=zdI hg hp hf
 have hs:=zgT hg hp
 have h1:=zgF g p (accG g p) f (refG g p) hg hp (by omega) hN hT.a hT.r (by have:=hT.f; omega) (fun r hr=>by have:=hT.d r hr; omega)
 have h2:=zg9 g p (accG g p) f (refG g p) hg hp (by omega) hT.a hT.r (by have:=hT.f; omega) (fun r hr=>by have:=hT.d r hr; omega)
 rw [show zf8 g p (accG g p) f (refG g p)=0 from zog hg hp (by omega) hf] at h1 h2
 exact⟨h1,h2⟩
theorem AlI.start (hg:GrOk g0) (hp:zaY g0.size p) (hN:g0.size<20):AlI p g0 acc0 f0 R0 l ⟨0,g0,acc0,f0,R0⟩ :=
 ⟨Nat.zero_le _,hg,hp,hN,.inl ⟨rfl,rfl,rfl,rfl,rfl⟩,by simp⟩
theorem AlI.len (h:AlI p g0 acc0 f0 R0 l s) (hT:TLen g0 p acc0 f0 R0):TLen s.g p s.acc s.f s.R:=by
 rcases h.on with ⟨_,h1,h2,h3,h4⟩ | ⟨_,h1,h2,h3⟩
 ·rw [h1,h2,h3,h4]; exact hT
 ·rw [h1,h2]; exact zdI h.ok h.pol h3
theorem AlI.chk (h:AlI p g0 acc0 f0 R0 l s) (hc:zai Tryz.prog zaM [eG g0,eP p,eAcc acc0 f0 R0] [] (.I 0) []):zai Tryz.prog zaM [eG s.g,eP p,eAcc s.acc s.f s.R] [] (.I 0) []:=by
 rcases h.on with ⟨_,h1,h2,h3,h4⟩ | ⟨_,h1,h2,h3⟩
 ·rw [h1,h2,h3,h4]; exact hc
 ·rw [h1,h2]; exact (zeF h.ok h.pol h.sz h3).1
theorem AlI.chk' (h:AlI p g0 acc0 f0 R0 l s) (hc:zai Tryz.prog zaX [eG g0,eP p,eAcc acc0 f0 R0] [] (.I 0) []):zai Tryz.prog zaX [eG s.g,eP p,eAcc s.acc s.f s.R] [] (.I 0) []:=by
 rcases h.on with ⟨_,h1,h2,h3,h4⟩ | ⟨_,h1,h2,h3⟩
 ·rw [h1,h2,h3,h4]; exact hc
 ·rw [h1,h2]; exact (zeF h.ok h.pol h.sz h3).2
theorem zp1 (g:Gr) (p:Pol):(accG g p).Nodup:=(zbf _ _).sublist (zd7 _ _ rfl)
theorem zsA {g:Gr} (hg:GrOk g) (p:Pol):∀ k∈accG g p,0≤k∧k<64:=fun k hk=>by have h1:=zj0 p k hk; have h2:=hg.1.2.1; omega
theorem AlI.nod (h:AlI p g0 acc0 f0 R0 l s) (hn:acc0.Nodup) (hr:∀ k∈acc0,0≤k∧k<64):s.acc.Nodup ∧ ∀ k∈s.acc,0≤k∧k<64:=by
 rcases h.on with ⟨_,h1,h2,h3,h4⟩ | ⟨_,h1,h2,h3⟩
 ·rw [h2]; exact⟨hn,hr⟩
 ·rw [h1]; exact⟨zp1 _ _,zsA h.ok p⟩
theorem AlI.next (h:AlI p g0 acc0 f0 R0 l s) (hi:s.i<l.length) (hs:(zaw s.g l[s.i]).2=0) {f':List Int} (hf:zcH (zaw s.g l[s.i]).1 p (zav (accG (zaw s.g l[s.i]).1 p)) f') :
  AlI p g0 acc0 f0 R0 l ⟨s.i+1,(zaw s.g l[s.i]).1,accG (zaw s.g l[s.i]).1 p,f',refG (zaw s.g l[s.i]).1 p⟩:=by
 obtain⟨k1,k2,k3,k4⟩:=zfd h.ok hs
 refine⟨hi,k1,by simp only; rw [k2]; exact h.pol,by simp only; rw [k2]; exact h.sz,.inr ⟨Nat.succ_pos _,rfl,rfl,hf⟩,?_⟩
 have h1:=h.run
 rw [List.drop_eq_getElem_cons hi,ztB hs] at h1
 rw [h1]
 simp only
 refine Prod.ext rfl (Prod.ext ?_ rfl)
 simp only
 omega
theorem AlI.stop (h:AlI p g0 acc0 f0 R0 l s) (hi:s.i<l.length) (hs:(zaw s.g l[s.i]).2≠0):runS g0 l=(s.g,s.i,(zaw s.g l[s.i]).2):=by
 have h1:=h.run
 rw [List.drop_eq_getElem_cons hi,zvn hs] at h1
 rw [h1]
 simp
theorem AlI.done (h:AlI p g0 acc0 f0 R0 l s) (hi:s.i=l.length):runS g0 l=(s.g,l.length,0):=by
 have h1:=h.run
 rw [hi,List.drop_length] at h1
 rw [h1]
 simp [runS]
set_option maxRecDepth 100000 in
theorem zji (hc:zai Tryz.prog zaM [eG g0,eP p,eAcc acc0 f0 R0] [] (.I 0) []) (hg:GrOk g0) (hp:zaY g0.size p) (hN:g0.size<20) (hT:TLen g0 p acc0 f0 R0) (hl:l.length≤1000) :
  ∃ x:List Int × List Int × List (Int × List Int),OnW p g0 acc0 f0 R0 (runS g0 l).2.1 (runS g0 l).1 x.1 x.2.1 x.2.2∧zai Tryz.prog zdj [eT g0 p acc0 f0 R0,eSts l] [] (.tup [eT (runS g0 l).1 p x.1 x.2.1 x.2.2,.I (runS g0 l).2.1,.I (runS g0 l).2.2]) []:=by
 obtain⟨⟨gF,n,e⟩,hrr⟩ : ∃ rr,rr=runS g0 l:=⟨_,rfl⟩
 rw [← hrr]
 refine zki.acallsX (args:=[eT g0 p acc0 f0 R0,eSts l]) (hs:=[]) (fun x=>.tup [eT gF p x.1 x.2.1 x.2.2,.I n,.I e]) (fun _=>[]) (fun x:List Int × List Int × List (Int × List Int)=>OnW p g0 acc0 f0 R0 n gF x.1 x.2.1 x.2.2) (nbz rfl) (nbz rfl) (fun _=>Nat.zero_le _) ?_
 show awp _ 0 _ _ ⟨38,[(0,eT g0 p acc0 f0 R0),(1,eSts l)],[],16⟩
 refine zaa ⟨38,[(1,eSts l),(2,.pt 16 0 0),(4,.pt 24 0 0)],[(16,some ⟨9,[tC g0 p acc0 f0 R0],0⟩),(24,some ⟨9,[[.I 0,.nilS,.nilS,.nilS,.nilS,.I 0,.nilS,.nilS,.nilS]],0⟩)],100⟩ rfl ?_ ?_
 ·simp
  exact LeH [(16,16),(24,24)] []
 refine zab ?_
 refine zaa ⟨38,[(1,eSts l),(2,.pt 16 0 0),(4,.pt 24 0 0),(13,eSts l),(14,.I l.length),(15,.I 0)],[(16,some ⟨9,[tC g0 p acc0 f0 R0],0⟩),(24,some ⟨9,[[.I 0,.nilS,.nilS,.nilS,.nilS,.I 0,.nilS,.nilS,.nilS]],0⟩)],200⟩ rfl ?_ ?_
 ·simp
  exact LeH [(16,16),(24,24)] []
 refine zaf ?_
 refine zao (ι:=AlS) (fun s=>⟨38,[(1,eSts l),(2,.pt 16 0 0),(4,.pt 24 0 0),(13,eSts l),(14,.I l.length),(15,.I s.i)],[(16,some ⟨9,[tC s.g p s.acc s.f s.R],0⟩),(24,some ⟨9,[[.I 0,.nilS,.nilS,.nilS,.nilS,.I 0,.nilS,.nilS,.nilS]],0⟩)],300⟩) (AlI p g0 acc0 f0 R0 l) (fun s=>l.length - s.i) ⟨0,g0,acc0,f0,R0⟩ (AlI.start hg hp hN) (LeH [(16,16),(24,24)] []) ?_
 intro s hI
 have hi:=hI.le
 have hT':=hI.len hT
 have hc':=hI.chk hc
 refine zaa ⟨38,[(1,eSts l),(2,.pt 16 0 0),(4,.pt 24 0 0),(13,eSts l),(14,.I l.length),(15,.I s.i),(16,.B (decide (s.i<l.length)))],[(16,some ⟨9,[tC s.g p s.acc s.f s.R],0⟩),(24,some ⟨9,[[.I 0,.nilS,.nilS,.nilS,.nilS,.I 0,.nilS,.nilS,.nilS]],0⟩)],400⟩ rfl ?_ ?_
 ·simp
  exact LeH [(16,16),(24,24)] []
 refine zab ?_
 refine zac _ rfl (fun h5=>?_) fun h5=>?_
 ·rw [decide_eq_true_eq] at h5
  have hw1:IntKind.i64.wrap ((s.i:Int)+1)=(s.i:Int)+1:=w64 (by omega) (by omega)
  refine zae ?_
  refine zab ?_
  refine zaf ?_
  refine zaa ⟨38,[(1,eSts l),(2,.pt 16 0 0),(4,.pt 24 0 0),(7,.I s.i),(8,.pv (stC l[s.i])),(13,eSts l),(14,.I l.length),(15,.I s.i)],[(16,some ⟨9,[tC s.g p s.acc s.f s.R],0⟩),(24,some ⟨9,[[.I 0,.nilS,.nilS,.nilS,.nilS,.I 0,.nilS,.nilS,.nilS]],0⟩)],500⟩ rfl ?_ ?_
  ·simp [h5,zar]
   exact LeH [(16,16),(24,24)] [424]
  by_cases hs:(zaw s.g l[s.i]).2=0
  ·obtain⟨f',hf',hap⟩:=zdS hc' hI.ok hI.pol hI.sz hT'.a hs
   have hnx:=hI.next h5 hs hf'
   generalize ze8 (accG (zaw s.g l[s.i]).1 p) s.acc=gi at *
   generalize ze8 s.acc (accG (zaw s.g l[s.i]).1 p)=lo at *
   generalize accG (zaw s.g l[s.i]).1 p=acc' at *
   generalize refG (zaw s.g l[s.i]).1 p=R' at *
   generalize (zaw s.g l[s.i]).1=g' at *
   refine zaa ⟨38,[(1,eSts l),(2,.pt 16 0 0),(4,.pt 24 0 0),(9,.pv (tC g' p acc' f' R')),(12,.I 0),(13,eSts l),(14,.I l.length),(15,.I s.i)],[(16,some ⟨9,[tC s.g p s.acc s.f s.R],0⟩),(24,some ⟨9,[[.I 0,.nilS,.nilS,.nilS,.nilS,.I 0,.nilS,.nilS,.nilS]],0⟩)],700⟩ rfl ?_ ?_
   ·simp
    refine zaj hap (by simp) ?_
    simp [zar]
    exact LeH [(16,16),(24,24)] [564]
   refine zab ?_
   refine zaa ⟨38,[(1,eSts l),(2,.pt 16 0 0),(4,.pt 24 0 0),(9,.pv (tC g' p acc' f' R')),(13,eSts l),(14,.I l.length),(15,.I s.i),(29,.B false)],[(16,some ⟨9,[tC s.g p s.acc s.f s.R],0⟩),(24,some ⟨9,[[.I 0,.nilS,.nilS,.nilS,.nilS,.I 0,.nilS,.nilS,.nilS]],0⟩)],800⟩ rfl ?_ ?_
   ·simp
    exact LeH [(16,16),(24,24)] []
   refine zac _ rfl (fun h=>by cases h) fun _=>?_
   refine zae ?_
   refine zas rfl ?_
   simp [zar]
   refine zas rfl ?_
   simp
   exact⟨⟨s.i+1,g',acc',f',R'⟩,hnx,by simp only; omega,Le.go [(16,16),(24,24)] [] rfl rfl (by simp [hw1]) (by simp)⟩
  ·have hst:=hI.stop h5 hs
   have hap:=zfN hc' hT'.e hT'.o hs
   rw [hst] at hrr
   generalize (zaw s.g l[s.i]).2=x at *
   cases hrr
   have he':(e != 0)=true:=by simp [hs]
   refine zaa ⟨38,[(2,.pt 16 0 0),(4,.pt 24 0 0),(7,.I s.i),(12,.I e)],[(16,some ⟨9,[tC s.g p s.acc s.f s.R],0⟩),(24,some ⟨9,[[.I 0,.nilS,.nilS,.nilS,.nilS,.I 0,.nilS,.nilS,.nilS]],0⟩)],700⟩ rfl ?_ ?_
   ·simp
    refine zaj hap (by simp) ?_
    simp [zar]
    exact LeH [(16,16),(24,24)] []
   refine zab ?_
   refine zaa ⟨38,[(2,.pt 16 0 0),(4,.pt 24 0 0),(7,.I s.i),(12,.I e),(29,.B true)],[(16,some ⟨9,[tC s.g p s.acc s.f s.R],0⟩),(24,some ⟨9,[[.I 0,.nilS,.nilS,.nilS,.nilS,.I 0,.nilS,.nilS,.nilS]],0⟩)],800⟩ rfl ?_ ?_
   ·simp
    exact Le.go [(16,16),(24,24)] [] rfl rfl (by simp [he']) (by simp)
   refine zac _ rfl (fun _=>?_) fun h=>by cases h
   refine zaa ⟨38,[(4,.pt 24 0 0),(5,.I s.i),(6,.I e)],[(24,some ⟨9,[tC s.g p s.acc s.f s.R],0⟩)],900⟩ rfl ?_ ?_
   ·simp [zar]
    exact LeH [(24,24)] []
   refine zag ?_
   exact zgh.mk (.inr rfl) (s.acc,s.f,s.R) hI.on (zak.out [] [24] rfl (by simp) (by simp) (by simp) (by simp))
 rw [decide_eq_false_iff_not] at h5
 have hil:s.i=l.length:=by omega
 have hdn:=hI.done hil
 rw [hdn] at hrr
 cases hrr
 have hon:=hI.on
 rw [hil] at hon
 refine zan ?_
 refine hit ?_
 refine zaa ⟨38,[(4,.pt 24 0 0),(5,.I l.length),(6,.I 0)],[(24,some ⟨9,[tC s.g p s.acc s.f s.R],0⟩)],900⟩ rfl ?_ ?_
 ·simp [zar]
  exact LeH [(24,24)] []
 refine zag ?_
 exact zgh.mk (.inr rfl) (s.acc,s.f,s.R) hon (zak.out [] [24] rfl (by simp) (by simp) (by simp) (by simp))
set_option maxRecDepth 100000 in
theorem zqC (hc:zai Tryz.prog zaX [eG g0,eP p,eAcc acc0 f0 R0] [] (.I 0) []) (hg:GrOk g0) (hp:zaY g0.size p) (hN:g0.size<20) (hT:TLen g0 p acc0 f0 R0) (hn:acc0.Nodup) (hr:∀ k∈acc0,0≤k∧k<64) (hl:l.length≤1000) :
  ∃ x:List Int × List Int × List (Int × List Int),OnW p g0 acc0 f0 R0 (runS g0 l).2.1 (runS g0 l).1 x.1 x.2.1 x.2.2∧zai Tryz.prog zfg [eT g0 p acc0 f0 R0,eSts l] [] (.tup [eT (runS g0 l).1 p x.1 x.2.1 x.2.2,.I (runS g0 l).2.1,.I (runS g0 l).2.2]) []:=by
 obtain⟨⟨gF,n,e⟩,hrr⟩ : ∃ rr,rr=runS g0 l:=⟨_,rfl⟩
 rw [← hrr]
 have hcp:=zch hT
 refine zmD.acallsX (args:=[eT g0 p acc0 f0 R0,eSts l]) (hs:=[]) (fun x=>.tup [eT gF p x.1 x.2.1 x.2.2,.I n,.I e]) (fun _=>[]) (fun x:List Int × List Int × List (Int × List Int)=>OnW p g0 acc0 f0 R0 n gF x.1 x.2.1 x.2.2) (nbz rfl) (nbz rfl) (fun _=>Nat.zero_le _) ?_
 show awp _ 0 _ _ ⟨40,[(0,eT g0 p acc0 f0 R0),(1,eSts l)],[],16⟩
 refine zaa ⟨40,[(1,eSts l),(2,.pt 16 0 0),(4,.pt 24 0 0)],[(16,some ⟨9,[tC g0 p acc0 f0 R0],0⟩),(24,some ⟨9,[[.I 0,.nilS,.nilS,.nilS,.nilS,.I 0,.nilS,.nilS,.nilS]],0⟩)],100⟩ rfl ?_ ?_
 ·simp
  exact LeH [(16,16),(24,24)] []
 refine zaa ⟨40,[(1,eSts l),(2,.pt 16 0 0),(4,.pt 24 0 0)],[(16,some ⟨9,[tC g0 p acc0 f0 R0],0⟩),(24,some ⟨9,[[.I 0,.nilS,.nilS,.nilS,.nilS,.I 0,.nilS,.nilS,.nilS]],0⟩)],150⟩ rfl ?_ ?_
 ·simp
  refine zaj hcp (by simp) ?_
  simp [zar]
  exact LeH [(16,16),(24,24)] []
 refine zab ?_
 refine zaa ⟨40,[(1,eSts l),(2,.pt 16 0 0),(4,.pt 24 0 0),(7,.I 0)],[(16,some ⟨9,[tC g0 p acc0 f0 R0],0⟩),(24,some ⟨9,[[.I 0,.nilS,.nilS,.nilS,.nilS,.I 0,.nilS,.nilS,.nilS]],0⟩)],200⟩ rfl ?_ ?_
 ·simp
  exact LeH [(16,16),(24,24)] []
 refine zaf ?_
 refine zao (ι:=AlS) (fun s=>⟨40,[(1,eSts l),(2,.pt 16 0 0),(4,.pt 24 0 0),(7,.I s.i)],[(16,some ⟨9,[tC s.g p s.acc s.f s.R],0⟩),(24,some ⟨9,[[.I 0,.nilS,.nilS,.nilS,.nilS,.I 0,.nilS,.nilS,.nilS]],0⟩)],300⟩) (AlI p g0 acc0 f0 R0 l) (fun s=>l.length - s.i) ⟨0,g0,acc0,f0,R0⟩ (AlI.start hg hp hN) (LeH [(16,16),(24,24)] []) ?_
 intro s hI
 have hi:=hI.le
 have hT':=hI.len hT
 have hc':=hI.chk' hc
 have hnd:=hI.nod hn hr
 refine zab ?_
 refine zaa ⟨40,[(1,eSts l),(2,.pt 16 0 0),(4,.pt 24 0 0),(7,.I s.i),(17,.B (decide (s.i<l.length)))],[(16,some ⟨9,[tC s.g p s.acc s.f s.R],0⟩),(24,some ⟨9,[[.I 0,.nilS,.nilS,.nilS,.nilS,.I 0,.nilS,.nilS,.nilS]],0⟩)],400⟩ rfl ?_ ?_
 ·simp
  exact LeH [(16,16),(24,24)] []
 refine zac _ rfl (fun h5=>?_) fun h5=>?_
 ·rw [decide_eq_true_eq] at h5
  have hw1:IntKind.i64.wrap ((s.i:Int)+1)=(s.i:Int)+1:=w64 (by omega) (by omega)
  refine zae ?_
  refine zab ?_
  refine zaf ?_
  by_cases hs:(zaw s.g l[s.i]).2=0
  ·obtain⟨f',hf',hap⟩:=zgy hT' hc' hI.ok hI.pol hnd.1 hnd.2 hs
   have hnx:=hI.next h5 hs hf'
   obtain⟨sp,hsp⟩ : ∃ sp,sp=l[s.i]:=⟨_,rfl⟩
   rw [← hsp] at hap hnx
   generalize ze8 (accG (zaw s.g sp).1 p) s.acc=gi at *
   generalize ze8 s.acc (accG (zaw s.g sp).1 p)=lo at *
   generalize accG (zaw s.g sp).1 p=acc' at *
   generalize refG (zaw s.g sp).1 p=R' at *
   generalize (zaw s.g sp).1=g' at *
   refine zaq ⟨40,[(1,eSts l),(2,.pt 16 0 0),(4,.pt 24 0 0),(7,.I s.i),(8,.pv (tC g' p acc' f' R')),(11,.I 0)],[(16,some ⟨9,[tC s.g p s.acc s.f s.R],0⟩),(24,some ⟨9,[[.I 0,.nilS,.nilS,.nilS,.nilS,.I 0,.nilS,.nilS,.nilS]],0⟩)],700⟩ rfl ?_ ?_
   ·simp [h5,← hsp]
    refine zaj hap (by simp) ?_
    simp [zar]
    exact⟨rfl,LeH [(16,16),(24,24)] [488]⟩
   refine zab ?_
   refine zaa ⟨40,[(1,eSts l),(2,.pt 16 0 0),(4,.pt 24 0 0),(7,.I s.i),(8,.pv (tC g' p acc' f' R')),(32,.B false)],[(16,some ⟨9,[tC s.g p s.acc s.f s.R],0⟩),(24,some ⟨9,[[.I 0,.nilS,.nilS,.nilS,.nilS,.I 0,.nilS,.nilS,.nilS]],0⟩)],800⟩ rfl ?_ ?_
   ·simp
    exact LeH [(16,16),(24,24)] []
   refine zac _ rfl (fun h=>by cases h) fun _=>?_
   refine zae ?_
   refine zas rfl ?_
   simp [zar]
   refine zas rfl ?_
   simp
   exact⟨⟨s.i+1,g',acc',f',R'⟩,hnx,by simp only; omega,Le.go [(16,16),(24,24)] [] rfl rfl (by simp [hw1]) (by simp)⟩
  ·have hst:=hI.stop h5 hs
   have hap:=zfZ hT' hc' hs
   rw [hst] at hrr
   obtain⟨sp,hsp⟩ : ∃ sp,sp=l[s.i]:=⟨_,rfl⟩
   rw [← hsp] at hap hrr hs
   generalize (zaw s.g sp).2=x at *
   cases hrr
   have he':(e != 0)=true:=by simp [hs]
   refine zaq ⟨40,[(2,.pt 16 0 0),(4,.pt 24 0 0),(7,.I s.i),(11,.I e)],[(16,some ⟨9,[tC s.g p s.acc s.f s.R],0⟩),(24,some ⟨9,[[.I 0,.nilS,.nilS,.nilS,.nilS,.I 0,.nilS,.nilS,.nilS]],0⟩)],700⟩ rfl ?_ ?_
   ·simp [h5,← hsp]
    refine zaj hap (by simp) ?_
    simp [zar]
    exact⟨rfl,LeH [(16,16),(24,24)] []⟩
   refine zab ?_
   refine zaa ⟨40,[(2,.pt 16 0 0),(4,.pt 24 0 0),(7,.I s.i),(11,.I e),(32,.B true)],[(16,some ⟨9,[tC s.g p s.acc s.f s.R],0⟩),(24,some ⟨9,[[.I 0,.nilS,.nilS,.nilS,.nilS,.I 0,.nilS,.nilS,.nilS]],0⟩)],800⟩ rfl ?_ ?_
   ·simp
    exact Le.go [(16,16),(24,24)] [] rfl rfl (by simp [he']) (by simp)
   refine zac _ rfl (fun _=>?_) fun h=>by cases h
   refine zaa ⟨40,[(4,.pt 24 0 0),(5,.I s.i),(6,.I e)],[(24,some ⟨9,[tC s.g p s.acc s.f s.R],0⟩)],900⟩ rfl ?_ ?_
   ·simp [zar]
    exact LeH [(24,24)] []
   refine zag ?_
   exact zgh.mk (.inr rfl) (s.acc,s.f,s.R) hI.on (zak.out [] [24] rfl (by simp) (by simp) (by simp) (by simp))
 rw [decide_eq_false_iff_not] at h5
 have hil:s.i=l.length:=by omega
 have hdn:=hI.done hil
 rw [hdn] at hrr
 cases hrr
 have hon:=hI.on
 rw [hil] at hon
 refine zan ?_
 refine hit ?_
 refine zaa ⟨40,[(4,.pt 24 0 0),(5,.I l.length),(6,.I 0)],[(24,some ⟨9,[tC s.g p s.acc s.f s.R],0⟩)],900⟩ rfl ?_ ?_
 ·simp [zar]
  exact LeH [(24,24)] []
 refine zag ?_
 exact zgh.mk (.inr rfl) (s.acc,s.f,s.R) hon (zak.out [] [24] rfl (by simp) (by simp) (by simp) (by simp))
def gU1:Gr:=⟨3,[⟨0,1,1⟩],[]⟩
def gU3:Gr:=⟨3,[⟨0,2,1⟩],[]⟩
def pU:Pol:=⟨[0],[3,1],1⟩
theorem zjj:GrOk gU1:=GrOk.of (by decide) (by decide) (by decide) (fun i h=>by simp at h) (by simp) (by decide)
theorem zs0:GrOk gU3:=GrOk.of (by decide) (by decide) (by decide) (fun i h=>by simp at h) (by simp) (by decide)
theorem ziW:zaY 3 pU:=by
 refine⟨by decide +revert,fun i h=>?_,by decide +revert,by decide +revert,by decide +revert,by decide +revert,fun i h=>?_⟩
 ·obtain rfl:i=0:=by simp [pU] at h; omega
  exact⟨by decide +revert,by decide +revert,fun h=>by cases h⟩
 ·have:i=0∨i=1:=by simp [pU] at h; omega
  rcases this with rfl | rfl
  ·exact⟨by decide +revert,by decide +revert,fun h=>by cases h⟩
  ·exact⟨by decide +revert,by decide +revert,fun h=>by decide +revert⟩
theorem zkG {g:Gr} {p:Pol} (hg:GrOk g) (hp:zaY g.size p) {ks f:List Int} (hr:∀ x∈ks,0≤x∧x<g.size) (hf:zaA (netN g) (netA g p ks) f) (hv:valF (netA g p ks) f=ks.length):zat g p ks:=by
 have h1:=zib (p:=p) hg hp hr
 have h2:=zto (zkd hg hp hr) (f:=f) hf
 rw [hv] at h2
 unfold zat
 omega
theorem zwA:accG gU1 pU=[0,1]:=by
 have c0:zat gU1 pU [0]:=zkG (f:=[1,0,0,1,0]) zjj ziW (by decide) (zqa (by decide)) (by decide)
 have c1:zat gU1 pU [0,1]:=zkG (f:=[2,1,0,1,1,1]) zjj ziW (by decide) (zqa (by decide)) (by decide)
 have ho:ordL (zam gU1 pU.lv) pU.seeds=[0,1]:=by decide
 have h0:accR gU1 pU [0]=[0]:=zbV (o:=[]) (k:=0) c0
 show accR gU1 pU (ordL (zam gU1 pU.lv) pU.seeds)=_
 rw [ho]
 have h:=zbV (g:=gU1) (p:=pU) (o:=[0]) (k:=1) (by rw [h0]; exact c1)
 rw [h0] at h
 exact h
theorem zxx:accG gU3 pU=[0,2]:=by
 have c0:zat gU3 pU [0]:=zkG (f:=[1,0,0,1,0]) zs0 ziW (by decide) (zqa (by decide)) (by decide)
 have c1:zat gU3 pU [0,2]:=zkG (f:=[2,1,0,1,1,1]) zs0 ziW (by decide) (zqa (by decide)) (by decide)
 have ho:ordL (zam gU3 pU.lv) pU.seeds=[0,2]:=by decide
 have h0:accR gU3 pU [0]=[0]:=zbV (o:=[]) (k:=0) c0
 show accR gU3 pU (ordL (zam gU3 pU.lv) pU.seeds)=_
 rw [ho]
 have h:=zbV (g:=gU3) (p:=pU) (o:=[0]) (k:=2) (by rw [h0]; exact c1)
 rw [h0] at h
 exact h
theorem zvD:accG gF pU=[0,1,2]:=by
 have c0:zat gF pU [0]:=zkG (f:=[1,0,0,0,1,0,0]) zmW ziW (by decide) (zqa (by decide)) (by decide)
 have c1:zat gF pU [0,1]:=zkG (f:=[2,1,0,0,1,1,1,0]) zmW ziW (by decide) (zqa (by decide)) (by decide)
 have c2:zat gF pU [0,1,2]:=zkG (f:=[3,2,0,0,1,1,1,1,1]) zmW ziW (by decide) (zqa (by decide)) (by decide)
 have ho:ordL (zam gF pU.lv) pU.seeds=[0,1,2]:=by decide
 have h0:accR gF pU [0]=[0]:=zbV (o:=[]) (k:=0) c0
 have h1:accR gF pU [0,1]=[0,1]:=by
  have h:=zbV (g:=gF) (p:=pU) (o:=[0]) (k:=1) (by rw [h0]; exact c1)
  rw [h0] at h
  exact h
 show accR gF pU (ordL (zam gF pU.lv) pU.seeds)=_
 rw [ho]
 have h:=zbV (g:=gF) (p:=pU) (o:=[0,1]) (k:=2) (by rw [h1]; exact c2)
 rw [h1] at h
 exact h
theorem zu2:zaw gU1 ⟨false,⟨0,2,1⟩⟩=(gF,0):=by
 have h:OkS gU1 ⟨false,⟨0,2,1⟩⟩:=by
  refine⟨by decide,by decide,?_⟩
  rintro⟨x,hx,h1,h2⟩
  have:x=⟨0,1,1⟩:=by simpa [gU1] using hx
  subst this
  simp at h2
 obtain⟨h1,h2⟩:=zpF zjj (by decide) h
 have h3:(zaw gU1 ⟨false,⟨0,2,1⟩⟩).1=gF:=zu0 h2.ok zmW h2.size h2.gone fun x=>by
  rw [h2.mem]; simp [gU1,gF]
  exact Or.comm
 exact Prod.ext h3 h1
theorem zuU:zaw gF ⟨true,⟨0,1,0⟩⟩=(gU3,0):=by
 have h:OkS gF ⟨true,⟨0,1,0⟩⟩:=⟨⟨0,1,1⟩,by simp [gF],rfl,rfl⟩
 obtain⟨h1,h2⟩:=zpF zmW (by decide) h
 have h3:(zaw gF ⟨true,⟨0,1,0⟩⟩).1=gU3:=zu0 h2.ok zs0 h2.size h2.gone fun x=>by
  rw [h2.mem]; simp [gU3,gF]
  constructor
  ·rintro⟨h | h,h4⟩
   ·subst h; simp at h4
   ·exact h
  ·intro h
   subst h
   exact⟨.inr rfl,by simp⟩
 exact Prod.ext h3 h1
set_option maxRecDepth 100000 in
theorem zmk:zai Tryz.prog zeK [] [] (.B true) []:=by
 obtain⟨f1,hf1,hst⟩:=ze3 gU1 pU zjj ziW (by decide)
 have hc1:=(zeF zjj ziW (by decide) hf1).1
 have hs1:(zaw gU1 ⟨false,⟨0,2,1⟩⟩).2=0:=by rw [zu2]
 obtain⟨f2,hf2,hap⟩:=zdS (s:=⟨false,⟨0,2,1⟩⟩) hc1 zjj ziW (by decide) (by have:=zhM zjj pU; omega) hs1
 rw [zu2] at hap hf2
 simp only at hap hf2
 have hT2:=zdI zmW ziW hf2
 have hc2:=(zeF zmW ziW (by decide) hf2).1
 have hrun:runS gF [⟨true,⟨0,1,0⟩⟩]=(gU3,1,0):=by
  rw [ztB (by rw [zuU]),zuU]
  rfl
 obtain⟨⟨acc3,f3,R3⟩,hon,hal⟩:=zji (l:=[⟨true,⟨0,1,0⟩⟩]) hc2 zmW ziW (by decide) hT2 (by decide)
 rw [hrun] at hon hal
 simp only at hon hal
 have hacc3:acc3=[0,2]:=by
  rcases hon with ⟨h,_⟩ | ⟨_,h,_⟩
  ·cases h
  ·rw [h,zxx]
 have hg1:ze8 (accG gF pU) (accG gU1 pU)=[2]:=by
  rw [zkA (zp1 _ _) (zsA zmW _),zwA,zvD]
  decide
 have hg2:ze8 (accG gU1 pU) (accG gF pU)=[]:=by
  rw [zkA (zp1 _ _) (zsA zjj _),zwA,zvD]
  decide
 obtain⟨G1,hG1⟩ : ∃ G1:List Int,G1=[2]:=⟨_,rfl⟩
 obtain⟨G0,hG0⟩ : ∃ G0:List Int,G0=[]:=⟨_,rfl⟩
 rw [hg1,hg2,← hG1,← hG0] at hap
 have hA2:=zvD
 generalize accG gU1 pU=A1 at *
 generalize accG gF pU=A2 at *
 generalize refG gU1 pU=R1 at *
 generalize refG gF pU=R2 at *
 refine zoY.acalls (nbz rfl) (nbz rfl) (Nat.le_refl _) ?_
 show awp _ 0 _ _ ⟨84,[],[],16⟩
 refine zaa ⟨84,[],[],60⟩ rfl ?_ ?_
 ·simp
  exact LeH [] []
 refine zaa ⟨84,[(1,.pv (gC gU1))],[],200⟩ rfl ?_ ?_
 ·simp [zar]
  exact Le.go [] [68,84] rfl rfl (by simp; exact .pv _ _ rfl fun i=>match i with | 0=>.refl _ | 1=>wkE rfl | 2=>.nil _ _ | _+3=>.refl _) (by simp)
 refine zaa ⟨84,[(2,.pv (tC gU1 pU A1 f1 R1)),(3,.I 0)],[],400⟩ rfl ?_ ?_
 ·simp
  refine zkE [208,216] (by simp) hst (by simp [gU1,pU]) ?_
  simp [zar]
  exact LeH [] [264]
 refine zaa ⟨84,[(3,.I 0),(4,.pv (tC gF pU A2 f2 R2)),(5,ints G1),(6,ints G0),(7,.I 0)],[],600⟩ rfl ?_ ?_
 ·simp
  refine zaj hap (by simp) ?_
  simp [zar]
  exact LeH [] [472]
 refine zaa ⟨84,[(3,.I 0),(4,.pv (tC gF pU A2 f2 R2)),(5,ints G1),(6,ints G0),(7,.I 0),(8,.pv (tC gU3 pU acc3 f3 R3)),(9,.I 1),(10,.I 0)],[],800⟩ rfl ?_ ?_
 ·simp
  refine zkE [624] (by simp) hal (by simp) ?_
  simp [zar]
  exact LeH [] [672]
 subst hacc3 hG1 hG0
 rw [hA2]
 refine zaa ⟨84,[(0,.B true)],[],1400⟩ rfl ?_ ?_
 ·simp
  exact LeH [] []
 refine zag ?_
 exact⟨.inr rfl,zak.one (by simp)⟩
section
variable {g:Gr} {p:Pol} {acc f f':List Int} {R:List (Int × List Int)} {e:Int}
end
section
variable {p:Pol} {g0:Gr} {acc0 f0:List Int} {R0:List (Int × List Int)} {n:Nat} {g:Gr} {acc f acc' f':List Int} {R R':List (Int × List Int)}
theorem OnW.same (h:OnW p g0 acc0 f0 R0 n g acc f R) (h':OnW p g0 acc0 f0 R0 n g acc' f' R'):acc=acc'∧R=R':=by
 rcases h with ⟨h0,h1,h2,h3,h4⟩ | ⟨h0,h1,h2,h3⟩ <;> rcases h' with ⟨k0,k1,k2,k3,k4⟩ | ⟨k0,k1,k2,k3⟩
 ·exact⟨h2.trans k2.symm,h4.trans k4.symm⟩
 ·omega
 ·omega
 ·exact⟨h1.trans k1.symm,h2.trans k2.symm⟩
theorem OnW.len (h:OnW p g0 acc0 f0 R0 n g acc f R) (hT:TLen g0 p acc0 f0 R0) (hg:GrOk g) (hp:zaY g.size p):TLen g p acc f R:=by
 rcases h with ⟨h0,h1,h2,h3,h4⟩ | ⟨h0,h1,h2,h3⟩
 ·rw [h1,h2,h3,h4]; exact hT
 ·rw [h1,h2]; exact zdI hg hp h3
end
@[simp] theorem zxS {P:Program} {np id:Nat} {h:Nat→Option Ent} {K:AV→List Nat→List (Nat × Option Ent)→Prop} {s s':Nat} {f:Bool} {rows:List (List AV)}:aK P np id (.slc s false true false) [.vs s' f rows,.sc (.int .i64 2)] h K=(2≤rows.length∧s'=s∧K (.vs s false (rows.take 2)) [] []):=zww (k:=2)
theorem zqQ (a b:List Int):(ze8 a b).length≤a.length:=by
 unfold ze8 srt
 rw [List.length_mergeSort]
 exact List.length_filter_le _ _
set_option maxRecDepth 100000 in
set_option maxHeartbeats 4000000 in
theorem zsa (L:List Int) (a:Nat) (g:Gr) (hl:L.length≤400) (ha:a≤L.length) (h0:0<g.size) (hn:g.size≤1000) :
  ∃ x:Pol × Nat,(zaY g.size x.1∧x.1.seeds.length≤2∧x.1.table.length≤4∧x.2≤L.length)∧zai Tryz.prog zdm [.pt 0 0 0,eG g] [dice L a] (.agg [.rs 1 0 x.1.seeds.length,ints x.1.table,.I x.1.lv]) [some (dice L x.2),some ⟨1,zah x.1.seeds,0⟩]:=by
 refine zi7.acallsX (args:=[.pt 0 0 0,eG g]) (hs:=[dice L a]) (fun x=>.agg [.rs 1 0 x.1.seeds.length,ints x.1.table,.I x.1.lv]) (fun x=>[some (dice L x.2),some ⟨1,zah x.1.seeds,0⟩]) (fun x:Pol × Nat=>zaY g.size x.1∧x.1.seeds.length≤2∧x.1.table.length≤4∧x.2≤L.length) (nbz rfl) (nbz rfl) (fun _=>by simp) ?_
 show awp _ 1 _ _ ⟨50,[(0,.pt 0 0 0),(1,eG g)],[(0,some (dice L a))],16⟩
 obtain⟨k1,b1,⟨hb1,hk1⟩,hc1⟩:=zoB L a g.size hl ha h0 (by omega)
 obtain⟨lv,b2,⟨hb2,hlv⟩,hc2⟩:=Of_a L b1 [1,1,2,3] hl hb1 (by simp) (by simp)
 have hlv':1≤lv∧lv≤3:=by simp at hlv; omega
 obtain⟨o,b3,hb3,hc3⟩:=zxh L b2 3 hl hb2 (by omega) (by omega)
 refine zaa ⟨50,[(0,.pt 0 0 0),(3,.pv (gC g)),(4,.pt 24 0 0)],[(0,some (dice L a)),(24,some ⟨3,[[.nilS,.nilS,.I 0]],0⟩)],32⟩ rfl ?_ ?_
 ·simp
  exact LeH [(0,0),(24,24)] [16]
 refine zaa ⟨50,[(0,.pt 0 0 0),(3,.pv (gC g)),(4,.pt 24 0 0),(5,.pt 104 0 0)],[(0,some (dice L b2)),(24,some ⟨3,[[.nilS,.nilS,.I 0]],0⟩),(104,some ⟨3,[[.rs 17 0 1,.nilS,.I lv]],0⟩),(17,some ⟨1,zah [(k1:Int)],0⟩)],120⟩ rfl ?_ ?_
 ·simp
  refine zbH (i:=0) rfl (e':=dice L a) (by simp) hc1 (by simp) (by simp) ?_
  simp
  refine zm9 (i:=0) (j:=80) (by decide) (by decide) rfl rfl (e':=dice L b1) (by simp) hc2 (by simp) (by simp) ?_
  simp
  exact LeH [(0,0),(24,24),(104,104),(64,17)] []
 refine zaL (ι:=List Int × Nat) (fun s=>⟨50,[(0,.pt 0 0 0),(4,.pt 24 0 0),(5,.pt 104 0 0)],[(0,some (dice L s.2)),(24,some ⟨3,[[.nilS,.nilS,.I 0]],0⟩),(104,some ⟨3,[[.rs 17 0 s.1.length,.nilS,.I lv]],0⟩),(17,some ⟨1,zah s.1,0⟩)],300⟩)
  (fun s=>s.2≤L.length∧s.1≠[]∧s.1.length≤2∧s.1.Pairwise (· < ·) ∧ ∀ k∈s.1,0≤k∧k<g.size) ?_ fun s hs=>?_
 ·refine zaa ⟨50,[(0,.pt 0 0 0),(3,.pv (gC g)),(4,.pt 24 0 0),(5,.pt 104 0 0),(18,.B o)],[(0,some (dice L b3)),(24,some ⟨3,[[.nilS,.nilS,.I 0]],0⟩),(104,some ⟨3,[[.rs 17 0 1,.nilS,.I lv]],0⟩),(17,some ⟨1,zah [(k1:Int)],0⟩)],136⟩ rfl ?_ ?_
  ·simp
   refine zbH (i:=0) rfl (e':=dice L b2) (by simp) hc3 (by simp) (by simp) ?_
   simp
   exact Le.keep rfl (Nat.le_refl _) (by simp) (by simp)
  cases o with
  | true =>
    refine zac _ rfl (fun _=>?_) fun h=>by cases h
    obtain⟨k2,b4,⟨hb4,hk2⟩,hc4⟩:=zoB L b3 g.size hl hb3 h0 (by omega)
    have hput:=zpf [(k1:Int)] k2 (by simp)
    obtain⟨S,hS⟩ : ∃ S,S=putL [(k1:Int)] k2:=⟨_,rfl⟩
    rw [← hS] at hput
    refine zbF rfl ?_
    simp
    refine zbH (i:=0) rfl (e':=dice L b3) (by simp) hc4 (by simp) (by simp) ?_
    simp
    refine zq5 (j:=17) (by decide) rfl hput (by simp) ?_
    simp [fcd]
    refine⟨rfl,S,b4,⟨hb4,?_,?_,?_,fun k hk=>?_⟩,LeI [(0,0),(24,24),(104,104),(184,17)] []⟩
    ·intro h
     have:(k1:Int)∈S:=by rw [hS]; exact znX.2 (.inl (by simp))
     rw [h] at this
     cases this
    ·rw [hS]; exact zuA _ _
    ·rw [hS]; exact zoE (by simp)
    ·rw [hS] at hk
     rcases znX.1 hk with h | h
     ·simp at h; omega
     ·omega
  | false =>
    refine zac _ rfl (fun h=>by cases h) fun _=>?_
    refine zae ?_
    exact⟨([(k1:Int)],b3),⟨hb3,by simp,by simp,by simp,by simp; omega⟩,LeH [(0,0),(24,24),(104,104),(17,17)] []⟩
 obtain⟨S,b4⟩:=s
 obtain⟨hb4,hS1,hS2,hS3,hS4⟩:=hs
 simp only at hb4 hS1 hS2 hS3 hS4
 obtain⟨v0,b5,⟨hb5,hv0⟩,hc5⟩:=Of_a L b4 [3,2,1,6,0] hl hb4 (by simp) (by simp)
 have hv0':0≤v0∧v0≤6:=by simp at hv0; omega
 have hwv:IntKind.i64.wrap (1+v0)=1+v0:=w64 (by omega) (by omega)
 obtain⟨n0,b6,⟨hb6,hn0⟩,hc6⟩:=zoB L b5 4 hl hb5 (by omega) (by omega)
 have hwn:IntKind.i64.wrap (1+(n0:Int))=((n0+1:Nat):Int):=by rw [w64 (by omega) (by omega)]; omega
 refine zaa ⟨50,[(0,.pt 0 0 0),(4,.pt 24 0 0),(5,.pt 104 0 0),(6,.I (1+v0))],[(0,some (dice L b5)),(24,some ⟨3,[[.nilS,.nilS,.I 0]],0⟩),(104,some ⟨3,[[.rs 17 0 S.length,.nilS,.I lv]],0⟩),(17,some ⟨1,zah S,0⟩)],400⟩ rfl ?_ ?_
 ·simp
  refine zm9 (i:=0) (j:=308) (by decide) (by decide) rfl rfl (e':=dice L b4) (by simp) hc5 (by simp) (by simp) ?_
  simp [hwv]
  exact LeI [(0,0),(24,24),(104,104),(17,17)] []
 refine zab ?_
 refine zaa ⟨50,[(0,.pt 0 0 0),(4,.pt 24 0 0),(5,.pt 104 0 0),(6,.I (1+v0)),(7,.I (n0+1:Nat))],[(0,some (dice L b6)),(24,some ⟨3,[[.nilS,.nilS,.I 0]],0⟩),(104,some ⟨3,[[.rs 17 0 S.length,.nilS,.I lv]],0⟩),(17,some ⟨1,zah S,0⟩)],432⟩ rfl ?_ ?_
 ·simp
  refine zbH (i:=0) rfl (e':=dice L b5) (by simp) hc6 (by simp) (by simp) ?_
  simp [hwn]
  exact LeI [(0,0),(24,24),(104,104),(17,17)] []
 refine zaf ?_
 refine zao (ι:=(List Int × Int) × (Nat × Nat)) (fun s=>⟨50,[(0,.pt 0 0 0),(4,.pt 24 0 0),(5,.pt 104 0 0),(6,.I s.1.2),(7,.I s.2.1)],[(0,some (dice L s.2.2)),(24,some ⟨3,[[.nilS,.nilS,.I 0]],0⟩),(104,some ⟨3,[[.rs 17 0 S.length,.rs 18 0 s.1.1.length,.I lv]],0⟩),(17,some ⟨1,zah S,0⟩),(18,some ⟨1,zah s.1.1,0⟩)],432⟩)
  (fun s=>s.1.1.length+s.2.1=n0+1∧TabL s.1.1∧(1≤s.1.2∧s.1.2≤7)∧(∀ x∈s.1.1,s.1.2≤x)∧s.2.2≤L.length) (fun s=>s.2.1) (([],1+v0),(n0+1,b6)) ⟨by simp,fun i h=>by simp at h,⟨by simp only; omega,by simp only; omega⟩,by simp,hb6⟩
  (Le.lst [(0,0),(24,24),(104,104),(17,17)] [] [(18,1)] rfl (by simp) (by simp) (by simp) (by simp) (by simp) (by simp) (by simp) (by simp [Up]) (by simp [fcd]; exact⟨zaI.rfl' (by simp),zaI.rfl' (by simp),zaI.row rfl (by omega) (by simp [UpL,Up]),zaI.rfl' (by simp)⟩)) ?_
 rintro⟨⟨T,v⟩,n,b⟩ ⟨hTn,hT,hv,hTv,hb⟩
 simp only at hTn hT hv hTv hb
 refine zab ?_
 refine rk (s:=?s7) [0,4,5,6,7,35] [0,24,104,17,18] rfl ?o7 ?q7
 case o7=>simp; rfl
 refine zac _ rfl (fun h8=>?_) fun h8=>?_
 ·simp at h8
  obtain⟨m,rfl⟩ : ∃ m,n=m+1:=⟨n - 1,by omega⟩
  have hwm:IntKind.i64.wrap (((m+1:Nat):Int) - 1)=(m:Int):=by rw [w64 (by omega) (by omega)]; omega
  have hwm2:IntKind.i64.wrap (m:Int)=(m:Int):=w64 (by omega) (by omega)
  obtain⟨d,b',⟨hb',hd⟩,hc7⟩:=zoB L b 3 hl hb (by omega) (by omega)
  have hwd:IntKind.i64.wrap (v - (d:Int))=v - (d:Int):=w64 (by omega) (by omega)
  have htl:∀ f:Int→List AV,List.take T.length (List.map f T)=List.map f T:=fun f=>List.take_of_length_le (by simp)
  refine zae ?_
  refine zab ?_
  refine zaf ?_
  refine zaa ⟨50,[(0,.pt 0 0 0),(4,.pt 24 0 0),(5,.pt 104 0 0),(6,.I v),(7,.I (m+1:Nat))],[(0,some (dice L b)),(24,some ⟨3,[[.nilS,.nilS,.I 0]],0⟩),(104,some ⟨3,[[.rs 17 0 S.length,.rs 18 0 (T++[v]).length,.I lv]],0⟩),(17,some ⟨1,zah S,0⟩),(18,some ⟨1,zah (T++[v]),0⟩)],512⟩ rfl ?_ ?_
  ·simp [htl]
   refine⟨by omega,by omega,?_⟩
   exact LeI [(0,0),(24,24),(104,104),(17,17),(480,18)] []
  refine zad (s:=?s9) rfl ?o9 ?q9
  case o9 =>
   simp
   refine zbH (i:=0) rfl (e':=dice L b) (by simp) hc7 (by simp) (by simp) ?_
   simp [hwd]
   rfl
  refine zad (s:=?s10) rfl ?o10 ?q10
  case o10=>simp; rfl
  refine⟨((T++[v],if 1<v - d then v - d else 1),(m,b')),⟨by simp only [List.length_append,List.length_singleton]; omega,zsM hT hv.1 (by omega) hTv,⟨by simp only; split <;> omega,by simp only; split <;> omega⟩,fun x hx=>?_,hb'⟩,by simp only; omega,Le.go [(0,0),(24,24),(104,104),(17,17),(18,18)] [] rfl rfl (by simp [hwm2]) (by simp [fcd])⟩
  have:v≤x:=by
   rcases List.mem_append.1 hx with h | h
   ·exact hTv x h
   ·rw [List.mem_singleton] at h; omega
  simp only
  split <;> omega
 simp at h8
 obtain rfl:n=0:=by omega
 refine zan ?_
 refine hit ?_
 refine rk (s:=?s11) [4] [0,24,17,18] rfl ?o11 ?q11
 case o11=>simp; rfl
 refine zag ?_
 refine zgh.mk (.inr rfl) (⟨S,T,lv⟩,b) ⟨⟨hS1,zgp hS3 hS4,by simp only; omega,by simp only; omega,hlv'.1,hlv'.2,hT⟩,hS2,by simp only; omega,hb⟩ ?_
 refine⟨_,rfl,[17],[18],by simp [List.range,List.range.loop],by simp,by simp,?_,?_⟩
 ·simp [List.range,List.range.loop,fcd,zal]
 ·simp [List.range,List.range.loop,fcd]
section
variable {g:Gr} {p:Pol} {acc f:List Int} {R:List (Int × List Int)} {s:GStp} {e:Int}
theorem zl5 (h:TLen g p acc f R):zai Tryz.prog zdp [eT g p acc f R] [] (.agg [.I g.size,eEs g.edges,ints g.gone,ints p.seeds,ints p.table,.I p.lv,.rs 0 0 acc.length,.rs 1 0 f.length,.rs 2 0 R.length]) [some ⟨1,zah acc,0⟩,some ⟨1,zah f,0⟩,some ⟨2,zaG R,0⟩]:=by
 have h1:=zc2 g (by have:=h.e; omega) (by have:=h.o; omega)
 have h2:=zhH p h.s h.t
 have h3:=zgu acc f R h.a h.f h.r h.d
 refine zkX.acalls (nbz rfl) (nbz rfl) (Nat.zero_le _) ?_
 show awp _ 0 _ _ ⟨13,[(0,eT g p acc f R)],[],16⟩
 refine zaa ⟨13,[(1,.pv (tC g p acc f R)),(2,.pt 24 0 0)],[(24,some ⟨9,[[.I 0,.nilS,.nilS,.nilS,.nilS,.I 0,.nilS,.nilS,.nilS]],0⟩)],100⟩ rfl ?_ ?_
 ·simp
  exact LeH [(24,24)] [16]
 refine zaq ⟨13,[(2,.pt 24 0 0)],[(24,some ⟨9,[[.I g.size,eEs g.edges,ints g.gone,ints p.seeds,ints p.table,.I p.lv,.rs 41 0 acc.length,.rs 42 0 f.length,.rs 43 0 R.length]],0⟩),(41,some ⟨1,zah acc,0⟩),(42,some ⟨1,zah f,0⟩),(43,some ⟨2,zaG R,0⟩)],300⟩ rfl ?_ ?_
 ·simp
  refine zi9 h1 (by simp) ?_
  simp
  refine zaj h2 (by simp) ?_
  simp
  refine ztT h3 (by simp) ?_
  simp [zar]
  exact⟨rfl,Le.go [(24,24),(164,41),(165,42),(166,43)] [116,117] rfl rfl (by simp) (by simp [fcd,zal])⟩
 refine zag ?_
 exact⟨.inr rfl,zak.out [41,42,43] [24] rfl (by simp) (by simp) (by simp) (by simp [fcd])⟩
theorem zko (hg:GrOk g) (hp:zaY g.size p):∃ f,zcH g p (zav (accG g p)) f ∧ ∀ acc R,acc=accG g p→R=refG g p→zai Tryz.prog zbR [eG g,eP p] [] (.tup [.agg [.I g.size,eEs g.edges,ints g.gone,ints p.seeds,ints p.table,.I p.lv,.rs 0 0 acc.length,.rs 1 0 f.length,.rs 2 0 R.length],.I 0]) [some ⟨1,zah acc,0⟩,some ⟨1,zah f,0⟩,some ⟨2,zaG R,0⟩]:=by
 obtain⟨⟨R,f⟩,⟨hR,hf⟩,hrun⟩:=zv4 g p hg hp (by have:=zgT hg hp; have:=hg.1.2.1; omega)
 have hR:=hR.eq
 simp only at hR hf hrun
 rw [hR] at hrun
 have hf:zcH g p (zav (accG g p)) f:=hf
 refine⟨f,hf,?_⟩
 intro acc R hacc hRR
 have hcp:=zl5 (zdI hg hp hf)
 have hrun:zai Tryz.prog zef [eG g,eP p] [] (.tup [eAcc (accG g p) f (refG g p),.I 0]) []:=hrun
 rw [← hacc,← hRR] at hcp hrun
 refine zgC.acalls (nbz rfl) (nbz rfl) (Nat.zero_le _) ?_
 show awp _ 0 _ _ ⟨23,[(0,eG g),(1,eP p)],[],16⟩
 refine zaa ⟨23,[(2,.pv (gC g)),(3,.pv (pC p)),(4,.pt 32 0 0)],[(32,some ⟨9,[[.I 0,.nilS,.nilS,.nilS,.nilS,.I 0,.nilS,.nilS,.nilS]],0⟩)],100⟩ rfl ?_ ?_
 ·simp
  exact LeH [(32,32)] [16,24]
 refine zaa ⟨23,[(2,.pv (gC g)),(3,.pv (pC p)),(4,.pt 32 0 0),(6,.pv [ints acc,ints f,.vs 2 false (zaG R)]),(7,.I 0)],[(32,some ⟨9,[[.I 0,.nilS,.nilS,.nilS,.nilS,.I 0,.nilS,.nilS,.nilS]],0⟩)],200⟩ rfl ?_ ?_
 ·simp
  refine zaj hrun (by simp) ?_
  simp
  exact LeH [(32,32)] [148]
 refine zab ?_
 refine zaa ⟨23,[(2,.pv (gC g)),(3,.pv (pC p)),(4,.pt 32 0 0),(6,.pv [ints acc,ints f,.vs 2 false (zaG R)]),(15,.B false)],[(32,some ⟨9,[[.I 0,.nilS,.nilS,.nilS,.nilS,.I 0,.nilS,.nilS,.nilS]],0⟩)],300⟩ rfl ?_ ?_
 ·simp
  exact LeH [(32,32)] []
 refine zac _ rfl (fun h=>by cases h) fun _=>?_
 refine zae ?_
 refine zaa ⟨23,[(4,.pt 32 0 0),(5,.I 0)],[(32,some ⟨9,[[.I g.size,eEs g.edges,ints g.gone,ints p.seeds,ints p.table,.I p.lv,.rs 41 0 acc.length,.rs 42 0 f.length,.rs 43 0 R.length]],0⟩),(41,some ⟨1,zah acc,0⟩),(42,some ⟨1,zah f,0⟩),(43,some ⟨2,zaG R,0⟩)],500⟩ rfl ?_ ?_
 ·simp
  refine ztT hcp (by simp) ?_
  simp [zar]
  exact LeI [(32,32),(332,41),(333,42),(334,43)] []
 refine zag ?_
 exact⟨.inr rfl,zak.out [41,42,43] [32] rfl (by simp) (by simp) (by simp) (by simp [fcd])⟩
theorem zn4 (hT:TLen g p acc f R) (hN:GrOk g→g.size<20) :
  (∃ e:Int,e≠0∧zai Tryz.prog zaM [eG g,eP p,eAcc acc f R] [] (.I e) []∧zai Tryz.prog zaX [eG g,eP p,eAcc acc f R] [] (.I e) []) ∨
  (GrOk g∧zaY g.size p∧acc.Nodup∧(∀ k∈acc,0≤k∧k<64)∧zai Tryz.prog zaM [eG g,eP p,eAcc acc f R] [] (.I 0) []∧zai Tryz.prog zaX [eG g,eP p,eAcc acc f R] [] (.I 0) []):=by
 obtain⟨te,to,ts,tt,ta,tf,tr,td⟩:=hT
 by_cases he:chkE g p=0
 ·obtain⟨hg,hp⟩:=zpq.1 he
  have h1:=zgT hg hp
  have h2:=hN hg
  have c1:=zgF g p acc f R hg hp (by omega) h2 ta tr (by omega) (fun r hr=>by have:=td r hr; omega)
  have c2:=zg9 g p acc f R hg hp (by omega) ta tr (by omega) (fun r hr=>by have:=td r hr; omega)
  by_cases h0:zf8 g p acc f R=0
  ·rw [h0] at c1 c2
   have hpt:za2 (ordL (zam g p.lv) p.seeds) acc (zaS R)=true:=by
    apply Classical.byContradiction
    intro hn
    unfold zf8 at h0
    rw [if_neg hn] at h0
    cases h0
   have hsub:=(zfb hpt).1
   exact .inr ⟨hg,hp,(zbf _ _).sublist hsub,fun k hk=>by have h3:=zb3 (hsub.subset hk); have h4:(zam g p.lv).size=g.size:=rfl; omega,c1,c2⟩
  ·exact .inl ⟨_,h0,c1,c2⟩
 ·exact .inl ⟨_,he,zjP acc f R he (by omega) (by omega) (by omega) (by omega),zkR acc f R he (by omega) (by omega) (by omega) (by omega)⟩
theorem zrK (hT:TLen g p acc f R) (hN:GrOk g→g.size<20) (s:GStp) :
  ∃ (g':Gr) (a' f1 f2 gi lo:List Int) (R':List (Int × List Int)) (x:Int),TLen g' p a' f1 R'∧gi.length≤1000∧lo.length≤1000 ∧
    zai Tryz.prog zbA [eT g p acc f R,eSt s] [] (.tup [eT g' p a' f1 R',ints gi,ints lo,.I x]) []∧zai Tryz.prog zb9 [eT g p acc f R,eSt s] [] (.tup [eT g' p a' f2 R',ints gi,ints lo,.I x]) []:=by
 rcases zn4 hT hN with ⟨e,he,c1,c2⟩ | ⟨hg,hp,hn,hr,c1,c2⟩
 ·exact⟨g,acc,f,f,[],[],R,1,hT,by simp,by simp,zfh c1 he,zfT hT c2 he⟩
 ·by_cases hs:(zaw g s).2=0
  ·obtain⟨f1,hf1,h1⟩:=zdS c1 hg hp (hN hg) hT.a hs
   obtain⟨f2,hf2,h2⟩:=zgy hT c2 hg hp hn hr hs
   obtain⟨k1,k2,_⟩:=zfd hg hs
   have hl:=zdI k1 (by rw [k2]; exact hp) hf1
   have g1:=zqQ (accG (zaw g s).1 p) acc
   have g2:=zqQ acc (accG (zaw g s).1 p)
   exact⟨_,_,f1,f2,_,_,_,0,hl,Nat.le_trans g1 hl.a,Nat.le_trans g2 hT.a,h1,h2⟩
  ·exact⟨g,acc,f,f,[],[],R,_,hT,by simp,by simp,zfN c1 hT.e hT.o hs,zfZ hT c2 hs⟩
theorem zj8 {l:List GStp} (hc:zai Tryz.prog zaM [eG g,eP p,eAcc acc f R] [] (.I e) []) (he:e≠0) (hl:(s::l).length≤1000):zai Tryz.prog zdj [eT g p acc f R,eSts (s::l)] [] (.tup [eT g p acc f R,.I 0,.I 1]) []:=by
 have hap:=zfh (s:=s) hc he
 refine zki.acalls (nbz rfl) (nbz rfl) (Nat.zero_le _) ?_
 show awp _ 0 _ _ ⟨38,[(0,eT g p acc f R),(1,eSts (s::l))],[],16⟩
 refine zaa ⟨38,[(1,eSts (s::l)),(2,.pt 16 0 0),(4,.pt 24 0 0)],[(16,some ⟨9,[tC g p acc f R],0⟩),(24,some ⟨9,[[.I 0,.nilS,.nilS,.nilS,.nilS,.I 0,.nilS,.nilS,.nilS]],0⟩)],100⟩ rfl ?_ ?_
 ·simp
  exact Le.go [(16,16),(24,24)] [] rfl rfl (by simp <;> exact wkE rfl) (by simp)
 refine zab ?_
 refine zaa ⟨38,[(2,.pt 16 0 0),(4,.pt 24 0 0),(13,eSts (s::l)),(14,.I ((s::l).length:Nat)),(15,.I 0)],[(16,some ⟨9,[tC g p acc f R],0⟩),(24,some ⟨9,[[.I 0,.nilS,.nilS,.nilS,.nilS,.I 0,.nilS,.nilS,.nilS]],0⟩)],200⟩ rfl ?_ ?_
 ·simp
  exact Le.go [(16,16),(24,24)] [] rfl rfl (by simp <;> exact wkE rfl) (by simp)
 refine zaf ?_
 refine zao (ι:=Unit) (fun _=>⟨38,[(2,.pt 16 0 0),(4,.pt 24 0 0),(13,eSts (s::l)),(14,.I ((s::l).length:Nat)),(15,.I 0)],[(16,some ⟨9,[tC g p acc f R],0⟩),(24,some ⟨9,[[.I 0,.nilS,.nilS,.nilS,.nilS,.I 0,.nilS,.nilS,.nilS]],0⟩)],300⟩) (fun _=>True) (fun _=>0) () trivial (Le.go [(16,16),(24,24)] [] rfl rfl (by simp <;> exact wkE rfl) (by simp)) ?_
 intro _ _
 have h0:decide ((0:Int)<((s::l).length:Nat))=true:=by simp <;> omega
 refine zaa ⟨38,[(2,.pt 16 0 0),(4,.pt 24 0 0),(13,eSts (s::l)),(15,.I 0),(16,.B true)],[(16,some ⟨9,[tC g p acc f R],0⟩),(24,some ⟨9,[[.I 0,.nilS,.nilS,.nilS,.nilS,.I 0,.nilS,.nilS,.nilS]],0⟩)],400⟩ rfl ?_ ?_
 ·simp
  exact Le.go [(16,16),(24,24)] [] rfl rfl (by simp <;> first | exact wkE rfl | (refine⟨wkE rfl,?_⟩; omega) | omega) (by simp)
 refine zab ?_
 refine zac _ rfl (fun _=>?_) fun h=>by cases h
 refine zae ?_
 refine zab ?_
 refine zaf ?_
 refine zaa ⟨38,[(2,.pt 16 0 0),(4,.pt 24 0 0),(7,.I 0),(8,.pv (stC s))],[(16,some ⟨9,[tC g p acc f R],0⟩),(24,some ⟨9,[[.I 0,.nilS,.nilS,.nilS,.nilS,.I 0,.nilS,.nilS,.nilS]],0⟩)],500⟩ rfl ?_ ?_
 ·simp [zar]
  exact LeH [(16,16),(24,24)] [424]
 refine zaa ⟨38,[(2,.pt 16 0 0),(4,.pt 24 0 0),(7,.I 0),(12,.I 1)],[(16,some ⟨9,[tC g p acc f R],0⟩),(24,some ⟨9,[[.I 0,.nilS,.nilS,.nilS,.nilS,.I 0,.nilS,.nilS,.nilS]],0⟩)],700⟩ rfl ?_ ?_
 ·simp
  refine zaj hap (by simp) ?_
  simp [zar]
  exact Le.go [(16,16),(24,24)] [] rfl rfl (by simp <;> exact wkE rfl) (by simp)
 refine zab ?_
 refine zaa ⟨38,[(2,.pt 16 0 0),(4,.pt 24 0 0),(7,.I 0),(12,.I 1),(29,.B true)],[(16,some ⟨9,[tC g p acc f R],0⟩),(24,some ⟨9,[[.I 0,.nilS,.nilS,.nilS,.nilS,.I 0,.nilS,.nilS,.nilS]],0⟩)],800⟩ rfl ?_ ?_
 ·simp
  exact Le.go [(16,16),(24,24)] [] rfl rfl (by simp <;> exact wkE rfl) (by simp)
 refine zac _ rfl (fun _=>?_) fun h=>by cases h
 refine zaa ⟨38,[(4,.pt 24 0 0),(5,.I 0),(6,.I 1)],[(24,some ⟨9,[tC g p acc f R],0⟩)],900⟩ rfl ?_ ?_
 ·simp [zar]
  exact LeH [(24,24)] []
 refine zag ?_
 exact⟨.inr rfl,zak.out [] [24] rfl (by simp) (by simp) (by simp) (by simp)⟩
theorem zlr {l:List GStp} (hT:TLen g p acc f R) (hc:zai Tryz.prog zaX [eG g,eP p,eAcc acc f R] [] (.I e) []) (he:e≠0) (hl:(s::l).length≤1000):zai Tryz.prog zfg [eT g p acc f R,eSts (s::l)] [] (.tup [eT g p acc f R,.I 0,.I 1]) []:=by
 have hap:=zfT (s:=s) hT hc he
 have hcp:=zch hT
 refine zmD.acalls (nbz rfl) (nbz rfl) (Nat.zero_le _) ?_
 show awp _ 0 _ _ ⟨40,[(0,eT g p acc f R),(1,eSts (s::l))],[],16⟩
 refine zaa ⟨40,[(1,eSts (s::l)),(2,.pt 16 0 0),(4,.pt 24 0 0)],[(16,some ⟨9,[tC g p acc f R],0⟩),(24,some ⟨9,[[.I 0,.nilS,.nilS,.nilS,.nilS,.I 0,.nilS,.nilS,.nilS]],0⟩)],100⟩ rfl ?_ ?_
 ·simp
  exact Le.go [(16,16),(24,24)] [] rfl rfl (by simp <;> exact wkE rfl) (by simp)
 refine zaa ⟨40,[(1,eSts (s::l)),(2,.pt 16 0 0),(4,.pt 24 0 0)],[(16,some ⟨9,[tC g p acc f R],0⟩),(24,some ⟨9,[[.I 0,.nilS,.nilS,.nilS,.nilS,.I 0,.nilS,.nilS,.nilS]],0⟩)],150⟩ rfl ?_ ?_
 ·simp
  refine zaj hcp (by simp) ?_
  simp [zar]
  exact Le.go [(16,16),(24,24)] [] rfl rfl (by simp <;> exact wkE rfl) (by simp)
 refine zab ?_
 refine zaa ⟨40,[(1,eSts (s::l)),(2,.pt 16 0 0),(4,.pt 24 0 0),(7,.I 0)],[(16,some ⟨9,[tC g p acc f R],0⟩),(24,some ⟨9,[[.I 0,.nilS,.nilS,.nilS,.nilS,.I 0,.nilS,.nilS,.nilS]],0⟩)],200⟩ rfl ?_ ?_
 ·simp
  exact Le.go [(16,16),(24,24)] [] rfl rfl (by simp <;> exact wkE rfl) (by simp)
 refine zaf ?_
 refine zao (ι:=Unit) (fun _=>⟨40,[(1,eSts (s::l)),(2,.pt 16 0 0),(4,.pt 24 0 0),(7,.I 0)],[(16,some ⟨9,[tC g p acc f R],0⟩),(24,some ⟨9,[[.I 0,.nilS,.nilS,.nilS,.nilS,.I 0,.nilS,.nilS,.nilS]],0⟩)],300⟩) (fun _=>True) (fun _=>0) () trivial (Le.go [(16,16),(24,24)] [] rfl rfl (by simp <;> exact wkE rfl) (by simp)) ?_
 intro _ _
 refine zab ?_
 refine zaa ⟨40,[(1,eSts (s::l)),(2,.pt 16 0 0),(4,.pt 24 0 0),(7,.I 0),(17,.B true)],[(16,some ⟨9,[tC g p acc f R],0⟩),(24,some ⟨9,[[.I 0,.nilS,.nilS,.nilS,.nilS,.I 0,.nilS,.nilS,.nilS]],0⟩)],400⟩ rfl ?_ ?_
 ·simp
  exact Le.go [(16,16),(24,24)] [] rfl rfl (by simp <;> first | exact wkE rfl | (refine⟨wkE rfl,?_⟩; omega) | omega) (by simp)
 refine zac _ rfl (fun _=>?_) fun h=>by cases h
 refine zae ?_
 refine zab ?_
 refine zaf ?_
 refine zaq ⟨40,[(2,.pt 16 0 0),(4,.pt 24 0 0),(7,.I 0),(11,.I 1)],[(16,some ⟨9,[tC g p acc f R],0⟩),(24,some ⟨9,[[.I 0,.nilS,.nilS,.nilS,.nilS,.I 0,.nilS,.nilS,.nilS]],0⟩)],700⟩ rfl ?_ ?_
 ·simp
  refine zaj hap (by simp) ?_
  simp [zar]
  exact⟨rfl,Le.go [(16,16),(24,24)] [] rfl rfl (by simp <;> exact wkE rfl) (by simp)⟩
 refine zab ?_
 refine zaa ⟨40,[(2,.pt 16 0 0),(4,.pt 24 0 0),(7,.I 0),(11,.I 1),(32,.B true)],[(16,some ⟨9,[tC g p acc f R],0⟩),(24,some ⟨9,[[.I 0,.nilS,.nilS,.nilS,.nilS,.I 0,.nilS,.nilS,.nilS]],0⟩)],800⟩ rfl ?_ ?_
 ·simp
  exact Le.go [(16,16),(24,24)] [] rfl rfl (by simp <;> exact wkE rfl) (by simp)
 refine zac _ rfl (fun _=>?_) fun h=>by cases h
 refine zaa ⟨40,[(4,.pt 24 0 0),(5,.I 0),(6,.I 1)],[(24,some ⟨9,[tC g p acc f R],0⟩)],900⟩ rfl ?_ ?_
 ·simp [zar]
  exact LeH [(24,24)] []
 refine zag ?_
 exact⟨.inr rfl,zak.out [] [24] rfl (by simp) (by simp) (by simp) (by simp)⟩
theorem zuN (hT:TLen g p acc f R) (hN:GrOk g→g.size<20) (s:GStp) (l:List GStp) (hl:(s::l).length≤1000) :
  ∃ (g1 g2:Gr) (a1 a2 f1 f2:List Int) (R1 R2:List (Int × List Int)) (n:Nat) (x:Int),
    zai Tryz.prog zdj [eT g p acc f R,eSts (s::l)] [] (.tup [eT g1 p a1 f1 R1,.I n,.I x]) []∧zai Tryz.prog zfg [eT g p acc f R,eSts (s::l)] [] (.tup [eT g2 p a2 f2 R2,.I n,.I x]) []:=by
 rcases zn4 hT hN with ⟨e,he,c1,c2⟩ | ⟨hg,hp,hn,hr,c1,c2⟩
 ·exact⟨g,g,acc,acc,f,f,R,R,0,1,zj8 c1 he hl,zlr hT c2 he hl⟩
 ·obtain⟨⟨a1,f1,R1⟩,_,h1⟩:=zji (l:=s::l) c1 hg hp (hN hg) hT hl
  obtain⟨⟨a2,f2,R2⟩,_,h2⟩:=zqC (l:=s::l) c2 hg hp (hN hg) hT hn hr hl
  exact⟨_,_,a1,a2,f1,f2,R1,R2,_,_,h1,h2⟩
theorem zrz (hN:GrOk g→g.size<20) (hl:g.edges.length≤1000000) (hl2:g.gone.length≤1000000) (hs:p.seeds.length≤1000000) (ht:p.table.length≤1000000) :
  ∃ (g1:Gr) (p1:Pol) (a1 f1 f2:List Int) (R1:List (Int × List Int)) (x:Int),zai Tryz.prog zbU [eG g,eP p] [] (.tup [eT g1 p1 a1 f1 R1,.I x]) []∧zai Tryz.prog zbR [eG g,eP p] [] (.tup [eT g1 p1 a1 f2 R1,.I x]) []:=by
 by_cases he:chkE g p=0
 ·obtain⟨hg,hp⟩:=zpq.1 he
  obtain⟨f1,_,h1⟩:=ze3 g p hg hp (hN hg)
  obtain⟨f2,_,h2⟩:=zio hg hp
  exact⟨_,_,_,_,_,_,_,h1,h2⟩
 ·exact⟨_,_,_,_,_,_,_,zjt he (by omega) (by omega) (by omega) (by omega),zkL he (by omega) (by omega) (by omega) (by omega)⟩
end
section
variable {P:Program} {np id:Nat} {h:Nat→Option Ent} {K:AV→List Nat→List (Nat × Option Ent)→Prop} {f:FuncId} {first capt args args':List AV} {res:AV}
theorem zvh (sn:List Nat) {e e2 e3:Ent} (hnp:∀ i∈sn,np≤i) (hc:zai P f args' [] res [some e,some e2,some e3]) (he:(first++args++capt).map (conv [] sn h 4)=args')
  (hk:K (conv (swp [] id) [] (fun _=>none) 4 res) sn ([(id,some (zax (swp [] id) [] (fun _=>none) 4 e)),(id+1,some (zax (swp [] id) [] (fun _=>none) 4 e2)),(id+2,some (zax (swp [] id) [] (fun _=>none) 4 e3))]++sn.filterMap fun i=>(h i).map fun e=>(i,some { e with ro:=e.rows.length }))):aK P np id .call (.fn (.func f) first capt::args) h K :=
 ⟨[],sn,true,args',[],res,[some e,some e2,some e3],by simp,by simp,fun _=>hnp,by rw [List.zipIdx_nil,he]; exact zbM _,rfl,hc,by simp,.inl rfl,hk⟩
end
theorem wkT9 {a b c d e f g h i a' b' c' d' e' f' g' h' i':AV} (h1:Wk a a') (h2:Wk b b') (h3:Wk c c') (h4:Wk d d') (h5:Wk e e') (h6:Wk f f') (h7:Wk g g') (h8:Wk h h') (h9:Wk i i'):Wk (.pv [a,b,c,d,e,f,g,h,i]) (.pv [a',b',c',d',e',f',g',h',i']) :=
 .pv _ _ rfl fun j=>match j with | 0=>h1 | 1=>h2 | 2=>h3 | 3=>h4 | 4=>h5 | 5=>h6 | 6=>h7 | 7=>h8 | 8=>h9 | _+9=>.refl _
structure ErS where
 g:Gr
 p:Pol
 acc:List Int
 f:List Int
 R:List (Int × List Int)
structure ErI (s:ErS):Prop where
 len:TLen s.g s.p s.acc s.f s.R
 sz:GrOk s.g→s.g.size<20
set_option maxRecDepth 100000 in
set_option maxHeartbeats 8000000 in
theorem zf9 (L:List Int) (n:Int):zai Tryz.prog zet [ints L,.I n] [] (.B true) []:=by
 refine zhp.acalls (nbz rfl) (nbz rfl) (Nat.le_refl _) ?_
 show awp _ 0 _ _ ⟨164,[(0,ints L),(1,.I n)],[],16⟩
 refine zaa ⟨164,[(0,ints L),(1,.I n)],[],60⟩ rfl ?_ ?_
 ·simp
  exact LeH [] []
 refine zab ?_
 refine rx (s:=?s2) [0,1,31] [] [] rfl ?o2 ?q2
 case o2=>simp; refine zaj (zuj L) (by simp) ?_; simp; rfl
 refine zac _ rfl (fun h3=>?_) fun h3=>?_
 ·refine rx (s:=?s4) [4] [] [] rfl ?o4 ?q4
  case o4=>simp; refine zaj zmk (by simp) ?_; simp; rfl
  refine zag ?_
  exact⟨.inr rfl,zak.one (by simp)⟩
 simp at h3
 obtain⟨g,b1,⟨hg,hg2,hg9,hb1⟩,hcg⟩:=zwJ L h3
 obtain⟨⟨p,b2⟩,⟨hp,hp2,hp3,hb2⟩,hcp⟩:=zsa L b1 g h3 hb1 (by omega) (by omega)
 simp only at hp hp2 hp3 hb2 hcp
 have hel:=hg.edges_le
 have hgl:=hg.gone_le
 obtain⟨f,hf,hst⟩:=zko hg hp
 have hT:=zdI hg hp hf
 have hal:=zhM hg p
 have hrl:=zq1 hg p
 have hfl:=zoM hg hp (fun x hx=>zj0 p x (zc3.1 hx).1) (by omega) (zbr _) hf
 have hrs:∀ r∈refG g p,r.2.length≤1000:=hT.d
 obtain⟨acc,hacc⟩ : ∃ acc,acc=accG g p:=⟨_,rfl⟩
 obtain⟨R,hR⟩ : ∃ R,R=refG g p:=⟨_,rfl⟩
 have hst:=hst acc R hacc hR
 rw [← hacc,← hR] at hT
 rw [← hacc] at hal
 rw [← hR] at hrl hrs
 clear hf hacc hR
 obtain⟨c,b3,⟨hb3,hc4⟩,hcn⟩:=zoB L b2 4 h3 hb2 (by omega) (by omega)
 refine zae ?_
 refine zaa ⟨164,[(1,.I n),(5,.pt 20 0 0)],[(20,some (dice L 0))],200⟩ rfl ?_ ?_
 ·simp
  refine za0 (zvq L) (by simp) ?_
  simp
  exact LeH [(92,20)] []
 refine zaa ⟨164,[(1,.I n),(5,.pt 20 0 0),(6,.pv (gC g))],[(20,some (dice L b1))],300⟩ rfl ?_ ?_
 ·simp
  refine zbH (i:=20) rfl (e':=dice L 0) (by simp) hcg (by simp) (by simp) ?_
  simp
  exact LeH [(20,20)] [216]
 refine zaa ⟨164,[(1,.I n),(5,.pt 20 0 0),(6,.pv (gC g)),(7,.pt 50 0 0)],[(20,some (dice L b2)),(50,some ⟨3,[[.rs 51 0 p.seeds.length,ints p.table,.I p.lv]],0⟩),(51,some ⟨1,zah p.seeds,0⟩)],400⟩ rfl ?_ ?_
 ·simp
  refine zbH (i:=20) rfl (e':=dice L b1) (by simp) hcp (by simp) (by simp) ?_
  simp [zar]
  exact LeI [(20,20),(324,50),(316,51)] []
 refine zaa ⟨164,[(1,.I n),(5,.pt 20 0 0),(6,.pv (gC g)),(7,.pt 50 0 0),(8,.pt 40 0 0)],[(20,some (dice L b2)),(50,some ⟨3,[[.rs 51 0 p.seeds.length,ints p.table,.I p.lv]],0⟩),(51,some ⟨1,zah p.seeds,p.seeds.length⟩),
   (40,some ⟨9,[[.I g.size,eEs g.edges,ints g.gone,ints p.seeds,ints p.table,.I p.lv,.rs 41 0 acc.length,.rs 42 0 f.length,.rs 43 0 R.length]],0⟩),(41,some ⟨1,zah acc,0⟩),(42,some ⟨1,zah f,0⟩),(43,some ⟨2,zaG R,0⟩)],500⟩ rfl ?_ ?_
 ·simp
  refine zvh [51] (by simp) hst (by simp [fcd,zal]) ?_
  simp [zar]
  exact LeI [(20,20),(50,50),(51,51),(448,40),(416,41),(417,42),(418,43)] []
 refine zaL (ι:=ErS) (fun q=>⟨164,[(1,.I n),(6,.pv (gC g)),(7,.pt 50 0 0),(8,.pv (tC q.g q.p q.acc q.f q.R))],[(50,some ⟨3,[[.rs 51 0 p.seeds.length,ints p.table,.I p.lv]],0⟩),(51,some ⟨1,zah p.seeds,p.seeds.length⟩)],2000⟩) ErI ?_ ?_
 ·refine zaa ⟨164,[(1,.I n),(6,.pv (gC g)),(7,.pt 50 0 0),(8,.pt 40 0 0),(47,.I c)],[(50,some ⟨3,[[.rs 51 0 p.seeds.length,ints p.table,.I p.lv]],0⟩),(51,some ⟨1,zah p.seeds,p.seeds.length⟩),
   (40,some ⟨9,[[.I g.size,eEs g.edges,ints g.gone,ints p.seeds,ints p.table,.I p.lv,.rs 41 0 acc.length,.rs 42 0 f.length,.rs 43 0 R.length]],0⟩),(41,some ⟨1,zah acc,0⟩),(42,some ⟨1,zah f,0⟩),(43,some ⟨2,zaG R,0⟩)],600⟩ rfl ?_ ?_
  ·simp
   refine zbH (i:=20) rfl (e':=dice L b2) (by simp) hcn (by simp) (by simp) ?_
   simp
   exact LeI [(50,50),(51,51),(40,40),(41,41),(42,42),(43,43)] []
  refine zaf ?_
  have hta:∀ h:Int→List AV,List.take acc.length (List.map h acc)=List.map h acc:=fun h=>List.take_of_length_le (by simp)
  have htf:∀ h:Int→List AV,List.take f.length (List.map h f)=List.map h f:=fun h=>List.take_of_length_le (by simp)
  have hta2:∀ (h:Int→List AV) (u:List AV),List.take (acc.length+1) (List.map h acc++[u])=List.map h acc++[u]:=fun h u=>List.take_of_length_le (by simp)
  have htf2:∀ (h:Int→List AV) (u:List AV),List.take (f.length+1) (List.map h f++[u])=List.map h f++[u]:=fun h u=>List.take_of_length_le (by simp)
  have hc8:c=0∨c=1∨c=2∨c=3:=by omega
  rcases hc8 with rfl | rfl | rfl | rfl
  ·refine rk (s:=?c0) [1,6,7,8,47,50] [50,51,40,41,42,43] rfl ?oc0 ?qc0
   case oc0=>simp; rfl
   refine zac _ rfl (fun _=>?_) fun h=>by cases h
   refine zas rfl ?_
   simp [zar,htf]
   exact⟨by omega,by omega,⟨g,p,acc,f++[1],R⟩,⟨⟨hT.e,hT.o,hT.s,hT.t,hT.a,by simp only [List.length_append,List.length_singleton]; omega,hT.r,hT.d⟩,fun _=>by simp only; omega⟩,Le.go [(50,50),(51,51)] [40,41,648,43] rfl rfl (by simp [fcd,zal,htf2]; exact wkT9 (.refl _) (.refl _) (.refl _) (.refl _) (.refl _) (.refl _) (.refl _) (wkE (by show _=AV.vs 1 false ((f++[1]).map fun n=>[AV.I n]); rw [List.map_append]; rfl)) (.refl _)) (by simp [fcd])⟩
  ·refine rk (s:=?c1) [1,6,7,8,47,50] [50,51,40,41,42,43] rfl ?oc1 ?qc1
   case oc1=>simp; rfl
   refine zac _ rfl (fun h=>by cases h) fun _=>?_
   refine rk (s:=?c1b) [1,6,7,8,47,59] [50,51,40,41,42,43] rfl ?oc1b ?qc1b
   case oc1b=>simp; rfl
   refine zac _ rfl (fun _=>?_) fun h=>by cases h
   refine zas rfl ?_
   simp [zar,hta]
   exact⟨by omega,by omega,⟨g,p,acc++[n],f,R⟩,⟨⟨hT.e,hT.o,hT.s,hT.t,by simp only [List.length_append,List.length_singleton]; omega,hT.f,hT.r,hT.d⟩,fun _=>by simp only; omega⟩,Le.go [(50,50),(51,51)] [40,672,42,43] rfl rfl (by simp [fcd,zal,hta2]; exact wkT9 (.refl _) (.refl _) (.refl _) (.refl _) (.refl _) (.refl _) (wkE (by show _=AV.vs 1 false ((acc++[n]).map fun n=>[AV.I n]); rw [List.map_append]; rfl)) (.refl _) (.refl _)) (by simp [fcd])⟩
  ·refine rk (s:=?c2) [1,6,7,8,47,50] [50,51,40,41,42,43] rfl ?oc2 ?qc2
   case oc2=>simp; rfl
   refine zac _ rfl (fun h=>by cases h) fun _=>?_
   refine rk (s:=?c2b) [1,6,7,8,47,59] [50,51,40,41,42,43] rfl ?oc2b ?qc2b
   case oc2b=>simp; rfl
   refine zac _ rfl (fun h=>by cases h) fun _=>?_
   refine rk (s:=?c2c) [1,6,7,8,47,69] [50,51,40,41,42,43] rfl ?oc2c ?qc2c
   case oc2c=>simp; rfl
   refine zac _ rfl (fun _=>?_) fun h=>by cases h
   refine zas rfl ?_
   simp [zar]
   exact⟨⟨g,{ p with lv:=n },acc,f,R⟩,⟨⟨hT.e,hT.o,hT.s,hT.t,hT.a,hT.f,hT.r,hT.d⟩,fun _=>by simp only; omega⟩,Le.go [(50,50),(51,51)] [40,41,42,43] rfl rfl (by simp [fcd,zal]) (by simp [fcd])⟩
  ·refine rk (s:=?c3) [1,6,7,8,47,50] [50,51,40,41,42,43] rfl ?oc3 ?qc3
   case oc3=>simp; rfl
   refine zac _ rfl (fun h=>by cases h) fun _=>?_
   refine rk (s:=?c3b) [1,6,7,8,47,59] [50,51,40,41,42,43] rfl ?oc3b ?qc3b
   case oc3b=>simp; rfl
   refine zac _ rfl (fun h=>by cases h) fun _=>?_
   refine rk (s:=?c3c) [1,6,7,8,47,69] [50,51,40,41,42,43] rfl ?oc3c ?qc3c
   case oc3c=>simp; rfl
   refine zac _ rfl (fun h=>by cases h) fun _=>?_
   refine zas rfl ?_
   simp [zar]
   exact⟨⟨{ g with size:=70 },p,acc,f,R⟩,⟨⟨hT.e,hT.o,hT.s,hT.t,hT.a,hT.f,hT.r,hT.d⟩,fun h=>by have:=h.1.2.1; simp only at this; omega⟩,Le.go [(50,50),(51,51)] [40,41,42,43] rfl rfl (by simp [fcd,zal]) (by simp [fcd])⟩
 rintro⟨g1,p1,a1,f1,R1⟩ ⟨hT1,hN1⟩
 simp only at hT1 hN1
 obtain⟨g2,a2,fa,fb,gi,lo,R2,x2,hT2,hgi,hlo,hap,hap'⟩:=zrK hT1 hN1 ⟨false,⟨0,1,1⟩⟩
 obtain⟨g3,g4,a3,a4,f3,f4,R3,R4,n3,x3,hal3,hal4⟩:=zuN hT1 hN1 ⟨false,⟨0,1,1⟩⟩ [⟨false,⟨0,1,1⟩⟩] (by simp)
 obtain⟨p',hp'⟩ : ∃ p':Pol,p'=⟨p.seeds++[n],p.table,p.lv⟩:=⟨_,rfl⟩
 obtain⟨g5,p5,a5,f5,f6,R5,x5,hs5,hs6⟩:=zrz (g:=g) (p:=p') (fun _=>by omega) (by omega) (by omega) (by rw [hp']; simp only [List.length_append,List.length_singleton]; omega) (by rw [hp']; simp only; omega)
 have hlike:=zpN (acc:=a2) (f:=fa) (f':=fb) hT2.e hT2.o hT2.s hT2.t (by have:=hT2.a; omega) hT2.r (fun r hr=>by have:=hT2.d r hr; omega)
 have hsi1:=zcD gi gi (by omega)
 rw [decide_eq_true rfl] at hsi1
 have hsi2:=zcD lo lo (by omega)
 rw [decide_eq_true rfl] at hsi2
 have hts:∀ h:Int→List AV,List.take p.seeds.length (List.map h p.seeds)=List.map h p.seeds:=fun h=>List.take_of_length_le (by simp)
 have hts2:∀ (h:Int→List AV) (u:List AV),List.take (p.seeds.length+1) (List.map h p.seeds++[u])=List.map h p.seeds++[u]:=fun h u=>List.take_of_length_le (by simp)
 refine zaa ⟨164,[(1,.I n),(6,.pv (gC g)),(7,.pt 50 0 0),(8,.pv (tC g1 p1 a1 f1 R1)),(10,.pv (stC ⟨false,⟨0,1,1⟩⟩))],[(50,some ⟨3,[[.rs 51 0 p.seeds.length,ints p.table,.I p.lv]],0⟩),(51,some ⟨1,zah p.seeds,p.seeds.length⟩)],2100⟩ rfl ?_ ?_
 ·simp [zar]
  exact LeI [(50,50),(51,51)] [2016]
 refine zaa ⟨164,[(1,.I n),(6,.pv (gC g)),(7,.pt 50 0 0),(8,.pv (tC g1 p1 a1 f1 R1)),(10,.pv (stC ⟨false,⟨0,1,1⟩⟩)),(11,.pv (tC g2 p1 a2 fa R2)),(12,ints gi),(13,ints lo),(14,.I x2)],[(50,some ⟨3,[[.rs 51 0 p.seeds.length,ints p.table,.I p.lv]],0⟩),(51,some ⟨1,zah p.seeds,p.seeds.length⟩)],2300⟩ rfl ?_ ?_
 ·simp
  refine zaj hap (by simp) ?_
  simp [zar]
  exact LeI [(50,50),(51,51)] [2164]
 refine zaa ⟨164,[(1,.I n),(6,.pv (gC g)),(7,.pt 50 0 0),(8,.pv (tC g1 p1 a1 f1 R1)),(10,.pv (stC ⟨false,⟨0,1,1⟩⟩)),(11,.pv (tC g2 p1 a2 fa R2)),(12,ints gi),(13,ints lo),(14,.I x2),(15,.pv (tC g2 p1 a2 fb R2)),(16,ints gi),(17,ints lo),(18,.I x2)],[(50,some ⟨3,[[.rs 51 0 p.seeds.length,ints p.table,.I p.lv]],0⟩),(51,some ⟨1,zah p.seeds,p.seeds.length⟩)],2500⟩ rfl ?_ ?_
 ·simp
  refine zaj hap' (by simp) ?_
  simp [zar]
  exact LeI [(50,50),(51,51)] [2364]
 refine zaa ⟨164,[(1,.I n),(6,.pv (gC g)),(7,.pt 50 0 0),(8,.pv (tC g1 p1 a1 f1 R1)),(10,.pv (stC ⟨false,⟨0,1,1⟩⟩)),(11,.pv (tC g2 p1 a2 fa R2)),(12,ints gi),(13,ints lo),(14,.I x2),(15,.pv (tC g2 p1 a2 fb R2)),(16,ints gi),(17,ints lo),(18,.I x2),(20,.I n3),(21,.I x3)],[(50,some ⟨3,[[.rs 51 0 p.seeds.length,ints p.table,.I p.lv]],0⟩),(51,some ⟨1,zah p.seeds,p.seeds.length⟩)],2700⟩ rfl ?_ ?_
 ·simp
  refine zkE [2524] (by simp) hal3 (by simp) ?_
  simp [zar]
  exact LeI [(50,50),(51,51)] []
 refine zaa ⟨164,[(1,.I n),(6,.pv (gC g)),(7,.pt 50 0 0),(11,.pv (tC g2 p1 a2 fa R2)),(12,ints gi),(13,ints lo),(14,.I x2),(15,.pv (tC g2 p1 a2 fb R2)),(16,ints gi),(17,ints lo),(18,.I x2),(20,.I n3),(21,.I x3),(23,.I n3),(24,.I x3)],[(50,some ⟨3,[[.rs 51 0 p.seeds.length,ints p.table,.I p.lv]],0⟩),(51,some ⟨1,zah p.seeds,p.seeds.length⟩)],2900⟩ rfl ?_ ?_
 ·simp
  refine zkE [2724] (by simp) hal4 (by simp) ?_
  simp [zar]
  exact LeI [(50,50),(51,51)] []
 refine zaa ⟨164,[(6,.pv (gC g)),(7,.pv (pC p')),(11,.pv (tC g2 p1 a2 fa R2)),(12,ints gi),(13,ints lo),(14,.I x2),(15,.pv (tC g2 p1 a2 fb R2)),(16,ints gi),(17,ints lo),(18,.I x2),(20,.I n3),(21,.I x3),(23,.I n3),(24,.I x3)],[],3100⟩ rfl ?_ ?_
 ·simp [zar,hts]
  refine⟨by omega,by omega,?_⟩
  exact Le.go [] [50,2932] rfl rfl (by simp [hts2,fcd,hp']; exact .pv _ _ rfl fun i=>match i with | 0=>wkE (by show _=AV.vs 1 false ((p.seeds++[n]).map fun n=>[AV.I n]); rw [List.map_append]; rfl) | 1=>.refl _ | 2=>.refl _ | _+3=>.refl _) (by simp)
 refine zaa ⟨164,[(6,.pv (gC g)),(7,.pv (pC p')),(11,.pv (tC g2 p1 a2 fa R2)),(12,ints gi),(13,ints lo),(14,.I x2),(15,.pv (tC g2 p1 a2 fb R2)),(16,ints gi),(17,ints lo),(18,.I x2),(20,.I n3),(21,.I x3),(23,.I n3),(24,.I x3),(26,.I x5)],[],3300⟩ rfl ?_ ?_
 ·simp
  refine zaj hs5 (by simp) ?_
  simp [zar]
  exact LeH [] []
 refine zaa ⟨164,[(11,.pv (tC g2 p1 a2 fa R2)),(12,ints gi),(13,ints lo),(14,.I x2),(15,.pv (tC g2 p1 a2 fb R2)),(16,ints gi),(17,ints lo),(18,.I x2),(20,.I n3),(21,.I x3),(23,.I n3),(24,.I x3),(26,.I x5),(28,.I x5)],[],3500⟩ rfl ?_ ?_
 ·simp
  refine zaj hs6 (by simp) ?_
  simp [zar]
  exact LeH [] []
 refine zaa ⟨164,[(4,.B true)],[],4000⟩ rfl ?_ ?_
 ·simp
  refine zaj zmk (by simp) ?_
  simp
  refine zaj hlike (by simp) ?_
  simp
  refine zaj hsi1 (by simp) ?_
  simp
  refine zaj hsi2 (by simp) ?_
  simp
  exact LeH [] []
 refine zag ?_
 exact⟨.inr rfl,zak.one (by simp)⟩
end Go.Proofs.YthmaflecfppoiaaGreat
