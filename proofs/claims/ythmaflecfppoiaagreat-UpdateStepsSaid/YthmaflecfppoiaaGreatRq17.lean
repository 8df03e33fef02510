/- Texts of this claim,merged. -/
import Derived.Test.YthmaflecfppoiaaGreatRq16
import Derived.Test.YthmaflecfppoiaaGreatRq13
import Derived.Test.YthmaflecfppoiaaGreatRq15
import Derived.Test.YthmaflecfppoiaaGreatRq12
import Derived.Test.YthmaflecfppoiaaGreatRq9
import Derived.Test.YthmaflecfppoiaaGreatRq6
set_option linter.unusedSimpArgs false
set_option linter.unusedVariables false
set_option linter.unusedSectionVars false
namespace Go.Proofs.YthmaflecfppoiaaGreat
open Go
structure AlS where
 i : Nat
 g : Gr
 acc : List Int
 f : List Int
 R : List (Int × List Int)
def OnW (p : Pol) (g0 : Gr) (acc0 f0 : List Int) (R0 : List (Int × List Int)) (n : Nat) (g : Gr) (acc f : List Int) (R : List (Int × List Int)) : Prop :=
 (n=0∧g=g0∧acc=acc0∧f=f0∧R=R0)∨(0<n∧acc=accG g p∧R=refG g p∧zdP g p (zau (accG g p)) f)
structure AlI (p : Pol) (g0 : Gr) (acc0 f0 : List Int) (R0 : List (Int × List Int)) (l : List GStp) (s : AlS) : Prop where
 le : s.i≤l.length
 ok : GrOk s.g
 pol : za3 s.g.size p
 sz : s.g.size<20
 on : OnW p g0 acc0 f0 R0 s.i s.g s.acc s.f s.R
 run : runS g0 l=((runS s.g (l.drop s.i)).1,(runS s.g (l.drop s.i)).2.1+s.i,(runS s.g (l.drop s.i)).2.2)
variable {p : Pol} {g0 : Gr} {acc0 f0 : List Int} {R0 : List (Int × List Int)} {l : List GStp} {s : AlS}
theorem zeU {g : Gr} {f : List Int} (hg : GrOk g) (hp : za3 g.size p) (hN : g.size<20) (hf : zdP g p (zau (accG g p)) f) :
  zai Tryz.prog zbf [eG g,eP p,eAcc (accG g p) f (refG g p)] [] (.I 0) []∧zai Tryz.prog zdK [eG g,eP p,eAcc (accG g p) f (refG g p)] [] (.I 0) []:=by
 have hT:=zez hg hp hf
 have hs:=zkc hg hp
 have h1:=zkf g p (accG g p) f (refG g p) hg hp (by omega) hN hT.a hT.r (by have:=hT.f; omega) (fun r hr=>by have:=hT.d r hr; omega)
 have h2:=zl8 g p (accG g p) f (refG g p) hg hp (by omega) hT.a hT.r (by have:=hT.f; omega) (fun r hr=>by have:=hT.d r hr; omega)
 rw [show zif g p (accG g p) f (refG g p)=0 from zpd hg hp (by omega) hf] at h1 h2
 exact ⟨h1,h2⟩
theorem AlI.start (hg : GrOk g0) (hp : za3 g0.size p) (hN : g0.size<20) : AlI p g0 acc0 f0 R0 l ⟨0,g0,acc0,f0,R0⟩ :=
 ⟨Nat.zero_le _,hg,hp,hN,.inl ⟨rfl,rfl,rfl,rfl,rfl⟩,by simp⟩
theorem AlI.len (h : AlI p g0 acc0 f0 R0 l s) (hT : TLen g0 p acc0 f0 R0) : TLen s.g p s.acc s.f s.R:=by
 rcases h.on with ⟨_,h1,h2,h3,h4⟩ | ⟨_,h1,h2,h3⟩
 ·rw [h1,h2,h3,h4]; exact hT
 ·rw [h1,h2]; exact zez h.ok h.pol h3
theorem AlI.chk (h : AlI p g0 acc0 f0 R0 l s) (hc : zai Tryz.prog zbf [eG g0,eP p,eAcc acc0 f0 R0] [] (.I 0) []) : zai Tryz.prog zbf [eG s.g,eP p,eAcc s.acc s.f s.R] [] (.I 0) []:=by
 rcases h.on with ⟨_,h1,h2,h3,h4⟩ | ⟨_,h1,h2,h3⟩
 ·rw [h1,h2,h3,h4]; exact hc
 ·rw [h1,h2]; exact (zeU h.ok h.pol h.sz h3).1
theorem zts (g : Gr) (p : Pol) : (accG g p).Nodup:=(zbr _ _).sublist (zeS _ _ rfl)
theorem zvh {g : Gr} (hg : GrOk g) (p : Pol) : ∀ k∈accG g p,0≤k∧k<64:=fun k hk=>by have h1:=zrc p k hk; have h2:=hg.1.2.1; omega
theorem AlI.next (h : AlI p g0 acc0 f0 R0 l s) (hi : s.i<l.length) (hs : (zaD s.g l[s.i]).2=0) {f' : List Int} (hf : zdP (zaD s.g l[s.i]).1 p (zau (accG (zaD s.g l[s.i]).1 p)) f') :
  AlI p g0 acc0 f0 R0 l ⟨s.i+1,(zaD s.g l[s.i]).1,accG (zaD s.g l[s.i]).1 p,f',refG (zaD s.g l[s.i]).1 p⟩:=by
 obtain ⟨k1,k2,k3,k4⟩:=zgK h.ok hs
 refine ⟨hi,k1,by simp only; rw [k2]; exact h.pol,by simp only; rw [k2]; exact h.sz,.inr ⟨Nat.succ_pos _,rfl,rfl,hf⟩,?_⟩
 have h1:=h.run
 rw [List.drop_eq_getElem_cons hi,zm8 hs] at h1
 rw [h1]
 simp only
 refine Prod.ext rfl (Prod.ext ?_ rfl)
 simp only
 omega
theorem AlI.stop (h : AlI p g0 acc0 f0 R0 l s) (hi : s.i<l.length) (hs : (zaD s.g l[s.i]).2≠0) : runS g0 l=(s.g,s.i,(zaD s.g l[s.i]).2):=by
 have h1:=h.run
 rw [List.drop_eq_getElem_cons hi,zv1 hs] at h1
 rw [h1]
 simp
theorem AlI.done (h : AlI p g0 acc0 f0 R0 l s) (hi : s.i=l.length) : runS g0 l=(s.g,l.length,0):=by
 have h1:=h.run
 rw [hi,List.drop_length] at h1
 rw [h1]
 simp [runS]
set_option maxRecDepth 100000 in
theorem zjg (hc : zai Tryz.prog zbf [eG g0,eP p,eAcc acc0 f0 R0] [] (.I 0) []) (hg : GrOk g0) (hp : za3 g0.size p) (hN : g0.size<20) (hT : TLen g0 p acc0 f0 R0) (hl : l.length≤1000) :
  ∃ x : List Int × List Int × List (Int × List Int),OnW p g0 acc0 f0 R0 (runS g0 l).2.1 (runS g0 l).1 x.1 x.2.1 x.2.2∧zai Tryz.prog zfn [eT g0 p acc0 f0 R0,eSts l] [] (.tup [eT (runS g0 l).1 p x.1 x.2.1 x.2.2,.I (runS g0 l).2.1,.I (runS g0 l).2.2]) []:=by
 obtain ⟨⟨gF,n,e⟩,hrr⟩ : ∃ rr,rr=runS g0 l:=⟨_,rfl⟩
 rw [← hrr]
 refine zqE.acallsX (args:=[eT g0 p acc0 f0 R0,eSts l]) (hs:=[]) (fun x=>.tup [eT gF p x.1 x.2.1 x.2.2,.I n,.I e]) (fun _=>[]) (fun x : List Int × List Int × List (Int × List Int)=>OnW p g0 acc0 f0 R0 n gF x.1 x.2.1 x.2.2) (nbz rfl) (nbz rfl) (fun _=>Nat.zero_le _) ?_
 show awp _ 0 _ _ ⟨38,[(0,eT g0 p acc0 f0 R0),(1,eSts l)],[],16⟩
 refine zaa ⟨38,[(1,eSts l),(2,.pt 16 0 0),(4,.pt 24 0 0)],[(16,some ⟨9,[tC g0 p acc0 f0 R0],0⟩),(24,some ⟨9,[[.I 0,.nilS,.nilS,.nilS,.nilS,.I 0,.nilS,.nilS,.nilS]],0⟩)],100⟩ rfl ?_ ?_
 ·simp
  exact LeH [(16,16),(24,24)] []
 refine zab ?_
 refine zaa ⟨38,[(1,eSts l),(2,.pt 16 0 0),(4,.pt 24 0 0),(13,eSts l),(14,.I l.length),(15,.I 0)],[(16,some ⟨9,[tC g0 p acc0 f0 R0],0⟩),(24,some ⟨9,[[.I 0,.nilS,.nilS,.nilS,.nilS,.I 0,.nilS,.nilS,.nilS]],0⟩)],200⟩ rfl ?_ ?_
 ·simp
  exact LeH [(16,16),(24,24)] []
 refine zaf ?_
 refine zan (ι:=AlS) (fun s=>⟨38,[(1,eSts l),(2,.pt 16 0 0),(4,.pt 24 0 0),(13,eSts l),(14,.I l.length),(15,.I s.i)],[(16,some ⟨9,[tC s.g p s.acc s.f s.R],0⟩),(24,some ⟨9,[[.I 0,.nilS,.nilS,.nilS,.nilS,.I 0,.nilS,.nilS,.nilS]],0⟩)],300⟩) (AlI p g0 acc0 f0 R0 l) (fun s=>l.length - s.i) ⟨0,g0,acc0,f0,R0⟩ (AlI.start hg hp hN) (LeH [(16,16),(24,24)] []) ?_
 intro s hI
 have hi:=hI.le
 have hT':=hI.len hT
 have hc':=hI.chk hc
 refine zaa ⟨38,[(1,eSts l),(2,.pt 16 0 0),(4,.pt 24 0 0),(13,eSts l),(14,.I l.length),(15,.I s.i),(16,.B (decide (s.i<l.length)))],[(16,some ⟨9,[tC s.g p s.acc s.f s.R],0⟩),(24,some ⟨9,[[.I 0,.nilS,.nilS,.nilS,.nilS,.I 0,.nilS,.nilS,.nilS]],0⟩)],400⟩ rfl ?_ ?_
 ·simp
  exact LeH [(16,16),(24,24)] []
 refine zab ?_
 refine zac _ rfl (fun h5=>?_) fun h5=>?_
 ·rw [decide_eq_true_eq] at h5
  have hw1 : IntKind.i64.wrap ((s.i : Int)+1)=(s.i : Int)+1:=w64 (by omega) (by omega)
  refine zad ?_
  refine zab ?_
  refine zaf ?_
  refine zaa ⟨38,[(1,eSts l),(2,.pt 16 0 0),(4,.pt 24 0 0),(7,.I s.i),(8,.pv (stC l[s.i])),(13,eSts l),(14,.I l.length),(15,.I s.i)],[(16,some ⟨9,[tC s.g p s.acc s.f s.R],0⟩),(24,some ⟨9,[[.I 0,.nilS,.nilS,.nilS,.nilS,.I 0,.nilS,.nilS,.nilS]],0⟩)],500⟩ rfl ?_ ?_
  ·simp [h5,zay]
   exact LeH [(16,16),(24,24)] [424]
  by_cases hs : (zaD s.g l[s.i]).2=0
  ·obtain ⟨f',hf',hap⟩:=zfS hc' hI.ok hI.pol hI.sz hT'.a hs
   have hnx:=hI.next h5 hs hf'
   generalize zjy (accG (zaD s.g l[s.i]).1 p) s.acc=gi at *
   generalize zjy s.acc (accG (zaD s.g l[s.i]).1 p)=lo at *
   generalize accG (zaD s.g l[s.i]).1 p=acc' at *
   generalize refG (zaD s.g l[s.i]).1 p=R' at *
   generalize (zaD s.g l[s.i]).1=g' at *
   refine zaa ⟨38,[(1,eSts l),(2,.pt 16 0 0),(4,.pt 24 0 0),(9,.pv (tC g' p acc' f' R')),(12,.I 0),(13,eSts l),(14,.I l.length),(15,.I s.i)],[(16,some ⟨9,[tC s.g p s.acc s.f s.R],0⟩),(24,some ⟨9,[[.I 0,.nilS,.nilS,.nilS,.nilS,.I 0,.nilS,.nilS,.nilS]],0⟩)],700⟩ rfl ?_ ?_
   ·simp
    refine zaj hap (by simp) ?_
    simp [zay]
    exact LeH [(16,16),(24,24)] [564]
   refine zab ?_
   refine zaa ⟨38,[(1,eSts l),(2,.pt 16 0 0),(4,.pt 24 0 0),(9,.pv (tC g' p acc' f' R')),(13,eSts l),(14,.I l.length),(15,.I s.i),(29,.B false)],[(16,some ⟨9,[tC s.g p s.acc s.f s.R],0⟩),(24,some ⟨9,[[.I 0,.nilS,.nilS,.nilS,.nilS,.I 0,.nilS,.nilS,.nilS]],0⟩)],800⟩ rfl ?_ ?_
   ·simp
    exact LeH [(16,16),(24,24)] []
   refine zac _ rfl (fun h=>by cases h) fun _=>?_
   refine zad ?_
   refine zar rfl ?_
   simp [zay]
   refine zar rfl ?_
   simp
   exact ⟨⟨s.i+1,g',acc',f',R'⟩,hnx,by simp only; omega,Le.go [(16,16),(24,24)] [] rfl rfl (by simp [hw1]) (by simp)⟩
  ·have hst:=hI.stop h5 hs
   have hap:=zjW hc' hT'.e hT'.o hs
   rw [hst] at hrr
   generalize (zaD s.g l[s.i]).2=x at *
   cases hrr
   have he' : (e != 0)=true:=by simp [hs]
   refine zaa ⟨38,[(2,.pt 16 0 0),(4,.pt 24 0 0),(7,.I s.i),(12,.I e)],[(16,some ⟨9,[tC s.g p s.acc s.f s.R],0⟩),(24,some ⟨9,[[.I 0,.nilS,.nilS,.nilS,.nilS,.I 0,.nilS,.nilS,.nilS]],0⟩)],700⟩ rfl ?_ ?_
   ·simp
    refine zaj hap (by simp) ?_
    simp [zay]
    exact LeH [(16,16),(24,24)] []
   refine zab ?_
   refine zaa ⟨38,[(2,.pt 16 0 0),(4,.pt 24 0 0),(7,.I s.i),(12,.I e),(29,.B true)],[(16,some ⟨9,[tC s.g p s.acc s.f s.R],0⟩),(24,some ⟨9,[[.I 0,.nilS,.nilS,.nilS,.nilS,.I 0,.nilS,.nilS,.nilS]],0⟩)],800⟩ rfl ?_ ?_
   ·simp
    exact Le.go [(16,16),(24,24)] [] rfl rfl (by simp [he']) (by simp)
   refine zac _ rfl (fun _=>?_) fun h=>by cases h
   refine zaa ⟨38,[(4,.pt 24 0 0),(5,.I s.i),(6,.I e)],[(24,some ⟨9,[tC s.g p s.acc s.f s.R],0⟩)],900⟩ rfl ?_ ?_
   ·simp [zay]
    exact LeH [(24,24)] []
   refine zag ?_
   exact zhb.mk (.inr rfl) (s.acc,s.f,s.R) hI.on (zak.out [] [24] rfl (by simp) (by simp) (by simp) (by simp))
 rw [decide_eq_false_iff_not] at h5
 have hil : s.i=l.length:=by omega
 have hdn:=hI.done hil
 rw [hdn] at hrr
 cases hrr
 have hon:=hI.on
 rw [hil] at hon
 refine zal ?_
 refine hit ?_
 refine zaa ⟨38,[(4,.pt 24 0 0),(5,.I l.length),(6,.I 0)],[(24,some ⟨9,[tC s.g p s.acc s.f s.R],0⟩)],900⟩ rfl ?_ ?_
 ·simp [zay]
  exact LeH [(24,24)] []
 refine zag ?_
 exact zhb.mk (.inr rfl) (s.acc,s.f,s.R) hon (zak.out [] [24] rfl (by simp) (by simp) (by simp) (by simp))
def gU1 : Gr:=⟨3,[⟨0,1,1⟩],[]⟩
def gU3 : Gr:=⟨3,[⟨0,2,1⟩],[]⟩
def pU : Pol:=⟨[0],[3,1],1⟩
theorem zjh : GrOk gU1:=GrOk.of (by decide) (by decide) (by decide) (fun i h=>by simp at h) (by simp) (by decide)
theorem zs5 : GrOk gU3:=GrOk.of (by decide) (by decide) (by decide) (fun i h=>by simp at h) (by simp) (by decide)
theorem ziB : za3 3 pU:=by
 refine ⟨by decide +revert,fun i h=>?_,by decide +revert,by decide +revert,by decide +revert,by decide +revert,fun i h=>?_⟩
 ·obtain rfl : i=0:=by simp [pU] at h; omega
  exact ⟨by decide +revert,by decide +revert,fun h=>by cases h⟩
 ·have : i=0∨i=1:=by simp [pU] at h; omega
  rcases this with rfl | rfl
  ·exact ⟨by decide +revert,by decide +revert,fun h=>by cases h⟩
  ·exact ⟨by decide +revert,by decide +revert,fun h=>by decide +revert⟩
theorem zkP {g : Gr} {p : Pol} (hg : GrOk g) (hp : za3 g.size p) {ks f : List Int} (hr : ∀ x∈ks,0≤x∧x<g.size) (hf : zaz (netN g) (netA g p ks) f) (hv : valF (netA g p ks) f=ks.length) : zas g p ks:=by
 have h1:=zib (p:=p) hg hp hr
 have h2:=zsX (zkH hg hp hr) (f:=f) hf
 rw [hv] at h2
 unfold zas
 omega
theorem zwj : accG gU1 pU=[0,1]:=by
 have c0 : zas gU1 pU [0]:=zkP (f:=[1,0,0,1,0]) zjh ziB (by decide) (zp0 (by decide)) (by decide)
 have c1 : zas gU1 pU [0,1]:=zkP (f:=[2,1,0,1,1,1]) zjh ziB (by decide) (zp0 (by decide)) (by decide)
 have ho : ordL (zao gU1 pU.lv) pU.seeds=[0,1]:=by decide
 have h0 : accR gU1 pU [0]=[0]:=zbS (o:=[]) (k:=0) c0
 show accR gU1 pU (ordL (zao gU1 pU.lv) pU.seeds)=_
 rw [ho]
 have h:=zbS (g:=gU1) (p:=pU) (o:=[0]) (k:=1) (by rw [h0]; exact c1)
 rw [h0] at h
 exact h
theorem zxM : accG gU3 pU=[0,2]:=by
 have c0 : zas gU3 pU [0]:=zkP (f:=[1,0,0,1,0]) zs5 ziB (by decide) (zp0 (by decide)) (by decide)
 have c1 : zas gU3 pU [0,2]:=zkP (f:=[2,1,0,1,1,1]) zs5 ziB (by decide) (zp0 (by decide)) (by decide)
 have ho : ordL (zao gU3 pU.lv) pU.seeds=[0,2]:=by decide
 have h0 : accR gU3 pU [0]=[0]:=zbS (o:=[]) (k:=0) c0
 show accR gU3 pU (ordL (zao gU3 pU.lv) pU.seeds)=_
 rw [ho]
 have h:=zbS (g:=gU3) (p:=pU) (o:=[0]) (k:=2) (by rw [h0]; exact c1)
 rw [h0] at h
 exact h
theorem zvY : accG gF pU=[0,1,2]:=by
 have c0 : zas gF pU [0]:=zkP (f:=[1,0,0,0,1,0,0]) znm ziB (by decide) (zp0 (by decide)) (by decide)
 have c1 : zas gF pU [0,1]:=zkP (f:=[2,1,0,0,1,1,1,0]) znm ziB (by decide) (zp0 (by decide)) (by decide)
 have c2 : zas gF pU [0,1,2]:=zkP (f:=[3,2,0,0,1,1,1,1,1]) znm ziB (by decide) (zp0 (by decide)) (by decide)
 have ho : ordL (zao gF pU.lv) pU.seeds=[0,1,2]:=by decide
 have h0 : accR gF pU [0]=[0]:=zbS (o:=[]) (k:=0) c0
 have h1 : accR gF pU [0,1]=[0,1]:=by
  have h:=zbS (g:=gF) (p:=pU) (o:=[0]) (k:=1) (by rw [h0]; exact c1)
  rw [h0] at h
  exact h
 show accR gF pU (ordL (zao gF pU.lv) pU.seeds)=_
 rw [ho]
 have h:=zbS (g:=gF) (p:=pU) (o:=[0,1]) (k:=2) (by rw [h1]; exact c2)
 rw [h1] at h
 exact h
theorem zvl : zaD gU1 ⟨false,⟨0,2,1⟩⟩=(gF,0):=by
 have h : OkS gU1 ⟨false,⟨0,2,1⟩⟩:=by
  refine ⟨by decide,by decide,?_⟩
  rintro ⟨x,hx,h1,h2⟩
  have : x=⟨0,1,1⟩:=by simpa [gU1] using hx
  subst this
  simp at h2
 obtain ⟨h1,h2⟩:=zla zjh (by decide) h
 have h3 : (zaD gU1 ⟨false,⟨0,2,1⟩⟩).1=gF:=zsT h2.ok znm h2.size h2.gone fun x=>by
  rw [h2.mem]; simp [gU1,gF]
  exact Or.comm
 exact Prod.ext h3 h1
theorem zvb : zaD gF ⟨true,⟨0,1,0⟩⟩=(gU3,0):=by
 have h : OkS gF ⟨true,⟨0,1,0⟩⟩:=⟨⟨0,1,1⟩,by simp [gF],rfl,rfl⟩
 obtain ⟨h1,h2⟩:=zla znm (by decide) h
 have h3 : (zaD gF ⟨true,⟨0,1,0⟩⟩).1=gU3:=zsT h2.ok zs5 h2.size h2.gone fun x=>by
  rw [h2.mem]; simp [gU3,gF]
  constructor
  ·rintro ⟨h | h,h4⟩
   ·subst h; simp at h4
   ·exact h
  ·intro h
   subst h
   exact ⟨.inr rfl,by simp⟩
 exact Prod.ext h3 h1
set_option maxRecDepth 100000 in
theorem zi8 : zai Tryz.prog zdH [] [] (.B true) []:=by
 obtain ⟨f1,hf1,hst⟩:=zgX gU1 pU zjh ziB (by decide)
 have hc1:=(zeU zjh ziB (by decide) hf1).1
 have hs1 : (zaD gU1 ⟨false,⟨0,2,1⟩⟩).2=0:=by rw [zvl]
 obtain ⟨f2,hf2,hap⟩:=zfS (s:=⟨false,⟨0,2,1⟩⟩) hc1 zjh ziB (by decide) (by have:=zmJ zjh pU; omega) hs1
 rw [zvl] at hap hf2
 simp only at hap hf2
 have hT2:=zez znm ziB hf2
 have hc2:=(zeU znm ziB (by decide) hf2).1
 have hrun : runS gF [⟨true,⟨0,1,0⟩⟩]=(gU3,1,0):=by
  rw [zm8 (by rw [zvb]),zvb]
  rfl
 obtain ⟨⟨acc3,f3,R3⟩,hon,hal⟩:=zjg (l:=[⟨true,⟨0,1,0⟩⟩]) hc2 znm ziB (by decide) hT2 (by decide)
 rw [hrun] at hon hal
 simp only at hon hal
 have hacc3 : acc3=[0,2]:=by
  rcases hon with ⟨h,_⟩ | ⟨_,h,_⟩
  ·cases h
  ·rw [h,zxM]
 have hg1 : zjy (accG gF pU) (accG gU1 pU)=[2]:=by
  rw [zoX (zts _ _) (zvh znm _),zwj,zvY]
  decide
 have hg2 : zjy (accG gU1 pU) (accG gF pU)=[]:=by
  rw [zoX (zts _ _) (zvh zjh _),zwj,zvY]
  decide
 obtain ⟨G1,hG1⟩ : ∃ G1 : List Int,G1=[2]:=⟨_,rfl⟩
 obtain ⟨G0,hG0⟩ : ∃ G0 : List Int,G0=[]:=⟨_,rfl⟩
 rw [hg1,hg2,← hG1,← hG0] at hap
 have hA2:=zvY
 generalize accG gU1 pU=A1 at *
 generalize accG gF pU=A2 at *
 generalize refG gU1 pU=R1 at *
 generalize refG gF pU=R2 at *
 refine zoW.acalls (nbz rfl) (nbz rfl) (Nat.le_refl _) ?_
 show awp _ 0 _ _ ⟨84,[],[],16⟩
 refine zaa ⟨84,[],[],60⟩ rfl ?_ ?_
 ·simp
  exact LeH [] []
 refine zaa ⟨84,[(1,.pv (gC gU1))],[],200⟩ rfl ?_ ?_
 ·simp [zay]
  exact Le.go [] [68,84] rfl rfl (by simp; exact .pv _ _ rfl fun i=>match i with | 0=>.refl _ | 1=>wkE rfl | 2=>.nil _ _ | _+3=>.refl _) (by simp)
 refine zaa ⟨84,[(2,.pv (tC gU1 pU A1 f1 R1)),(3,.I 0)],[],400⟩ rfl ?_ ?_
 ·simp
  refine zoT [208,216] (by simp) hst (by simp [gU1,pU]) ?_
  simp [zay]
  exact LeH [] [264]
 refine zaa ⟨84,[(3,.I 0),(4,.pv (tC gF pU A2 f2 R2)),(5,ints G1),(6,ints G0),(7,.I 0)],[],600⟩ rfl ?_ ?_
 ·simp
  refine zaj hap (by simp) ?_
  simp [zay]
  exact LeH [] [472]
 refine zaa ⟨84,[(3,.I 0),(4,.pv (tC gF pU A2 f2 R2)),(5,ints G1),(6,ints G0),(7,.I 0),(8,.pv (tC gU3 pU acc3 f3 R3)),(9,.I 1),(10,.I 0)],[],800⟩ rfl ?_ ?_
 ·simp
  refine zoT [624] (by simp) hal (by simp) ?_
  simp [zay]
  exact LeH [] [672]
 subst hacc3 hG1 hG0
 rw [hA2]
 refine zaa ⟨84,[(0,.B true)],[],1400⟩ rfl ?_ ?_
 ·simp
  exact LeH [] []
 refine zag ?_
 exact ⟨.inr rfl,zak.one (by simp)⟩
section
variable {g : Gr} {p : Pol} {acc f f' : List Int} {R : List (Int × List Int)} {e : Int}
end
section
variable {p : Pol} {g0 : Gr} {acc0 f0 : List Int} {R0 : List (Int × List Int)} {n : Nat} {g : Gr} {acc f acc' f' : List Int} {R R' : List (Int × List Int)}
theorem OnW.same (h : OnW p g0 acc0 f0 R0 n g acc f R) (h' : OnW p g0 acc0 f0 R0 n g acc' f' R') : acc=acc'∧R=R':=by
 rcases h with ⟨h0,h1,h2,h3,h4⟩ | ⟨h0,h1,h2,h3⟩ <;> rcases h' with ⟨k0,k1,k2,k3,k4⟩ | ⟨k0,k1,k2,k3⟩
 ·exact ⟨h2.trans k2.symm,h4.trans k4.symm⟩
 ·omega
 ·omega
 ·exact ⟨h1.trans k1.symm,h2.trans k2.symm⟩
theorem OnW.len (h : OnW p g0 acc0 f0 R0 n g acc f R) (hT : TLen g0 p acc0 f0 R0) (hg : GrOk g) (hp : za3 g.size p) : TLen g p acc f R:=by
 rcases h with ⟨h0,h1,h2,h3,h4⟩ | ⟨h0,h1,h2,h3⟩
 ·rw [h1,h2,h3,h4]; exact hT
 ·rw [h1,h2]; exact zez hg hp h3
end
@[simp] theorem zyb {P : Program} {np id : Nat} {h : Nat→Option Ent} {K : AV→List Nat→List (Nat × Option Ent)→Prop} {s s' : Nat} {f : Bool} {rows : List (List AV)} : aK P np id (.slc s false true false) [.vs s' f rows,.sc (.int .i64 2)] h K=(2≤rows.length∧s'=s∧K (.vs s false (rows.take 2)) [] []):=zwn (k:=2)
theorem zoD {g : Gr} (hg : GrOk g) (h9 : g.size≤9) : g.edges.length≤81:=by
 have hn : (g.edges.map fun e=>e.f*9+e.t).Nodup:=by
  rw [List.Nodup,List.pairwise_map]
  refine hg.pair.imp_of_mem fun {a b} ha hb hab=>?_
  have h1:=hg.fits a ha
  have h2:=hg.fits b hb
  unfold Fits at h1 h2
  unfold Bef at hab
  omega
 have:=zbo (b:=(List.range 81).map fun i : Nat=>(i : Int)) hn fun x hx=>by
  obtain ⟨e,he,rfl⟩:=List.mem_map.1 hx
  have h1:=hg.fits e he
  unfold Fits at h1
  exact List.mem_map.2 ⟨(e.f*9+e.t).toNat,List.mem_range.2 (by omega),by omega⟩
 simpa using this
def eqEd (e x : Ed) : Bool:=(e.f == x.f) && ((e.t == x.t) && (e.v == x.v))
theorem zh2 {e x : Ed} : eqEd e x=true↔e=x:=by
 obtain ⟨a,b,c⟩:=e
 obtain ⟨a',b',c'⟩:=x
 simp [eqEd]
theorem zs7 (e x : Ed) : eqEd e x=eqEd x e:=by
 rw [Bool.eq_iff_iff,zh2,zh2]
 exact eq_comm
def zff (l : List Ed) (e : Ed) : Bool:=l.any (eqEd e)
theorem zkm {l : List Ed} {e : Ed} : zff l e=true↔e∈l:=by
 unfold zff
 rw [List.any_eq_true]
 constructor
 ·rintro ⟨x,hx,h⟩
  rw [zh2.1 h]
  exact hx
 ·intro h
  exact ⟨e,h,zh2.2 rfl⟩
theorem zsV (l : List Ed) (e : Ed) (hl : l.length≤1000000) : zai Tryz.prog zba [eEs l,eE e] [] (.I (idxQ l (eqEd e))) []:=by
 refine zdg.acalls (nbz rfl) (nbz rfl) (Nat.le_refl _) ?_
 show awp _ 0 _ _ ⟨19,[(0,eEs l),(1,eE e)],[],16⟩
 refine zaa ⟨19,[(0,eEs l),(3,.pv (eC e))],[],60⟩ rfl ?_ ?_
 ·simp
  exact LeH [] [16]
 refine zab ?_
 refine zaa ⟨19,[(0,eEs l),(3,.pv (eC e)),(7,.I l.length),(8,.I 0)],[],80⟩ rfl ?_ ?_
 ·simp
  exact LeH [] []
 refine zaf ?_
 refine zan (ι:=Nat) (fun i=>⟨19,[(0,eEs l),(3,.pv (eC e)),(7,.I l.length),(8,.I i)],[],100⟩) (fun i=>i≤l.length ∧ ∀ k,k<i → ∀ h : k<l.length,eqEd e l[k]=false) (fun i=>l.length - i) 0 ⟨Nat.zero_le _,fun k hk=>absurd hk (by omega)⟩ (LeH [] []) ?_
 rintro i ⟨hi,hp⟩
 refine zaa ⟨19,[(0,eEs l),(3,.pv (eC e)),(7,.I l.length),(8,.I i),(9,.B (decide (i<l.length)))],[],120⟩ rfl ?_ ?_
 ·simp
  exact LeH [] []
 refine zab ?_
 refine zac _ rfl (fun h5=>?_) fun h5=>?_
 ·rw [decide_eq_true_eq] at h5
  have hw1 : IntKind.i64.wrap ((i : Int)+1)=(i : Int)+1:=w64 (by omega) (by omega)
  obtain ⟨u,hu⟩ : ∃ u,u=eqEd e l[i]:=⟨_,rfl⟩
  refine zad ?_
  refine zab ?_
  refine zaf ?_
  refine zaa ⟨19,[(0,eEs l),(3,.pv (eC e)),(7,.I l.length),(8,.I i),(5,.I i)],[],140⟩ rfl ?_ ?_
  ·simp
   exact LeH [] []
  refine zaq ⟨19,[(0,eEs l),(3,.pv (eC e)),(7,.I l.length),(8,.I i),(5,.I i),(16,.B u)],[],200⟩ rfl ?_ ?_
  ·simp [h5]
   exact ⟨rfl,Le.go [] [] rfl rfl (by simp [hu,eqEd]) (by simp)⟩
  refine zac _ rfl (fun h6=>?_) fun h6=>?_
  ·subst h6
   refine zaa ⟨19,[(4,.I i)],[],240⟩ rfl ?_ ?_
   ·simp
    exact LeH [] []
   refine zag ?_
   exact ⟨.inr rfl,zak.one (by simp [zmZ h5 hp hu.symm])⟩
  ·subst h6
   refine zad ?_
   refine zar rfl ?_
   simp
   exact ⟨i+1,⟨by omega,fun k hk h=>by
    rcases Nat.lt_or_ge k i with h7 | h7
    ·exact hp k h7 h
    ·obtain rfl : k=i:=by omega
     exact hu.symm⟩,by omega,Le.go [] [] rfl rfl (by simp [hw1]) (by simp)⟩
 rw [decide_eq_false_iff_not] at h5
 obtain rfl : i=l.length:=by omega
 refine zal ?_
 refine hit ?_
 refine zaa ⟨19,[(4,.I (-1))],[],240⟩ rfl ?_ ?_
 ·simp
  exact LeH [] []
 refine zag ?_
 exact ⟨.inr rfl,zak.one (by simp [znJ hp])⟩
theorem zjr (l : List Ed) (e : Ed) (hl : l.length≤1000000) : zai Tryz.prog zaM [eEs l,eE e] [] (.B (zff l e)) []:=by
 have hix:=zsV l e hl
 have hb : decide ((0 : Int)≤idxQ l (eqEd e))=zff l e:=by
  rw [Bool.eq_iff_iff,decide_eq_true_eq]
  unfold idxQ zff
  rw [List.any_eq_true]
  constructor
  ·intro h
   split at h
   ·rename_i h1
    exact ⟨_,List.getElem_mem h1,List.findIdx_getElem⟩
   ·omega
  ·intro h
   rw [if_pos (List.findIdx_lt_length.2 h)]
   omega
 refine zcG.acalls (nbz rfl) (nbz rfl) (Nat.le_refl _) ?_
 show awp _ 0 _ _ ⟨9,[(0,eEs l),(1,eE e)],[],16⟩
 refine zaa ⟨9,[(0,eEs l),(3,.pv (eC e))],[],60⟩ rfl ?_ ?_
 ·simp
  exact LeH [] [16]
 refine zaa ⟨9,[(4,.B (zff l e))],[],140⟩ rfl ?_ ?_
 ·simp
  refine zaj hix (by simp) ?_
  simp
  exact Le.go [] [] rfl rfl (by simp [← hb]) (by simp)
 refine zag ?_
 exact ⟨.inr rfl,zak.one (by simp)⟩
theorem zsr {l : List Ed} {e : Ed} {i : Nat} (hi : i<l.length) : zff (l.take (i+1)) e=(zff (l.take i) e || eqEd e l[i]):=by
 unfold zff
 rw [List.take_succ_eq_append_getElem hi,List.any_append]
 simp
theorem zom (g : Gr) (e : Ed) (hl : g.edges.length≤1000000) : zai Tryz.prog zfE [eG g,eE e] [] (.B (zff g.edges e)) []:=by
 refine zqc.acalls (nbz rfl) (nbz rfl) (Nat.le_refl _) ?_
 show awp _ 0 _ _ ⟨20,[(0,eG g),(1,eE e)],[],16⟩
 refine zaa ⟨20,[(2,.pv (gC g)),(3,.pv (eC e))],[],60⟩ rfl ?_ ?_
 ·simp
  exact LeH [] [16,24]
 refine zab ?_
 refine zaa ⟨20,[(2,.pv (gC g)),(3,.pv (eC e)),(5,.I 0)],[],80⟩ rfl ?_ ?_
 ·simp
  exact LeH [] []
 refine zaf ?_
 refine zan (ι:=Nat) (fun i=>⟨20,[(2,.pv (gC g)),(3,.pv (eC e)),(5,.I i)],[],100⟩) (fun i=>i≤g.edges.length∧zff (g.edges.take i) e=false) (fun i=>g.edges.length - i) 0 ⟨Nat.zero_le _,rfl⟩ (LeH [] []) ?_
 rintro i ⟨hi,hp⟩
 refine zab ?_
 refine zaa ⟨20,[(2,.pv (gC g)),(3,.pv (eC e)),(5,.I i),(10,.B (decide (i<g.edges.length)))],[],160⟩ rfl ?_ ?_
 ·simp
  exact LeH [] []
 refine zac _ rfl (fun h5=>?_) fun h5=>?_
 ·rw [decide_eq_true_eq] at h5
  have hw1 : IntKind.i64.wrap ((i : Int)+1)=(i : Int)+1:=w64 (by omega) (by omega)
  obtain ⟨u,hu⟩ : ∃ u,u=eqEd g.edges[i] e:=⟨_,rfl⟩
  have htk:=zsr (e:=e) h5
  rw [hp,Bool.false_or,zs7,← hu] at htk
  refine zad ?_
  refine zab ?_
  refine zaf ?_
  refine zaq ⟨20,[(2,.pv (gC g)),(3,.pv (eC e)),(5,.I i),(19,.B u)],[],240⟩ rfl ?_ ?_
  ·simp [h5]
   exact ⟨rfl,Le.go [] [] rfl rfl (by simp [hu,eqEd]) (by simp)⟩
  refine zac _ rfl (fun h6=>?_) fun h6=>?_
  ·subst h6
   have hh : zff g.edges e=true:=zkm.2 (by rw [← zh2.1 hu.symm]; exact List.getElem_mem h5)
   refine zaa ⟨20,[(4,.B true)],[],260⟩ rfl ?_ ?_
   ·simp
    exact LeH [] []
   refine zag ?_
   exact ⟨.inr rfl,zak.one (by simp [hh])⟩
  ·subst h6
   refine zad ?_
   refine zar rfl ?_
   simp
   exact ⟨i+1,⟨by omega,htk⟩,by omega,Le.go [] [] rfl rfl (by simp [hw1]) (by simp)⟩
 rw [decide_eq_false_iff_not] at h5
 obtain rfl : i=g.edges.length:=by omega
 rw [List.take_length] at hp
 refine zal ?_
 refine hit ?_
 refine zaa ⟨20,[(4,.B false)],[],260⟩ rfl ?_ ?_
 ·simp
  exact LeH [] []
 refine zag ?_
 exact ⟨.inr rfl,zak.one (by simp [hp])⟩
def outT (pre : List GStp) (go : Bool) (E F : List Ed) (i : Nat) : List GStp:=pre++((E.take i).filter fun e=>!zff F e).map (⟨go,·⟩)
theorem zdR (pre : List GStp) (go : Bool) (E F : List Ed) : outT pre go E F 0=pre:=by simp [outT]
theorem zke {pre : List GStp} {go : Bool} {E F : List Ed} {i : Nat} (hi : i<E.length) (h : zff F E[i]=false) : outT pre go E F (i+1)=outT pre go E F i++[⟨go,E[i]⟩]:=by
 unfold outT
 rw [List.take_succ_eq_append_getElem hi,List.filter_append]
 simp [h]
theorem znb {pre : List GStp} {go : Bool} {E F : List Ed} {i : Nat} (hi : i<E.length) (h : zff F E[i]=true) : outT pre go E F (i+1)=outT pre go E F i:=by
 unfold outT
 rw [List.take_succ_eq_append_getElem hi,List.filter_append]
 simp [h]
theorem zkd (pre : List GStp) (go : Bool) (E F : List Ed) (i : Nat) : (outT pre go E F i).length≤pre.length+E.length:=by
 unfold outT
 simp only [List.length_append,List.length_map]
 have h1:=List.length_filter_le (fun e=>!zff F e) (E.take i)
 have h2 : (E.take i).length≤E.length:=by rw [List.length_take]; omega
 omega
def zgY (a b : Gr) : List GStp:=outT (outT [] true a.edges b.edges a.edges.length) false b.edges a.edges b.edges.length
theorem zog (a b : Gr) : zgY a b=zki a b:=by
 unfold zgY outT zki
 rw [List.take_length,List.take_length,List.nil_append]
 congr 2
 ·refine List.filter_congr fun e _=>?_
  rw [Bool.eq_iff_iff]
  simp [← zkm]
 ·refine List.filter_congr fun e _=>?_
  rw [Bool.eq_iff_iff]
  simp [← zkm]
theorem zsy (a b : Gr) : (zgY a b).length≤a.edges.length+b.edges.length:=by rw [zog]; exact zrO a b
section
variable {a b : Gr}
set_option maxRecDepth 100000 in
theorem ziZ (ha : GrOk a) (hb : GrOk b) (hd : ¬ (a.size=b.size∧a.gone=b.gone)) : zai Tryz.prog zdd [eG a,eG b] [] (.tup [eSts [],.I 1]) []:=by
 have hel:=ha.edges_le
 have hgl:=ha.gone_le
 have hel2:=hb.edges_le
 have hgl2:=hb.gone_le
 have hc1:=zbH a (by omega) (by omega)
 rw [if_pos ha] at hc1
 have hc2:=zbH b (by omega) (by omega)
 rw [if_pos hb] at hc2
 have heq:=zpn a.gone b.gone (by omega)
 refine zir.acalls (nbz rfl) (nbz rfl) (Nat.le_refl _) ?_
 show awp _ 0 _ _ ⟨71,[(0,eG a),(1,eG b)],[],16⟩
 refine zaa ⟨71,[(2,.pv (gC a)),(3,.pv (gC b))],[],60⟩ rfl ?_ ?_
 ·simp
  exact LeH [] [16,24]
 refine zab ?_
 refine zaf ?_
 refine zaa ⟨71,[(2,.pv (gC a)),(3,.pv (gC b)),(11,.B false)],[],160⟩ rfl ?_ ?_
 ·simp
  refine zaj hc1 (by simp) ?_
  simp
  refine zaj hc2 (by simp) ?_
  simp
  exact LeH [] []
 refine zac _ rfl (fun h=>by cases h) fun _=>?_
 refine zaa ⟨71,[(2,.pv (gC a)),(3,.pv (gC b)),(20,.B true)],[],300⟩ rfl ?_ ?_
 ·by_cases hs : a.size=b.size
  ·have hs' : (a.size != b.size)=false:=by simp [hs]
   have hg : ¬ a.gone=b.gone:=fun h=>hd ⟨hs,h⟩
   rw [decide_eq_false hg] at heq
   simp [hs']
   refine zaj heq (by simp) ?_
   simp
   exact LeH [] []
  ·have hs' : (a.size != b.size)=true:=by simp [hs]
   simp [hs']
   exact Le.go [] [] rfl rfl (by simp [hs']) (by simp)
 refine zac _ rfl (fun _=>?_) fun h=>by cases h
 refine zaa ⟨71,[(4,.vs 4 false []),(5,.I 1)],[],360⟩ rfl ?_ ?_
 ·simp
  exact LeH [] []
 refine zag ?_
 exact ⟨.inr rfl,zak.out [] [] rfl (by simp) (by simp) (by simp <;> exact .refl _) (by simp)⟩
set_option maxRecDepth 100000 in
set_option maxHeartbeats 4000000 in
theorem zi6 (ha : GrOk a) (hb : GrOk b) (hs : a.size=b.size) (hg : a.gone=b.gone) : zai Tryz.prog zdd [eG a,eG b] [] (.tup [eSts (zgY a b),.I 0]) []:=by
 have hel:=ha.edges_le
 have hgl:=ha.gone_le
 have hel2:=hb.edges_le
 have hgl2:=hb.gone_le
 have hc1:=zbH a (by omega) (by omega)
 rw [if_pos ha] at hc1
 have hc2:=zbH b (by omega) (by omega)
 rw [if_pos hb] at hc2
 have heq:=zpn a.gone b.gone (by omega)
 rw [decide_eq_true hg] at heq
 have hs' : (a.size != b.size)=false:=by simp [hs]
 refine zir.acalls (nbz rfl) (nbz rfl) (Nat.le_refl _) ?_
 show awp _ 0 _ _ ⟨71,[(0,eG a),(1,eG b)],[],16⟩
 refine zaa ⟨71,[(2,.pv (gC a)),(3,.pv (gC b))],[],60⟩ rfl ?_ ?_
 ·simp
  exact LeH [] [16,24]
 refine zab ?_
 refine zaf ?_
 refine zaa ⟨71,[(2,.pv (gC a)),(3,.pv (gC b)),(11,.B false)],[],160⟩ rfl ?_ ?_
 ·simp
  refine zaj hc1 (by simp) ?_
  simp
  refine zaj hc2 (by simp) ?_
  simp
  exact LeH [] []
 refine zac _ rfl (fun h=>by cases h) fun _=>?_
 refine zaa ⟨71,[(2,.pv (gC a)),(3,.pv (gC b)),(20,.B false)],[],300⟩ rfl ?_ ?_
 ·simp [hs']
  refine zaj heq (by simp) ?_
  simp
  exact LeH [] []
 refine zac _ rfl (fun h=>by cases h) fun _=>?_
 refine zad ?_
 refine zaa ⟨71,[(2,.pv (gC a)),(3,.pv (gC b)),(6,.nilS)],[],360⟩ rfl ?_ ?_
 ·simp
  exact LeH [] []
 refine zab ?_
 refine zaa ⟨71,[(2,.pv (gC a)),(3,.pv (gC b)),(6,.nilS),(35,eEs a.edges),(36,.I a.edges.length),(37,.I 0)],[],400⟩ rfl ?_ ?_
 ·simp
  exact LeH [] []
 refine zaf ?_
 refine zan (ι:=Nat) (fun i=>⟨71,[(2,.pv (gC a)),(3,.pv (gC b)),(6,.rs 31 0 (outT [] true a.edges b.edges i).length),(35,eEs a.edges),(36,.I a.edges.length),(37,.I i)],[(31,some ⟨4,(outT [] true a.edges b.edges i).map fun s=>stC s,0⟩)],500⟩) (fun i=>i≤a.edges.length) (fun i=>a.edges.length - i) 0 (Nat.zero_le _) (Le.lst [] [] [(31,4)] rfl (by simp) (by simp) (by simp) (by simp) (by simp) (by simp) (by simp) (by simp [Up,zdR]) (by simp [zdR])) ?_
 intro i hi
 obtain ⟨O,hO⟩ : ∃ O,O=outT [] true a.edges b.edges i:=⟨_,rfl⟩
 have hOl : O.length≤500:=by rw [hO]; have:=zkd [] true a.edges b.edges i; simp only [List.length_nil] at this; omega
 have htO : ∀ h : GStp→List AV,List.take O.length (List.map h O)=List.map h O:=fun h=>List.take_of_length_le (by simp)
 rw [← hO]
 refine zaa ⟨71,[(2,.pv (gC a)),(3,.pv (gC b)),(6,.rs 31 0 O.length),(35,eEs a.edges),(36,.I a.edges.length),(37,.I i),(38,.B (decide (i<a.edges.length)))],[(31,some ⟨4,O.map fun s=>stC s,0⟩)],600⟩ rfl ?_ ?_
 ·simp
  exact LeI [(31,31)] []
 refine zab ?_
 refine zac _ rfl (fun h5=>?_) fun h5=>?_
 ·rw [decide_eq_true_eq] at h5
  have hw1 : IntKind.i64.wrap ((i : Int)+1)=(i : Int)+1:=w64 (by omega) (by omega)
  have hcon:=zjr b.edges a.edges[i] (by omega)
  obtain ⟨e,he⟩ : ∃ e,e=a.edges[i]:=⟨_,rfl⟩
  rw [← he] at hcon
  refine zad ?_
  refine zab ?_
  refine zaf ?_
  refine zaa ⟨71,[(2,.pv (gC a)),(3,.pv (gC b)),(6,.rs 31 0 O.length),(8,.pv (eC e)),(35,eEs a.edges),(36,.I a.edges.length),(37,.I i)],[(31,some ⟨4,O.map fun s=>stC s,0⟩)],700⟩ rfl ?_ ?_
  ·simp [h5,← he,zay]
   exact LeI [(31,31)] [616]
  cases hh : zff b.edges e
  ·have hsu : outT [] true a.edges b.edges (i+1)=O++[⟨true,e⟩]:=by rw [hO,he]; exact zke h5 (by rw [← he]; exact hh)
   rw [hh] at hcon
   refine zaa ⟨71,[(2,.pv (gC a)),(3,.pv (gC b)),(6,.rs 31 0 O.length),(8,.pv (eC e)),(35,eEs a.edges),(36,.I a.edges.length),(37,.I i),(45,.B true)],[(31,some ⟨4,O.map fun s=>stC s,0⟩)],800⟩ rfl ?_ ?_
   ·simp
    refine zaj hcon (by simp) ?_
    simp
    exact LeI [(31,31)] []
   refine zac _ rfl (fun _=>?_) fun h=>by cases h
   refine zar rfl ?_
   simp [htO]
   refine ⟨by omega,by omega,?_⟩
   refine zar rfl ?_
   simp
   exact ⟨i+1,by omega,by omega,Le.go [(832,31)] [] rfl rfl (by simp [hw1,hsu]) (by simp [fcd,hsu])⟩
  ·have hsu : outT [] true a.edges b.edges (i+1)=O:=by rw [hO]; exact znb h5 (by rw [← he]; exact hh)
   rw [hh] at hcon
   refine zaa ⟨71,[(2,.pv (gC a)),(3,.pv (gC b)),(6,.rs 31 0 O.length),(35,eEs a.edges),(36,.I a.edges.length),(37,.I i),(45,.B false)],[(31,some ⟨4,O.map fun s=>stC s,0⟩)],800⟩ rfl ?_ ?_
   ·simp
    refine zaj hcon (by simp) ?_
    simp
    exact LeI [(31,31)] []
   refine zac _ rfl (fun h=>by cases h) fun _=>?_
   refine zad ?_
   refine zar rfl ?_
   simp
   exact ⟨i+1,by omega,by omega,Le.go [(31,31)] [] rfl rfl (by simp [hw1,hsu]) (by simp [fcd,hsu])⟩
 rw [decide_eq_false_iff_not] at h5
 obtain rfl : i=a.edges.length:=by omega
 clear hi h5
 refine zal ?_
 refine hit ?_
 refine zab ?_
 refine zaa ⟨71,[(2,.pv (gC a)),(6,.rs 31 0 O.length),(53,eEs b.edges),(54,.I b.edges.length),(55,.I 0)],[(31,some ⟨4,O.map fun s=>stC s,0⟩)],900⟩ rfl ?_ ?_
 ·simp
  exact LeI [(31,31)] []
 refine zaf ?_
 refine zan (ι:=Nat) (fun i=>⟨71,[(2,.pv (gC a)),(6,.rs 31 0 (outT O false b.edges a.edges i).length),(53,eEs b.edges),(54,.I b.edges.length),(55,.I i)],[(31,some ⟨4,(outT O false b.edges a.edges i).map fun s=>stC s,0⟩)],1000⟩) (fun i=>i≤b.edges.length) (fun i=>b.edges.length - i) 0 (Nat.zero_le _) (Le.go [(31,31)] [] rfl rfl (by simp [zdR]) (by simp [zdR,fcd])) ?_
 intro i hi
 obtain ⟨Q,hQ⟩ : ∃ Q,Q=outT O false b.edges a.edges i:=⟨_,rfl⟩
 have hQl : Q.length≤1000:=by rw [hQ]; have:=zkd O false b.edges a.edges i; omega
 have htQ : ∀ h : GStp→List AV,List.take Q.length (List.map h Q)=List.map h Q:=fun h=>List.take_of_length_le (by simp)
 rw [← hQ]
 refine zaa ⟨71,[(2,.pv (gC a)),(6,.rs 31 0 Q.length),(53,eEs b.edges),(54,.I b.edges.length),(55,.I i),(56,.B (decide (i<b.edges.length)))],[(31,some ⟨4,Q.map fun s=>stC s,0⟩)],1100⟩ rfl ?_ ?_
 ·simp
  exact LeI [(31,31)] []
 refine zab ?_
 refine zac _ rfl (fun h5=>?_) fun h5=>?_
 ·rw [decide_eq_true_eq] at h5
  have hw1 : IntKind.i64.wrap ((i : Int)+1)=(i : Int)+1:=w64 (by omega) (by omega)
  have hcon:=zjr a.edges b.edges[i] (by omega)
  obtain ⟨e,he⟩ : ∃ e,e=b.edges[i]:=⟨_,rfl⟩
  rw [← he] at hcon
  refine zad ?_
  refine zab ?_
  refine zaf ?_
  refine zaa ⟨71,[(2,.pv (gC a)),(6,.rs 31 0 Q.length),(10,.pv (eC e)),(53,eEs b.edges),(54,.I b.edges.length),(55,.I i)],[(31,some ⟨4,Q.map fun s=>stC s,0⟩)],1200⟩ rfl ?_ ?_
  ·simp [h5,← he,zay]
   exact LeI [(31,31)] [1116]
  cases hh : zff a.edges e
  ·have hsu : outT O false b.edges a.edges (i+1)=Q++[⟨false,e⟩]:=by rw [hQ,he]; exact zke h5 (by rw [← he]; exact hh)
   rw [hh] at hcon
   refine zaa ⟨71,[(2,.pv (gC a)),(6,.rs 31 0 Q.length),(10,.pv (eC e)),(53,eEs b.edges),(54,.I b.edges.length),(55,.I i),(63,.B true)],[(31,some ⟨4,Q.map fun s=>stC s,0⟩)],1300⟩ rfl ?_ ?_
   ·simp
    refine zaj hcon (by simp) ?_
    simp
    exact LeI [(31,31)] []
   refine zac _ rfl (fun _=>?_) fun h=>by cases h
   refine zar rfl ?_
   simp [htQ]
   refine ⟨by omega,by omega,?_⟩
   refine zar rfl ?_
   simp
   exact ⟨i+1,by omega,by omega,Le.go [(1332,31)] [] rfl rfl (by simp [hw1,hsu]) (by simp [fcd,hsu])⟩
  ·have hsu : outT O false b.edges a.edges (i+1)=Q:=by rw [hQ]; exact znb h5 (by rw [← he]; exact hh)
   rw [hh] at hcon
   refine zaa ⟨71,[(2,.pv (gC a)),(6,.rs 31 0 Q.length),(53,eEs b.edges),(54,.I b.edges.length),(55,.I i),(63,.B false)],[(31,some ⟨4,Q.map fun s=>stC s,0⟩)],1300⟩ rfl ?_ ?_
   ·simp
    refine zaj hcon (by simp) ?_
    simp
    exact LeI [(31,31)] []
   refine zac _ rfl (fun h=>by cases h) fun _=>?_
   refine zad ?_
   refine zar rfl ?_
   simp
   exact ⟨i+1,by omega,by omega,Le.go [(31,31)] [] rfl rfl (by simp [hw1,hsu]) (by simp [fcd,hsu])⟩
 rw [decide_eq_false_iff_not] at h5
 obtain rfl : i=b.edges.length:=by omega
 have hfin : Q=zgY a b:=by rw [hQ,hO]; rfl
 refine zal ?_
 refine hit ?_
 refine zaa ⟨71,[(4,eSts (zgY a b)),(5,.I 0)],[],1500⟩ rfl ?_ ?_
 ·simp
  exact Le.go [] [31] rfl rfl (by simp [htQ,fcd,← hfin]) (by simp)
 refine zag ?_
 exact ⟨.inr rfl,zak.out [] [] rfl (by simp) (by simp) (by simp) (by simp)⟩
end
section
variable {a b : Gr}
set_option maxRecDepth 100000 in
theorem zjt (ha : GrOk a) (hb : GrOk b) (hd : ¬ (a.size=b.size∧a.gone=b.gone)) : zai Tryz.prog zdJ [eG a,eG b] [] (.tup [eSts [],.I 1]) []:=by
 have hel:=ha.edges_le
 have hgl:=ha.gone_le
 have hel2:=hb.edges_le
 have hgl2:=hb.gone_le
 have hc1:=zbE a (by omega) (by omega)
 rw [if_pos ha] at hc1
 have hc2:=zbE b (by omega) (by omega)
 rw [if_pos hb] at hc2
 have heq:=zcB a.gone b.gone (by omega)
 refine zjo.acalls (nbz rfl) (nbz rfl) (Nat.le_refl _) ?_
 show awp _ 0 _ _ ⟨79,[(0,eG a),(1,eG b)],[],16⟩
 refine zaa ⟨79,[(2,.pv (gC a)),(3,.pv (gC b))],[],60⟩ rfl ?_ ?_
 ·simp
  exact LeH [] [16,24]
 refine zab ?_
 refine zaa ⟨79,[(2,.pv (gC a)),(3,.pv (gC b)),(16,.B false)],[],160⟩ rfl ?_ ?_
 ·simp
  refine zaj hc1 (by simp) ?_
  simp
  refine zaj hc2 (by simp) ?_
  simp
  exact LeH [] []
 refine zac _ rfl (fun h=>by cases h) fun _=>?_
 refine zad ?_
 refine zab ?_
 refine zaa ⟨79,[(2,.pv (gC a)),(3,.pv (gC b)),(29,.B true)],[],300⟩ rfl ?_ ?_
 ·by_cases hs : a.size=b.size
  ·have hs' : (a.size != b.size)=false:=by simp [hs]
   have hg : ¬ a.gone=b.gone:=fun h=>hd ⟨hs,h⟩
   rw [decide_eq_false hg] at heq
   simp [hs']
   refine zaj heq (by simp) ?_
   simp
   exact LeH [] []
  ·have hs' : (a.size != b.size)=true:=by simp [hs]
   simp [hs']
   exact Le.go [] [] rfl rfl (by simp [hs']) (by simp)
 refine zac _ rfl (fun _=>?_) fun h=>by cases h
 refine zaa ⟨79,[(4,.vs 4 false []),(5,.I 1)],[],360⟩ rfl ?_ ?_
 ·simp
  exact LeH [] []
 refine zag ?_
 exact ⟨.inr rfl,zak.out [] [] rfl (by simp) (by simp) (by simp <;> exact .refl _) (by simp)⟩
set_option maxRecDepth 100000 in
set_option maxHeartbeats 4000000 in
theorem zjB (ha : GrOk a) (hb : GrOk b) (hs : a.size=b.size) (hg : a.gone=b.gone) : zai Tryz.prog zdJ [eG a,eG b] [] (.tup [eSts (zgY a b),.I 0]) []:=by
 have hel:=ha.edges_le
 have hgl:=ha.gone_le
 have hel2:=hb.edges_le
 have hgl2:=hb.gone_le
 have hc1:=zbE a (by omega) (by omega)
 rw [if_pos ha] at hc1
 have hc2:=zbE b (by omega) (by omega)
 rw [if_pos hb] at hc2
 have heq:=zcB a.gone b.gone (by omega)
 rw [decide_eq_true hg] at heq
 have hs' : (a.size != b.size)=false:=by simp [hs]
 refine zjo.acalls (nbz rfl) (nbz rfl) (Nat.le_refl _) ?_
 show awp _ 0 _ _ ⟨79,[(0,eG a),(1,eG b)],[],16⟩
 refine zaa ⟨79,[(2,.pv (gC a)),(3,.pv (gC b))],[],60⟩ rfl ?_ ?_
 ·simp
  exact LeH [] [16,24]
 refine zab ?_
 refine zaa ⟨79,[(2,.pv (gC a)),(3,.pv (gC b)),(16,.B false)],[],160⟩ rfl ?_ ?_
 ·simp
  refine zaj hc1 (by simp) ?_
  simp
  refine zaj hc2 (by simp) ?_
  simp
  exact LeH [] []
 refine zac _ rfl (fun h=>by cases h) fun _=>?_
 refine zad ?_
 refine zab ?_
 refine zaa ⟨79,[(2,.pv (gC a)),(3,.pv (gC b)),(29,.B false)],[],300⟩ rfl ?_ ?_
 ·simp [hs']
  refine zaj heq (by simp) ?_
  simp
  exact LeH [] []
 refine zac _ rfl (fun h=>by cases h) fun _=>?_
 refine zad ?_
 refine zaa ⟨79,[(2,.pv (gC a)),(3,.pv (gC b)),(6,.nilS)],[],360⟩ rfl ?_ ?_
 ·simp
  exact LeH [] []
 refine zab ?_
 refine zaa ⟨79,[(2,.pv (gC a)),(3,.pv (gC b)),(6,.nilS),(7,.I 0)],[],400⟩ rfl ?_ ?_
 ·simp
  exact LeH [] []
 refine zaf ?_
 refine zan (ι:=Nat) (fun i=>⟨79,[(2,.pv (gC a)),(3,.pv (gC b)),(6,.rs 31 0 (outT [] true a.edges b.edges i).length),(7,.I i)],[(31,some ⟨4,(outT [] true a.edges b.edges i).map fun s=>stC s,0⟩)],500⟩) (fun i=>i≤a.edges.length) (fun i=>a.edges.length - i) 0 (Nat.zero_le _) (Le.lst [] [] [(31,4)] rfl (by simp) (by simp) (by simp) (by simp) (by simp) (by simp) (by simp) (by simp [Up,zdR]) (by simp [zdR])) ?_
 intro i hi
 obtain ⟨O,hO⟩ : ∃ O,O=outT [] true a.edges b.edges i:=⟨_,rfl⟩
 have hOl : O.length≤500:=by rw [hO]; have:=zkd [] true a.edges b.edges i; simp only [List.length_nil] at this; omega
 have htO : ∀ h : GStp→List AV,List.take O.length (List.map h O)=List.map h O:=fun h=>List.take_of_length_le (by simp)
 rw [← hO]
 refine zab ?_
 refine zaa ⟨79,[(2,.pv (gC a)),(3,.pv (gC b)),(6,.rs 31 0 O.length),(7,.I i),(34,.B (decide (i<a.edges.length)))],[(31,some ⟨4,O.map fun s=>stC s,0⟩)],600⟩ rfl ?_ ?_
 ·simp
  exact LeI [(31,31)] []
 refine zac _ rfl (fun h5=>?_) fun h5=>?_
 ·rw [decide_eq_true_eq] at h5
  have hw1 : IntKind.i64.wrap ((i : Int)+1)=(i : Int)+1:=w64 (by omega) (by omega)
  have hcon:=zom b a.edges[i] (by omega)
  obtain ⟨e,he⟩ : ∃ e,e=a.edges[i]:=⟨_,rfl⟩
  rw [← he] at hcon
  refine zad ?_
  refine zab ?_
  refine zaf ?_
  cases hh : zff b.edges e
  ·have hsu : outT [] true a.edges b.edges (i+1)=O++[⟨true,e⟩]:=by rw [hO,he]; exact zke h5 (by rw [← he]; exact hh)
   rw [hh] at hcon
   refine zaq ⟨79,[(2,.pv (gC a)),(3,.pv (gC b)),(6,.rs 31 0 O.length),(7,.I i),(44,.B true)],[(31,some ⟨4,O.map fun s=>stC s,0⟩)],800⟩ rfl ?_ ?_
   ·simp [h5,← he]
    refine zaj hcon (by simp) ?_
    simp
    exact ⟨rfl,LeI [(31,31)] []⟩
   refine zac _ rfl (fun _=>?_) fun h=>by cases h
   refine zar rfl ?_
   simp [htO,h5,← he]
   refine ⟨by omega,by omega,?_⟩
   refine zar rfl ?_
   simp
   exact ⟨i+1,by omega,by omega,Le.go [(864,31)] [] rfl rfl (by simp [hw1,hsu]) (by simp [fcd,hsu])⟩
  ·have hsu : outT [] true a.edges b.edges (i+1)=O:=by rw [hO]; exact znb h5 (by rw [← he]; exact hh)
   rw [hh] at hcon
   refine zaq ⟨79,[(2,.pv (gC a)),(3,.pv (gC b)),(6,.rs 31 0 O.length),(7,.I i),(44,.B false)],[(31,some ⟨4,O.map fun s=>stC s,0⟩)],800⟩ rfl ?_ ?_
   ·simp [h5,← he]
    refine zaj hcon (by simp) ?_
    simp
    exact ⟨rfl,LeI [(31,31)] []⟩
   refine zac _ rfl (fun h=>by cases h) fun _=>?_
   refine zad ?_
   refine zar rfl ?_
   simp
   exact ⟨i+1,by omega,by omega,Le.go [(31,31)] [] rfl rfl (by simp [hw1,hsu]) (by simp [fcd,hsu])⟩
 rw [decide_eq_false_iff_not] at h5
 obtain rfl : i=a.edges.length:=by omega
 clear hi h5
 refine zal ?_
 refine hit ?_
 refine zab ?_
 refine zaa ⟨79,[(2,.pv (gC a)),(3,.pv (gC b)),(6,.rs 31 0 O.length),(8,.I 0)],[(31,some ⟨4,O.map fun s=>stC s,0⟩)],900⟩ rfl ?_ ?_
 ·simp
  exact LeI [(31,31)] []
 refine zaf ?_
 refine zan (ι:=Nat) (fun i=>⟨79,[(2,.pv (gC a)),(3,.pv (gC b)),(6,.rs 31 0 (outT O false b.edges a.edges i).length),(8,.I i)],[(31,some ⟨4,(outT O false b.edges a.edges i).map fun s=>stC s,0⟩)],1000⟩) (fun i=>i≤b.edges.length) (fun i=>b.edges.length - i) 0 (Nat.zero_le _) (Le.go [(31,31)] [] rfl rfl (by simp [zdR]) (by simp [zdR,fcd])) ?_
 intro i hi
 obtain ⟨Q,hQ⟩ : ∃ Q,Q=outT O false b.edges a.edges i:=⟨_,rfl⟩
 have hQl : Q.length≤1000:=by rw [hQ]; have:=zkd O false b.edges a.edges i; omega
 have htQ : ∀ h : GStp→List AV,List.take Q.length (List.map h Q)=List.map h Q:=fun h=>List.take_of_length_le (by simp)
 rw [← hQ]
 refine zab ?_
 refine zaa ⟨79,[(2,.pv (gC a)),(3,.pv (gC b)),(6,.rs 31 0 Q.length),(8,.I i),(58,.B (decide (i<b.edges.length)))],[(31,some ⟨4,Q.map fun s=>stC s,0⟩)],1100⟩ rfl ?_ ?_
 ·simp
  exact LeI [(31,31)] []
 refine zac _ rfl (fun h5=>?_) fun h5=>?_
 ·rw [decide_eq_true_eq] at h5
  have hw1 : IntKind.i64.wrap ((i : Int)+1)=(i : Int)+1:=w64 (by omega) (by omega)
  have hcon:=zom a b.edges[i] (by omega)
  obtain ⟨e,he⟩ : ∃ e,e=b.edges[i]:=⟨_,rfl⟩
  rw [← he] at hcon
  refine zad ?_
  refine zab ?_
  refine zaf ?_
  cases hh : zff a.edges e
  ·have hsu : outT O false b.edges a.edges (i+1)=Q++[⟨false,e⟩]:=by rw [hQ,he]; exact zke h5 (by rw [← he]; exact hh)
   rw [hh] at hcon
   refine zaq ⟨79,[(2,.pv (gC a)),(3,.pv (gC b)),(6,.rs 31 0 Q.length),(8,.I i),(68,.B true)],[(31,some ⟨4,Q.map fun s=>stC s,0⟩)],1300⟩ rfl ?_ ?_
   ·simp [h5,← he]
    refine zaj hcon (by simp) ?_
    simp
    exact ⟨rfl,LeI [(31,31)] []⟩
   refine zac _ rfl (fun _=>?_) fun h=>by cases h
   refine zar rfl ?_
   simp [htQ,h5,← he]
   refine ⟨by omega,by omega,?_⟩
   refine zar rfl ?_
   simp
   exact ⟨i+1,by omega,by omega,Le.go [(1364,31)] [] rfl rfl (by simp [hw1,hsu]) (by simp [fcd,hsu])⟩
  ·have hsu : outT O false b.edges a.edges (i+1)=Q:=by rw [hQ]; exact znb h5 (by rw [← he]; exact hh)
   rw [hh] at hcon
   refine zaq ⟨79,[(2,.pv (gC a)),(3,.pv (gC b)),(6,.rs 31 0 Q.length),(8,.I i),(68,.B false)],[(31,some ⟨4,Q.map fun s=>stC s,0⟩)],1300⟩ rfl ?_ ?_
   ·simp [h5,← he]
    refine zaj hcon (by simp) ?_
    simp
    exact ⟨rfl,LeI [(31,31)] []⟩
   refine zac _ rfl (fun h=>by cases h) fun _=>?_
   refine zad ?_
   refine zar rfl ?_
   simp
   exact ⟨i+1,by omega,by omega,Le.go [(31,31)] [] rfl rfl (by simp [hw1,hsu]) (by simp [fcd,hsu])⟩
 rw [decide_eq_false_iff_not] at h5
 obtain rfl : i=b.edges.length:=by omega
 have hfin : Q=zgY a b:=by rw [hQ,hO]; rfl
 refine zal ?_
 refine hit ?_
 refine zaa ⟨79,[(4,eSts (zgY a b)),(5,.I 0)],[],1500⟩ rfl ?_ ?_
 ·simp
  exact Le.go [] [31] rfl rfl (by simp [htQ,fcd,← hfin]) (by simp)
 refine zag ?_
 exact ⟨.inr rfl,zak.out [] [] rfl (by simp) (by simp) (by simp) (by simp)⟩
end
set_option maxRecDepth 100000 in
theorem zoV (l : List GStp) (hl : l.length≤1000000) : zai Tryz.prog zdU [eSts l,eSts l] [] (.B true) []:=by
 refine zju.acalls (nbz rfl) (nbz rfl) (Nat.le_refl _) ?_
 show awp _ 0 _ _ ⟨26,[(0,eSts l),(1,eSts l)],[],16⟩
 refine zaa ⟨26,[(0,eSts l),(1,eSts l)],[],60⟩ rfl ?_ ?_
 ·simp
  exact LeH [] []
 refine zab ?_
 refine zaa ⟨26,[(0,eSts l),(1,eSts l),(10,.B false)],[],120⟩ rfl ?_ ?_
 ·simp
  exact LeH [] []
 refine zac _ rfl (fun h=>by cases h) fun _=>?_
 refine zad ?_
 refine zab ?_
 refine zaa ⟨26,[(0,eSts l),(1,eSts l),(5,.I 0)],[],160⟩ rfl ?_ ?_
 ·simp
  exact LeH [] []
 refine zaf ?_
 refine zan (ι:=Nat) (fun i=>⟨26,[(0,eSts l),(1,eSts l),(5,.I i)],[],200⟩) (fun i=>i≤l.length) (fun i=>l.length - i) 0 (Nat.zero_le _) (LeH [] []) ?_
 intro i hi
 refine zab ?_
 refine zaa ⟨26,[(0,eSts l),(1,eSts l),(5,.I i),(14,.B (decide (i<l.length)))],[],300⟩ rfl ?_ ?_
 ·simp
  exact LeH [] []
 refine zac _ rfl (fun h5=>?_) fun h5=>?_
 ·rw [decide_eq_true_eq] at h5
  have hw1 : IntKind.i64.wrap ((i : Int)+1)=(i : Int)+1:=w64 (by omega) (by omega)
  refine zad ?_
  refine zab ?_
  refine zaf ?_
  refine zaq ⟨26,[(0,eSts l),(1,eSts l),(5,.I i),(25,.B false)],[],500⟩ rfl ?_ ?_
  ·simp [h5]
   exact ⟨rfl,LeH [] []⟩
  refine zac _ rfl (fun h=>by cases h) fun _=>?_
  refine zad ?_
  refine zar rfl ?_
  simp
  exact ⟨i+1,by omega,by omega,Le.go [] [] rfl rfl (by simp [hw1]) (by simp)⟩
 rw [decide_eq_false_iff_not] at h5
 refine zal ?_
 refine hit ?_
 refine zaa ⟨26,[(4,.B true)],[],400⟩ rfl ?_ ?_
 ·simp
  exact LeH [] []
 refine zag ?_
 exact ⟨.inr rfl,zak.one (by simp)⟩
structure StpQ where
 k : Nat
 m : Nat
 b : Gr
structure BOk (b : Gr) : Prop where
 ok : GrOk b
 lo : 2≤b.size
 hi : b.size≤9
theorem BOk.step {g b : Gr} (hb : GrOk b∧b.size=g.size∧b.gone=g.gone) {s : GStp} (h : (zaD b s).2=0) : GrOk (zaD b s).1∧(zaD b s).1.size=g.size∧(zaD b s).1.gone=g.gone:=by
 obtain ⟨h1,h2,h3,_⟩:=zgK hb.1 h
 exact ⟨h1,h2.trans hb.2.1,h3.trans hb.2.2⟩
set_option maxRecDepth 100000 in
set_option maxHeartbeats 8000000 in
theorem zgW (L M : List Int) : zai Tryz.prog zeH [ints L,ints M] [] (.B true) []:=by
 refine zio.acalls (nbz rfl) (nbz rfl) (Nat.le_refl _) ?_
 show awp _ 0 _ _ ⟨154,[(0,ints L),(1,ints M)],[],16⟩
 refine zaa ⟨154,[(0,ints L),(1,ints M)],[],60⟩ rfl ?_ ?_
 ·simp
  exact LeH [] []
 refine zab ?_
 refine zaa ⟨154,[(0,ints L),(1,ints M),(34,.B (!(decide (L.length≤400) && decide (M.length≤400))))],[],160⟩ rfl ?_ ?_
 ·by_cases h1 : L.length≤400
  ·have hc1:=znD L
   rw [decide_eq_true h1] at hc1
   simp
   refine zaj hc1 (by simp) ?_
   simp
   refine zaj (znD M) (by simp) ?_
   simp
   exact Le.go [] [] rfl rfl (by simp [h1]) (by simp)
  ·have hc1:=znD L
   rw [decide_eq_false h1] at hc1
   simp
   refine zaj hc1 (by simp) ?_
   simp
   exact Le.go [] [] rfl rfl (by simp [h1]) (by simp)
 refine zac _ rfl (fun h3=>?_) fun h3=>?_
 ·refine rx (s:=?s4) [4] [] [] rfl ?o4 ?q4
  case o4=>simp; refine zaj zi8 (by simp) ?_; simp; rfl
  refine zag ?_
  exact ⟨.inr rfl,zak.one (by simp)⟩
 obtain ⟨hL,hM⟩ : L.length≤400∧M.length≤400:=by simpa using h3
 clear h3
 obtain ⟨g,b1,⟨hg,hg2,hg9,hb1⟩,hcg⟩:=zvd L hL
 obtain ⟨h0,m1,⟨hh0,hh2,hh9,hm1⟩,hch⟩:=zvd M hM
 obtain ⟨q,b2,⟨hb2,hq⟩,hcq⟩:=zh3 L b1 4 hL hb1 (by omega) (by omega)
 have hel:=zoD hg hg9
 have hgl:=hg.gone_le
 refine zad ?_
 refine zaa ⟨154,[(5,.pt 20 0 0),(6,.pt 21 0 0)],[(20,some (dice L 0)),(21,some (dice M 0))],300⟩ rfl ?_ ?_
 ·simp
  refine zaY (zto L) (by simp) ?_
  simp
  refine zaY (zto M) (by simp) ?_
  simp
  exact LeH [(168,20),(184,21)] []
 refine zaa ⟨154,[(5,.pt 20 0 0),(6,.pt 21 0 0),(7,.pv (gC g)),(8,.pt 60 0 0)],[(20,some (dice L b1)),(21,some (dice M m1)),(60,some ⟨3,[gC h0],0⟩)],500⟩ rfl ?_ ?_
 ·simp
  refine zbk (i:=20) rfl (e':=dice L 0) (by simp) hcg (by simp) (by simp) ?_
  simp
  refine zbk (i:=21) rfl (e':=dice M 0) (by simp) hch (by simp) (by simp) ?_
  simp [zay]
  exact LeH [(20,20),(21,21),(340,60)] [332]
 refine zaK (ι:=Gr) (fun b=>⟨154,[(5,.pt 20 0 0),(7,.pv (gC g)),(8,.pv (gC b))],[(20,some (dice L b2))],3000⟩) BOk ?_ ?_
 ·refine zaa ⟨154,[(5,.pt 20 0 0),(6,.pt 21 0 0),(7,.pv (gC g)),(8,.pt 60 0 0),(46,.B (decide (0<q)))],[(20,some (dice L b2)),(21,some (dice M m1)),(60,some ⟨3,[gC h0],0⟩)],600⟩ rfl ?_ ?_
  ·simp
   refine zbk (i:=20) rfl (e':=dice L b1) (by simp) hcq (by simp) (by simp) ?_
   simp
   exact LeH [(20,20),(21,21),(60,60)] []
  refine zac _ rfl (fun h8=>?_) fun h8=>?_
  ·have hcpy:=zcY g (by omega) (by omega)
   obtain ⟨k0,m2,⟨hm2,hk0⟩,hck⟩:=zh3 M m1 6 hM hm1 (by omega) (by omega)
   have htl : ∀ h : Ed→List AV,List.take g.edges.length (List.map h g.edges)=List.map h g.edges:=fun h=>List.take_of_length_le (by simp)
   have htl2 : ∀ h : Int→List AV,List.take g.gone.length (List.map h g.gone)=List.map h g.gone:=fun h=>List.take_of_length_le (by simp)
   refine zaa ⟨154,[(5,.pt 20 0 0),(6,.pt 21 0 0),(7,.pv (gC g)),(8,.pt 60 0 0)],[(20,some (dice L b2)),(21,some (dice M m1)),(60,some ⟨3,[gC g],0⟩)],800⟩ rfl ?_ ?_
   ·simp
    refine zje hcpy rfl ?_
    simp [zay]
    exact Le.go [(20,20),(21,21),(60,60)] [608,609] rfl rfl (by simp) (by simp [fcd,htl,htl2])
   refine zaa ⟨154,[(5,.pt 20 0 0),(6,.pt 21 0 0),(7,.pv (gC g)),(8,.pt 60 0 0),(9,.I k0)],[(20,some (dice L b2)),(21,some (dice M m2)),(60,some ⟨3,[gC g],0⟩)],900⟩ rfl ?_ ?_
   ·simp
    refine zbk (i:=21) rfl (e':=dice M m1) (by simp) hck (by simp) (by simp) ?_
    simp
    exact LeH [(20,20),(21,21),(60,60)] []
   refine zaf ?_
   refine zan (ι:=StpQ) (fun s=>⟨154,[(5,.pt 20 0 0),(6,.pt 21 0 0),(7,.pv (gC g)),(8,.pt 60 0 0),(9,.I s.k)],[(20,some (dice L b2)),(21,some (dice M s.m)),(60,some ⟨3,[gC s.b],0⟩)],1000⟩) (fun s=>s.m≤M.length∧s.k≤6∧GrOk s.b∧s.b.size=g.size∧s.b.gone=g.gone) (fun s=>s.k) ⟨k0,m2,g⟩ ⟨hm2,by simp only; omega,hg,rfl,rfl⟩ (LeH [(20,20),(21,21),(60,60)] []) ?_
   rintro ⟨k,m,b⟩ ⟨hm,hk,hb⟩
   simp only at hm hk hb
   refine zab ?_
   refine zaa ⟨154,[(5,.pt 20 0 0),(6,.pt 21 0 0),(7,.pv (gC g)),(8,.pt 60 0 0),(9,.I k),(52,.B (decide (0<k)))],[(20,some (dice L b2)),(21,some (dice M m)),(60,some ⟨3,[gC b],0⟩)],1100⟩ rfl ?_ ?_
   ·simp
    exact LeH [(20,20),(21,21),(60,60)] []
   refine zac _ rfl (fun h5=>?_) fun h5=>?_
   ·rw [decide_eq_true_eq] at h5
    have hwk : IntKind.i64.wrap ((k : Int) - 1)=((k - 1 : Nat) : Int):=by rw [w64 (by omega) (by omega)]; omega
    obtain ⟨x,m3,⟨hm3,hx⟩,hc3⟩:=zh3 M m g.size hM hm (by omega) (by omega)
    obtain ⟨y,m4,⟨hm4,hy⟩,hc4⟩:=zh3 M m3 g.size hM hm3 (by omega) (by omega)
    obtain ⟨z,m5,⟨hm5,hz⟩,hc5⟩:=zh3 M m4 3 hM hm4 (by omega) (by omega)
    have hwz : IntKind.i64.wrap (1+(z : Int))=1+(z : Int):=w64 (by omega) (by omega)
    obtain ⟨e,he⟩ : ∃ e : Ed,e=⟨x,y,1+z⟩:=⟨_,rfl⟩
    refine zad ?_
    refine zab ?_
    refine zaf ?_
    refine zaq ⟨154,[(5,.pt 20 0 0),(6,.pt 21 0 0),(7,.pv (gC g)),(8,.pt 60 0 0),(9,.I k),(10,.pv (eC e))],[(20,some (dice L b2)),(21,some (dice M m5)),(60,some ⟨3,[gC b],0⟩)],1300⟩ rfl ?_ ?_
    ·simp
     refine zbk (i:=21) rfl (e':=dice M m) (by simp) hc3 (by simp) (by simp) ?_
     simp
     refine zbk (i:=21) rfl (e':=dice M m3) (by simp) hc4 (by simp) (by simp) ?_
     simp
     refine zbk (i:=21) rfl (e':=dice M m4) (by simp) hc5 (by simp) (by simp) ?_
     simp [zay,hwz]
     exact ⟨rfl,Le.go [(20,20),(21,21),(60,60)] [1196] rfl rfl (by simp [he]) (by simp)⟩
    clear he hc3 hc4 hc5 hx hy hz hwz
    have hbel:=hb.1.edges_le
    have hbgl:=hb.1.gone_le
    have hwo:=zjG b e.f e.t (by omega) (by omega)
    refine zaK (ι:=Gr) (fun b'=>⟨154,[(5,.pt 20 0 0),(6,.pt 21 0 0),(7,.pv (gC g)),(8,.pt 60 0 0),(9,.I k),(10,.pv (eC e))],[(20,some (dice L b2)),(21,some (dice M m5)),(60,some ⟨3,[gC b'],0⟩)],1900⟩) (fun b'=>GrOk b'∧b'.size=g.size∧b'.gone=g.gone) ?_ ?_
    ·have hst : (zaO b e.f e.t).2=0→GrOk (zaO b e.f e.t).1∧(zaO b e.f e.t).1.size=g.size∧(zaO b e.f e.t).1.gone=g.gone:=fun h=>BOk.step hb (s:=⟨true,e⟩) h
     generalize zaO b e.f e.t=r at *
     obtain ⟨r1,r2⟩:=r
     simp only at hst hwo
     refine zaa ⟨154,[(5,.pt 20 0 0),(6,.pt 21 0 0),(7,.pv (gC g)),(8,.pt 60 0 0),(9,.I k),(10,.pv (eC e)),(11,.pv (gC r1)),(12,.I r2)],[(20,some (dice L b2)),(21,some (dice M m5)),(60,some ⟨3,[gC b],0⟩)],1500⟩ rfl ?_ ?_
     ·simp
      refine zaj hwo (by simp) ?_
      simp [zay]
      exact LeH [(20,20),(21,21),(60,60)] [1372]
     refine zaa ⟨154,[(5,.pt 20 0 0),(6,.pt 21 0 0),(7,.pv (gC g)),(8,.pt 60 0 0),(9,.I k),(10,.pv (eC e)),(11,.pv (gC r1)),(77,.B (r2 == 0))],[(20,some (dice L b2)),(21,some (dice M m5)),(60,some ⟨3,[gC b],0⟩)],1600⟩ rfl ?_ ?_
     ·simp
      exact LeH [(20,20),(21,21),(60,60)] []
     refine zac _ rfl (fun h6=>?_) fun h6=>?_
     ·have h7 : r2=0:=by simpa using h6
      refine zar rfl ?_
      simp [zay]
      exact ⟨r1,hst h7,LeH [(20,20),(21,21),(60,60)] []⟩
     ·refine zad ?_
      exact ⟨b,hb,LeH [(20,20),(21,21),(60,60)] []⟩
    clear hwo hbel hbgl hb
    intro b' hb
    have hbel:=hb.1.edges_le
    have hbgl:=hb.1.gone_le
    have hwi:=zhV b' e (by omega) (by omega)
    have hst : (zbu b' e).2=0→GrOk (zbu b' e).1∧(zbu b' e).1.size=g.size∧(zbu b' e).1.gone=g.gone:=fun h=>BOk.step hb (s:=⟨false,e⟩) h
    generalize zbu b' e=r at *
    obtain ⟨r1,r2⟩:=r
    simp only at hst hwi
    obtain ⟨o,m6,hm6,hc6⟩:=zwM M m5 2 hM hm5 (by omega) (by omega)
    refine zaa ⟨154,[(5,.pt 20 0 0),(6,.pt 21 0 0),(7,.pv (gC g)),(8,.pt 60 0 0),(9,.I k),(13,.pv (gC r1)),(14,.I r2)],[(20,some (dice L b2)),(21,some (dice M m5)),(60,some ⟨3,[gC b'],0⟩)],2100⟩ rfl ?_ ?_
    ·simp
     refine zaj hwi (by simp) ?_
     simp [zay]
     exact LeH [(20,20),(21,21),(60,60)] [1948]
    by_cases hr2 : r2=0
    ·refine zaa ⟨154,[(5,.pt 20 0 0),(6,.pt 21 0 0),(7,.pv (gC g)),(8,.pt 60 0 0),(9,.I k),(13,.pv (gC r1)),(90,.B o)],[(20,some (dice L b2)),(21,some (dice M m6)),(60,some ⟨3,[gC b'],0⟩)],2200⟩ rfl ?_ ?_
     ·simp [hr2]
      refine zbk (i:=21) rfl (e':=dice M m5) (by simp) hc6 (by simp) (by simp) ?_
      simp
      exact LeH [(20,20),(21,21),(60,60)] []
     refine zac _ rfl (fun h6=>?_) fun h6=>?_
     ·refine zar rfl ?_
      simp [zay]
      refine zar rfl ?_
      simp [hwk]
      exact ⟨⟨k - 1,m6,r1⟩,⟨hm6,by simp only; omega,hst hr2⟩,by simp only; omega,LeH [(20,20),(21,21),(60,60)] []⟩
     ·refine zad ?_
      refine zar rfl ?_
      simp [hwk]
      exact ⟨⟨k - 1,m6,b'⟩,⟨hm6,by simp only; omega,hb⟩,by simp only; omega,LeH [(20,20),(21,21),(60,60)] []⟩
    ·have hr2' : (r2 == 0)=false:=by simp [hr2]
     refine zaa ⟨154,[(5,.pt 20 0 0),(6,.pt 21 0 0),(7,.pv (gC g)),(8,.pt 60 0 0),(9,.I k),(90,.B false)],[(20,some (dice L b2)),(21,some (dice M m5)),(60,some ⟨3,[gC b'],0⟩)],2200⟩ rfl ?_ ?_
     ·simp [hr2']
      exact LeH [(20,20),(21,21),(60,60)] []
     refine zac _ rfl (fun h=>by cases h) fun _=>?_
     refine zad ?_
     refine zar rfl ?_
     simp [hwk]
     exact ⟨⟨k - 1,m5,b'⟩,⟨hm5,by simp only; omega,hb⟩,by simp only; omega,LeH [(20,20),(21,21),(60,60)] []⟩
   refine zal ?_
   refine hit ?_
   exact ⟨b,⟨hb.1,by rw [hb.2.1]; exact hg2,by rw [hb.2.1]; exact hg9⟩,LeH [(20,20)] [60]⟩
  ·refine zad ?_
   exact ⟨h0,⟨hh0,hh2,hh9⟩,LeH [(20,20)] [60]⟩
 rintro b ⟨hb,hb2',hb9⟩
 clear hch hcq hcg hh0 hh2 hh9 hm1 hM hq
 have hbel:=zoD hb hb9
 obtain ⟨l,e,hll,hu,hr,he⟩ : ∃ (l : List GStp) (e : Int),l.length≤200∧zai Tryz.prog zdd [eG g,eG b] [] (.tup [eSts l,.I e]) []∧zai Tryz.prog zdJ [eG g,eG b] [] (.tup [eSts l,.I e]) []∧(e=0→g.size=b.size∧runS g l=(b,l.length,0)):=by
  by_cases hd : g.size=b.size∧g.gone=b.gone
  ·refine ⟨zgY g b,0,?_,zi6 hg hb hd.1 hd.2,zjB hg hb hd.1 hd.2,fun _=>⟨hd.1,?_⟩⟩
   ·have:=zsy g b
    omega
   ·rw [zog]
    exact zsG hg hb (by omega) hd.1 hd.2
  ·exact ⟨[],1,by simp,ziZ hg hb hd,zjt hg hb hd,fun h=>by cases h⟩
 have hss:=zoV l (by omega)
 refine zaa ⟨154,[(5,.pt 20 0 0),(7,.pv (gC g)),(8,.pv (gC b)),(15,eSts l),(16,.I e)],[(20,some (dice L b2))],3200⟩ rfl ?_ ?_
 ·simp
  refine zaj hu (by simp) ?_
  simp
  exact LeH [(20,20)] []
 refine zaa ⟨154,[(5,.pt 20 0 0),(7,.pv (gC g)),(8,.pv (gC b)),(15,eSts l),(16,.I e),(17,eSts l),(18,.I e)],[(20,some (dice L b2))],3400⟩ rfl ?_ ?_
 ·simp
  refine zaj hr (by simp) ?_
  simp
  exact LeH [(20,20)] []
 refine zab ?_
 refine zaa ⟨154,[(5,.pt 20 0 0),(7,.pv (gC g)),(8,.pv (gC b)),(15,eSts l),(16,.I e),(112,.B false)],[(20,some (dice L b2))],3600⟩ rfl ?_ ?_
 ·simp
  refine zaj hss (by simp) ?_
  simp
  exact LeH [(20,20)] []
 refine zac _ rfl (fun h=>by cases h) fun _=>?_
 refine zad ?_
 refine zab ?_
 by_cases he0 : e=0
 case neg =>
  have he0' : (e != 0)=true:=by simp [he0]
  refine zaa ⟨154,[(114,.B true)],[],3700⟩ rfl ?_ ?_
  ·simp [he0']
   exact LeH [] []
  refine zac _ rfl (fun _=>?_) fun h=>by cases h
  refine zaa ⟨154,[(4,.B true)],[],3800⟩ rfl ?_ ?_
  ·simp
   refine zaj zi8 (by simp) ?_
   simp
   exact LeH [] []
  refine zag ?_
  exact ⟨.inr rfl,zak.one (by simp)⟩
 obtain ⟨hsz,hrun⟩:=he he0
 subst he0
 obtain ⟨⟨p,b3⟩,⟨hp,hp2,hp3,hb3⟩,hcp⟩:=zuE L b2 g hL hb2 (by omega) (by omega)
 simp only at hp hp2 hp3 hb3 hcp
 have hpb : za3 b.size p:=by rw [← hsz]; exact hp
 obtain ⟨f1,hf1,hst1⟩:=zik hg hp
 obtain ⟨f2,hf2,hst2⟩:=zik hb hpb
 have hck1:=zeU hg hp (by omega) hf1
 have hT1:=zez hg hp hf1
 have hT2:=zez hb hpb hf2
 obtain ⟨⟨a3,f3,R3⟩,hon3,hal3⟩:=zjg (l:=l) hck1.1 hg hp (by omega) hT1 (by omega)
 rw [hrun] at hon3 hal3
 simp only at hon3 hal3
 have hab : a3=accG b p∧R3=refG b p:=by
  rcases hon3 with ⟨h,h1,h2,h3,h4⟩ | ⟨h,h1,h2,h3⟩
  ·rw [h2,h4,h1]
   exact ⟨rfl,rfl⟩
  ·exact ⟨h1,h2⟩
 obtain ⟨rfl,rfl⟩:=hab
 have hlike:=zp3 (acc:=accG b p) (R:=refG b p) (f:=f3) (f':=f2) hT2.e hT2.o hT2.s hT2.t (by have:=hT2.a; omega) hT2.r (fun r hr=>by have:=hT2.d r hr; omega)
 clear hf1 hf2 hck1 hT1 hT2 hon3 hrun hu hr he hss
 generalize accG g p=acc1 at *
 generalize refG g p=R1 at *
 generalize accG b p=acc2 at *
 generalize refG b p=R2 at *
 refine zaa ⟨154,[(5,.pt 20 0 0),(7,.pv (gC g)),(8,.pv (gC b)),(15,eSts l),(114,.B false)],[(20,some (dice L b2))],3700⟩ rfl ?_ ?_
 ·simp
  exact LeH [(20,20)] []
 refine zac _ rfl (fun h=>by cases h) fun _=>?_
 refine zad ?_
 refine zaa ⟨154,[(7,.pv (gC g)),(8,.pv (gC b)),(15,eSts l),(19,.pv (pC p))],[],3900⟩ rfl ?_ ?_
 ·simp
  refine zbk (i:=20) rfl (e':=dice L b2) (by simp) hcp (by simp) (by simp) ?_
  simp
  exact LeH [] [3724]
 refine zaa ⟨154,[(8,.pv (gC b)),(15,eSts l),(19,.pv (pC p)),(20,.pv (tC g p acc1 f1 R1))],[],4100⟩ rfl ?_ ?_
 ·simp
  refine zaj hst1 (by simp) ?_
  simp [zay]
  exact LeH [] [3948]
 refine zaa ⟨154,[(15,eSts l),(20,.pv (tC g p acc1 f1 R1)),(22,.pv (tC b p acc2 f2 R2))],[],4300⟩ rfl ?_ ?_
 ·simp
  refine zaj hst2 (by simp) ?_
  simp [zay]
  exact LeH [] [4148]
 refine zaa ⟨154,[(15,eSts l),(22,.pv (tC b p acc2 f2 R2)),(24,.pv (tC b p acc2 f3 R2)),(25,.I l.length),(26,.I 0)],[],4500⟩ rfl ?_ ?_
 ·simp
  refine zaj hal3 (by simp) ?_
  simp [zay]
  exact LeH [] [4356]
 refine zaa ⟨154,[(4,.B true)],[],4800⟩ rfl ?_ ?_
 ·simp
  refine zaj zi8 (by simp) ?_
  simp
  refine zaj hlike (by simp) ?_
  simp
  exact LeH [] []
 refine zag ?_
 exact ⟨.inr rfl,zak.one (by simp)⟩
end Go.Proofs.YthmaflecfppoiaaGreat
