/- Texts of this claim,merged. -/
import Derived.Test.YtkngdgplbojdlaaGreatRv11
import Derived.Test.YtkngdgplbojdlaaGreatRv7
import Derived.Test.YtkngdgplbojdlaaGreatRv9
set_option linter.unusedSimpArgs false
set_option linter.unusedVariables false
set_option linter.unusedSectionVars false
namespace Go.Proofs.YtkngdgplbojdlaaGreat
open Go
def arc1 (c : List Int) (x : Int) : List Ed:=if 0<c.getD x.toNat 0 then [⟨0,2+2*x,c.getD x.toNat 0⟩] else []
def arc2 (c : List Int) (i : Nat) : List Ed:=if 0<c.getD i 0 then [⟨2+2*(i : Int),3+2*(i : Int),c.getD i 0 - 1⟩] else []
def arc3 (c : List Int) (x : Int) : List Ed:=if 0<c.getD x.toNat 0 then [⟨2+2*x,1,1⟩] else []
def arc4 (c : List Int) (e : Ed) : List Ed:=if 0<c.getD e.f.toNat 0 then [⟨3+2*e.f,2+2*e.t,64⟩] else []
theorem zem {α : Type} (q : α→Bool) (f : α→Ed) (l : List α) : (l.filter q).map f=l.flatMap fun x=>if q x=true then [f x] else []:=by
 induction l with
 | nil=>rfl
 | cons x l ih=>by_cases h : q x=true <;> simp [h,ih]
theorem zkz (g : Gr) (p : Pol) (c sinks : List Int) : zbR g p c sinks=p.seeds.flatMap (arc1 c)++(List.range c.length).flatMap (arc2 c)++sinks.flatMap (arc3 c)++(zaj g p.lv).edges.flatMap (arc4 c):=by
 unfold zbR
 rw [zem,zem,zem,zem]
 simp only [decide_eq_true_eq]
 rfl
theorem zja {α : Type} (f : α→List Ed) (l : List α) (i : Nat) (h : i<l.length) : (l.take (i+1)).flatMap f=(l.take i).flatMap f++f l[i]:=by
 rw [List.take_succ_eq_append_getElem h,List.flatMap_append]
 simp
theorem zfp {α : Type} (f : α→List Ed) (hf : ∀ x,(f x).length≤1) (l : List α) : (l.flatMap f).length≤l.length:=by
 induction l with
 | nil=>simp
 | cons x l ih=>rw [List.flatMap_cons,List.length_append,List.length_cons]; have:=hf x; omega
theorem znS (c : List Int) (x : Int) : (arc1 c x).length≤1:=by unfold arc1; split <;> simp
theorem zoz (c : List Int) (x : Nat) : (arc2 c x).length≤1:=by unfold arc2; split <;> simp
theorem zoq (c : List Int) (x : Int) : (arc3 c x).length≤1:=by unfold arc3; split <;> simp
theorem znZ (c : List Int) (x : Ed) : (arc4 c x).length≤1:=by unfold arc4; split <;> simp
theorem zft {α : Type} (f : α→List Ed) (hf : ∀ x,(f x).length≤1) (l : List α) (i : Nat) : ((l.take i).flatMap f).length≤l.length:=Nat.le_trans (zfp f hf _) (List.length_take_le' i l)
set_option maxRecDepth 100000 in
set_option maxHeartbeats 4000000 in
theorem zkW (g : Gr) (p : Pol) (sinks : List Int) (hg : GrOk g) (hp : zbl g.size p) (hr : Rise sinks 0 (g.size - 1)) (hs : p.seeds.length≤64) (hsl : sinks.length≤64) :
  zak Tryz.prog zgj [eG g,eP p,ints sinks] [] (.tup [eN ⟨2+2*g.size,zbR g p (zaz g p) sinks⟩,.I 0]) []:=by
 refine zmT.acalls (nbz rfl) (nbz rfl) (Nat.le_refl _) ?_
 show awp _ 0 _ _ ⟨123,[(0,eG g),(1,eP p),(2,ints sinks)],[],16⟩
 have hsz:=hg.1.1
 have hsz2:=hg.1.2.1
 have hel:=hg.edges_le
 have hgl:=hg.gone_le
 have hchk:=zeO g p (by omega) (by omega) (by omega) (by have:=hp.2.2.2.1; omega)
 rw [if_pos hg,if_pos hp] at hchk
 have hcap:=zlH g p hg (by omega)
 have hcb:=zmi (g:=g) hp
 have hcl : (zaz g p).length=g.size.toNat:=zce
 rw [← hcl] at hcap
 have hlev:=zgi g p.lv (by omega) (by omega)
 rw [zkz]
 obtain ⟨C,hC⟩ : ∃ C,C=zaz g p:=⟨_,rfl⟩
 rw [← hC] at hcap hcl hcb ⊢
 have hGe : ∀ e∈(zaj g p.lv).edges,e∈g.edges:=fun e he=>(List.mem_filter.1 he).1
 have hGl : (zaj g p.lv).edges.length≤500:=Nat.le_trans (List.length_filter_le ..) hel
 obtain ⟨G,hG⟩ : ∃ G,G=zaj g p.lv:=⟨_,rfl⟩
 rw [← hG] at hlev hGe hGl ⊢
 have hw1 : IntKind.i64.wrap (g.size - 1)=g.size - 1:=w64 (by omega) (by omega)
 have hfit : ∀ e∈G.edges,(0≤e.f∧e.f<g.size)∧(0≤e.t∧e.t<g.size):=fun e he=>by
  have:=hg.fits e (hGe e he)
  unfold Fits at this
  omega
 have hkey : ∀ k : Int,0≤k→k<g.size → ∃ j : Nat,k=j∧j<C.length∧j<64:=fun k h0 h1=>⟨k.toNat,by omega,by omega,by omega⟩
 have hseed : ∀ k∈p.seeds,∃ j : Nat,k=j∧j<C.length∧j<64:=fun k hk=>by
  obtain ⟨i,hi,rfl⟩:=List.getElem_of_mem hk
  have:=hp.2.1 i hi
  exact hkey _ (by omega) (by omega)
 have hsink : ∀ k∈sinks,∃ j : Nat,k=j∧j<C.length∧j<64:=fun k hk=>by
  obtain ⟨i,hi,rfl⟩:=List.getElem_of_mem hk
  have:=hr i hi
  exact hkey _ (by omega) (by omega)
 refine zab ⟨123,[(2,ints sinks),(3,.pv (gC g)),(4,.pv (pC p)),(6,.pt 32 0 0)],[(32,some ⟨2,[[.I 0,.nilS]],0⟩)],48⟩ rfl ?_ ?_
 ·simp
  exact LeH [(32,32)] [16,24]
 refine zaa ?_
 refine rk (s:=?s2) [2,3,4,6,8] [32] rfl ?o2 ?q2
 case o2=>simp; refine zaq hchk (by simp) ?_; simp; rfl
 refine rk (s:=?s3) [2,3,4,6,24] [32] rfl ?o3 ?q3
 case o3=>simp; rfl
 refine zae _ rfl (fun h4=>?_) fun h4=>zaf ?_
 ·simp at h4
 refine zaa ?_
 refine rk (s:=?s5) [2,3,4,6,32] [32] rfl ?o5 ?q5
 case o5=>simp [hw1]; refine zaq (zfN sinks 0 (g.size - 1) (by omega)) (by simp) ?_; simp [hr]; rfl
 refine zae _ rfl (fun h6=>?_) fun h6=>zaf ?_
 ·simp at h6
 refine rk (s:=?s7) [2,3,4,6,9] [32,176] rfl ?o7 ?q7
 case o7=>simp; refine zaq (zc2 g.size hsz (by omega)) (by simp) ?_; simp; rfl
 obtain ⟨N,hN⟩ : ∃ N : Int,N=2+2*g.size:=⟨_,rfl⟩
 simp only [← hN]
 refine rk (s:=?s8) [2,3,4,6,9,10] [32,176] rfl ?o8 ?q8
 case o8=>simp; rfl
 refine zab ⟨123,[(2,ints sinks),(3,.pv (gC g)),(4,.pv (pC p)),(6,.pt 32 0 0),(9,.pt 176 0 0),(10,.fn (.func zaI) [] [.pt 176 0 0]),(11,ints C)],[(32,some ⟨2,[[.I 0,.nilS]],0⟩),(176,some ⟨2,[[.I N,.nilS]],0⟩)],240⟩ rfl ?_ ?_
 ·simp
  refine zcq hcap (by simp) ?_
  simp [fcd]
  exact Le.go [(32,32),(176,176)] [224] rfl rfl (by simp [fcd,zao]) (by simp)
 have hb1 : (p.seeds.flatMap (arc1 C)).length≤64:=Nat.le_trans (zfp _ (znS C) _) hs
 have hb2 : ((List.range C.length).flatMap (arc2 C)).length≤64:=Nat.le_trans (zfp _ (zoz C) _) (by rw [List.length_range]; omega)
 have hb3 : (sinks.flatMap (arc3 C)).length≤64:=Nat.le_trans (zfp _ (zoq C) _) hsl
 have hb4 : (G.edges.flatMap (arc4 C)).length≤500:=Nat.le_trans (zfp _ (znZ C) _) hGl
 obtain ⟨X1,hX1⟩ : ∃ X,X=p.seeds.flatMap (arc1 C):=⟨_,rfl⟩
 obtain ⟨X2,hX2⟩ : ∃ X,X=(List.range C.length).flatMap (arc2 C):=⟨_,rfl⟩
 obtain ⟨X3,hX3⟩ : ∃ X,X=sinks.flatMap (arc3 C):=⟨_,rfl⟩
 obtain ⟨X4,hX4⟩ : ∃ X,X=G.edges.flatMap (arc4 C):=⟨_,rfl⟩
 obtain ⟨Z2,hZ2⟩ : ∃ Z,Z=X1++X2:=⟨_,rfl⟩
 obtain ⟨Z3,hZ3⟩ : ∃ Z,Z=Z2++X3:=⟨_,rfl⟩
 obtain ⟨Z4,hZ4⟩ : ∃ Z,Z=Z3++X4:=⟨_,rfl⟩
 rw [← hX1] at hb1
 rw [← hX2] at hb2
 rw [← hX3] at hb3
 rw [← hX4] at hb4
 rw [← hX1,← hX2,← hX3,← hX4,← hZ2,← hZ3,← hZ4]
 have hz2 : Z2.length≤128:=by rw [hZ2,List.length_append]; omega
 have hz3 : Z3.length≤192:=by rw [hZ3,List.length_append]; omega
 refine zaa ?_
 refine rk (s:=?sa1) [2,3,4,6,9,10,11,43,44,45] [32,176] rfl ?oa1 ?qa1
 case oa1=>simp; rfl
 refine zah ?_
 obtain ⟨Fa,Fa0,Fas,Fal,FaN⟩ : ∃ F : Nat→List Ed,F 0=[]∧(∀ i (h : i<(p.seeds).length),F (i+1)=F i++arc1 C (p.seeds)[i])∧(∀ i,(F i).length≤64)∧F (p.seeds).length=(p.seeds).flatMap (arc1 C) :=
  ⟨fun i=>((p.seeds).take i).flatMap (arc1 C),by simp,fun i h=>by simp only [zja _ _ i h,List.append_assoc],fun i=>by have:=zft _ (znS C) (p.seeds) i; exact Nat.le_trans this hs,by simp⟩
 rw [← hX1] at FaN
 refine zav (ι:=Nat) (fun i=>⟨123,[(2,ints sinks),(3,.pv (gC g)),(4,.pv (pC p)),(6,.pt 32 0 0),(9,.pt 176 0 0),(10,.fn (.func zaI) [] [.pt 176 0 0]),(11,ints C),(43,ints p.seeds),(44,.I p.seeds.length),(45,.I i)],[(32,some ⟨2,[[.I 0,.nilS]],0⟩),(176,some (outV N 16 (Fa i).length)),(16,some ⟨3,za3 (Fa i),0⟩)],272⟩) (fun i=>i≤p.seeds.length) (fun i=>p.seeds.length - i) 0 (Nat.zero_le _) (Le.lst [(32,32),(176,176)] [] [(16,3)] rfl (by simp) (by simp) (by simp) (by simp) (by simp) (by simp) (by simp) (by simp [Up]) (by simp [Fa0]; refine ⟨zaM.rfl' (by simp),zaM.row rfl (by omega) (by simp [UpL,Up])⟩)) ?_
 intro i hi
 refine rk (s:=?sa2) [2,3,4,6,9,10,11,43,44,45,46] [32,176,16] rfl ?oa2 ?qa2
 case oa2=>simp; rfl
 refine zaa ?_
 refine zae _ rfl (fun h7=>?_) fun h7=>?_
 ·simp at h7
  have hw : IntKind.i64.wrap ((i : Int)+1)=(i : Int)+1:=w64 (by omega) (by omega)
  have hFi:=Fal i
  obtain ⟨k,hk,hkC,hk64⟩:=hseed _ (List.getElem_mem h7)
  have hFn : Fa (i+1)=Fa i++if 0<C[k] then [⟨0,2+2*(k : Int),C[k]⟩] else []:=by
   rw [Fas i h7,hk]
   unfold arc1
   simp [hkC]
  refine zaf ?_
  refine zbH (ι:=Unit) (fun _=>⟨123,[(2,ints sinks),(3,.pv (gC g)),(4,.pv (pC p)),(6,.pt 32 0 0),(9,.pt 176 0 0),(10,.fn (.func zaI) [] [.pt 176 0 0]),(11,ints C),(43,ints p.seeds),(44,.I p.seeds.length),(45,.I i)],[(32,some ⟨2,[[.I 0,.nilS]],0⟩),(176,some (outV N 16 (Fa (i+1)).length)),(16,some ⟨3,za3 (Fa (i+1)),0⟩)],700⟩) (fun _=>True) ?_ fun _ _=>?_
  ·refine zah ?_
   refine rk (s:=?sa3) [2,3,4,6,9,10,11,13,43,44,45] [32,176,16] rfl ?oa3 ?qa3
   case oa3=>simp [h7,hk]; rfl
   refine rk (s:=?sa4) [2,3,4,6,9,10,11,13,43,44,45,53] [32,176,16] rfl ?oa4 ?qa4
   case oa4=>simp [hkC]; rfl
   refine zae _ rfl (fun h8=>?_) fun h8=>?_
   ·simp at h8
    rw [if_pos h8] at hFn
    refine zfe rfl ?_
    simp [hkC]
    refine zaq (zc2 k (by omega) (by omega)) (by simp) ?_
    simp [hkC]
    refine zi7 (i:=176) (j:=16) (by decide) rfl rfl (e1':=outV N 1 (Fa i).length) (e2':=⟨3,za3 (Fa i),0⟩) (by simp) (by simp [fcd]) (zrp N 0 (2+2*(k : Int)) C[k] (Fa i) _ rfl (by omega)) (by simp) (by simp) ?_
    simp [fcd]
    exact ⟨rfl,Le.go [(32,32),(176,176),(400,16)] [] rfl rfl (by simp [hFn]) (by simp [hFn,fcd])⟩
   ·simp at h8
    rw [if_neg (by omega)] at hFn
    refine zaf ?_
    exact ⟨(),trivial,Le.go [(32,32),(176,176),(16,16)] [] rfl rfl (by simp [hFn]) (by simp [hFn,fcd])⟩
  refine zac (s:=?sa9) rfl ?oa9 ?qa9
  case oa9=>simp; rfl
  exact ⟨i+1,by omega,by omega,Le.go [(32,32),(176,176),(16,16)] [] rfl rfl (by simp [hw]) (by simp [fcd])⟩
 simp at h7
 obtain rfl : i=p.seeds.length:=by omega
 rw [FaN]
 refine zas ?_
 refine hit ?_
 refine zaa ?_
 refine rk (s:=?sb1) [2,3,4,6,9,10,11,63,64,65] [32,176,16] rfl ?ob1 ?qb1
 case ob1=>simp; rfl
 refine zah ?_
 obtain ⟨Fb,Fb0,Fbs,Fbl,FbN⟩ : ∃ F : Nat→List Ed,F 0=X1∧(∀ i (h : i<(List.range C.length).length),F (i+1)=F i++arc2 C (List.range C.length)[i])∧(∀ i,(F i).length≤200)∧F (List.range C.length).length=X1++(List.range C.length).flatMap (arc2 C) :=
  ⟨fun i=>X1++((List.range C.length).take i).flatMap (arc2 C),by simp,fun i h=>by simp only [zja _ _ i h,List.append_assoc],fun i=>by have:=zft _ (zoz C) (List.range C.length) i; rw [List.length_range] at this; rw [List.length_append]; omega,by simp⟩
 rw [List.length_range,← hX2,← hZ2] at FbN
 refine zav (ι:=Nat) (fun i=>⟨123,[(2,ints sinks),(3,.pv (gC g)),(4,.pv (pC p)),(6,.pt 32 0 0),(9,.pt 176 0 0),(10,.fn (.func zaI) [] [.pt 176 0 0]),(11,ints C),(63,ints C),(64,.I C.length),(65,.I i)],[(32,some ⟨2,[[.I 0,.nilS]],0⟩),(176,some (outV N 16 (Fb i).length)),(16,some ⟨3,za3 (Fb i),0⟩)],304⟩) (fun i=>i≤C.length) (fun i=>C.length - i) 0 (Nat.zero_le _) (Le.go [(32,32),(176,176),(16,16)] [] rfl rfl (by simp [Fb0]) (by simp [Fb0,fcd])) ?_
 intro i hi
 refine rk (s:=?sb2) [2,3,4,6,9,10,11,63,64,65,66] [32,176,16] rfl ?ob2 ?qb2
 case ob2=>simp; rfl
 refine zaa ?_
 refine zae _ rfl (fun h7=>?_) fun h7=>?_
 ·simp at h7
  have hw : IntKind.i64.wrap ((i : Int)+1)=(i : Int)+1:=w64 (by omega) (by omega)
  have hFi:=Fbl i
  have hkC:=h7
  have hFn : Fb (i+1)=Fb i++if 0<C[i] then [⟨2+2*(i : Int),3+2*(i : Int),C[i] - 1⟩] else []:=by
   rw [Fbs i (by simpa using h7)]
   unfold arc2
   simp [hkC]
  have hci:=hcb _ (List.getElem_mem h7)
  have hwc : IntKind.i64.wrap (C[i] - 1)=C[i] - 1:=w64 (by omega) (by omega)
  refine zaf ?_
  refine zbH (ι:=Unit) (fun _=>⟨123,[(2,ints sinks),(3,.pv (gC g)),(4,.pv (pC p)),(6,.pt 32 0 0),(9,.pt 176 0 0),(10,.fn (.func zaI) [] [.pt 176 0 0]),(11,ints C),(63,ints C),(64,.I C.length),(65,.I i)],[(32,some ⟨2,[[.I 0,.nilS]],0⟩),(176,some (outV N 16 (Fb (i+1)).length)),(16,some ⟨3,za3 (Fb (i+1)),0⟩)],700⟩) (fun _=>True) ?_ fun _ _=>?_
  ·refine zah ?_
   refine rk (s:=?sb3) [2,3,4,6,9,10,11,14,15,63,64,65] [32,176,16] rfl ?ob3 ?qb3
   case ob3=>simp [h7]; rfl
   refine rk (s:=?sb4) [2,3,4,6,9,10,11,14,15,63,64,65,71] [32,176,16] rfl ?ob4 ?qb4
   case ob4=>simp [hkC]; rfl
   refine zae _ rfl (fun h8=>?_) fun h8=>?_
   ·simp at h8
    rw [if_pos h8] at hFn
    refine zaL rfl ?_
    simp [hkC]
    refine zaq (zc2 i (by omega) (by omega)) (by simp) ?_
    simp [hkC,hwc]
    refine zaq (zjH i (by omega) (by omega)) (by simp) ?_
    simp [hkC,hwc]
    refine zi7 (i:=176) (j:=16) (by decide) rfl rfl (e1':=outV N 1 (Fb i).length) (e2':=⟨3,za3 (Fb i),0⟩) (by simp) (by simp [fcd]) (zrp N (2+2*(i : Int)) (3+2*(i : Int)) (C[i] - 1) (Fb i) _ rfl (by omega)) (by simp) (by simp) ?_
    simp [fcd]
    exact Le.go [(32,32),(176,176),(424,16)] [] rfl rfl (by simp [hFn]) (by simp [hFn,fcd])
   ·simp at h8
    rw [if_neg (by omega)] at hFn
    refine zaf ?_
    exact ⟨(),trivial,Le.go [(32,32),(176,176),(16,16)] [] rfl rfl (by simp [hFn]) (by simp [hFn,fcd])⟩
  refine zac (s:=?sb9) rfl ?ob9 ?qb9
  case ob9=>simp; rfl
  exact ⟨i+1,by omega,by omega,Le.go [(32,32),(176,176),(16,16)] [] rfl rfl (by simp [hw]) (by simp [fcd])⟩
 simp at h7
 obtain rfl : i=C.length:=by omega
 rw [FbN]
 refine zas ?_
 refine hit ?_
 refine zaa ?_
 refine rk (s:=?sc1) [3,4,6,9,10,11,81,82,83] [32,176,16] rfl ?oc1 ?qc1
 case oc1=>simp; rfl
 refine zah ?_
 obtain ⟨Fc,Fc0,Fcs,Fcl,FcN⟩ : ∃ F : Nat→List Ed,F 0=Z2∧(∀ i (h : i<(sinks).length),F (i+1)=F i++arc3 C (sinks)[i])∧(∀ i,(F i).length≤300)∧F (sinks).length=Z2++(sinks).flatMap (arc3 C) :=
  ⟨fun i=>Z2++((sinks).take i).flatMap (arc3 C),by simp,fun i h=>by simp only [zja _ _ i h,List.append_assoc],fun i=>by have:=zft _ (zoq C) (sinks) i; simp only [List.length_append]; omega,by simp⟩
 rw [← hX3,← hZ3] at FcN
 refine zav (ι:=Nat) (fun i=>⟨123,[(3,.pv (gC g)),(4,.pv (pC p)),(6,.pt 32 0 0),(9,.pt 176 0 0),(10,.fn (.func zaI) [] [.pt 176 0 0]),(11,ints C),(81,ints sinks),(82,.I sinks.length),(83,.I i)],[(32,some ⟨2,[[.I 0,.nilS]],0⟩),(176,some (outV N 16 (Fc i).length)),(16,some ⟨3,za3 (Fc i),0⟩)],336⟩) (fun i=>i≤sinks.length) (fun i=>sinks.length - i) 0 (Nat.zero_le _) (Le.go [(32,32),(176,176),(16,16)] [] rfl rfl (by simp [Fc0]) (by simp [Fc0,fcd])) ?_
 intro i hi
 refine rk (s:=?sc2) [3,4,6,9,10,11,81,82,83,84] [32,176,16] rfl ?oc2 ?qc2
 case oc2=>simp; rfl
 refine zaa ?_
 refine zae _ rfl (fun h7=>?_) fun h7=>?_
 ·simp at h7
  have hw : IntKind.i64.wrap ((i : Int)+1)=(i : Int)+1:=w64 (by omega) (by omega)
  have hFi:=Fcl i
  obtain ⟨k,hk,hkC,hk64⟩:=hsink _ (List.getElem_mem h7)
  have hFn : Fc (i+1)=Fc i++if 0<C[k] then [⟨2+2*(k : Int),1,1⟩] else []:=by
   rw [Fcs i h7,hk]
   unfold arc3
   simp [hkC]
  refine zaf ?_
  refine zbH (ι:=Unit) (fun _=>⟨123,[(3,.pv (gC g)),(4,.pv (pC p)),(6,.pt 32 0 0),(9,.pt 176 0 0),(10,.fn (.func zaI) [] [.pt 176 0 0]),(11,ints C),(81,ints sinks),(82,.I sinks.length),(83,.I i)],[(32,some ⟨2,[[.I 0,.nilS]],0⟩),(176,some (outV N 16 (Fc (i+1)).length)),(16,some ⟨3,za3 (Fc (i+1)),0⟩)],700⟩) (fun _=>True) ?_ fun _ _=>?_
  ·refine zah ?_
   refine rk (s:=?sc3) [3,4,6,9,10,11,17,81,82,83] [32,176,16] rfl ?oc3 ?qc3
   case oc3=>simp [h7,hk]; rfl
   refine rk (s:=?sc4) [3,4,6,9,10,11,17,81,82,83,91] [32,176,16] rfl ?oc4 ?qc4
   case oc4=>simp [hkC]; rfl
   refine zae _ rfl (fun h8=>?_) fun h8=>?_
   ·simp at h8
    rw [if_pos h8] at hFn
    refine zaL rfl ?_
    simp [hkC]
    refine zaq (zc2 k (by omega) (by omega)) (by simp) ?_
    simp [hkC]
    refine zi7 (i:=176) (j:=16) (by decide) rfl rfl (e1':=outV N 1 (Fc i).length) (e2':=⟨3,za3 (Fc i),0⟩) (by simp) (by simp [fcd]) (zrp N (2+2*(k : Int)) 1 1 (Fc i) _ rfl (by omega)) (by simp) (by simp) ?_
    simp [fcd]
    exact Le.go [(32,32),(176,176),(432,16)] [] rfl rfl (by simp [hFn]) (by simp [hFn,fcd])
   ·simp at h8
    rw [if_neg (by omega)] at hFn
    refine zaf ?_
    exact ⟨(),trivial,Le.go [(32,32),(176,176),(16,16)] [] rfl rfl (by simp [hFn]) (by simp [hFn,fcd])⟩
  refine zac (s:=?sc9) rfl ?oc9 ?qc9
  case oc9=>simp; rfl
  exact ⟨i+1,by omega,by omega,Le.go [(32,32),(176,176),(16,16)] [] rfl rfl (by simp [hw]) (by simp [fcd])⟩
 simp at h7
 obtain rfl : i=sinks.length:=by omega
 rw [FcN]
 refine zas ?_
 refine hit ?_
 refine zaa ?_
 refine rk (s:=?sd1) [6,9,10,11,101,102,103] [32,176,16] rfl ?od1 ?qd1
 case od1=>simp; refine zaq hlev (by simp) ?_; simp; rfl
 refine zah ?_
 obtain ⟨Fd,Fd0,Fds,Fdl,FdN⟩ : ∃ F : Nat→List Ed,F 0=Z3∧(∀ i (h : i<(G.edges).length),F (i+1)=F i++arc4 C (G.edges)[i])∧(∀ i,(F i).length≤900)∧F (G.edges).length=Z3++(G.edges).flatMap (arc4 C) :=
  ⟨fun i=>Z3++((G.edges).take i).flatMap (arc4 C),by simp,fun i h=>by simp only [zja _ _ i h,List.append_assoc],fun i=>by have:=zft _ (znZ C) (G.edges) i; simp only [List.length_append]; omega,by simp⟩
 rw [← hX4,← hZ4] at FdN
 refine zav (ι:=Nat) (fun i=>⟨123,[(6,.pt 32 0 0),(9,.pt 176 0 0),(10,.fn (.func zaI) [] [.pt 176 0 0]),(11,ints C),(101,eEs G.edges),(102,.I G.edges.length),(103,.I i)],[(32,some ⟨2,[[.I 0,.nilS]],0⟩),(176,some (outV N 16 (Fd i).length)),(16,some ⟨3,za3 (Fd i),0⟩)],400⟩) (fun i=>i≤G.edges.length) (fun i=>G.edges.length - i) 0 (Nat.zero_le _) (Le.go [(32,32),(176,176),(16,16)] [] rfl rfl (by simp [Fd0]) (by simp [Fd0,fcd])) ?_
 intro i hi
 refine rk (s:=?sd2) [6,9,10,11,101,102,103,104] [32,176,16] rfl ?od2 ?qd2
 case od2=>simp; rfl
 refine zaa ?_
 refine zae _ rfl (fun h7=>?_) fun h7=>?_
 ·simp at h7
  have hw : IntKind.i64.wrap ((i : Int)+1)=(i : Int)+1:=w64 (by omega) (by omega)
  have hFi:=Fdl i
  obtain ⟨x,hx⟩ : ∃ x,x=G.edges[i]:=⟨_,rfl⟩
  have hfx:=hfit _ (List.getElem_mem h7)
  rw [← hx] at hfx
  obtain ⟨k,hk,hkC,hk64⟩:=hkey x.f hfx.1.1 hfx.1.2
  obtain ⟨u,hu,huC,hu64⟩:=hkey x.t hfx.2.1 hfx.2.2
  have hFn : Fd (i+1)=Fd i++if 0<C[k] then [⟨3+2*(k : Int),2+2*(u : Int),64⟩] else []:=by
   rw [Fds i h7,← hx]
   unfold arc4
   rw [hk,hu]
   simp [hkC]
  refine zaf ?_
  refine zbH (ι:=Unit) (fun _=>⟨123,[(6,.pt 32 0 0),(9,.pt 176 0 0),(10,.fn (.func zaI) [] [.pt 176 0 0]),(11,ints C),(101,eEs G.edges),(102,.I G.edges.length),(103,.I i)],[(32,some ⟨2,[[.I 0,.nilS]],0⟩),(176,some (outV N 16 (Fd (i+1)).length)),(16,some ⟨3,za3 (Fd (i+1)),0⟩)],700⟩) (fun _=>True) ?_ fun _ _=>?_
  ·refine zah ?_
   refine zab ⟨123,[(6,.pt 32 0 0),(9,.pt 176 0 0),(10,.fn (.func zaI) [] [.pt 176 0 0]),(11,ints C),(19,.pv (eC x)),(101,eEs G.edges),(102,.I G.edges.length),(103,.I i)],[(32,some ⟨2,[[.I 0,.nilS]],0⟩),(176,some (outV N 16 (Fd i).length)),(16,some ⟨3,za3 (Fd i),0⟩)],440⟩ rfl ?_ ?_
   ·simp [h7,← hx]
    exact LeI [(32,32),(176,176),(16,16)] [424]
   refine rk (s:=?sd4) [6,9,10,11,19,101,102,103,112] [32,176,16] rfl ?od4 ?qd4
   case od4=>simp [hk,hkC]; rfl
   refine zae _ rfl (fun h8=>?_) fun h8=>?_
   ·simp at h8
    rw [if_pos h8] at hFn
    refine zfe rfl ?_
    simp [hk,hu]
    refine zaq (zjH k (by omega) (by omega)) (by simp) ?_
    simp [hkC]
    refine zaq (zc2 u (by omega) (by omega)) (by simp) ?_
    simp [hkC]
    refine zi7 (i:=176) (j:=16) (by decide) rfl rfl (e1':=outV N 1 (Fd i).length) (e2':=⟨3,za3 (Fd i),0⟩) (by simp) (by simp [fcd]) (zrp N (3+2*(k : Int)) (2+2*(u : Int)) 64 (Fd i) _ rfl (by omega)) (by simp) (by simp) ?_
    simp [fcd]
    exact ⟨rfl,Le.go [(32,32),(176,176),(544,16)] [] rfl rfl (by simp [hFn]) (by simp [hFn,fcd])⟩
   ·simp at h8
    rw [if_neg (by omega)] at hFn
    refine zaf ?_
    exact ⟨(),trivial,Le.go [(32,32),(176,176),(16,16)] [] rfl rfl (by simp [hFn]) (by simp [hFn,fcd])⟩
  refine zac (s:=?sd9) rfl ?od9 ?qd9
  case od9=>simp; rfl
  exact ⟨i+1,by omega,by omega,Le.go [(32,32),(176,176),(16,16)] [] rfl rfl (by simp [hw]) (by simp [fcd])⟩
 simp at h7
 obtain rfl : i=G.edges.length:=by omega
 rw [FdN]
 refine zas ?_
 refine hit ?_
 refine rk (s:=?sz) [6,7] [32,16] rfl ?oz ?qz
 case oz=>simp; rfl
 refine zag ?_
 exact ⟨.inr rfl,zan.out [] [16] rfl (by simp) (by simp) (by simp [hN,fcd,zao]) (by simp)⟩
instance (g : Gr) (lv f t : Int) : Decidable (zrs g lv f t):=by unfold zrs; infer_instance
theorem zjm {a : List Int} {n : Int} (h : ∀ k∈a,0≤k∧k<n) : Rise (za0 a) 0 (n - 1):=by
 intro i hi
 have hm:=zgw.1 (List.getElem_mem hi)
 have:=h _ hm.1
 refine ⟨by omega,by omega,fun hp=>?_⟩
 exact (List.pairwise_iff_getElem.1 (zi6 a)) (i - 1) i (by omega) hi (by omega)
theorem zmt (a : List Int) : (za0 a).length≤64:=Nat.le_trans (List.length_filter_le ..) (by simp)
theorem zqg (g : Gr) (p : Pol) (sinks : List Int) (hg : GrOk g) (hs : p.seeds.length≤64) (hsl : sinks.length≤64) : (zbR g p (zaz g p) sinks).length≤1000:=by
 rw [zkz]
 have h1:=zfp _ (znS (zaz g p)) p.seeds
 have h2:=zfp _ (zoz (zaz g p)) (List.range (zaz g p).length)
 have h3:=zfp _ (zoq (zaz g p)) sinks
 have h4:=zfp _ (znZ (zaz g p)) (zaj g p.lv).edges
 have h5 : (zaj g p.lv).edges.length≤g.edges.length:=List.length_filter_le ..
 have h6:=hg.edges_le
 have h7:=hg.1.2.1
 have h8:=hg.1.1
 rw [List.length_range] at h2
 have h9 : (zaz g p).length=g.size.toNat:=zce
 simp only [List.length_append]
 omega
def netN (g : Gr) : Nat:=(2+2*g.size).toNat
theorem znO {g : Gr} (hg : GrOk g) : ((netN g : Nat) : Int)=2+2*g.size:=by unfold netN; have:=hg.1.1; omega
abbrev netA (g : Gr) (p : Pol) (ks : List Int) : List Ed:=zbR g p (zaz g p) ks
def zap (g : Gr) (p : Pol) (ks : List Int) : Prop:=maxF (netN g) (netA g p ks)=ks.length
theorem zlP {g : Gr} {p : Pol} {ks : List Int} (hg : GrOk g) (hp : zbl g.size p) (hk : ∀ x∈ks,0≤x∧x<g.size) : zfS (netN g) (netA g p ks):=zsJ hg hp hk
theorem zrT {g : Gr} {p : Pol} {ks : List Int} (hg : GrOk g) (hp : zbl g.size p) (hk : ∀ x∈ks,0≤x∧x<g.size) (hs : p.seeds.length≤64) (hsl : ks.length≤64) : zdd ⟨netN g,netA g p ks⟩:=by
 have h1:=zlP hg hp hk
 have h2 : (netA g p ks).length≤1000:=zqg g p ks hg hs hsl
 have h3:=hg.1.2.1
 have hN:=znO hg
 have h0:=hg.1.1
 have hcb : ∀ i : Nat,(zaz g p).getD i 0≤1000:=fun i=>by
  rw [List.getD_eq_getElem?_getD]
  cases h : (zaz g p)[i]? with
  | none=>simp
  | some v =>
    have hm:=List.mem_of_getElem? h
    unfold zaz at hm
    obtain ⟨d,_,rfl⟩:=List.mem_map.1 hm
    exact (ziT hp d).2
 refine ⟨by simp only; omega,by simp only; omega,by simp only; omega,fun a ha=>?_⟩
 obtain ⟨q1,q2,q3,q4,q5,q6,q7,q8⟩:=h1.arc a ha
 refine ⟨q1,by simp only; omega,q3,by simp only; omega,q5,q6,q7,q8,?_⟩
 simp only [netA,zbR] at ha
 rcases List.mem_append.1 ha with ha | ha
 ·rcases List.mem_append.1 ha with ha | ha
  ·rcases List.mem_append.1 ha with ha | ha
   ·obtain ⟨x,hx,rfl⟩:=List.mem_map.1 ha
    have:=hcb x.toNat
    simp only
    omega
   ·obtain ⟨i,hx,rfl⟩:=List.mem_map.1 ha
    have:=hcb i
    simp only
    omega
  ·obtain ⟨x,hx,rfl⟩:=List.mem_map.1 ha
   simp
 ·obtain ⟨e,hx,rfl⟩:=List.mem_map.1 ha
  simp
section
variable {P : Program} {np id : Nat} {h : Nat→Option Ent} {K : AV→List Nat→List (Nat × Option Ent)→Prop} {f : FuncId} {first capt args args' : List AV} {res : AV}
end
def lowN : List Int→Int→Nat
 | [],_=>0
 | x::l,k=>if x<k then lowN l k+1 else 0
def putL (l : List Int) (k : Int) : List Int:=if l[lowN l k]? = some k then l else l.take (lowN l k)++k::l.drop (lowN l k)
theorem znA : ∀ (l : List Int) (k : Int),lowN l k≤l.length
 | [],_=>Nat.le_refl _
 | x::l,k=>by unfold lowN; have:=znA l k; split <;> simp <;> omega
theorem zqE : ∀ {l : List Int} {k : Int} {i : Nat} (h : i<l.length),i<lowN l k→l[i]<k
 | x::l,k,0,_,h=>by
   unfold lowN at h
   split at h
   ·simpa
   ·omega
 | x::l,k,i+1,hi,h=>by
   unfold lowN at h
   split at h
   ·simpa using zqE (l:=l) (by simpa using hi) (by omega)
   ·omega
theorem zmw : ∀ {l : List Int} {k : Int} (h : lowN l k<l.length),¬ l[lowN l k]<k
 | x::l,k,h=>by
   by_cases hx : x<k
   ·have e : lowN (x::l) k=lowN l k+1:=by simp [lowN,hx]
    simp only [e,List.getElem_cons_succ]
    exact zmw (by rw [e] at h; simpa using h)
   ·have e : lowN (x::l) k=0:=by simp [lowN,hx]
    simp only [e,List.getElem_cons_zero]
    exact hx
theorem zw2 {l : List Int} {k : Int} {i : Nat} (hi : i≤l.length) (h1 : ∀ j (h : j<l.length),j<i→l[j]<k) (h2 : ∀ h : i<l.length,¬ l[i]<k) : lowN l k=i:=by
 rcases Nat.lt_trichotomy (lowN l k) i with h | h | h
 ·exact absurd (h1 _ (by omega) h) (zmw (by omega))
 ·exact h
 ·have hl:=znA l k
  exact absurd (zqE (by omega) h) (h2 (by omega))
theorem zvd (l : List Int) (k : Int) : (putL l k).length≤l.length+1:=by
 unfold putL
 split
 ·omega
 ·simp; have:=znA l k; omega
theorem zrz {l : List Int} {k x : Int} : x∈putL l k↔x∈l∨x=k:=by
 unfold putL
 split
 ·rename_i h
  constructor
  ·exact .inl
  ·rintro (h1 | rfl)
   ·exact h1
   ·exact List.mem_of_getElem? h
 ·rw [List.mem_append,List.mem_cons]
  conv=>rhs; rw [← List.take_append_drop (lowN l k) l,List.mem_append]
  constructor
  ·rintro (h | rfl | h)
   ·exact .inl (.inl h)
   ·exact .inr rfl
   ·exact .inl (.inr h)
  ·rintro ((h | h) | rfl)
   ·exact .inl h
   ·exact .inr (.inr h)
   ·exact .inr (.inl rfl)
theorem zue {l : List Int} {k : Int} (h : l.Pairwise (· < ·)) : (putL l k).Pairwise (· < ·):=by
 unfold putL
 split
 ·exact h
 ·rename_i hne
  have hd : ∀ y∈l.drop (lowN l k),k<y:=by
   intro y hy
   obtain ⟨i,hi,rfl⟩:=List.getElem_of_mem hy
   rw [List.length_drop] at hi
   rw [List.getElem_drop]
   have h0 : lowN l k<l.length:=by omega
   have h1:=zmw h0
   have h2 : l[lowN l k]≠k:=fun e=>hne (by rw [List.getElem?_eq_getElem h0,e])
   rcases Nat.eq_zero_or_pos i with rfl | hp
   ·simp only [Nat.add_zero]; omega
   ·have:=(List.pairwise_iff_getElem.1 h) (lowN l k) (lowN l k+i) h0 (by omega) (by omega)
    omega
  have ht : ∀ y∈l.take (lowN l k),y<k:=by
   intro y hy
   obtain ⟨i,hi,rfl⟩:=List.getElem_of_mem hy
   rw [List.length_take] at hi
   rw [List.getElem_take]
   exact zqE (by omega) (by omega)
  rw [List.pairwise_append,List.pairwise_cons]
  refine ⟨h.sublist (List.take_sublist ..),⟨hd,h.sublist (List.drop_sublist ..)⟩,fun x hx y hy=>?_⟩
  rcases List.mem_cons.1 hy with rfl | hy
  ·exact ht x hx
  ·have:=ht x hx; have:=hd y hy; omega
theorem zks {l : List Int} {n : Int} (h : l.Pairwise (· < ·)) (hr : ∀ k∈l,0≤k∧k<n) : Rise l 0 (n - 1):=by
 intro i hi
 have:=hr _ (List.getElem_mem hi)
 refine ⟨by omega,by omega,fun hp=>?_⟩
 exact (List.pairwise_iff_getElem.1 h) (i - 1) i (by omega) hi (by omega)
theorem zyj (l : List Int) (k : Int) (hl : l.length≤1000000) : zak Tryz.prog zkd [ints l,.I k] [] (.rs 0 0 (putL l k).length) [some ⟨1,zai (putL l k),0⟩]:=by
 refine zr6.acalls (nbz rfl) (nbz rfl) (Nat.zero_le _) ?_
 show awp _ 0 _ _ ⟨45,[(0,ints l),(1,.I k)],[],16⟩
 refine rx (s:=?s1) [0,1] [] [] rfl ?o1 ?q1
 case o1=>simp; rfl
 refine rx (s:=?s2) [0,1,5] [] [] rfl ?o2 ?q2
 case o2=>simp; rfl
 refine zbH (ι:=Nat) (fun i=>⟨45,[(0,ints l),(1,.I k),(5,.I i)],[],200⟩) (fun i=>i=lowN l k) ?_ fun i hil=>?_
 ·refine zah ?_
  refine zav (ι:=Nat) (fun i=>⟨45,[(0,ints l),(1,.I k),(5,.I i)],[],32⟩) (fun i=>i≤l.length ∧ ∀ j (h : j<l.length),j<i→l[j]<k) (fun i=>l.length - i) 0 (by simp) (LeH [] []) ?_
  rintro i ⟨hi,hp⟩
  refine zaa ?_
  refine zab ⟨45,[(0,ints l),(1,.I k),(5,.I i),(17,.B (decide (∃ h : i<l.length,l[i]<k)))],[],200⟩ rfl ?_ ?_
  ·by_cases h1 : i<l.length
   ·simp [h1]
    exact Le.snap [] rfl rfl (by simp [h1])
   ·have hno : ¬ ∃ h : i<l.length,l[i]<k:=fun ⟨h,_⟩=>h1 h
    rw [decide_eq_false hno]
    simp [h1]
    exact Le.snap [] rfl rfl (by simp)
  refine zae _ rfl (fun h2=>?_) fun h2=>?_
  ·rw [decide_eq_true_eq] at h2
   obtain ⟨h1,h2⟩:=h2
   have hw : IntKind.i64.wrap ((i : Int)+1)=(i : Int)+1:=w64 (by omega) (by omega)
   refine zaf ?_
   refine zah ?_
   refine zac (s:=?s5) rfl ?o5 ?q5
   case o5=>simp; rfl
   refine ⟨i+1,⟨h1,fun j hj hji=>?_⟩,by omega,Le.go [] [] rfl rfl (by simp [hw]) (by simp)⟩
   rcases Nat.lt_succ_iff_lt_or_eq.1 hji with h | rfl
   ·exact hp j hj h
   ·exact h2
  ·rw [decide_eq_false_iff_not] at h2
   refine zas ?_
   refine hit ?_
   exact ⟨i,(zw2 hi hp fun h h3=>h2 ⟨h,h3⟩).symm,LeH [] []⟩
 have hlo:=znA l k
 rw [← hil] at hlo
 refine zaa ?_
 refine zab ⟨45,[(0,ints l),(1,.I k),(5,.I i),(31,.B (decide (l[i]? = some k)))],[],400⟩ rfl ?_ ?_
 ·by_cases h1 : i<l.length
  ·simp [h1]
   exact Le.snap [] rfl rfl (by simp [h1]; exact wkB (by rw [Bool.eq_iff_iff]; simp))
  ·have hno : ¬ l[i]? = some k:=by rw [List.getElem?_eq_none (by omega)]; simp
   rw [decide_eq_false hno]
   simp [h1]
   exact Le.snap [] rfl rfl (by simp)
 refine zae _ rfl (fun h2=>?_) fun h2=>?_
 ·rw [decide_eq_true_eq] at h2
  have hput : putL l k=l:=by unfold putL; rw [← hil,if_pos h2]
  rw [hput]
  refine rk (s:=?s6) [4] [408] rfl ?o6 ?q6
  case o6=>simp; refine ⟨by omega,by omega,?_⟩; rfl
  refine zag ?_
  exact ⟨.inr rfl,zan.out [408] [] rfl (by simp) (by simp) (by simp) (by simp [fcd])⟩
 rw [decide_eq_false_iff_not] at h2
 have hput : putL l k=l.take i++k::l.drop i:=by unfold putL; rw [← hil,if_neg h2]
 have hpl : (putL l k).length=l.length+1:=by rw [hput]; simp; omega
 have hpl2 : (putL l k).length=i+1+(l.length - i):=by omega
 refine zaf ?_
 refine zba ⟨45,[(4,.rs 480 0 (putL l k).length)],[(480,some ⟨1,zai (putL l k),0⟩)],600⟩ rfl ?_ ?_
 ·simp [hlo]
  refine ⟨by omega,by omega,by omega,by omega,by omega,by omega,rfl,Le.go [(480,480)] [] rfl rfl (by simp [hpl2]) (by simp [hput,fcd,List.take_of_length_le,hlo])⟩
 refine zag ?_
 exact ⟨.inr rfl,zan.out [480] [] rfl (by simp) (by simp) (by simp) (by simp [fcd])⟩
open Classical in
noncomputable def accR (g : Gr) (p : Pol) (o : List Int) : List Int:=o.foldl (fun acc k=>if zap g p (za0 (acc++[k])) then acc++[k] else acc) []
variable {g : Gr} {p : Pol}
theorem zq5 : accR g p []=[]:=rfl
open Classical in
theorem zcG {o : List Int} {k : Int} (h : zap g p (za0 (accR g p o++[k]))) : accR g p (o++[k])=accR g p o++[k]:=by
 have h2 : accR g p (o++[k])=if zap g p (za0 (accR g p o++[k])) then accR g p o++[k] else accR g p o:=by unfold accR; rw [List.foldl_append]; rfl
 rw [h2,if_pos h]
open Classical in
theorem zhz {o : List Int} {k : Int} (h : ¬ zap g p (za0 (accR g p o++[k]))) : accR g p (o++[k])=accR g p o:=by
 have h2 : accR g p (o++[k])=if zap g p (za0 (accR g p o++[k])) then accR g p o++[k] else accR g p o:=by unfold accR; rw [List.foldl_append]; rfl
 rw [h2,if_neg h]
theorem zpX (o : List Int) (k : Int) : accR g p (o++[k])=accR g p o∨accR g p (o++[k])=accR g p o++[k]:=by
 by_cases h : zap g p (za0 (accR g p o++[k]))
 ·exact .inr (zcG h)
 ·exact .inl (zhz h)
theorem zf2 : ∀ (n : Nat) (o : List Int),o.length=n→(accR g p o).Sublist o
 | 0,o,h=>by
   obtain rfl:=List.eq_nil_of_length_eq_zero h
   exact List.nil_sublist _
 | n+1,o,h=>by
   have hne : o≠[]:=fun e=>by rw [e] at h; cases h
   rw [← List.dropLast_concat_getLast hne]
   have ih:=zf2 n o.dropLast (by rw [List.length_dropLast,h]; rfl)
   rcases zpX (g:=g) (p:=p) o.dropLast (o.getLast hne) with e | e
   ·rw [e]; exact ih.trans (List.sublist_append_left _ _)
   ·rw [e]; exact ih.append (List.Sublist.refl _)
theorem zfs {o : List Int} {x : Int} (h : x∈accR g p o) : x∈o:=(zf2 _ o rfl).subset h
theorem zrV (o : List Int) : (accR g p o).length≤o.length:=(zf2 _ o rfl).length_le
open Classical in
noncomputable def zgX (N : Nat) (A : List Ed) : List Int:=((List.range N).map fun k : Nat=>(k : Int)).filter fun k=>decide (∀ S : Int→Bool,S 0=true→S 1=false→capS S A=maxF N A→S k=true)
theorem zrw {N : Nat} {A : List Ed} {f D : List Int} {by_ : Int→Stp} (hn : zfS N A) (hf : zaO N A f) (hm : ∀ f',zaO N A f'→valF A f'≤valF A f) (ht : ztB A f D by_) (h0 : (0 : Int)∈D) (h1 : (1 : Int)∉D) (hc : zh1 A f D) :
  ((List.range N).map fun k : Nat=>(k : Int)).filter (fun k=>decide (k∈D))=zgX N A:=by
 unfold zgX
 refine List.filter_congr fun k _=>?_
 rw [decide_eq_decide]
 have hmf:=zkl hf hm
 constructor
 ·intro hk S s0 s1 hS
  exact zno hn hf ht s0 s1 (hS.trans hmf) k hk
 ·intro h
  have:=h (fun x=>decide (x∈D)) (by simpa using h0) (by simpa using h1) (by rw [hmf]; exact (zla hn hf h0 h1 hc).1.symm)
  simpa using this
open Classical in
noncomputable def refS (g : Gr) (p : Pol) (o : List Int) : List Int × List (Int × List Int) :=
 o.foldl (fun s k=>if zap g p (za0 (s.1++[k])) then (s.1++[k],s.2) else (s.1,s.2++[(k,zgX (netN g) (netA g p (za0 (s.1++[k]))))])) ([],[])
noncomputable def refR (g : Gr) (p : Pol) (o : List Int) : List (Int × List Int):=(refS g p o).2
open Classical in
theorem zlY (o : List Int) (k : Int) : refS g p (o++[k])=if zap g p (za0 ((refS g p o).1++[k])) then ((refS g p o).1++[k],(refS g p o).2) else ((refS g p o).1,(refS g p o).2++[(k,zgX (netN g) (netA g p (za0 ((refS g p o).1++[k]))))]):=by
 unfold refS
 rw [List.foldl_append]
 rfl
theorem znD : ∀ (n : Nat) (o : List Int),o.length=n→(refS g p o).1=accR g p o
 | 0,o,h=>by
   obtain rfl:=List.eq_nil_of_length_eq_zero h
   rfl
 | n+1,o,h=>by
   have hne : o≠[]:=fun e=>by rw [e] at h; cases h
   rw [← List.dropLast_concat_getLast hne]
   have ih:=znD n o.dropLast (by rw [List.length_dropLast,h]; rfl)
   rw [zlY,ih]
   split
   ·rename_i h1
    rw [zcG h1]
   ·rename_i h1
    rw [zhz h1]
theorem zh9 {o : List Int} {k : Int} (h : zap g p (za0 (accR g p o++[k]))) : refR g p (o++[k])=refR g p o:=by
 unfold refR
 rw [zlY,znD _ o rfl,if_pos h]
theorem zn9 {o : List Int} {k : Int} (h : ¬ zap g p (za0 (accR g p o++[k]))) : refR g p (o++[k])=refR g p o++[(k,zgX (netN g) (netA g p (za0 (accR g p o++[k]))))]:=by
 unfold refR
 rw [zlY,znD _ o rfl,if_neg h]
structure zwr (g : Gr) (p : Pol) (acc : List Int) (k : Int) (side : List Int) : Prop where
 no : ¬ zap g p (za0 (acc++[k]))
 ok : zuu ⟨netN g,netA g p (za0 (acc++[k]))⟩ side
 cut : cutV (netA g p (za0 (acc++[k]))) side=maxF (netN g) (netA g p (za0 (acc++[k])))
 len : side.length≤130
 eq : side=zgX (netN g) (netA g p (za0 (acc++[k])))
structure zoE (g : Gr) (p : Pol) (o : List Int) (R : List (Int × List Int)) : Prop where
 all : ∀ i (h : i<o.length),o[i]∉accR g p (o.take (i+1)) → ∃ side,(o[i],side)∈R
 right : ∀ r∈R,∃ i,∃ h : i<o.length,o[i]=r.1∧zwr g p (accR g p (o.take i)) r.1 r.2
 len : R.length≤o.length
 eq : R=refR g p o
theorem zoE.nil : zoE g p [] []:=⟨fun i h=>absurd h (Nat.not_lt_zero _),(fun r h=>nomatch h),Nat.le_refl _,rfl⟩
theorem zoE.yes {o : List Int} {k : Int} {R : List (Int × List Int)} (hr : zoE g p o R) (h : zap g p (za0 (accR g p o++[k]))) : zoE g p (o++[k]) R:=by
 refine ⟨fun i hi hn=>?_,fun r hr'=>?_,Nat.le_trans hr.len (by simp),by rw [zh9 h]; exact hr.eq⟩
 ·rw [List.length_append,List.length_singleton] at hi
  by_cases hio : i<o.length
  ·rw [List.getElem_append_left hio] at hn ⊢
   rw [List.take_append_of_le_length (by omega)] at hn
   exact hr.all i hio hn
  ·obtain rfl : i=o.length:=by omega
   refine absurd ?_ hn
   rw [List.take_of_length_le (by simp),zcG h]
   simp
 ·obtain ⟨i,hi,h1,h2⟩:=hr.right r hr'
  refine ⟨i,by simp; omega,by rw [List.getElem_append_left hi]; exact h1,?_⟩
  rw [List.take_append_of_le_length (by omega)]
  exact h2
theorem zoE.no {o : List Int} {k : Int} {R : List (Int × List Int)} {side : List Int} (hr : zoE g p o R) (h : zwr g p (accR g p o) k side) : zoE g p (o++[k]) (R++[(k,side)]):=by
 refine ⟨fun i hi hn=>?_,fun r hr'=>?_,by have:=hr.len; simp; omega,by rw [zn9 h.no,← hr.eq,← h.eq]⟩
 ·rw [List.length_append,List.length_singleton] at hi
  by_cases hio : i<o.length
  ·rw [List.getElem_append_left hio] at hn ⊢
   rw [List.take_append_of_le_length (by omega)] at hn
   obtain ⟨s,hs⟩:=hr.all i hio hn
   exact ⟨s,List.mem_append_left _ hs⟩
  ·obtain rfl : i=o.length:=by omega
   exact ⟨side,by simp⟩
 ·rcases List.mem_append.1 hr' with h3 | h3
  ·obtain ⟨i,hi,h1,h2⟩:=hr.right r h3
   refine ⟨i,by simp; omega,by rw [List.getElem_append_left hi]; exact h1,?_⟩
   rw [List.take_append_of_le_length (by omega)]
   exact h2
  ·rw [List.mem_singleton] at h3
   subst h3
   refine ⟨o.length,by simp,by simp,?_⟩
   rw [List.take_append_of_le_length (Nat.le_refl _),List.take_length]
   exact h
theorem zoK (side : List Int) : ∀ A : List Ed,cutV A side=capS (fun x=>decide (x∈side)) A
 | []=>rfl
 | e::A=>by
   have h1 : cutV (e::A) side=(if e.f∈side∧e.t∉side then e.v else 0)+cutV A side:=by simp [cutV]
   have h2 : capS (fun x=>decide (x∈side)) (e::A)=(if decide (e.f∈side)=true∧decide (e.t∈side)=false then e.v else 0)+capS (fun x=>decide (x∈side)) A:=rfl
   rw [h1,h2,zoK side A]
   simp
def zgq : List Int→List Int→List Int→Bool
 | [],a,r=>a.isEmpty && r.isEmpty
 | x::o,a,r=>if a.head? = some x then zgq o a.tail r else if r.head? = some x then zgq o a r.tail else false
theorem zmy : ∀ {o a r : List Int} {k : Int},zgq o a r=true→k∉o→zgq (o++[k]) (a++[k]) r=true
 | [],a,r,k,h,_=>by
   simp [zgq] at h
   rw [h.1,h.2]
   simp [zgq]
 | x::o,a,r,k,h,hk=>by
   have hkx : k≠x:=fun e=>hk (by simp [e])
   have hko : k∉o:=fun e=>hk (List.mem_cons_of_mem _ e)
   simp only [zgq] at h
   simp only [List.cons_append,zgq]
   split at h
   ·rename_i h1
    cases a with
    | nil=>cases h1
    | cons y a =>
      have : y=x:=by simpa using h1
      subst this
      simpa using zmy h hko
   ·rename_i h1
    split at h
    ·rename_i h2
     have h3 : (a++[k]).head? ≠ some x:=by
      cases a with
      | nil=>simpa using hkx
      | cons y a=>simpa using h1
     rw [if_neg h3,if_pos h2]
     exact zmy h hko
    ·cases h
theorem zl6 : ∀ {o a r : List Int} {k : Int},zgq o a r=true→k∉o→zgq (o++[k]) a (r++[k])=true
 | [],a,r,k,h,_=>by
   simp [zgq] at h
   rw [h.1,h.2]
   simp [zgq]
 | x::o,a,r,k,h,hk=>by
   have hkx : k≠x:=fun e=>hk (by simp [e])
   have hko : k∉o:=fun e=>hk (List.mem_cons_of_mem _ e)
   simp only [zgq] at h
   simp only [List.cons_append,zgq]
   split at h
   ·rename_i h1
    rw [if_pos h1]
    exact zl6 h hko
   ·rename_i h1
    rw [if_neg h1]
    split at h
    ·rename_i h2
     cases r with
     | nil=>cases h2
     | cons y r =>
       have : y=x:=by simpa using h2
       subst this
       simpa using zl6 h hko
    ·cases h
def zwL (g : Gr) (p : Pol) (b : List Int) (r : Int × List Int) : Prop:=znU ⟨netN g,netA g p (za0 (b++[r.1]))⟩ r.2 b.length
def zkn (g : Gr) (p : Pol) : List Int→List Int→List Int→List (Int × List Int)→Prop
 | _,[],_,_=>True
 | b,x::o,a,R=>if a.head? = some x then zkn g p (b++[x]) o a.tail R else match R with
   | []=>True
   | r::R=>zwL g p b r∧zkn g p b o a R
def zqk (R : List (Int × List Int)) : List Int:=R.map (·.1)
theorem WayA.last {A : List Ed} : ∀ {l : List Nat} {u w : Int},WayA A u l w→(u::metA A l)[l.length]? = some w
 | [],u,w,h=>by
   have : u=w:=h
   simp [metA,this]
 | i::l,u,w,h=>by
   have:=WayA.last h.2.2
   simpa [metA] using this
structure BalF (N : Nat) (A : List Ed) (f : List Int) : Prop where
 len : f.length=A.length
 nonneg : ∀ i,0≤f.getD i 0
 bal : ∀ x : Int,2≤x→x<N→exF A f x=0
variable {N : Nat} {A : List Ed} {f g : List Int}
theorem zaO.balF (h : zaO N A f) : BalF N A f:=by
 have hf:=zf3.1 h.fit
 refine ⟨hf.1,fun i=>?_,fun x h2 h3=>?_⟩
 ·by_cases hi : i<A.length
  ·exact (hf.2 i hi).1
  ·rw [List.getD_eq_getElem?_getD,List.getElem?_eq_none (by rw [hf.1]; omega)]
   exact Int.le_refl _
 ·have:=h.bal x.toNat (by omega) (by omega)
  rw [Int.toNat_of_nonneg (by omega)] at this
  unfold exF
  omega
theorem zlN.balF (hf : BalF N A f) {l : List Nat} (h : zlN A f g l 1) : BalF N A g∧exF A g 0=exF A f 0 - 1:=by
 refine ⟨⟨h.len,h.nonneg,fun x h2 h3=>?_⟩,?_⟩
 ·rw [h.ex x,hf.bal x h2 h3,if_neg (by omega),if_neg (by omega)]
  rfl
 ·rw [h.ex 0,if_pos rfl,if_neg (by decide)]
  omega
structure znk (N : Nat) (A : List Ed) (f g : List Int) (W : List (List Nat)) : Prop where
 bal : BalF N A g
 ex : exF A g 0=exF A f 0 - W.length
 ways : ∀ w∈W,WayA A 0 w 1∧(metA A w).Nodup
 used : ∀ i,g.getD i 0+(sumN (List.count i) W : Int)≤f.getD i 0
theorem znk.nil (hf : BalF N A f) : znk N A f f []:=⟨hf,by simp,by simp,fun i=>by simp [sumN]⟩
theorem znk.more {g' : List Int} {W : List (List Nat)} {l : List Nat} (h : znk N A f g W) (hl : zlN A g g' l 1) : znk N A f g' (W++[l]):=by
 obtain ⟨b1,b2⟩:=hl.balF h.bal
 refine ⟨b1,by rw [b2,h.ex,List.length_append,List.length_singleton]; omega,fun w hw=>?_,fun i=>?_⟩
 ·rcases List.mem_append.1 hw with hw | hw
  ·exact h.ways w hw
  ·rw [List.mem_singleton] at hw
   subst hw
   exact ⟨hl.way,(List.nodup_cons.1 hl.met).2⟩
 ·have h1:=h.used i
  have h2:=hl.used i
  have h3 : sumN (List.count i) (W++[l])=sumN (List.count i) W+l.count i:=by unfold sumN; simp
  rw [h3]
  omega
theorem zi3 (S : Int→Bool) : ∀ A : List Ed,capS S A=(A.map fun e=>if S e.f=true∧S e.t=false then e.v else 0).sum
 | []=>rfl
 | e::A=>by
   have ih:=zi3 S A
   unfold capS at ih ⊢
   simp only [List.map_cons,sumF,List.sum_cons]
   rw [ih]
theorem zlb {α : Type} {h : α→Int} : ∀ {l : List α},(∀ x∈l,h x=0)→(l.map h).sum=0
 | [],_=>rfl
 | x::l,hx=>by
   rw [List.map_cons,List.sum_cons,hx x (List.mem_cons_self ..),zlb fun y hy=>hx y (List.mem_cons_of_mem _ hy)]
   rfl
theorem zum {α : Type} {h : α→Int} : ∀ {l : List α},(∀ x∈l,h x≤1)→(l.map h).sum≤l.length
 | [],_=>Int.le_refl _
 | x::l,hx=>by
   have ih:=zum (l:=l) fun y hy=>hx y (List.mem_cons_of_mem _ hy)
   have h1:=hx x (List.mem_cons_self ..)
   rw [List.map_cons,List.sum_cons,List.length_cons]
   omega
theorem zjS {g : Gr} {p : Pol} {ks : List Int} (hg : GrOk g) (hp : zbl g.size p) (hk : ∀ x∈ks,0≤x∧x<g.size) : maxF (netN g) (netA g p ks)≤ks.length:=by
 have hno:=zlP hg hp hk
 obtain ⟨f,hf,hv⟩:=zrU hno
 rw [← hv]
 refine Int.le_trans (zgB (S:=fun x=>decide (x≠1)) hno hf (by simp) (by simp)) ?_
 rw [zi3]
 simp only [netA,zbR,List.map_append,List.sum_append,List.map_map]
 have hle:=zkb hg p.lv
 rw [zlb,zlb,zlb (l:=(zaj g p.lv).edges.filter _)]
 ·have h1:=zum (h:=(fun e : Ed=>if (decide (e.f≠1))=true∧(decide (e.t≠1))=false then e.v else 0)∘fun x : Int=>(⟨2+2*x,1,1⟩ : Ed)) (l:=ks.filter fun x=>decide (0<(zaz g p).getD x.toNat 0)) fun x _=>by
   simp only [Function.comp]
   split <;> omega
  have h2:=List.length_filter_le (fun x=>decide (0<(zaz g p).getD x.toNat 0)) ks
  omega
 ·intro e he
  have:=hle.2 e (List.mem_filter.1 he).1
  simp only [Function.comp]
  rw [if_neg]
  simp
  omega
 ·intro i _
  simp only [Function.comp]
  rw [if_neg]
  simp
  omega
 ·intro x _
  simp only [Function.comp]
  rw [if_neg]
  simp
  omega
theorem zwY {N : Nat} {A : List Ed} {f : List Int} (hn : zfS N A) : exF A f 0=valF A f:=by
 unfold exF valF
 rw [zls hn]
 omega
section
variable {N : Nat} {A : List Ed} {f : List Int}
theorem zs8 (hn : zfS N A) {s : Stp} (hs : s.1<A.length) : 0≤stT A s∧stT A s<N:=by
 have:=hn.arc _ (zgK hs)
 unfold stT
 split <;> omega
theorem Bfs.grow (hn : zfS N A) : ∀ (n : Nat) (D b : List Int),Bfs N A f D b→N - D.length≤n → ∃ D' b',Bfs N A f D' b'∧zh1 A f D'
 | n,D,b,h,hl=>by
   by_cases hc : zh1 A f D
   ·exact ⟨D,b,h,hc⟩
   ·unfold zh1 at hc
    obtain ⟨s,hs⟩:=Classical.not_forall.1 hc
    obtain ⟨h1,hs⟩:=Classical.not_imp.1 hs
    obtain ⟨h2,hs⟩:=Classical.not_imp.1 hs
    obtain ⟨h3,h4⟩:=Classical.not_imp.1 hs
    have hr:=zs8 hn h1
    have hp:=h.push h1 h2 h3 h4 hr.1 hr.2
    have hf:=hp.few
    rw [List.length_append,List.length_singleton] at hf
    match n,hl with
    | 0,hl=>omega
    | n+1,hl=>exact Bfs.grow hn n _ _ hp (by rw [List.length_append,List.length_singleton]; omega)
theorem zqC (hn : zfS N A) {D b : List Int} (hf1 : zaO N A f) (hf2 : ∀ f',zaO N A f'→valF A f'≤valF A f) (hb : Bfs N A f D b) : (1 : Int)∉D:=fun hm=>by
 obtain ⟨l,hl⟩:=hb.chain hm
 have h1:=hl.push hn hf1 (v:=1) (by omega) fun s hs=>by
  obtain ⟨i,hi,rfl⟩:=List.mem_iff_getElem.1 hs
  have:=(hl.at_ i hi).2.1
  omega
 have h2:=hf2 _ h1.1
 omega
theorem zw9 (hn : zfS N A) {S : Int→Bool} (h0 : S 0=true) (h1 : S 1=false) : maxF N A≤capS S A:=by
 obtain ⟨f,hf,hv⟩:=zrU hn
 rw [← hv]
 exact zgB hn hf h0 h1
theorem zvf (hn : zfS N A) : ∃ X : Int→Bool,X 0=true∧X 1=false∧capS X A=maxF N A ∧ ∀ S : Int→Bool,S 0=true→S 1=false→capS S A=maxF N A → ∀ x,X x=true→S x=true:=by
 obtain ⟨f,hf,hm⟩:=zg3 hn
 obtain ⟨D,b,hb,hc⟩:=Bfs.grow hn N [0] _ (Bfs.start (f:=f) (by have:=hn.two; omega)) (by omega)
 have h1:=zqC hn hf hm hb
 have hmf:=zkl hf hm
 refine ⟨fun x=>decide (x∈D),by simpa using hb.mem0,by simpa using h1,?_,fun S s0 s1 hS x hx=>?_⟩
 ·rw [hmf]
  exact (zla hn hf hb.mem0 h1 hc).1.symm
 ·exact zno hn hf hb.tree s0 s1 (hS.trans hmf) x (by simpa using hx)
end
def zoB (g : Gr) (p : Pol) (S : Int→Bool) : Int:=capS S (netA g p [])
def zg0 (S : Int→Bool) (ks : List Int) : Int:=(ks.map fun k=>if S (2+2*k)=true then 1 else 0).sum
variable {g : Gr} {p : Pol}
def zv7 (g : Gr) (p : Pol) (k : Int) : Prop:=0<(zaz g p).getD k.toNat 0
theorem zng {S : Int→Bool} (h1 : S 1=false) {ks : List Int} (hk : ∀ k∈ks,zv7 g p k) : capS S (netA g p ks)=zoB g p S+zg0 S ks:=by
 have hf : ks.filter (fun x=>decide (0<(zaz g p).getD x.toNat 0))=ks:=List.filter_eq_self.2 fun x hx=>decide_eq_true (hk x hx)
 unfold zoB zg0
 simp only [zi3,netA,zbR,List.map_append,List.sum_append,List.map_map,hf]
 have e : ((fun e : Ed=>if S e.f=true∧S e.t=false then e.v else 0)∘fun x : Int=>(⟨2+2*x,1,1⟩ : Ed))=fun k=>if S (2+2*k)=true then 1 else 0:=by
  funext k
  simp only [Function.comp,h1,and_true]
 rw [e]
 simp only [List.filter_nil,List.map_nil,List.sum_nil]
 omega
theorem zrd (S : Int→Bool) : ∀ ks : List Int,zg0 S ks≤ks.length
 | []=>Int.le_refl _
 | k::ks=>by
   have ih:=zrd S ks
   unfold zg0 at ih ⊢
   simp only [List.map_cons,List.sum_cons,List.length_cons]
   split <;> omega
theorem zoU (S : Int→Bool) (a b : List Int) : zg0 S (a++b)=zg0 S a+zg0 S b:=by simp [zg0]
theorem zsf (S : Int→Bool) {a b : List Int} (h : a.Perm b) : zg0 S a=zg0 S b:=by
 unfold zg0
 induction h with
 | nil=>rfl
 | cons x _ ih=>simp only [List.map_cons,List.sum_cons,ih]
 | swap x y l=>simp only [List.map_cons,List.sum_cons]; omega
 | trans _ _ ih1 ih2=>exact ih1.trans ih2
theorem znr {S : Int→Bool} : ∀ {ks : List Int},(∀ k∈ks,S (2+2*k)=false)→zg0 S ks=0
 | [],_=>rfl
 | k::ks,h=>by
   have ih:=znr (S:=S) (ks:=ks) fun x hx=>h x (List.mem_cons_of_mem _ hx)
   unfold zg0 at ih ⊢
   simp [ih,h k (List.mem_cons_self ..)]
structure zb4 (g : Gr) (p : Pol) (ks : List Int) : Prop where
 rng : ∀ x∈ks,0≤x∧x<g.size
 reach : ∀ x∈ks,zv7 g p x
theorem zb4.sub {a b : List Int} (h : zb4 g p b) (hs : ∀ x∈a,x∈b) : zb4 g p a:=⟨fun x hx=>h.rng x (hs x hx),fun x hx=>h.reach x (hs x hx)⟩
theorem zb4.nil : zb4 g p []:=⟨fun _ h=>(List.not_mem_nil h).elim,fun _ h=>(List.not_mem_nil h).elim⟩
theorem zb4.append {a b : List Int} (h : zb4 g p a) (h' : zb4 g p b) : zb4 g p (a++b) :=
 ⟨fun x hx=>(List.mem_append.1 hx).elim (h.rng x) (h'.rng x),fun x hx=>(List.mem_append.1 hx).elim (h.reach x) (h'.reach x)⟩
theorem zdk (hg : GrOk g) (hp : zbl g.size p) {ks : List Int} (hk : zb4 g p ks) : zap g p ks ↔ ∀ S : Int→Bool,S 0=true→S 1=false→(ks.length : Int)≤zoB g p S+zg0 S ks:=by
 have hn:=zlP hg hp hk.rng
 unfold zap
 constructor
 ·intro h S h0 h1
  rw [← zng h1 hk.reach,← h]
  exact zw9 hn h0 h1
 ·intro h
  obtain ⟨X,h0,h1,hc,_⟩:=zvf hn
  have h2:=h X h0 h1
  rw [← zng h1 hk.reach,hc] at h2
  have h3:=zjS (p:=p) hg hp hk.rng
  omega
theorem zap.perm (hg : GrOk g) (hp : zbl g.size p) {a b : List Int} (ha : zb4 g p a) (h : zap g p a) (hp' : a.Perm b) : zap g p b:=by
 have hb : zb4 g p b:=ha.sub fun x hx=>hp'.mem_iff.2 hx
 rw [zdk hg hp hb]
 rw [zdk hg hp ha] at h
 intro S h0 h1
 rw [← zsf S hp',← hp'.length_eq]
 exact h S h0 h1
theorem zap.left (hg : GrOk g) (hp : zbl g.size p) {a b : List Int} (hk : zb4 g p (a++b)) (h : zap g p (a++b)) : zap g p a:=by
 have ha : zb4 g p a:=hk.sub fun x hx=>List.mem_append_left _ hx
 rw [zdk hg hp ha]
 rw [zdk hg hp hk] at h
 intro S h0 h1
 have:=h S h0 h1
 rw [zoU,List.length_append] at this
 have:=zrd S b
 omega
theorem zap.sublist (hg : GrOk g) (hp : zbl g.size p) {a b : List Int} (hk : zb4 g p b) (h : zap g p b) (hs : a.Sublist b) : zap g p a:=by
 obtain ⟨c,hc⟩ : ∃ c,(a++c).Perm b:=by
  induction hs with
  | slnil=>exact ⟨[],.refl _⟩
  | cons x hs ih =>
    obtain ⟨c,hc⟩:=ih (hk.sub fun y hy=>List.mem_cons_of_mem _ hy) (by
     have h2 : zap g p (_++[x]):=h.perm hg hp hk (List.perm_append_comm (l₁:=[x]))
     exact h2.left hg hp (hk.sub fun y hy=>by simpa [or_comm] using hy))
    exact ⟨x::c,List.perm_middle.trans (hc.cons x)⟩
  | cons_cons x hs ih =>
    obtain ⟨c,hc⟩:=ih (hk.sub fun y hy=>List.mem_cons_of_mem _ hy) (by
     have h2 : zap g p (_++[x]):=h.perm hg hp hk (List.perm_append_comm (l₁:=[x]))
     exact h2.left hg hp (hk.sub fun y hy=>by simpa [or_comm] using hy))
    exact ⟨c,hc.cons x⟩
 exact (h.perm hg hp hk hc.symm).left hg hp (hk.sub fun x hx=>hc.mem_iff.1 hx)
theorem zap.nil (hg : GrOk g) (hp : zbl g.size p) : zap g p []:=by
 have h1:=zjS (p:=p) (ks:=[]) hg hp (by simp)
 have hn:=zlP (p:=p) (ks:=[]) hg hp (by simp)
 have h2:=zs5 hn (zlO hn)
 have h3 : valF (netA g p []) ((netA g p []).map fun _=>0)=0:=by
  unfold valF outF
  have : ∀ A : List Ed,sumF (fun e v=>if e.f=0 then v else 0) A (A.map fun _=>0)=0:=by
   intro A
   induction A with
   | nil=>rfl
   | cons e A ih=>simp only [List.map_cons,sumF,ih]; split <;> rfl
  exact this _
 unfold zap
 simp at h1 ⊢
 omega
variable {g : Gr} {S : List Int} {key : Int}
variable {g : Gr} {S : List Int} {key : Int}
section
variable {P : Program} {np id : Nat} {h : Nat→Option Ent} {K : AV→List Nat→List (Nat × Option Ent)→Prop}
theorem zy3 {s i off len : Nat} (l : Nat) {e : Ent} (he : h i=some e) (hs : e.s=s) (hl : l≤len) (hK : K (.rs i (off+l) (len - l)) [i] []) : aK P np id (.slc s true false false) [.rs i off len,.sc (.int .i64 l)] h K:=by
 rw [zl9]
 exact ⟨l,len,0,len,rfl,hl,rfl,by simp,by simp,by simp,Nat.le_refl _,rfl,⟨e,he,hs⟩,hK⟩
end
structure BSt where
 D : List Int
 b : List Int
 Z : List Int
 off : Nat
 q : Nat
structure BInv (N : Nat) (A : List Ed) (f : List Int) (s : BSt) (m : Nat) : Prop where
 bfs : Bfs N A f s.D s.b
 z : s.off+s.q=s.Z.length
 d : m+s.q=s.D.length
 same : s.Z.drop s.off=s.D.drop m
section
variable {N : Nat} {A : List Ed} {f : List Int}
theorem BInv.more {s : BSt} {m : Nat} (h : BInv N A f s m) {x : Int} {b' : List Int} (hb : Bfs N A f (s.D++[x]) b') : BInv N A f ⟨s.D++[x],b',s.Z.drop s.off++[x],0,s.q+1⟩ m:=by
 have h1:=h.z
 have h2:=h.d
 refine ⟨hb,?_,?_,?_⟩
 ·simp only [List.length_append,List.length_drop,List.length_singleton]; omega
 ·simp only [List.length_append,List.length_singleton]; omega
 ·simp only [List.drop_zero]
  rw [h.same,List.drop_append_of_le_length (by omega)]
theorem BInv.pop {s : BSt} {m : Nat} (h : BInv N A f s m) (hq : 0<s.q) : BInv N A f { s with off:=s.off+1,q:=s.q - 1 } (m+1):=by
 have h1:=h.z
 have h2:=h.d
 refine ⟨h.bfs,by simp only; omega,by simp only; omega,?_⟩
 simp only
 rw [← List.drop_drop,h.same,List.drop_drop]
theorem BInv.head {s : BSt} {m : Nat} (h : BInv N A f s m) (hq : 0<s.q) : ∃ hm : m<s.D.length,s.Z[s.off]? = some s.D[m]:=by
 have h1:=h.z
 have h2:=h.d
 refine ⟨by omega,?_⟩
 have e : (s.Z.drop s.off)[0]? = (s.D.drop m)[0]?:=by rw [h.same]
 rw [List.getElem?_drop,List.getElem?_drop,Nat.add_zero,Nat.add_zero] at e
 rw [e,List.getElem?_eq_getElem (by omega)]
end
def zuV (A : List Ed) (f : List Int) (l : List Stp) (j : Nat) (v : Int) : Prop:=∀ t∈l.drop j,v≤zde A f t
theorem zlV {φ : Ed→Int→Int} : ∀ {A : List Ed} {f : List Int} (i : Nat) (h1 : i<A.length) (h2 : i<f.length),sumF φ (A.take (i+1)) (f.take (i+1))=sumF φ (A.take i) (f.take i)+φ A[i] f[i]
 | e::A,v::f,0,_,_=>by simp [sumF]
 | e::A,v::f,i+1,h1,h2=>by
   have:=zlV (φ:=φ) (A:=A) (f:=f) i (by simpa using h1) (by simpa using h2)
   simp only [List.take_succ_cons,sumF,this,List.getElem_cons_succ]
   omega
def netG (A : List Ed) (f : List Int) (i : Nat) (x : Int) : Int:=inF (A.take i) (f.take i) x - outF (A.take i) (f.take i) x
variable {N : Nat} {A : List Ed} {f : List Int}
theorem zpx (x : Int) : netG A f 0 x=0:=by simp [netG,inF,outF,sumF]
theorem zpp {i : Nat} (h1 : i<A.length) (h2 : i<f.length) (x : Int) : netG A f (i+1) x=netG A f i x+(if A[i].t=x then f[i] else 0) - if A[i].f=x then f[i] else 0:=by
 unfold netG inF outF
 rw [zlV i h1 h2,zlV i h1 h2]
 omega
theorem zv1 (hl : f.length=A.length) (x : Int) : netG A f A.length x = - exF A f x:=by
 unfold netG exF
 rw [List.take_of_length_le (Nat.le_refl _),List.take_of_length_le (by omega)]
 omega
theorem znh (hl : f.length=A.length) (hb : ∀ j (h : j<f.length),0≤f[j]∧f[j]≤1048576) (x : Int) : ∀ i,i≤A.length → -(1048576*(i : Int))≤netG A f i x∧netG A f i x≤1048576*(i : Int)
 | 0,_=>by rw [zpx]; omega
 | i+1,h=>by
   have ih:=znh hl hb x i (by omega)
   have h2:=hb i (by omega)
   rw [zpp (by omega) (by omega)]
   split <;> split <;> omega
def rowR (N : Nat) (g : Int→Int) : List Int:=(List.range N).map fun k : Nat=>g k
theorem zgY (N : Nat) (g : Int→Int) : (rowR N g).length=N:=by simp [rowR]
theorem zi5 {g : Int→Int} {x : Int} (h0 : 0≤x) (h1 : x<N) : (rowR N g)[x.toNat]? = some (g x):=by
 unfold rowR
 rw [List.getElem?_map,List.getElem?_range (by omega)]
 simp only [Option.map_some,Int.toNat_of_nonneg h0]
theorem zq8 {g : Int→Int} {x v : Int} (h0 : 0≤x) (h1 : x<N) : (rowR N g).set x.toNat v=rowR N fun y=>if y=x then v else g y:=by
 apply List.ext_getElem?
 intro j
 by_cases hj : j<N
 ·have e1:=zi5 (N:=N) (g:=fun y=>if y=x then v else g y) (x:=(j : Int)) (by omega) (by omega)
  have e2:=zi5 (N:=N) (g:=g) (x:=(j : Int)) (by omega) (by omega)
  simp only [Int.toNat_natCast] at e1 e2
  rw [List.getElem?_set,e1,e2,zgY]
  by_cases hx : x.toNat=j
  ·rw [if_pos hx,if_pos (by omega),if_pos (by omega)]
  ·rw [if_neg hx,if_neg (by omega)]
 ·rw [List.getElem?_eq_none (by rw [List.length_set,zgY]; omega),List.getElem?_eq_none (by rw [zgY]; omega)]
theorem zm4 {g h : Int→Int} (e : ∀ x,g x=h x) : rowR N g=rowR N h:=by
 obtain rfl : g=h:=funext e
 rfl
structure ztY (g : Gr) (p : Pol) (ks f : List Int) : Prop where
 ok : zaO (netN g) (netA g p ks) f
 most : ∀ f',zaO (netN g) (netA g p ks) f'→valF (netA g p ks) f'≤valF (netA g p ks) f
 val : valF (netA g p ks) f=maxF (netN g) (netA g p ks)
theorem zqO {ks : List Int} {n : Int} (h : Rise ks 0 (n - 1)) : ∀ x∈ks,0≤x∧x<n:=fun x hx=>by
 have:=h.nodup.2 x hx
 omega
theorem zwK (L : List Int) (a : Nat) {l : List Int} (h : 0<l.length) : ofD L a l∈l:=by
 have:=zgf (L:=L) (a:=a) (n:=l.length) (by omega)
 obtain ⟨q,hq⟩ : ∃ q : Nat,(zat L a l.length).1=q:=⟨(zat L a l.length).1.toNat,by omega⟩
 have hql : q<l.length:=by omega
 unfold ofD
 rw [hq]
 simp [hql]
theorem zoW (L : List Int) (a : Nat) (n : Int) (hl : L.length≤400) (ha : a≤L.length) (h0 : 0<n) (hn : n≤1000000) : ∃ (x : Nat) (b : Nat),(b≤L.length∧(x : Int)<n)∧zak Tryz.prog zaB [.pt 0 0 0,.I n] [dice L a] (.I x) [some (dice L b)]:=by
 have:=zgf (L:=L) (a:=a) h0
 obtain ⟨q,hq⟩ : ∃ q : Nat,(zat L a n).1=q:=⟨(zat L a n).1.toNat,by omega⟩
 exact ⟨q,_,⟨zcN ha,by omega⟩,by rw [← hq]; exact zn7 L a n (by omega) ha (by omega)⟩
theorem Of_a (L : List Int) (a : Nat) (l : List Int) (hl : L.length≤400) (ha : a≤L.length) (h0 : 0<l.length) (hl2 : l.length≤100) : ∃ (x : Int) (b : Nat),(b≤L.length∧x∈l)∧zak Tryz.prog zef [.pt 0 0 0,ints l] [dice L a] (.I x) [some (dice L b)] :=
 ⟨_,_,⟨zcN ha,zwK L a h0⟩,zzK L a l (by omega) ha h0 (by omega)⟩
theorem zzI (L : List Int) (a : Nat) (n : Int) (hl : L.length≤400) (ha : a≤L.length) (hn0 : 0≤n) (hn : n≤1000000) : ∃ (x : Bool) (b : Nat),b≤L.length∧zak Tryz.prog zdC [.pt 0 0 0,.I n] [dice L a] (.B x) [some (dice L b)] :=
 ⟨_,_,zcN ha,zwl L a n (by omega) ha hn0 (by omega)⟩
section
variable {P : Program} {np id : Nat} {h : Nat→Option Ent} {K : AV→List Nat→List (Nat × Option Ent)→Prop} {f : FuncId} {first capt args args' : List AV} {res : AV}
theorem zvk {j : Nat} {e ej : Ent} (hnp : np≤j) (hj : h j=some ej) (hc : zak P f args' [] res [some e]) (he : (first++args++capt).map (conv [] [j] h 4)=args')
  (hk : K (conv (swp [] id) [] (fun _=>none) 4 res) [j] [(id,some (zau (swp [] id) [] (fun _=>none) 4 e)),(j,some { ej with ro:=ej.rows.length })]) : aK P np id .call (.fn (.func f) first capt::args) h K :=
 ⟨[],[j],true,args',[],res,[some e],by simp,by simp,by simpa using hnp,by rw [List.zipIdx_nil,he]; exact zdq _,rfl,hc,by simp,.inl rfl,by simpa [swp,hj] using hk⟩
end
def TabL (t : List Int) : Prop:=∀ i (h : i<t.length),1≤t[i]∧t[i]≤1000∧(0<i→t[i]≤t[i - 1])
theorem zuT {t : List Int} {v : Int} (h : TabL t) (h1 : 1≤v) (h2 : v≤1000) (h3 : ∀ x∈t,v≤x) : TabL (t++[v]):=by
 intro i hi
 rw [List.length_append,List.length_singleton] at hi
 by_cases hit : i<t.length
 ·rw [List.getElem_append_left hit]
  obtain ⟨a,b,c⟩:=h i hit
  refine ⟨a,b,fun hp=>?_⟩
  rw [List.getElem_append_left (by omega)]
  exact c hp
 ·obtain rfl : i=t.length:=by omega
  simp only [List.getElem_concat_length]
  refine ⟨h1,h2,fun hp=>?_⟩
  rw [List.getElem_append_left (by omega)]
  exact h3 _ (List.getElem_mem _)
set_option maxRecDepth 100000 in
set_option maxHeartbeats 4000000 in
theorem zvi (L : List Int) (a : Nat) (g : Gr) (hl : L.length≤400) (ha : a≤L.length) (h0 : 0<g.size) (hn : g.size≤1000) :
  ∃ x : Pol × Nat,(zbl g.size x.1∧x.1.seeds.length≤2∧x.1.table.length≤4∧x.2≤L.length)∧zak Tryz.prog zeQ [.pt 0 0 0,eG g] [dice L a] (eP x.1) [some (dice L x.2)]:=by
 refine zj1.acallsX (args:=[.pt 0 0 0,eG g]) (hs:=[dice L a]) (fun x=>eP x.1) (fun x=>[some (dice L x.2)]) (fun x : Pol × Nat=>zbl g.size x.1∧x.1.seeds.length≤2∧x.1.table.length≤4∧x.2≤L.length) (nbz rfl) (nbz rfl) (fun _=>by simp) ?_
 show awp _ 1 _ _ ⟨50,[(0,.pt 0 0 0),(1,eG g)],[(0,some (dice L a))],16⟩
 obtain ⟨k1,b1,⟨hb1,hk1⟩,hc1⟩:=zoW L a g.size hl ha h0 (by omega)
 obtain ⟨lv,b2,⟨hb2,hlv⟩,hc2⟩:=Of_a L b1 [1,1,2,3] hl hb1 (by simp) (by simp)
 have hlv' : 1≤lv∧lv≤3:=by simp at hlv; omega
 obtain ⟨o,b3,hb3,hc3⟩:=zzI L b2 3 hl hb2 (by omega) (by omega)
 refine zab ⟨50,[(0,.pt 0 0 0),(3,.pv (gC g)),(4,.pt 24 0 0)],[(0,some (dice L a)),(24,some ⟨3,[[.nilS,.nilS,.I 0]],0⟩)],32⟩ rfl ?_ ?_
 ·simp
  exact LeH [(0,0),(24,24)] [16]
 refine zab ⟨50,[(0,.pt 0 0 0),(3,.pv (gC g)),(4,.pt 24 0 0),(5,.pt 104 0 0)],[(0,some (dice L b2)),(24,some ⟨3,[[.nilS,.nilS,.I 0]],0⟩),(104,some ⟨3,[[.rs 17 0 1,.nilS,.I lv]],0⟩),(17,some ⟨1,zai [(k1 : Int)],0⟩)],120⟩ rfl ?_ ?_
 ·simp
  refine zcJ (i:=0) rfl (e':=dice L a) (by simp) hc1 (by simp) (by simp) ?_
  simp
  refine zoy (i:=0) (j:=80) (by decide) (by decide) rfl rfl (e':=dice L b1) (by simp) hc2 (by simp) (by simp) ?_
  simp
  exact LeH [(0,0),(24,24),(104,104),(64,17)] []
 refine zbH (ι:=List Int × Nat) (fun s=>⟨50,[(0,.pt 0 0 0),(4,.pt 24 0 0),(5,.pt 104 0 0)],[(0,some (dice L s.2)),(24,some ⟨3,[[.nilS,.nilS,.I 0]],0⟩),(104,some ⟨3,[[.rs 17 0 s.1.length,.nilS,.I lv]],0⟩),(17,some ⟨1,zai s.1,0⟩)],300⟩)
  (fun s=>s.2≤L.length∧s.1≠[]∧s.1.length≤2∧s.1.Pairwise (· < ·) ∧ ∀ k∈s.1,0≤k∧k<g.size) ?_ fun s hs=>?_
 ·refine zab ⟨50,[(0,.pt 0 0 0),(3,.pv (gC g)),(4,.pt 24 0 0),(5,.pt 104 0 0),(18,.B o)],[(0,some (dice L b3)),(24,some ⟨3,[[.nilS,.nilS,.I 0]],0⟩),(104,some ⟨3,[[.rs 17 0 1,.nilS,.I lv]],0⟩),(17,some ⟨1,zai [(k1 : Int)],0⟩)],136⟩ rfl ?_ ?_
  ·simp
   refine zcJ (i:=0) rfl (e':=dice L b2) (by simp) hc3 (by simp) (by simp) ?_
   simp
   exact Le.keep rfl (Nat.le_refl _) (by simp) (by simp)
  cases o with
  | true =>
    refine zae _ rfl (fun _=>?_) fun h=>by cases h
    obtain ⟨k2,b4,⟨hb4,hk2⟩,hc4⟩:=zoW L b3 g.size hl hb3 h0 (by omega)
    have hput:=zyj [(k1 : Int)] k2 (by simp)
    obtain ⟨S,hS⟩ : ∃ S,S=putL [(k1 : Int)] k2:=⟨_,rfl⟩
    rw [← hS] at hput
    refine zfe rfl ?_
    simp
    refine zcJ (i:=0) rfl (e':=dice L b3) (by simp) hc4 (by simp) (by simp) ?_
    simp
    refine zvk (j:=17) (by decide) rfl hput (by simp) ?_
    simp [fcd]
    refine ⟨rfl,S,b4,⟨hb4,?_,?_,?_,fun k hk=>?_⟩,LeI [(0,0),(24,24),(104,104),(184,17)] []⟩
    ·intro h
     have : (k1 : Int)∈S:=by rw [hS]; exact zrz.2 (.inl (by simp))
     rw [h] at this
     cases this
    ·rw [hS]; exact zvd _ _
    ·rw [hS]; exact zue (by simp)
    ·rw [hS] at hk
     rcases zrz.1 hk with h | h
     ·simp at h; omega
     ·omega
  | false =>
    refine zae _ rfl (fun h=>by cases h) fun _=>?_
    refine zaf ?_
    exact ⟨([(k1 : Int)],b3),⟨hb3,by simp,by simp,by simp,by simp; omega⟩,LeH [(0,0),(24,24),(104,104),(17,17)] []⟩
 obtain ⟨S,b4⟩:=s
 obtain ⟨hb4,hS1,hS2,hS3,hS4⟩:=hs
 simp only at hb4 hS1 hS2 hS3 hS4
 obtain ⟨v0,b5,⟨hb5,hv0⟩,hc5⟩:=Of_a L b4 [3,2,1,6,0] hl hb4 (by simp) (by simp)
 have hv0' : 0≤v0∧v0≤6:=by simp at hv0; omega
 have hwv : IntKind.i64.wrap (1+v0)=1+v0:=w64 (by omega) (by omega)
 obtain ⟨n0,b6,⟨hb6,hn0⟩,hc6⟩:=zoW L b5 4 hl hb5 (by omega) (by omega)
 have hwn : IntKind.i64.wrap (1+(n0 : Int))=((n0+1 : Nat) : Int):=by rw [w64 (by omega) (by omega)]; omega
 refine zab ⟨50,[(0,.pt 0 0 0),(4,.pt 24 0 0),(5,.pt 104 0 0),(6,.I (1+v0))],[(0,some (dice L b5)),(24,some ⟨3,[[.nilS,.nilS,.I 0]],0⟩),(104,some ⟨3,[[.rs 17 0 S.length,.nilS,.I lv]],0⟩),(17,some ⟨1,zai S,0⟩)],400⟩ rfl ?_ ?_
 ·simp
  refine zoy (i:=0) (j:=308) (by decide) (by decide) rfl rfl (e':=dice L b4) (by simp) hc5 (by simp) (by simp) ?_
  simp [hwv]
  exact LeI [(0,0),(24,24),(104,104),(17,17)] []
 refine zaa ?_
 refine zab ⟨50,[(0,.pt 0 0 0),(4,.pt 24 0 0),(5,.pt 104 0 0),(6,.I (1+v0)),(7,.I (n0+1 : Nat))],[(0,some (dice L b6)),(24,some ⟨3,[[.nilS,.nilS,.I 0]],0⟩),(104,some ⟨3,[[.rs 17 0 S.length,.nilS,.I lv]],0⟩),(17,some ⟨1,zai S,0⟩)],432⟩ rfl ?_ ?_
 ·simp
  refine zcJ (i:=0) rfl (e':=dice L b5) (by simp) hc6 (by simp) (by simp) ?_
  simp [hwn]
  exact LeI [(0,0),(24,24),(104,104),(17,17)] []
 refine zah ?_
 refine zav (ι:=(List Int × Int) × (Nat × Nat)) (fun s=>⟨50,[(0,.pt 0 0 0),(4,.pt 24 0 0),(5,.pt 104 0 0),(6,.I s.1.2),(7,.I s.2.1)],[(0,some (dice L s.2.2)),(24,some ⟨3,[[.nilS,.nilS,.I 0]],0⟩),(104,some ⟨3,[[.rs 17 0 S.length,.rs 18 0 s.1.1.length,.I lv]],0⟩),(17,some ⟨1,zai S,0⟩),(18,some ⟨1,zai s.1.1,0⟩)],432⟩)
  (fun s=>s.1.1.length+s.2.1=n0+1∧TabL s.1.1∧(1≤s.1.2∧s.1.2≤7)∧(∀ x∈s.1.1,s.1.2≤x)∧s.2.2≤L.length) (fun s=>s.2.1) (([],1+v0),(n0+1,b6)) ⟨by simp,fun i h=>by simp at h,⟨by simp only; omega,by simp only; omega⟩,by simp,hb6⟩
  (Le.lst [(0,0),(24,24),(104,104),(17,17)] [] [(18,1)] rfl (by simp) (by simp) (by simp) (by simp) (by simp) (by simp) (by simp) (by simp [Up]) (by simp [fcd]; exact ⟨zaM.rfl' (by simp),zaM.rfl' (by simp),zaM.row rfl (by omega) (by simp [UpL,Up]),zaM.rfl' (by simp)⟩)) ?_
 rintro ⟨⟨T,v⟩,n,b⟩ ⟨hTn,hT,hv,hTv,hb⟩
 simp only at hTn hT hv hTv hb
 refine zaa ?_
 refine rk (s:=?s7) [0,4,5,6,7,35] [0,24,104,17,18] rfl ?o7 ?q7
 case o7=>simp; rfl
 refine zae _ rfl (fun h8=>?_) fun h8=>?_
 ·simp at h8
  obtain ⟨m,rfl⟩ : ∃ m,n=m+1:=⟨n - 1,by omega⟩
  have hwm : IntKind.i64.wrap (((m+1 : Nat) : Int) - 1)=(m : Int):=by rw [w64 (by omega) (by omega)]; omega
  have hwm2 : IntKind.i64.wrap (m : Int)=(m : Int):=w64 (by omega) (by omega)
  obtain ⟨d,b',⟨hb',hd⟩,hc7⟩:=zoW L b 3 hl hb (by omega) (by omega)
  have hwd : IntKind.i64.wrap (v - (d : Int))=v - (d : Int):=w64 (by omega) (by omega)
  have htl : ∀ f : Int→List AV,List.take T.length (List.map f T)=List.map f T:=fun f=>List.take_of_length_le (by simp)
  refine zaf ?_
  refine zaa ?_
  refine zah ?_
  refine zab ⟨50,[(0,.pt 0 0 0),(4,.pt 24 0 0),(5,.pt 104 0 0),(6,.I v),(7,.I (m+1 : Nat))],[(0,some (dice L b)),(24,some ⟨3,[[.nilS,.nilS,.I 0]],0⟩),(104,some ⟨3,[[.rs 17 0 S.length,.rs 18 0 (T++[v]).length,.I lv]],0⟩),(17,some ⟨1,zai S,0⟩),(18,some ⟨1,zai (T++[v]),0⟩)],512⟩ rfl ?_ ?_
  ·simp [htl]
   refine ⟨by omega,by omega,?_⟩
   exact LeI [(0,0),(24,24),(104,104),(17,17),(480,18)] []
  refine zac (s:=?s9) rfl ?o9 ?q9
  case o9 =>
   simp
   refine zcJ (i:=0) rfl (e':=dice L b) (by simp) hc7 (by simp) (by simp) ?_
   simp [hwd]
   rfl
  refine zac (s:=?s10) rfl ?o10 ?q10
  case o10=>simp; rfl
  refine ⟨((T++[v],if 1<v - d then v - d else 1),(m,b')),⟨by simp only [List.length_append,List.length_singleton]; omega,zuT hT hv.1 (by omega) hTv,⟨by simp only; split <;> omega,by simp only; split <;> omega⟩,fun x hx=>?_,hb'⟩,by simp only; omega,Le.go [(0,0),(24,24),(104,104),(17,17),(18,18)] [] rfl rfl (by simp [hwm2]) (by simp [fcd])⟩
  have : v≤x:=by
   rcases List.mem_append.1 hx with h | h
   ·exact hTv x h
   ·rw [List.mem_singleton] at h; omega
  simp only
  split <;> omega
 simp at h8
 obtain rfl : n=0:=by omega
 refine zas ?_
 refine hit ?_
 refine rk (s:=?s11) [4] [0,24,17,18] rfl ?o11 ?q11
 case o11=>simp; rfl
 refine zag ?_
 refine zpl.mk (.inr rfl) (⟨S,T,lv⟩,b) ⟨⟨hS1,zks hS3 hS4,by simp only; omega,by simp only; omega,hlv'.1,hlv'.2,hT⟩,hS2,by simp only; omega,hb⟩ ?_
 refine ⟨_,rfl,[],[17,18],by simp [List.range,List.range.loop],by simp,by simp,?_,?_⟩
 ·simp [List.range,List.range.loop,fcd,zao]
 ·simp [List.range,List.range.loop]
def inD (D : List Int) (n : Nat) : List Int:=((List.range n).map fun k : Nat=>(k : Int)).filter fun k=>decide (k∈D)
theorem zvj (D : List Int) (n : Nat) : inD D (n+1)=inD D n++if (n : Int)∈D then [(n : Int)] else []:=by
 unfold inD
 rw [List.range_succ,List.map_append,List.filter_append]
 simp only [List.map_cons,List.map_nil,List.filter_cons,List.filter_nil]
 split <;> simp_all
theorem zs6 {D : List Int} {n : Nat} {x : Int} : x∈inD D n↔(0≤x∧x<n)∧x∈D:=by
 unfold inD
 rw [List.mem_filter,List.mem_map]
 constructor
 ·rintro ⟨⟨k,hk,rfl⟩,h⟩
  have:=List.mem_range.1 hk
  exact ⟨by omega,by simpa using h⟩
 ·rintro ⟨h,h2⟩
  exact ⟨⟨x.toNat,List.mem_range.2 (by omega),by omega⟩,by simpa using h2⟩
theorem zvH (D : List Int) (n : Nat) : (inD D n).Pairwise (· < ·):=by
 unfold inD
 refine List.Pairwise.filter _ ?_
 rw [List.pairwise_map]
 exact List.pairwise_lt_range.imp fun h=>by omega
theorem zwV (D : List Int) (n : Nat) : (inD D n).length≤n:=by
 unfold inD
 refine Nat.le_trans (List.length_filter_le ..) (by simp)
abbrev zeF (R : List (Int × List Int)) : List (List AV):=R.map fun r=>[.I r.1,ints r.2]
abbrev eAcc (acc flow : List Int) (R : List (Int × List Int)) : AV:=.agg [ints acc,ints flow,.vs 2 false (zeF R)]
theorem WayA.mem {A : List Ed} : ∀ {l : List Nat} {u w : Int},WayA A u l w → ∀ j∈l,j<A.length
 | i::l,u,w,hw,j,hj=>by
   rcases List.mem_cons.1 hj with rfl | hj
   ·exact hw.1
   ·exact WayA.mem hw.2.2 j hj
theorem zlN.few {N : Nat} {A : List Ed} {f g : List Int} {l : List Nat} {w : Int} (hn : zfS N A) (h : zlN A f g l w) : l.length+1≤N:=by
 have:=zbt (b:=(List.range N).map fun i : Nat=>(i : Int)) h.met fun x hx=>by
  rcases List.mem_cons.1 hx with rfl | hx
  ·have:=hn.two
   exact List.mem_map.2 ⟨0,List.mem_range.2 (by omega),rfl⟩
  ·obtain ⟨j,hj,rfl⟩:=List.mem_map.1 hx
   have ha:=hn.arc _ (zgK (h.way.mem j hj))
   exact List.mem_map.2 ⟨(arcD A j).t.toNat,List.mem_range.2 (by omega),by omega⟩
 simpa [metA] using this
section
variable {P : Program} {np id : Nat} {h : Nat→Option Ent} {K : AV→List Nat→List (Nat × Option Ent)→Prop} {f : FuncId} {first capt args args' : List AV} {res : AV}
end
def zwj (g : Gr) (p : Pol) (ks : List Int) (W : List (List Nat)) : Prop :=
 ∃ f g',ztY g p (za0 ks) f∧znk (netN g) (netA g p (za0 ks)) f g' W∧(W.length : Int)=maxF (netN g) (netA g p (za0 ks)) ∧ ∀ w∈W,w.length≤130
def befL (o acc : List Int) (i : Nat) : List Int:=(o.take i).filter fun k=>decide (k∈acc)
theorem zuG {o acc : List Int} {i : Nat} (h : i<o.length) : befL o acc (i+1)=befL o acc i++if o[i]∈acc then [o[i]] else []:=by
 unfold befL
 rw [List.take_succ_eq_append_getElem h,List.filter_append]
 simp only [List.filter_cons,List.filter_nil,decide_eq_true_eq]
structure ForR (g : Gr) (p : Pol) (o : List Int) (key : Int) (x : Expl) : Prop where
 key_ : x.key=key
 bef : ∃ i,∃ h : i<o.length,o[i]=key∧x.before=befL o (accR g p o) i
 yes : key∈accR g p o→x.acc=true∧x.side=[] ∧ ∃ W,zwj g p (x.before++[key]) W∧x.paths=W.map (zed (netA g p (za0 (x.before++[key]))))
 no : key∉accR g p o→x.acc=false∧x.paths=[] ∧ ∃ R,zoE g p o R∧(key,x.side)∈R
variable {g : Gr} {p : Pol}
theorem zi9 : ∀ (b a : List Int),∃ l,accR g p (a++b)=accR g p a++l ∧ ∀ x∈l,x∈b
 | [],a=>⟨[],by simp,by simp⟩
 | x::b,a=>by
   obtain ⟨l,hl,hm⟩:=zi9 b (a++[x])
   have e : a++x::b=a++[x]++b:=by simp
   rw [e,hl]
   rcases zpX (g:=g) (p:=p) a x with h | h
   ·exact ⟨l,by rw [h],fun y hy=>List.mem_cons_of_mem _ (hm y hy)⟩
   ·refine ⟨[x]++l,by rw [h,List.append_assoc],fun y hy=>?_⟩
    rcases List.mem_append.1 hy with h | h
    ·rw [List.mem_singleton.1 h]; exact List.mem_cons_self
    ·exact List.mem_cons_of_mem _ (hm y h)
theorem zok {o : List Int} (hn : o.Nodup) {i : Nat} (h : i<o.length) : o[i]∈accR g p o↔zap g p (za0 (accR g p (o.take i)++[o[i]])):=by
 have hs : o.take (i+1)=o.take i++[o[i]]:=List.take_succ_eq_append_getElem h
 obtain ⟨l,hl,hm⟩:=zi9 (g:=g) (p:=p) (o.drop (i+1)) (o.take (i+1))
 rw [List.take_append_drop] at hl
 have hni : o[i]∉o.take i:=fun hx=>by
  obtain ⟨j,hj,e⟩:=List.mem_take_iff_getElem.1 hx
  have:=(List.getElem_inj hn).1 e
  omega
 have hnd : o[i]∉o.drop (i+1):=fun hx=>by
  obtain ⟨j,hj,e⟩:=List.mem_drop_iff_getElem.1 hx
  have:=(List.getElem_inj hn).1 e
  omega
 constructor
 ·intro hx
  by_cases hc : zap g p (za0 (accR g p (o.take i)++[o[i]]))
  ·exact hc
  ·rw [hl,hs,zhz hc] at hx
   rcases List.mem_append.1 hx with h1 | h1
   ·exact absurd (zfs h1) hni
   ·exact absurd (hm _ h1) hnd
 ·intro hc
  rw [hl,hs,zcG hc]
  exact List.mem_append_left _ (List.mem_append_right _ (List.mem_singleton.2 rfl))
theorem zrI {o : List Int} (hn : o.Nodup) : ∀ i,i≤o.length→befL o (accR g p o) i=accR g p (o.take i)
 | 0,_=>by simp [befL,zq5]
 | i+1,h=>by
   have hi : i<o.length:=h
   rw [zuG hi,zrI hn i (by omega),List.take_succ_eq_append_getElem hi]
   by_cases hc : zap g p (za0 (accR g p (o.take i)++[o[i]]))
   ·rw [if_pos ((zok hn hi).2 hc),zcG hc]
   ·rw [if_neg (fun h=>hc ((zok hn hi).1 h)),zhz hc,List.append_nil]
theorem zdG {l : List Int} (h : l.Pairwise (· < ·)) : l.Nodup:=h.imp fun h=>by omega
theorem zmv {a : List Int} (hn : a.Nodup) (hr : ∀ k∈a,0≤k∧k<64) : a.Perm (za0 a):=by
 rw [← zot hn hr]
 exact (zh6 a).symm
theorem znX {a : List Int} (hn : a.Nodup) (hr : ∀ k∈a,0≤k∧k<64) : (za0 a).length=a.length:=(zmv hn hr).length_eq.symm
structure AtO (g : Gr) (p : Pol) (key : Int) (before : List Int) : Prop where
 mem : key∈ordL (zaj g p.lv) p.seeds
 bef : zh3 (ordL (zaj g p.lv) p.seeds) before key
 nodup : (before++[key]).Nodup
 range : ∀ k∈before++[key],0≤k∧k<g.size
 serve : key∈accR g p (ordL (zaj g p.lv) p.seeds)↔zap g p (za0 (before++[key]))
theorem zqo {o : List Int} (hn : o.Nodup) {i : Nat} (h : i<o.length) : zjP o o[i]=o.take i:=by
 unfold zjP
 rw [List.takeWhile_eq_take_findIdx_not]
 congr 1
 rw [List.findIdx_eq h]
 refine ⟨by simp,fun j hj=>?_⟩
 have : o[j]≠o[i]:=fun e=>by have:=(List.getElem_inj hn).1 e; omega
 simp [this]
theorem ForR.at_ {key : Int} {x : Expl} (h : ForR g p (ordL (zaj g p.lv) p.seeds) key x) (hg : GrOk g) : x.key=key∧AtO g p key x.before ∧ ∃ i,∃ hi : i<(ordL (zaj g p.lv) p.seeds).length,(ordL (zaj g p.lv) p.seeds)[i]=key∧x.before=accR g p ((ordL (zaj g p.lv) p.seeds).take i):=by
 have hn:=zct (zaj g p.lv) p.seeds
 have hr : ∀ k∈ordL (zaj g p.lv) p.seeds,0≤k∧k<g.size:=fun k hk=>by have h:=zgv hk; exact h
 obtain ⟨o,ho⟩ : ∃ o,o=ordL (zaj g p.lv) p.seeds:=⟨_,rfl⟩
 rw [← ho] at h hn hr ⊢
 obtain ⟨i,hi,hk,hb⟩:=h.bef
 rw [zrI hn i (by omega)] at hb
 refine ⟨h.key_,?_,i,hi,hk,hb⟩
 have hsub : x.before.Sublist (zjP o key):=by
  rw [hb,← hk,zqo hn hi]
  exact zf2 _ _ rfl
 refine ⟨by rw [← ho,← hk]; exact List.getElem_mem hi,by rw [← ho]; exact hsub,zh3.nodup (order:=o) hsub hn,fun k hkm=>?_,?_⟩
 ·rcases List.mem_append.1 hkm with h1 | h1
  ·refine hr k ?_
   rw [hb] at h1
   exact List.mem_of_mem_take (zfs h1)
  ·rw [List.mem_singleton.1 h1,← hk]; exact hr _ (List.getElem_mem hi)
 ·rw [← ho,hb,← hk]
  exact zok hn hi
theorem AtO.joined {key : Int} {before : List Int} (h : AtO g p key before) (hg : GrOk g) : (za0 (before++[key])).Nodup∧(before++[key]).Perm (za0 (before++[key]))∧(∀ x∈za0 (before++[key]),0≤x∧x<g.size):=by
 have h64:=hg.1.2.1
 have hr : ∀ k∈before++[key],0≤k∧k<64:=fun k hk=>⟨(h.range k hk).1,by have:=(h.range k hk).2; omega⟩
 exact ⟨zdG (zi6 _),zmv h.nodup hr,fun x hx=>h.range x (zgw.1 hx).1⟩
theorem zqb {key : Int} {before : List Int} {W : List (List Nat)} (hg : GrOk g) (hp : zbl g.size p) (ha : AtO g p key before) (hc : zap g p (za0 (before++[key]))) (hW : zwj g p (before++[key]) W) :
  zl8 g p.lv p.seeds (ordL (zaj g p.lv) p.seeds) (zaz g p) (W.map (zed (netA g p (za0 (before++[key]))))) (before++[key]):=by
 obtain ⟨f,g',hgf,ht,hl,_⟩:=hW
 obtain ⟨j1,j2,j3⟩:=ha.joined hg
 refine zpa hg hp j1 (fun x hx=>(j3 x hx).1) j2 hgf.ok.fit ht.ways (fun i _=>?_) ?_
 ·have h1:=ht.used i
  have h2:=ht.bal.nonneg i
  omega
 ·have : maxF (netN g) (netA g p (za0 (before++[key])))=(za0 (before++[key])).length:=hc
  omega
theorem ForR.yes_serves {key : Int} {x : Expl} (h : ForR g p (ordL (zaj g p.lv) p.seeds) key x) (hg : GrOk g) (hp : zbl g.size p) (hk : key∈accR g p (ordL (zaj g p.lv) p.seeds)) :
  zl8 g p.lv p.seeds (ordL (zaj g p.lv) p.seeds) (zaz g p) x.paths (x.before++[key]):=by
 obtain ⟨_,ha,_⟩:=h.at_ hg
 obtain ⟨_,_,W,hW,hpa⟩:=h.yes hk
 rw [hpa]
 exact zqb hg hp ha (ha.serve.1 hk) hW
theorem ForR.no_proves {key : Int} {x : Expl} (h : ForR g p (ordL (zaj g p.lv) p.seeds) key x) (hg : GrOk g) (hp : zbl g.size p) (hk : key∉accR g p (ordL (zaj g p.lv) p.seeds)) :
  znU ⟨2+2*g.size,zbR g p (zaz g p) (za0 (x.before++[key]))⟩ x.side x.before.length:=by
 obtain ⟨_,ha,i,hi,hik,hib⟩:=h.at_ hg
 obtain ⟨_,_,R,hR,hs⟩:=h.no hk
 obtain ⟨i',hi',hik',hn⟩:=hR.right _ hs
 simp only at hik' hn
 have hii : i'=i:=(List.getElem_inj (zct (zaj g p.lv) p.seeds)).1 (hik'.trans hik.symm)
 subst hii
 rw [← hib] at hn
 obtain ⟨j1,j2,j3⟩:=ha.joined hg
 have hfew:=zjS hg hp j3
 have hno : maxF (netN g) (netA g p (za0 (x.before++[key])))≠(za0 (x.before++[key])).length:=hn.no
 have hlen:=j2.length_eq
 rw [List.length_append,List.length_singleton] at hlen
 have hcut:=hn.cut
 have hok:=hn.ok
 rw [znO hg] at hok
 exact ⟨hok,by rw [hcut]; omega⟩
theorem ForR.checked {key : Int} {x : Expl} (h : ForR g p (ordL (zaj g p.lv) p.seeds) key x) (hg : GrOk g) (hp : zbl g.size p) : ztx g p x=0:=by
 rw [zsx hg.1.2.1]
 obtain ⟨hk,ha,_⟩:=h.at_ hg
 unfold zsU
 simp only
 rw [hk,if_neg (by simpa using ha.mem)]
 by_cases hacc : key∈accR g p (ordL (zaj g p.lv) p.seeds)
 ·obtain ⟨h1,h2,_⟩:=h.yes hacc
  rw [if_neg (by rw [h1,h2]; simpa using ha.bef),if_pos h1,if_pos (h.yes_serves hg hp hacc)]
 ·obtain ⟨h1,h2,_⟩:=h.no hacc
  rw [if_neg (by rw [h1,h2]; simpa using ha.bef),if_neg (by rw [h1]; simp),if_pos (h.no_proves hg hp hacc)]
def surG (A : List Ed) (f : List Int) (i : Nat) (x : Int) : Int:=- netG A f i x
variable {N : Nat} {A : List Ed} {f : List Int}
theorem zvV (hl : f.length=A.length) (x : Int) : surG A f A.length x=exF A f x:=by
 unfold surG
 rw [zv1 hl]
 omega
set_option maxRecDepth 100000 in
set_option maxHeartbeats 4000000 in
theorem znc (hn : zdd ⟨N,A⟩) (hfl : f.length=A.length) (hfb : ∀ j (h : j<f.length),0≤f[j]∧f[j]≤1048576) : zak Tryz.prog zeq [eN ⟨N,A⟩,ints f] [] (.rs 0 0 N) [some ⟨1,zai (rowR N (exF A f)),0⟩]:=by
 refine zjj.acalls (nbz rfl) (nbz rfl) (Nat.zero_le _) ?_
 show awp _ 0 _ _ ⟨43,[(0,eN ⟨N,A⟩),(1,ints f)],[],16⟩
 obtain ⟨hn0,hn1,hal,hav⟩:=hn
 simp only at hn0 hn1 hal hav
 have hbd:=znh hfl hfb
 refine rx (s:=?s1) [1,2] [] [16] rfl ?o1 ?q1
 case o1=>simp; rfl
 refine zab ⟨43,[(1,ints f),(2,.pv (nC ⟨N,A⟩)),(5,.rs 48 0 N)],[(48,some ⟨1,zai (rowR N (surG A f 0)),0⟩)],64⟩ rfl ?_ ?_
 ·simp
  refine ⟨by omega,by omega,?_⟩
  have : rowR N (surG A f 0)=List.replicate N 0:=by
   unfold rowR surG
   simp only [zpx]
   simp [List.map_const']
  rw [this]
  exact LeH [(48,48)] []
 refine zaa ?_
 refine zab ⟨43,[(1,ints f),(5,.rs 48 0 N),(12,eEs A),(13,.I A.length),(14,.I 0)],[(48,some ⟨1,zai (rowR N (surG A f 0)),0⟩)],96⟩ rfl ?_ ?_
 ·simp
  exact LeI [(48,48)] []
 refine zah ?_
 refine zav (ι:=Nat) (fun i=>⟨43,[(1,ints f),(5,.rs 48 0 N),(12,eEs A),(13,.I A.length),(14,.I i)],[(48,some ⟨1,zai (rowR N (surG A f i)),0⟩)],96⟩) (fun i=>i≤A.length) (fun i=>A.length - i) 0 (Nat.zero_le _) (LeI [(48,48)] []) ?_
 intro i hi
 refine zab ⟨43,[(1,ints f),(5,.rs 48 0 N),(12,eEs A),(13,.I A.length),(14,.I i),(15,.B (decide (i<A.length)))],[(48,some ⟨1,zai (rowR N (surG A f i)),0⟩)],104⟩ rfl ?_ ?_
 ·simp
  exact LeI [(48,48)] []
 refine zaa ?_
 refine zae _ rfl (fun h5=>?_) fun h5=>?_
 ·simp at h5
  have h8 : i<f.length:=by omega
  have hw1 : IntKind.i64.wrap ((i : Int)+1)=(i : Int)+1:=w64 (by omega) (by omega)
  obtain ⟨b1,b3⟩:=hfb i h8
  have heo:=hav _ (List.getElem_mem h5)
  have hsucc:=zpp h5 h8
  have hbe:=fun x=>hbd x i (by omega)
  obtain ⟨e,he⟩ : ∃ e,e=A[i]:=⟨_,rfl⟩
  obtain ⟨w,hw⟩ : ∃ w,w=f[i]:=⟨_,rfl⟩
  rw [← he,← hw] at hsucc
  rw [← hw] at b1 b3
  rw [← he] at heo
  obtain ⟨e1,e2,e3,e4,e5,_⟩:=heo
  have hg1 : A[i]? = some e:=by rw [List.getElem?_eq_getElem h5,he]
  have hg2 : f[i]? = some w:=by rw [List.getElem?_eq_getElem h8,hw]
  have h2N : e.f<(N : Int)∧e.t<(N : Int):=by omega
  have h1:=hbe e.f
  have h2:=hbe e.t
  have hwx : IntKind.i64.wrap (surG A f i e.f+w)=surG A f i e.f+w:=w64 (by unfold surG; omega) (by unfold surG; omega)
  have hwy : IntKind.i64.wrap (surG A f i e.t - w)=surG A f i e.t - w:=w64 (by unfold surG; omega) (by unfold surG; omega)
  have hr1:=zi5 (N:=N) (g:=surG A f i) (x:=e.f) e1 (by omega)
  have hs1:=zq8 (N:=N) (g:=surG A f i) (x:=e.f) (v:=surG A f i e.f+w) e1 (by omega)
  obtain ⟨g1,hg1d⟩ : ∃ g1 : Int→Int,g1=fun y=>if y=e.f then surG A f i e.f+w else surG A f i y:=⟨_,rfl⟩
  rw [← hg1d] at hs1
  have hg1t : g1 e.t=surG A f i e.t:=by rw [hg1d]; exact if_neg fun h=>e5 h.symm
  have hr2:=zi5 (N:=N) (g:=g1) (x:=e.t) e3 (by omega)
  rw [hg1t] at hr2
  have hs2:=zq8 (N:=N) (g:=g1) (x:=e.t) (v:=surG A f i e.t - w) e3 (by omega)
  have hend : (rowR N fun y=>if y=e.t then surG A f i e.t - w else g1 y)=rowR N (surG A f (i+1)):=zm4 fun x=>by
   unfold surG at hg1d ⊢
   rw [hsucc,hg1d]
   simp only
   by_cases h3 : x=e.t
   ·rw [h3,if_pos rfl,if_pos rfl,if_neg e5]
    omega
   ·by_cases h4 : x=e.f
    ·rw [if_neg h3,if_pos h4,if_neg fun h=>h3 h.symm,if_pos h4.symm,h4]
     omega
    ·rw [if_neg h3,if_neg h4,if_neg fun h=>h3 h.symm,if_neg fun h=>h4 h.symm]
     omega
  rw [hend] at hs2
  refine zaf ?_
  refine zaa ?_
  refine zah ?_
  refine zab ⟨43,[(1,ints f),(5,.rs 48 0 N),(6,.I i),(7,.pv (eC e)),(12,eEs A),(13,.I A.length),(14,.I i)],[(48,some ⟨1,zai (rowR N (surG A f i)),0⟩)],152⟩ rfl ?_ ?_
  ·simp [h5,← he]
   exact LeI [(48,48)] [128]
  refine zba ⟨43,[(1,ints f),(5,.rs 48 0 N),(6,.I i),(7,.pv (eC e)),(12,eEs A),(13,.I A.length),(14,.I i)],[(48,some ⟨1,zai (rowR N g1),0⟩)],400⟩ rfl ?_ ?_
  ·simp [hg2,h8,← hw,hr1,e1,h2N,hwx,zaZ]
   exact ⟨rfl,Le.go [(48,48)] [] rfl rfl (by simp) (by simp [fcd,← hs1])⟩
  refine zfe rfl ?_
  simp [hg2,h8,← hw,hr2,e3,h2N,hwy,zaZ]
  refine ⟨rfl,?_⟩
  refine zaL rfl ?_
  simp
  exact ⟨i+1,by omega,by omega,Le.go [(48,48)] [] rfl rfl (by simp [hw1]) (by simp [fcd,← hs2])⟩
 simp at h5
 obtain rfl : i=A.length:=by omega
 refine zas ?_
 refine hit ?_
 have hfin : rowR N (surG A f A.length)=rowR N (exF A f):=zm4 fun x=>zvV hfl x
 rw [hfin]
 refine zab ⟨43,[(4,.rs 48 0 N)],[(48,some ⟨1,zai (rowR N (exF A f)),0⟩)],200⟩ rfl ?_ ?_
 ·simp
  exact LeI [(48,48)] []
 refine zag ?_
 exact ⟨.inr rfl,zan.out [48] [] rfl (by simp) (by simp) (by simp) (by simp [fcd])⟩
def zuy (A : List Ed) (f : List Int) (i : Nat) : Prop:=0≤f.getD i 0∧f.getD i 0≤(arcD A i).v
theorem zie : zaO N A f↔f.length=A.length∧(∀ i,i<A.length→zuy A f i) ∧ ∀ x : Nat,2≤x→x<N→exF A f x=0:=by
 constructor
 ·intro h
  have h1:=zf3.1 h.fit
  exact ⟨h1.1,h1.2,fun x h2 h3=>by have:=h.bal x h2 h3; unfold exF; omega⟩
 ·rintro ⟨h1,h2,h3⟩
  exact ⟨zf3.2 ⟨h1,h2⟩,fun x h4 h5=>by have:=h3 x h4 h5; unfold exF at this; omega⟩
theorem zw8 (g : Int→Int) (N : Nat) : ((rowR N g).drop 2).any (fun x=>!decide (x=0))=true↔¬ ∀ x : Nat,2≤x→x<N→g x=0:=by
 rw [List.any_eq_true]
 constructor
 ·rintro ⟨y,hy,h⟩ hall
  obtain ⟨j,hj,rfl⟩:=List.mem_iff_getElem.1 hy
  rw [List.length_drop,zgY] at hj
  have:=hall (2+j) (by omega) (by omega)
  simp [rowR] at h
  exact h (by simpa using this)
 ·intro h
  obtain ⟨x,hx⟩:=Classical.not_forall.1 h
  obtain ⟨h1,hx⟩:=Classical.not_imp.1 hx
  obtain ⟨h2,hx⟩:=Classical.not_imp.1 hx
  refine ⟨g x,List.mem_iff_getElem.2 ⟨x - 2,by rw [List.length_drop,zgY]; omega,?_⟩,by simpa using hx⟩
  simp [rowR,show 2+(x - 2)=x by omega]
theorem zk3 (x : Int) : zak Tryz.prog zdH [.I x] [] (.B (!decide (x=0))) []:=by
 refine ziy.acalls (nbz rfl) (nbz rfl) (Nat.le_refl _) ?_
 show awp _ 0 _ _ ⟨5,[(0,.I x)],[],16⟩
 refine rx (s:=?s1) [0] [] [] rfl ?o1 ?q1
 case o1=>simp; rfl
 refine zab ⟨5,[(2,.B (!decide (x=0)))],[],100⟩ rfl ?_ ?_
 ·simp
  exact Le.go [] [] rfl rfl (by simp <;> exact wkB (by rw [Bool.eq_iff_iff]; simp)) (by simp)
 refine zag ?_
 exact ⟨.inr rfl,zan.one (by simp)⟩
set_option maxRecDepth 100000 in
set_option maxHeartbeats 4000000 in
open Classical in
theorem znv (hn : zdd ⟨N,A⟩) (hl : f.length≤1099511627776) : zak Tryz.prog zg8 [eN ⟨N,A⟩,ints f] [] (.B (decide (zaO N A f))) []:=by
 refine zln.acalls (nbz rfl) (nbz rfl) (Nat.le_refl _) ?_
 show awp _ 0 _ _ ⟨41,[(0,eN ⟨N,A⟩),(1,ints f)],[],16⟩
 have hchk:=zjE ⟨N,A⟩ (by have:=hn.2.2.1; simp only at this ⊢; omega)
 rw [if_pos hn] at hchk
 have hn':=hn
 obtain ⟨hn0,hn1,hal,hav⟩:=hn
 simp only at hn0 hn1 hal hav
 refine rx (s:=?s1) [1,2] [] [16] rfl ?o1 ?q1
 case o1=>simp; rfl
 refine zaa ?_
 refine zab ⟨41,[(1,ints f),(2,.pv (nC ⟨N,A⟩)),(17,.B (!decide (f.length=A.length)))],[],120⟩ rfl ?_ ?_
 ·simp
  refine zaq hchk (by simp) ?_
  simp
  exact Le.go [] [] rfl rfl (by simp <;> exact wkB (by rw [Bool.eq_iff_iff]; simp <;> omega)) (by simp)
 refine zae _ rfl (fun h3=>?_) fun h3=>?_
 ·simp at h3
  refine rx (s:=?s4) [4] [] [] rfl ?o4 ?q4
  case o4=>simp; rfl
  refine zag ?_
  have hno : ¬ zaO N A f:=fun h=>h3 (zie.1 h).1
  exact ⟨.inr rfl,zan.one (by simp [hno])⟩
 simp at h3
 refine zaf ?_
 refine zaa ?_
 refine rx (s:=?s5) [1,2,19,20,21] [] [] rfl ?o5 ?q5
 case o5=>simp; rfl
 refine zah ?_
 refine zav (ι:=Nat) (fun i=>⟨41,[(1,ints f),(2,.pv (nC ⟨N,A⟩)),(19,eEs A),(20,.I A.length),(21,.I i)],[],152⟩) (fun i=>i≤A.length ∧ ∀ k,k<i→zuy A f k) (fun i=>A.length - i) 0 (by simp) (LeH [] []) ?_
 rintro i ⟨hi,hp⟩
 refine rx (s:=?s6) [1,2,19,20,21,22] [] [] rfl ?o6 ?q6
 case o6=>simp; rfl
 refine zaa ?_
 refine zae _ rfl (fun h7=>?_) fun h7=>?_
 ·simp at h7
  have hw1 : IntKind.i64.wrap ((i : Int)+1)=(i : Int)+1:=w64 (by omega) (by omega)
  have hif : i<f.length:=by omega
  obtain ⟨e,he⟩ : ∃ e,e=A[i]:=⟨_,rfl⟩
  obtain ⟨w,hw⟩ : ∃ w,w=f[i]:=⟨_,rfl⟩
  have hfa : zuy A f i↔0≤w∧w≤e.v:=by
   unfold zuy arcD
   rw [List.getD_eq_getElem?_getD,List.getElem?_eq_getElem hif,Option.getD_some,List.getD_eq_getElem?_getD,List.getElem?_eq_getElem h7,Option.getD_some,he,hw]
  refine zaf ?_
  refine zaa ?_
  refine zah ?_
  refine zab ⟨41,[(1,ints f),(2,.pv (nC ⟨N,A⟩)),(5,.I i),(6,.pv (eC e)),(19,eEs A),(20,.I A.length),(21,.I i)],[],300⟩ rfl ?_ ?_
  ·simp [h7,← he]
   exact LeH [] [184]
  refine zba ⟨41,[(1,ints f),(2,.pv (nC ⟨N,A⟩)),(19,eEs A),(20,.I A.length),(21,.I i),(33,.B (!decide (0≤w∧w≤e.v)))],[],400⟩ rfl ?_ ?_
  ·simp [hif,← hw]
   refine zaq (zcb w 0 e.v) (by simp) ?_
   simp
   exact ⟨rfl,Le.go [] [] rfl rfl (by simp <;> exact wkB (by rw [Bool.eq_iff_iff]; simp)) (by simp)⟩
  refine zae _ rfl (fun h10=>?_) fun h10=>?_
  ·have h10' : ¬ (0≤w∧w≤e.v):=by simp at h10; omega
   refine rx (s:=?s11) [4] [] [] rfl ?o11 ?q11
   case o11=>simp; rfl
   refine zag ?_
   have hno : ¬ zaO N A f:=fun h=>h10' (hfa.1 ((zie.1 h).2.1 i h7))
   exact ⟨.inr rfl,zan.one (by simp [hno])⟩
  have h10' : 0≤w∧w≤e.v:=by simpa using h10
  refine zaf ?_
  refine zaL rfl ?_
  simp
  refine ⟨i+1,⟨by omega,fun k hk=>?_⟩,by omega,Le.go [] [] rfl rfl (by simp [hw1]) (by simp)⟩
  rcases Nat.lt_succ_iff_lt_or_eq.1 hk with h | h
  ·exact hp k h
  ·rw [h]; exact hfa.2 h10'
 simp at h7
 obtain rfl : i=A.length:=by omega
 have hfb : ∀ j (h : j<f.length),0≤f[j]∧f[j]≤1048576:=fun j hj=>by
  have h1:=hp j (by omega)
  unfold zuy at h1
  have e1 : f.getD j 0=f[j]:=by rw [List.getD_eq_getElem?_getD,List.getElem?_eq_getElem hj,Option.getD_some]
  have e2 : arcD A j=A[j]'(by omega):=by unfold arcD; rw [List.getD_eq_getElem?_getD,List.getElem?_eq_getElem (by omega),Option.getD_some]
  rw [e1,e2] at h1
  have h2:=(hav _ (List.getElem_mem (show j<A.length by omega))).2.2.2.2.2.2.2.2
  omega
 refine zas ?_
 refine hit ?_
 have hsur:=znc hn' h3 hfb
 have hcf:=zkY zdH [] (fun x=>!decide (x=0)) ((rowR N (exF A f)).drop 2) (by rw [List.length_drop,zgY]; omega) (fun ρ sn h k=>by simp) (fun e _=>zk3 e)
 have hiff : zaO N A f↔((rowR N (exF A f)).drop 2).any (fun x=>!decide (x=0))=false:=by
  rw [← Bool.not_eq_true,zw8,Classical.not_not,zie]
  exact ⟨fun h=>h.2.2,fun h=>⟨h3,hp,h⟩⟩
 obtain ⟨l,hld⟩ : ∃ l,l=rowR N (exF A f):=⟨_,rfl⟩
 have hll : l.length=N:=by rw [hld,zgY]
 rw [← hld] at hsur hcf hiff
 obtain ⟨b,hb⟩ : ∃ b,b=(l.drop 2).any (fun x=>!decide (x=0)):=⟨_,rfl⟩
 rw [← hb] at hcf hiff
 refine zab ⟨41,[(4,.B (!b))],[],300⟩ rfl ?_ ?_
 ·simp
  refine zcq hsur (by simp) ?_
  simp
  refine zy3 2 (i:=176) rfl rfl (by omega) ?_
  simp
  have h2N : 2+(N - 2)≤N:=by omega
  refine zlC [176] hcf (by simp [fcd,hll,h2N]; exact List.take_of_length_le (by simp; omega)) (.sc _) ?_
  simp
  exact LeH [] []
 refine zag ?_
 exact ⟨.inr rfl,zan.one (by simp [hiff])⟩
set_option maxRecDepth 100000 in
open Classical in
theorem zn8 (hn : zdd ⟨N,A⟩) (hl : f.length≤1099511627776) : zak Tryz.prog zfD [eN ⟨N,A⟩,ints f] [] (.I (if zaO N A f then valF A f else 0)) []:=by
 refine zmm.acalls (nbz rfl) (nbz rfl) (Nat.le_refl _) ?_
 show awp _ 0 _ _ ⟨14,[(0,eN ⟨N,A⟩),(1,ints f)],[],16⟩
 have hvl:=znv hn hl
 refine rx (s:=?s1) [1,2] [] [16] rfl ?o1 ?q1
 case o1=>simp; rfl
 refine zaa ?_
 refine rx (s:=?s2) [1,2,8] [] [] rfl ?o2 ?q2
 case o2=>simp; refine zaq hvl (by simp) ?_; simp; rfl
 refine zae _ rfl (fun h3=>?_) fun h3=>?_
 ·simp at h3
  refine rx (s:=?s4) [4] [] [] rfl ?o4 ?q4
  case o4=>simp; rfl
  refine zag ?_
  exact ⟨.inr rfl,zan.one (by simp [h3])⟩
 simp at h3
 have h31:=zf3.1 h3.fit
 have hav:=hn.2.2.2
 simp only at hav
 have hfb : ∀ j (h : j<f.length),0≤f[j]∧f[j]≤1048576:=fun j hj=>by
  have h1:=h31.2 j (by omega)
  have e1 : f.getD j 0=f[j]:=by rw [List.getD_eq_getElem?_getD,List.getElem?_eq_getElem hj,Option.getD_some]
  have e2 : arcD A j=A[j]'(by omega):=by unfold arcD; rw [List.getD_eq_getElem?_getD,List.getElem?_eq_getElem (by omega),Option.getD_some]
  rw [e1,e2] at h1
  have h2:=(hav _ (List.getElem_mem (show j<A.length by omega))).2.2.2.2.2.2.2.2
  omega
 have hsur:=znc hn h31.1 hfb
 have hv:=zwY (f:=f) (zic hn)
 have hn0:=hn.1
 simp only at hn0
 have hr:=zi5 (N:=N) (g:=exF A f) (x:=0) (Int.le_refl _) (by omega)
 rw [hv] at hr
 obtain ⟨l,hld⟩ : ∃ l,l=rowR N (exF A f):=⟨_,rfl⟩
 rw [← hld] at hsur hr
 simp only [Int.toNat_zero] at hr
 refine zaf ?_
 refine zab ⟨14,[(4,.I (valF A f))],[],300⟩ rfl ?_ ?_
 ·simp
  refine zcq hsur (by simp) ?_
  have h0N : 0<(N : Int):=by omega
  simp [hr,h0N]
  exact ⟨by omega,LeH [] []⟩
 refine zag ?_
 exact ⟨.inr rfl,zan.one (by simp [h3])⟩
end Go.Proofs.YtkngdgplbojdlaaGreat
