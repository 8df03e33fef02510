/- Texts of this claim,merged. -/
import Derived.Test.YthmaflecfppoiaaGreatRo12
import Derived.Test.YthmaflecfppoiaaGreatRo11
import Derived.Test.YthmaflecfppoiaaGreatRo10
import Derived.Test.YthmaflecfppoiaaGreatRo9
set_option linter.unusedSimpArgs false
set_option linter.unusedVariables false
set_option linter.unusedSectionVars false
namespace Go.Proofs.YthmaflecfppoiaaGreat
open Go
set_option maxRecDepth 100000 in
set_option maxHeartbeats 4000000 in
theorem zfq (g : Gr) (p : Pol) (sinks : List Int) (hg : GrOk g) (hp : za6 g.size p) (hr : Rise sinks 0 (g.size - 1)) (hs : p.seeds.length ≤ 64) (hsl : sinks.length ≤ 64) :
  zai Tryz.prog zdn [eG g,eP p,ints sinks] [] (.tup [eN ⟨2 + 2 * g.size,zba g p (zaO g p) sinks⟩,.I 0]) []:=by
 refine zkV.acalls (nbz rfl) (nbz rfl) (Nat.le_refl _) ?_
 show awp _ 0 _ _ ⟨158,[(0,eG g),(1,eP p),(2,ints sinks)],[],16⟩
 have hsz:=hg.1.1
 have hsz2:=hg.1.2.1
 have hel:=hg.edges_le
 have hgl:=hg.gone_le
 have hchk:=zgB g p (by omega) (by omega) (by omega) (by have:=hp.2.2.2.1; omega)
 rw [if_pos hg,if_pos hp] at hchk
 have hcb:=zjY (g:=g) hp
 have hcl : (zaO g p).length = g.size.toNat:=zbU
 have hlev:=zeK g p.lv (by omega) (by omega)
 rw [zfH]
 have hGe : ∀ e ∈ (zal g p.lv).edges,e ∈ g.edges:=fun e he=>(List.mem_filter.1 he).1
 have hGl : (zal g p.lv).edges.length ≤ 500:=Nat.le_trans (List.length_filter_le ..) hel
 have hall:=zf1 (zal g p.lv) p.seeds (hg.level p.lv) (by omega)
 have hcap:=znD (zal g p.lv) p (hg.level p.lv) (by omega)
 have hcc : zaO (zal g p.lv) p = zaO g p:=by unfold zaO; rw [zn4]
 rw [hcc] at hcap
 have hDC : ∀ k : Nat,k < g.size.toNat → ∀ (h1 : k < (zbF (zal g p.lv) p.seeds).length) (h2 : k < (zaO g p).length),0 ≤ (zbF (zal g p.lv) p.seeds)[k] ↔ 0 < (zaO g p)[k]:=fun k hk h1 h2=>by
  have:=zoD hp (d:=(zbF (zal g p.lv) p.seeds)[k])
  rw [← this]
  simp [zaO]
 have hDl : (zbF (zal g p.lv) p.seeds).length = g.size.toNat:=by simp [zbF,zal]
 have hGs : (zal g p.lv).size = g.size:=rfl
 rw [hGs] at hall hcap
 rw [← hcl] at hcap
 rw [← hDl] at hall
 obtain ⟨C,hC⟩ : ∃ C,C = zaO g p:=⟨_,rfl⟩
 obtain ⟨D,hD⟩ : ∃ D,D = zbF (zal g p.lv) p.seeds:=⟨_,rfl⟩
 rw [← hC] at hcap hcl hcb ⊢
 rw [← hD] at hall hDl
 simp only [← hC,← hD] at hDC
 have hDk : ∀ k : Nat,k < C.length → k < D.length:=fun k hk=>by omega
 have hDC' : ∀ (k : Nat) (h2 : k < C.length),0 ≤ D[k]'(hDk k h2) ↔ 0 < C[k]:=fun k h2=>hDC k (by omega) (hDk k h2) h2
 obtain ⟨G,hG⟩ : ∃ G,G = zal g p.lv:=⟨_,rfl⟩
 rw [← hG] at hlev hGe hGl hall hcap hGs ⊢
 have hfit : ∀ e ∈ G.edges,(0 ≤ e.f ∧ e.f < g.size) ∧ (0 ≤ e.t ∧ e.t < g.size):=fun e he=>by
  have:=hg.fits e (hGe e he)
  unfold Fits at this
  omega
 have hkey : ∀ k : Int,0 ≤ k → k < g.size → ∃ j : Nat,k = j ∧ j < C.length ∧ j < 64:=fun k h0 h1=>⟨k.toNat,by omega,by omega,by omega⟩
 have hseed : ∀ k ∈ p.seeds,∃ j : Nat,k = j ∧ j < C.length ∧ j < 64:=fun k hk=>by
  obtain ⟨i,hi,rfl⟩:=List.getElem_of_mem hk
  have:=hp.2.1 i hi
  exact hkey _ (by omega) (by omega)
 have hsink : ∀ k ∈ sinks,∃ j : Nat,k = j ∧ j < C.length ∧ j < 64:=fun k hk=>by
  obtain ⟨i,hi,rfl⟩:=List.getElem_of_mem hk
  have:=hr i hi
  exact hkey _ (by omega) (by omega)
 have hw3 : IntKind.i64.wrap (2 * g.size) = 2 * g.size:=w64 (by omega) (by omega)
 have hw4 : IntKind.i64.wrap (2 + 2 * g.size) = 2 + 2 * g.size:=w64 (by omega) (by omega)
 refine zab ⟨158,[(2,ints sinks),(3,.pt 16 0 0),(4,.pv (pC p)),(6,.pt 32 0 0)],[(16,some ⟨3,[gC g],0⟩),(32,some ⟨2,[[.I 0,.nilS]],0⟩)],48⟩ rfl ?_ ?_
 ·simp
  exact LeH [(16,16),(32,32)] [24]
 refine zaa ?_
 refine rk (s:=?s2) [2,3,4,6,8] [16,32] rfl ?o2 ?q2
 case o2=>simp; refine zaj hchk (by simp) ?_; simp; rfl
 refine rk (s:=?s3) [2,3,4,6,22] [16,32] rfl ?o3 ?q3
 case o3=>simp; rfl
 refine zac _ rfl (fun h4=>?_) fun h4=>zae ?_
 ·simp at h4
 refine zaa ?_
 refine rk (s:=?s5) [2,3,4,6,29] [16,32] rfl ?o5 ?q5
 case o5=>simp; refine zaj (zfS sinks g.size (by omega)) (by simp) ?_; simp [hr]; rfl
 refine zac _ rfl (fun h6=>?_) fun h6=>zae ?_
 ·simp at h6
 refine zab ⟨158,[(2,ints sinks),(3,.pv (gC G)),(4,.pv (pC p)),(6,.pt 32 0 0)],[(32,some ⟨2,[[.I 0,.nilS]],0⟩)],176⟩ rfl ?_ ?_
 ·simp
  refine zaj hlev (by simp) ?_
  simp
  exact LeH [(32,32)] [16]
 refine zap ⟨158,[(2,ints sinks),(3,.pv (gC G)),(4,.pv (pC p)),(6,.pt 32 0 0),(9,ints D),(10,ints C)],[(32,some ⟨2,[[.I 0,.nilS]],0⟩)],248⟩ rfl ?_ ?_
 ·simp
  refine zbc hall (by simp) ?_
  simp [fcd]
  refine zbc hcap (by simp) ?_
  simp [fcd]
  exact ⟨rfl,Le.go [(32,32)] [200,224] rfl rfl (by simp [fcd,zaq]) (by simp)⟩
 refine rk (s:=?s7) [2,3,4,6,9,10,11] [32,288] rfl ?o7 ?q7
 case o7=>simp [hGs,hw3,hw4]; rfl
 obtain ⟨N,hN⟩ : ∃ N : Int,N = 2 + 2 * g.size:=⟨_,rfl⟩
 simp only [← hN]
 have hb1 : (p.seeds.flatMap (arc1 C)).length ≤ 64:=Nat.le_trans (zca _ (zhE C) _) hs
 have hb2 : ((List.range C.length).flatMap (arc2 C)).length ≤ 64:=Nat.le_trans (zca _ (zhm C) _) (by rw [List.length_range]; omega)
 have hb3 : (sinks.flatMap (arc3 C)).length ≤ 64:=Nat.le_trans (zca _ (zhd C) _) hsl
 have hb4 : (G.edges.flatMap (arc4 C)).length ≤ 500:=Nat.le_trans (zca _ (zg9 C) _) hGl
 obtain ⟨X1,hX1⟩ : ∃ X,X = p.seeds.flatMap (arc1 C):=⟨_,rfl⟩
 obtain ⟨X2,hX2⟩ : ∃ X,X = (List.range C.length).flatMap (arc2 C):=⟨_,rfl⟩
 obtain ⟨X3,hX3⟩ : ∃ X,X = sinks.flatMap (arc3 C):=⟨_,rfl⟩
 obtain ⟨X4,hX4⟩ : ∃ X,X = G.edges.flatMap (arc4 C):=⟨_,rfl⟩
 obtain ⟨Z2,hZ2⟩ : ∃ Z,Z = X1 ++ X2:=⟨_,rfl⟩
 obtain ⟨Z3,hZ3⟩ : ∃ Z,Z = Z2 ++ X3:=⟨_,rfl⟩
 obtain ⟨Z4,hZ4⟩ : ∃ Z,Z = Z3 ++ X4:=⟨_,rfl⟩
 rw [← hX1] at hb1
 rw [← hX2] at hb2
 rw [← hX3] at hb3
 rw [← hX4] at hb4
 rw [← hX1,← hX2,← hX3,← hX4,← hZ2,← hZ3,← hZ4]
 have hz2 : Z2.length ≤ 128:=by rw [hZ2,List.length_append]; omega
 have hz3 : Z3.length ≤ 192:=by rw [hZ3,List.length_append]; omega
 refine zaa ?_
 refine rk (s:=?sa1) [2,3,4,6,9,10,11,12] [32,288] rfl ?oa1 ?qa1
 case oa1=>simp; rfl
 refine zaf ?_
 obtain ⟨Fa,Fa0,Fas,Fal,FaN⟩ : ∃ F : Nat → List Ed,F 0 = [] ∧ (∀ i (h : i < (p.seeds).length),F (i + 1) = F i ++ arc1 C (p.seeds)[i]) ∧ (∀ i,(F i).length ≤ 64) ∧ F (p.seeds).length = (p.seeds).flatMap (arc1 C) :=
  ⟨fun i=>((p.seeds).take i).flatMap (arc1 C),by simp,fun i h=>by simp only [zdp _ _ i h,List.append_assoc],fun i=>by have:=zbA _ (zhE C) (p.seeds) i; exact Nat.le_trans this hs,by simp⟩
 rw [← hX1] at FaN
 refine zao (ι:=Nat) (fun i=>⟨158,[(2,ints sinks),(3,.pv (gC G)),(4,.pv (pC p)),(6,.pt 32 0 0),(9,ints D),(10,ints C),(11,.pt 288 0 0),(12,.I i)],[(32,some ⟨2,[[.I 0,.nilS]],0⟩),(288,some (outV N 16 (Fa i).length)),(16,some ⟨3,za2 (Fa i),0⟩)],312⟩) (fun i=>i ≤ p.seeds.length) (fun i=>p.seeds.length - i) 0 (Nat.zero_le _) (Le.lst [(32,32),(288,288)] [] [(16,3)] rfl (by simp) (by simp) (by simp) (by simp) (by simp) (by simp) (by simp) (by simp [Up]) (by simp [Fa0]; refine ⟨zaI.rfl' (by simp),zaI.row rfl (by omega) (by simp [UpL,Up])⟩)) ?_
 intro i hi
 refine zaa ?_
 refine rk (s:=?sa2) [2,3,4,6,9,10,11,12,51] [32,288,16] rfl ?oa2 ?qa2
 case oa2=>simp; rfl
 refine zac _ rfl (fun h7=>?_) fun h7=>?_
 ·simp at h7
  have hw : IntKind.i64.wrap ((i : Int) + 1) = (i : Int) + 1:=w64 (by omega) (by omega)
  have hFi:=Fal i
  obtain ⟨k,hk,hkC,hk64⟩:=hseed _ (List.getElem_mem h7)
  have hFn : Fa (i + 1) = Fa i ++ if 0 < C[k] then [⟨0,2 + 2 * (k : Int),C[k]⟩] else []:=by
   rw [Fas i h7,hk]
   unfold arc1
   simp [hkC]
  have hkD:=hDk _ hkC
  have hdc:=hDC' _ hkC
  refine zae ?_
  refine zaL (ι:=Unit) (fun _=>⟨158,[(2,ints sinks),(3,.pv (gC G)),(4,.pv (pC p)),(6,.pt 32 0 0),(9,ints D),(10,ints C),(11,.pt 288 0 0),(12,.I i)],[(32,some ⟨2,[[.I 0,.nilS]],0⟩),(288,some (outV N 16 (Fa (i + 1)).length)),(16,some ⟨3,za2 (Fa (i + 1)),0⟩)],800⟩) (fun _=>True) ?_ fun _ _=>?_
  ·refine zaf ?_
   refine rk (s:=?sa3) [2,3,4,6,9,10,11,12,13] [32,288,16] rfl ?oa3 ?qa3
   case oa3=>simp [h7,hk]; rfl
   refine rk (s:=?sa4) [2,3,4,6,9,10,11,12,13,63] [32,288,16] rfl ?oa4 ?qa4
   case oa4=>simp [hkD]; rfl
   refine zac _ rfl (fun h8=>?_) fun h8=>?_
   ·simp at h8
    rw [if_pos (hdc.1 h8)] at hFn
    have htl : ∀ f : Ed → List AV,List.take (Fa i).length (List.map f (Fa i)) = List.map f (Fa i):=fun f=>List.take_of_length_le (by simp)
    refine zbP rfl ?_
    simp [hkC]
    refine zaj (zdj k (by omega) (by omega)) (by simp) ?_
    simp [htl,hkC]
    refine ⟨by omega,by omega,?_⟩
    exact ⟨rfl,Le.go [(32,32),(288,288),(520,16)] [] rfl rfl (by simp [hFn]) (by simp [hFn,fcd])⟩
   ·simp at h8
    rw [if_neg (by omega)] at hFn
    refine zae ?_
    exact ⟨(),trivial,Le.go [(32,32),(288,288),(16,16)] [] rfl rfl (by simp [hFn]) (by simp [hFn,fcd])⟩
  refine zad (s:=?sa9) rfl ?oa9 ?qa9
  case oa9=>simp; rfl
  exact ⟨i + 1,by omega,by omega,Le.go [(32,32),(288,288),(16,16)] [] rfl rfl (by simp [hw]) (by simp [fcd])⟩
 simp at h7
 obtain rfl : i = p.seeds.length:=by omega
 rw [FaN]
 refine zan ?_
 refine hit ?_
 refine zaa ?_
 refine rk (s:=?sb1) [2,3,6,9,10,11,14] [32,288,16] rfl ?ob1 ?qb1
 case ob1=>simp; rfl
 refine zaf ?_
 obtain ⟨Fb,Fb0,Fbs,Fbl,FbN⟩ : ∃ F : Nat → List Ed,F 0 = X1 ∧ (∀ i (h : i < (List.range C.length).length),F (i + 1) = F i ++ arc2 C (List.range C.length)[i]) ∧ (∀ i,(F i).length ≤ 200) ∧ F (List.range C.length).length = X1 ++ (List.range C.length).flatMap (arc2 C) :=
  ⟨fun i=>X1 ++ ((List.range C.length).take i).flatMap (arc2 C),by simp,fun i h=>by simp only [zdp _ _ i h,List.append_assoc],fun i=>by have:=zbA _ (zhm C) (List.range C.length) i; rw [List.length_range] at this; rw [List.length_append]; omega,by simp⟩
 rw [List.length_range,← hX2,← hZ2] at FbN
 refine zao (ι:=Nat) (fun i=>⟨158,[(2,ints sinks),(3,.pv (gC G)),(6,.pt 32 0 0),(9,ints D),(10,ints C),(11,.pt 288 0 0),(14,.I i)],[(32,some ⟨2,[[.I 0,.nilS]],0⟩),(288,some (outV N 16 (Fb i).length)),(16,some ⟨3,za2 (Fb i),0⟩)],360⟩) (fun i=>i ≤ C.length) (fun i=>C.length - i) 0 (Nat.zero_le _) (Le.go [(32,32),(288,288),(16,16)] [] rfl rfl (by simp [Fb0]) (by simp [Fb0,fcd])) ?_
 intro i hi
 refine zaa ?_
 refine rk (s:=?sb2) [2,3,6,9,10,11,14,79] [32,288,16] rfl ?ob2 ?qb2
 case ob2=>simp; rfl
 refine zac _ rfl (fun h7=>?_) fun h7=>?_
 ·simp [hGs] at h7
  have hw : IntKind.i64.wrap ((i : Int) + 1) = (i : Int) + 1:=w64 (by omega) (by omega)
  have hFi:=Fbl i
  have hkC : i < C.length:=by omega
  have hFn : Fb (i + 1) = Fb i ++ if 0 < C[i] then [⟨2 + 2 * (i : Int),3 + 2 * (i : Int),C[i] - 1⟩] else []:=by
   rw [Fbs i (by simpa using hkC)]
   unfold arc2
   simp [hkC]
  have hci:=hcb _ (List.getElem_mem hkC)
  have hwc : IntKind.i64.wrap (C[i] - 1) = C[i] - 1:=w64 (by omega) (by omega)
  have hkD:=hDk _ hkC
  have hdc:=hDC' _ hkC
  refine zae ?_
  refine zaL (ι:=Unit) (fun _=>⟨158,[(2,ints sinks),(3,.pv (gC G)),(6,.pt 32 0 0),(9,ints D),(10,ints C),(11,.pt 288 0 0),(14,.I i)],[(32,some ⟨2,[[.I 0,.nilS]],0⟩),(288,some (outV N 16 (Fb (i + 1)).length)),(16,some ⟨3,za2 (Fb (i + 1)),0⟩)],800⟩) (fun _=>True) ?_ fun _ _=>?_
  ·refine zaf ?_
   refine rk (s:=?sb3) [2,3,6,9,10,11,14,86] [32,288,16] rfl ?ob3 ?qb3
   case ob3=>simp [hkD]; rfl
   refine zac _ rfl (fun h8=>?_) fun h8=>?_
   ·simp at h8
    rw [if_pos (hdc.1 h8)] at hFn
    have htl : ∀ f : Ed → List AV,List.take (Fb i).length (List.map f (Fb i)) = List.map f (Fb i):=fun f=>List.take_of_length_le (by simp)
    refine zbP rfl ?_
    simp [hkC,hwc]
    refine zaj (zdj i (by omega) (by omega)) (by simp) ?_
    simp [htl,hkC,hwc]
    refine zaj (zhf i (by omega) (by omega)) (by simp) ?_
    simp [htl,hkC,hwc]
    refine ⟨by omega,by omega,?_⟩
    exact ⟨rfl,Le.go [(32,32),(288,288),(536,16)] [] rfl rfl (by simp [hFn]) (by simp [hFn,fcd])⟩
   ·simp at h8
    rw [if_neg (by omega)] at hFn
    refine zae ?_
    exact ⟨(),trivial,Le.go [(32,32),(288,288),(16,16)] [] rfl rfl (by simp [hFn]) (by simp [hFn,fcd])⟩
  refine zad (s:=?sb9) rfl ?ob9 ?qb9
  case ob9=>simp; rfl
  exact ⟨i + 1,by omega,by omega,Le.go [(32,32),(288,288),(16,16)] [] rfl rfl (by simp [hw]) (by simp [fcd])⟩
 simp [hGs] at h7
 obtain rfl : i = C.length:=by omega
 rw [FbN]
 refine zan ?_
 refine hit ?_
 refine zaa ?_
 refine rk (s:=?sc1) [2,3,6,9,11,15] [32,288,16] rfl ?oc1 ?qc1
 case oc1=>simp; rfl
 refine zaf ?_
 obtain ⟨Fc,Fc0,Fcs,Fcl,FcN⟩ : ∃ F : Nat → List Ed,F 0 = Z2 ∧ (∀ i (h : i < (sinks).length),F (i + 1) = F i ++ arc3 C (sinks)[i]) ∧ (∀ i,(F i).length ≤ 300) ∧ F (sinks).length = Z2 ++ (sinks).flatMap (arc3 C) :=
  ⟨fun i=>Z2 ++ ((sinks).take i).flatMap (arc3 C),by simp,fun i h=>by simp only [zdp _ _ i h,List.append_assoc],fun i=>by have:=zbA _ (zhd C) (sinks) i; simp only [List.length_append]; omega,by simp⟩
 rw [← hX3,← hZ3] at FcN
 refine zao (ι:=Nat) (fun i=>⟨158,[(2,ints sinks),(3,.pv (gC G)),(6,.pt 32 0 0),(9,ints D),(11,.pt 288 0 0),(15,.I i)],[(32,some ⟨2,[[.I 0,.nilS]],0⟩),(288,some (outV N 16 (Fc i).length)),(16,some ⟨3,za2 (Fc i),0⟩)],400⟩) (fun i=>i ≤ sinks.length) (fun i=>sinks.length - i) 0 (Nat.zero_le _) (Le.go [(32,32),(288,288),(16,16)] [] rfl rfl (by simp [Fc0]) (by simp [Fc0,fcd])) ?_
 intro i hi
 refine zaa ?_
 refine rk (s:=?sc2) [2,3,6,9,11,15,105] [32,288,16] rfl ?oc2 ?qc2
 case oc2=>simp; rfl
 refine zac _ rfl (fun h7=>?_) fun h7=>?_
 ·simp at h7
  have hw : IntKind.i64.wrap ((i : Int) + 1) = (i : Int) + 1:=w64 (by omega) (by omega)
  have hFi:=Fcl i
  obtain ⟨k,hk,hkC,hk64⟩:=hsink _ (List.getElem_mem h7)
  have hFn : Fc (i + 1) = Fc i ++ if 0 < C[k] then [⟨2 + 2 * (k : Int),1,1⟩] else []:=by
   rw [Fcs i h7,hk]
   unfold arc3
   simp [hkC]
  have hkD:=hDk _ hkC
  have hdc:=hDC' _ hkC
  refine zae ?_
  refine zaL (ι:=Unit) (fun _=>⟨158,[(2,ints sinks),(3,.pv (gC G)),(6,.pt 32 0 0),(9,ints D),(11,.pt 288 0 0),(15,.I i)],[(32,some ⟨2,[[.I 0,.nilS]],0⟩),(288,some (outV N 16 (Fc (i + 1)).length)),(16,some ⟨3,za2 (Fc (i + 1)),0⟩)],800⟩) (fun _=>True) ?_ fun _ _=>?_
  ·refine zaf ?_
   refine rk (s:=?sc3) [2,3,6,9,11,15,115] [32,288,16] rfl ?oc3 ?qc3
   case oc3=>simp [h7,hk,hkD]; rfl
   refine zac _ rfl (fun h8=>?_) fun h8=>?_
   ·simp at h8
    rw [if_pos (hdc.1 h8)] at hFn
    have htl : ∀ f : Ed → List AV,List.take (Fc i).length (List.map f (Fc i)) = List.map f (Fc i):=fun f=>List.take_of_length_le (by simp)
    refine zbP rfl ?_
    simp [h7,hk]
    refine zaj (zdj k (by omega) (by omega)) (by simp) ?_
    simp [htl,h7,hk]
    refine ⟨by omega,by omega,?_⟩
    exact ⟨rfl,Le.go [(32,32),(288,288),(568,16)] [] rfl rfl (by simp [hFn]) (by simp [hFn,fcd])⟩
   ·simp at h8
    rw [if_neg (by omega)] at hFn
    refine zae ?_
    exact ⟨(),trivial,Le.go [(32,32),(288,288),(16,16)] [] rfl rfl (by simp [hFn]) (by simp [hFn,fcd])⟩
  refine zad (s:=?sc9) rfl ?oc9 ?qc9
  case oc9=>simp; rfl
  exact ⟨i + 1,by omega,by omega,Le.go [(32,32),(288,288),(16,16)] [] rfl rfl (by simp [hw]) (by simp [fcd])⟩
 simp at h7
 obtain rfl : i = sinks.length:=by omega
 rw [FcN]
 refine zan ?_
 refine hit ?_
 refine zaa ?_
 refine rk (s:=?sd1) [3,6,9,11,16] [32,288,16] rfl ?od1 ?qd1
 case od1=>simp; rfl
 refine zaf ?_
 obtain ⟨Fd,Fd0,Fds,Fdl,FdN⟩ : ∃ F : Nat → List Ed,F 0 = Z3 ∧ (∀ i (h : i < (G.edges).length),F (i + 1) = F i ++ arc4 C (G.edges)[i]) ∧ (∀ i,(F i).length ≤ 900) ∧ F (G.edges).length = Z3 ++ (G.edges).flatMap (arc4 C) :=
  ⟨fun i=>Z3 ++ ((G.edges).take i).flatMap (arc4 C),by simp,fun i h=>by simp only [zdp _ _ i h,List.append_assoc],fun i=>by have:=zbA _ (zg9 C) (G.edges) i; simp only [List.length_append]; omega,by simp⟩
 rw [← hX4,← hZ4] at FdN
 refine zao (ι:=Nat) (fun i=>⟨158,[(3,.pv (gC G)),(6,.pt 32 0 0),(9,ints D),(11,.pt 288 0 0),(16,.I i)],[(32,some ⟨2,[[.I 0,.nilS]],0⟩),(288,some (outV N 16 (Fd i).length)),(16,some ⟨3,za2 (Fd i),0⟩)],440⟩) (fun i=>i ≤ G.edges.length) (fun i=>G.edges.length - i) 0 (Nat.zero_le _) (Le.go [(32,32),(288,288),(16,16)] [] rfl rfl (by simp [Fd0]) (by simp [Fd0,fcd])) ?_
 intro i hi
 refine zaa ?_
 refine rk (s:=?sd2) [3,6,9,11,16,131] [32,288,16] rfl ?od2 ?qd2
 case od2=>simp; rfl
 refine zac _ rfl (fun h7=>?_) fun h7=>?_
 ·simp at h7
  have hw : IntKind.i64.wrap ((i : Int) + 1) = (i : Int) + 1:=w64 (by omega) (by omega)
  have hFi:=Fdl i
  obtain ⟨x,hx⟩ : ∃ x,x = G.edges[i]:=⟨_,rfl⟩
  have hfx:=hfit _ (List.getElem_mem h7)
  rw [← hx] at hfx
  obtain ⟨k,hk,hkC,hk64⟩:=hkey x.f hfx.1.1 hfx.1.2
  obtain ⟨u,hu,huC,hu64⟩:=hkey x.t hfx.2.1 hfx.2.2
  have hFn : Fd (i + 1) = Fd i ++ if 0 < C[k] then [⟨3 + 2 * (k : Int),2 + 2 * (u : Int),64⟩] else []:=by
   rw [Fds i h7,← hx]
   unfold arc4
   rw [hk,hu]
   simp [hkC]
  have hkD:=hDk _ hkC
  have hdc:=hDC' _ hkC
  refine zae ?_
  refine zaL (ι:=Unit) (fun _=>⟨158,[(3,.pv (gC G)),(6,.pt 32 0 0),(9,ints D),(11,.pt 288 0 0),(16,.I i)],[(32,some ⟨2,[[.I 0,.nilS]],0⟩),(288,some (outV N 16 (Fd (i + 1)).length)),(16,some ⟨3,za2 (Fd (i + 1)),0⟩)],800⟩) (fun _=>True) ?_ fun _ _=>?_
  ·refine zaf ?_
   refine zab ⟨158,[(3,.pv (gC G)),(6,.pt 32 0 0),(9,ints D),(11,.pt 288 0 0),(16,.I i),(17,.pv (eC x))],[(32,some ⟨2,[[.I 0,.nilS]],0⟩),(288,some (outV N 16 (Fd i).length)),(16,some ⟨3,za2 (Fd i),0⟩)],536⟩ rfl ?_ ?_
   ·simp [h7,← hx]
    exact LeI [(32,32),(288,288),(16,16)] [520]
   refine rk (s:=?sd4) [3,6,9,11,16,17,144] [32,288,16] rfl ?od4 ?qd4
   case od4=>simp [hk,hkD]; rfl
   refine zac _ rfl (fun h8=>?_) fun h8=>?_
   ·simp at h8
    rw [if_pos (hdc.1 h8)] at hFn
    have htl : ∀ f : Ed → List AV,List.take (Fd i).length (List.map f (Fd i)) = List.map f (Fd i):=fun f=>List.take_of_length_le (by simp)
    refine zbP rfl ?_
    simp [hk,hu]
    refine zaj (zhf k (by omega) (by omega)) (by simp) ?_
    simp [htl,hk,hu]
    refine zaj (zdj u (by omega) (by omega)) (by simp) ?_
    simp [htl,hk,hu]
    refine ⟨by omega,by omega,?_⟩
    exact ⟨rfl,Le.go [(32,32),(288,288),(664,16)] [] rfl rfl (by simp [hFn]) (by simp [hFn,fcd])⟩
   ·simp at h8
    rw [if_neg (by omega)] at hFn
    refine zae ?_
    exact ⟨(),trivial,Le.go [(32,32),(288,288),(16,16)] [] rfl rfl (by simp [hFn]) (by simp [hFn,fcd])⟩
  refine zad (s:=?sd9) rfl ?od9 ?qd9
  case od9=>simp; rfl
  exact ⟨i + 1,by omega,by omega,Le.go [(32,32),(288,288),(16,16)] [] rfl rfl (by simp [hw]) (by simp [fcd])⟩
 simp at h7
 obtain rfl : i = G.edges.length:=by omega
 rw [FdN]
 refine zan ?_
 refine hit ?_
 refine rk (s:=?sz) [6,7] [32,16] rfl ?oz ?qz
 case oz=>simp; rfl
 refine zag ?_
 exact ⟨.inr rfl,zak.out [] [16] rfl (by simp) (by simp) (by simp [hN,fcd,zaq]) (by simp)⟩
instance (g : Gr) (lv f t : Int) : Decidable (zqb g lv f t):=by unfold zqb; infer_instance
theorem zdx {a : List Int} {n : Int} (h : ∀ k ∈ a,0 ≤ k ∧ k < n) : Rise (zaz a) 0 (n - 1):=by
 intro i hi
 have hm:=zdv.1 (List.getElem_mem hi)
 have:=h _ hm.1
 refine ⟨by omega,by omega,fun hp=>?_⟩
 exact (List.pairwise_iff_getElem.1 (zgf a)) (i - 1) i (by omega) hi (by omega)
theorem zcq (a : List Int) : (zaz a).length ≤ 64:=Nat.le_trans (List.length_filter_le ..) (by simp)
theorem zpB (g : Gr) (p : Pol) (sinks : List Int) (hg : GrOk g) (hs : p.seeds.length ≤ 64) (hsl : sinks.length ≤ 64) : (zba g p (zaO g p) sinks).length ≤ 1000:=by
 rw [zfH]
 have h1:=zca _ (zhE (zaO g p)) p.seeds
 have h2:=zca _ (zhm (zaO g p)) (List.range (zaO g p).length)
 have h3:=zca _ (zhd (zaO g p)) sinks
 have h4:=zca _ (zg9 (zaO g p)) (zal g p.lv).edges
 have h5 : (zal g p.lv).edges.length ≤ g.edges.length:=List.length_filter_le ..
 have h6:=hg.edges_le
 have h7:=hg.1.2.1
 have h8:=hg.1.1
 rw [List.length_range] at h2
 have h9 : (zaO g p).length = g.size.toNat:=zbU
 simp only [List.length_append]
 omega
def netN (g : Gr) : Nat:=(2 + 2 * g.size).toNat
theorem zgd {g : Gr} (hg : GrOk g) : ((netN g : Nat) : Int) = 2 + 2 * g.size:=by unfold netN; have:=hg.1.1; omega
abbrev netA (g : Gr) (p : Pol) (ks : List Int) : List Ed:=zba g p (zaO g p) ks
def zat (g : Gr) (p : Pol) (ks : List Int) : Prop:=maxF (netN g) (netA g p ks) = ks.length
theorem zko {g : Gr} {p : Pol} {ks : List Int} (hg : GrOk g) (hp : za6 g.size p) (hk : ∀ x ∈ ks,0 ≤ x ∧ x < g.size) : zd2 (netN g) (netA g p ks):=zrd hg hp hk
theorem zhi {g : Gr} {p : Pol} {ks : List Int} (hg : GrOk g) (hp : za6 g.size p) (hk : ∀ x ∈ ks,0 ≤ x ∧ x < g.size) (hs : p.seeds.length ≤ 64) (hsl : ks.length ≤ 64) : za8 ⟨netN g,netA g p ks⟩:=by
 have h1:=zko hg hp hk
 have h2 : (netA g p ks).length ≤ 1000:=zpB g p ks hg hs hsl
 have h3:=hg.1.2.1
 have hN:=zgd hg
 have h0:=hg.1.1
 have hcb : ∀ i : Nat,(zaO g p).getD i 0 ≤ 1000:=fun i=>by
  rw [List.getD_eq_getElem?_getD]
  cases h : (zaO g p)[i]? with
  | none=>simp
  | some v =>
    have hm:=List.mem_of_getElem? h
    unfold zaO at hm
    obtain ⟨d,_,rfl⟩:=List.mem_map.1 hm
    exact (zgP hp d).2
 refine ⟨by simp only; omega,by simp only; omega,by simp only; omega,fun a ha=>?_⟩
 obtain ⟨q1,q2,q3,q4,q5,q6,q7,q8⟩:=h1.arc a ha
 refine ⟨q1,by simp only; omega,q3,by simp only; omega,q5,q6,q7,q8,?_⟩
 simp only [netA,zba] at ha
 rcases List.mem_append.1 ha with ha | ha
 ·rcases List.mem_append.1 ha with ha | ha
  ·rcases List.mem_append.1 ha with ha | ha
   ·obtain ⟨x,hx,rfl⟩:=List.mem_map.1 ha
    have:=hcb x.toNat
    simp only
    omega
   ·obtain ⟨i,hx,rfl⟩:=List.mem_map.1 ha
    have:=hcb i
    simp only
    omega
  ·obtain ⟨x,hx,rfl⟩:=List.mem_map.1 ha
   simp
 ·obtain ⟨e,hx,rfl⟩:=List.mem_map.1 ha
  simp
structure zfp (g : Gr) (p : Pol) (ks f : List Int) : Prop where
 ok : zaB (netN g) (netA g p ks) f
 most : ∀ f',zaB (netN g) (netA g p ks) f' → valF (netA g p ks) f' ≤ valF (netA g p ks) f
 val : valF (netA g p ks) f = maxF (netN g) (netA g p ks)
theorem zia {ks : List Int} {n : Int} (h : Rise ks 0 (n - 1)) : ∀ x ∈ ks,0 ≤ x ∧ x < n:=fun x hx=>by
 have:=h.nodup.2 x hx
 omega
theorem zn6 (side : List Int) : ∀ A : List Ed,cutV A side = capS (fun x=>decide (x ∈ side)) A
 | []=>rfl
 | e :: A=>by
   have h1 : cutV (e :: A) side = (if e.f ∈ side ∧ e.t ∉ side then e.v else 0) + cutV A side:=by simp [cutV]
   have h2 : capS (fun x=>decide (x ∈ side)) (e :: A) = (if decide (e.f ∈ side) = true ∧ decide (e.t ∈ side) = false then e.v else 0) + capS (fun x=>decide (x ∈ side)) A:=rfl
   rw [h1,h2,zn6 side A]
   simp
section
variable {P : Program} {np id : Nat} {h : Nat → Option Ent} {K : AV → List Nat → List (Nat × Option Ent) → Prop} {f : FuncId} {first capt args args' : List AV} {res : AV}
end
def lowN : List Int → Int → Nat
 | [],_=>0
 | x :: l,k=>if x < k then lowN l k + 1 else 0
def putL (l : List Int) (k : Int) : List Int:=if l[lowN l k]? = some k then l else l.take (lowN l k) ++ k :: l.drop (lowN l k)
theorem zl4 : ∀ (l : List Int) (k : Int),lowN l k ≤ l.length
 | [],_=>Nat.le_refl _
 | x :: l,k=>by unfold lowN; have:=zl4 l k; split <;> simp <;> omega
theorem zpf : ∀ {l : List Int} {k : Int} {i : Nat} (h : i < l.length),i < lowN l k → l[i] < k
 | x :: l,k,0,_,h=>by
   unfold lowN at h
   split at h
   ·simpa
   ·omega
 | x :: l,k,i + 1,hi,h=>by
   unfold lowN at h
   split at h
   ·simpa using zpf (l:=l) (by simpa using hi) (by omega)
   ·omega
theorem zjz : ∀ {l : List Int} {k : Int} (h : lowN l k < l.length),¬ l[lowN l k] < k
 | x :: l,k,h=>by
   by_cases hx : x < k
   ·have e : lowN (x :: l) k = lowN l k + 1:=by simp [lowN,hx]
    simp only [e,List.getElem_cons_succ]
    exact zjz (by rw [e] at h; simpa using h)
   ·have e : lowN (x :: l) k = 0:=by simp [lowN,hx]
    simp only [e,List.getElem_cons_zero]
    exact hx
theorem zup {l : List Int} {k : Int} {i : Nat} (hi : i ≤ l.length) (h1 : ∀ j (h : j < l.length),j < i → l[j] < k) (h2 : ∀ h : i < l.length,¬ l[i] < k) : lowN l k = i:=by
 rcases Nat.lt_trichotomy (lowN l k) i with h | h | h
 ·exact absurd (h1 _ (by omega) h) (zjz (by omega))
 ·exact h
 ·have hl:=zl4 l k
  exact absurd (zpf (by omega) h) (h2 (by omega))
theorem ztw (l : List Int) (k : Int) : (putL l k).length ≤ l.length + 1:=by
 unfold putL
 split
 ·omega
 ·simp; have:=zl4 l k; omega
theorem zmj {l : List Int} {k x : Int} : x ∈ putL l k ↔ x ∈ l ∨ x = k:=by
 unfold putL
 split
 ·rename_i h
  constructor
  ·exact .inl
  ·rintro (h1 | rfl)
   ·exact h1
   ·exact List.mem_of_getElem? h
 ·rw [List.mem_append,List.mem_cons]
  conv=>rhs; rw [← List.take_append_drop (lowN l k) l,List.mem_append]
  constructor
  ·rintro (h | rfl | h)
   ·exact .inl (.inl h)
   ·exact .inr rfl
   ·exact .inl (.inr h)
  ·rintro ((h | h) | rfl)
   ·exact .inl h
   ·exact .inr (.inr h)
   ·exact .inr (.inl rfl)
theorem zna {l : List Int} {k : Int} (h : l.Pairwise (· < ·)) : (putL l k).Pairwise (· < ·):=by
 unfold putL
 split
 ·exact h
 ·rename_i hne
  have hd : ∀ y ∈ l.drop (lowN l k),k < y:=by
   intro y hy
   obtain ⟨i,hi,rfl⟩:=List.getElem_of_mem hy
   rw [List.length_drop] at hi
   rw [List.getElem_drop]
   have h0 : lowN l k < l.length:=by omega
   have h1:=zjz h0
   have h2 : l[lowN l k] ≠ k:=fun e=>hne (by rw [List.getElem?_eq_getElem h0,e])
   rcases Nat.eq_zero_or_pos i with rfl | hp
   ·simp only [Nat.add_zero]; omega
   ·have:=(List.pairwise_iff_getElem.1 h) (lowN l k) (lowN l k + i) h0 (by omega) (by omega)
    omega
  have ht : ∀ y ∈ l.take (lowN l k),y < k:=by
   intro y hy
   obtain ⟨i,hi,rfl⟩:=List.getElem_of_mem hy
   rw [List.length_take] at hi
   rw [List.getElem_take]
   exact zpf (by omega) (by omega)
  rw [List.pairwise_append,List.pairwise_cons]
  refine ⟨h.sublist (List.take_sublist ..),⟨hd,h.sublist (List.drop_sublist ..)⟩,fun x hx y hy=>?_⟩
  rcases List.mem_cons.1 hy with rfl | hy
  ·exact ht x hx
  ·have:=ht x hx; have:=hd y hy; omega
theorem ziI {l : List Int} {n : Int} (h : l.Pairwise (· < ·)) (hr : ∀ k ∈ l,0 ≤ k ∧ k < n) : Rise l 0 (n - 1):=by
 intro i hi
 have:=hr _ (List.getElem_mem hi)
 refine ⟨by omega,by omega,fun hp=>?_⟩
 exact (List.pairwise_iff_getElem.1 h) (i - 1) i (by omega) hi (by omega)
theorem zso (l : List Int) (k : Int) (hl : l.length ≤ 1000000) : zai Tryz.prog zdS [ints l,.I k] [] (.rs 0 0 (putL l k).length) [some ⟨1,zah (putL l k),0⟩]:=by
 refine zqF.acalls (nbz rfl) (nbz rfl) (Nat.zero_le _) ?_
 show awp _ 0 _ _ ⟨45,[(0,ints l),(1,.I k)],[],16⟩
 refine rx (s:=?s1) [0,1] [] [] rfl ?o1 ?q1
 case o1=>simp; rfl
 refine rx (s:=?s2) [0,1,5] [] [] rfl ?o2 ?q2
 case o2=>simp; rfl
 refine zaL (ι:=Nat) (fun i=>⟨45,[(0,ints l),(1,.I k),(5,.I i)],[],200⟩) (fun i=>i = lowN l k) ?_ fun i hil=>?_
 ·refine zaf ?_
  refine zao (ι:=Nat) (fun i=>⟨45,[(0,ints l),(1,.I k),(5,.I i)],[],32⟩) (fun i=>i ≤ l.length ∧ ∀ j (h : j < l.length),j < i → l[j] < k) (fun i=>l.length - i) 0 (by simp) (LeH [] []) ?_
  rintro i ⟨hi,hp⟩
  refine zaa ?_
  refine zab ⟨45,[(0,ints l),(1,.I k),(5,.I i),(17,.B (decide (∃ h : i < l.length,l[i] < k)))],[],200⟩ rfl ?_ ?_
  ·by_cases h1 : i < l.length
   ·simp [h1]
    exact Le.snap [] rfl rfl (by simp [h1])
   ·have hno : ¬ ∃ h : i < l.length,l[i] < k:=fun ⟨h,_⟩=>h1 h
    rw [decide_eq_false hno]
    simp [h1]
    exact Le.snap [] rfl rfl (by simp)
  refine zac _ rfl (fun h2=>?_) fun h2=>?_
  ·rw [decide_eq_true_eq] at h2
   obtain ⟨h1,h2⟩:=h2
   have hw : IntKind.i64.wrap ((i : Int) + 1) = (i : Int) + 1:=w64 (by omega) (by omega)
   refine zae ?_
   refine zaf ?_
   refine zad (s:=?s5) rfl ?o5 ?q5
   case o5=>simp; rfl
   refine ⟨i + 1,⟨h1,fun j hj hji=>?_⟩,by omega,Le.go [] [] rfl rfl (by simp [hw]) (by simp)⟩
   rcases Nat.lt_succ_iff_lt_or_eq.1 hji with h | rfl
   ·exact hp j hj h
   ·exact h2
  ·rw [decide_eq_false_iff_not] at h2
   refine zan ?_
   refine hit ?_
   exact ⟨i,(zup hi hp fun h h3=>h2 ⟨h,h3⟩).symm,LeH [] []⟩
 have hlo:=zl4 l k
 rw [← hil] at hlo
 refine zaa ?_
 refine zab ⟨45,[(0,ints l),(1,.I k),(5,.I i),(31,.B (decide (l[i]? = some k)))],[],400⟩ rfl ?_ ?_
 ·by_cases h1 : i < l.length
  ·simp [h1]
   exact Le.snap [] rfl rfl (by simp [h1]; exact wkB (by rw [Bool.eq_iff_iff]; simp))
  ·have hno : ¬ l[i]? = some k:=by rw [List.getElem?_eq_none (by omega)]; simp
   rw [decide_eq_false hno]
   simp [h1]
   exact Le.snap [] rfl rfl (by simp)
 refine zac _ rfl (fun h2=>?_) fun h2=>?_
 ·rw [decide_eq_true_eq] at h2
  have hput : putL l k = l:=by unfold putL; rw [← hil,if_pos h2]
  rw [hput]
  refine rk (s:=?s6) [4] [408] rfl ?o6 ?q6
  case o6=>simp; refine ⟨by omega,by omega,?_⟩; rfl
  refine zag ?_
  exact ⟨.inr rfl,zak.out [408] [] rfl (by simp) (by simp) (by simp) (by simp [fcd])⟩
 rw [decide_eq_false_iff_not] at h2
 have hput : putL l k = l.take i ++ k :: l.drop i:=by unfold putL; rw [← hil,if_neg h2]
 have hpl : (putL l k).length = l.length + 1:=by rw [hput]; simp; omega
 have hpl2 : (putL l k).length = i + 1 + (l.length - i):=by omega
 refine zae ?_
 refine zap ⟨45,[(4,.rs 480 0 (putL l k).length)],[(480,some ⟨1,zah (putL l k),0⟩)],600⟩ rfl ?_ ?_
 ·simp [hlo]
  refine ⟨by omega,by omega,by omega,by omega,by omega,by omega,rfl,Le.go [(480,480)] [] rfl rfl (by simp [hpl2]) (by simp [hput,fcd,List.take_of_length_le,hlo])⟩
 refine zag ?_
 exact ⟨.inr rfl,zak.out [480] [] rfl (by simp) (by simp) (by simp) (by simp [fcd])⟩
theorem zum (L : List Int) (a : Nat) {l : List Int} (h : 0 < l.length) : ofD L a l ∈ l:=by
 have:=zer (L:=L) (a:=a) (n:=l.length) (by omega)
 obtain ⟨q,hq⟩ : ∃ q : Nat,(zay L a l.length).1 = q:=⟨(zay L a l.length).1.toNat,by omega⟩
 have hql : q < l.length:=by omega
 unfold ofD
 rw [hq]
 simp [hql]
theorem zeR (L : List Int) (a : Nat) (n : Int) (hl : L.length ≤ 400) (ha : a ≤ L.length) (h0 : 0 < n) (hn : n ≤ 1000000) : ∃ (x : Nat) (b : Nat),(b ≤ L.length ∧ (x : Int) < n) ∧ zai Tryz.prog zar [.pt 0 0 0,.I n] [dice L a] (.I x) [some (dice L b)]:=by
 have:=zer (L:=L) (a:=a) h0
 obtain ⟨q,hq⟩ : ∃ q : Nat,(zay L a n).1 = q:=⟨(zay L a n).1.toNat,by omega⟩
 exact ⟨q,_,⟨zbO ha,by omega⟩,by rw [← hq]; exact zms L a n (by omega) ha (by omega)⟩
theorem Of_a (L : List Int) (a : Nat) (l : List Int) (hl : L.length ≤ 400) (ha : a ≤ L.length) (h0 : 0 < l.length) (hl2 : l.length ≤ 100) : ∃ (x : Int) (b : Nat),(b ≤ L.length ∧ x ∈ l) ∧ zai Tryz.prog zcU [.pt 0 0 0,ints l] [dice L a] (.I x) [some (dice L b)] :=
 ⟨_,_,⟨zbO ha,zum L a h0⟩,zv9 L a l (by omega) ha h0 (by omega)⟩
theorem zvp (L : List Int) (a : Nat) (n : Int) (hl : L.length ≤ 400) (ha : a ≤ L.length) (hn0 : 0 ≤ n) (hn : n ≤ 1000000) : ∃ (x : Bool) (b : Nat),b ≤ L.length ∧ zai Tryz.prog zbW [.pt 0 0 0,.I n] [dice L a] (.B x) [some (dice L b)] :=
 ⟨_,_,zbO ha,ztP L a n (by omega) ha hn0 (by omega)⟩
section
variable {P : Program} {np id : Nat} {h : Nat → Option Ent} {K : AV → List Nat → List (Nat × Option Ent) → Prop} {f : FuncId} {first capt args args' : List AV} {res : AV}
theorem zs6 {j : Nat} {e ej : Ent} (hnp : np ≤ j) (hj : h j = some ej) (hc : zai P f args' [] res [some e]) (he : (first ++ args ++ capt).map (conv [] [j] h 4) = args')
  (hk : K (conv (swp [] id) [] (fun _=>none) 4 res) [j] [(id,some (zax (swp [] id) [] (fun _=>none) 4 e)),(j,some { ej with ro:=ej.rows.length })]) : aK P np id .call (.fn (.func f) first capt :: args) h K :=
 ⟨[],[j],true,args',[],res,[some e],by simp,by simp,by simpa using hnp,by rw [List.zipIdx_nil,he]; exact zb0 _,rfl,hc,by simp,.inl rfl,by simpa [swp,hj] using hk⟩
end
def TabL (t : List Int) : Prop:=∀ i (h : i < t.length),1 ≤ t[i] ∧ t[i] ≤ 1000 ∧ (0 < i → t[i] ≤ t[i - 1])
theorem zsX {t : List Int} {v : Int} (h : TabL t) (h1 : 1 ≤ v) (h2 : v ≤ 1000) (h3 : ∀ x ∈ t,v ≤ x) : TabL (t ++ [v]):=by
 intro i hi
 rw [List.length_append,List.length_singleton] at hi
 by_cases hit : i < t.length
 ·rw [List.getElem_append_left hit]
  obtain ⟨a,b,c⟩:=h i hit
  refine ⟨a,b,fun hp=>?_⟩
  rw [List.getElem_append_left (by omega)]
  exact c hp
 ·obtain rfl : i = t.length:=by omega
  simp only [List.getElem_concat_length]
  refine ⟨h1,h2,fun hp=>?_⟩
  rw [List.getElem_append_left (by omega)]
  exact h3 _ (List.getElem_mem _)
set_option maxRecDepth 100000 in
set_option maxHeartbeats 4000000 in
theorem zqk (L : List Int) (a : Nat) (g : Gr) (hl : L.length ≤ 400) (ha : a ≤ L.length) (h0 : 0 < g.size) (hn : g.size ≤ 1000) :
  ∃ x : Pol × Nat,(za6 g.size x.1 ∧ x.1.seeds.length ≤ 2 ∧ x.1.table.length ≤ 4 ∧ x.2 ≤ L.length) ∧ zai Tryz.prog zb8 [.pt 0 0 0,eG g] [dice L a] (eP x.1) [some (dice L x.2)]:=by
 refine ziB.acallsX (args:=[.pt 0 0 0,eG g]) (hs:=[dice L a]) (fun x=>eP x.1) (fun x=>[some (dice L x.2)]) (fun x : Pol × Nat=>za6 g.size x.1 ∧ x.1.seeds.length ≤ 2 ∧ x.1.table.length ≤ 4 ∧ x.2 ≤ L.length) (nbz rfl) (nbz rfl) (fun _=>by simp) ?_
 show awp _ 1 _ _ ⟨50,[(0,.pt 0 0 0),(1,eG g)],[(0,some (dice L a))],16⟩
 obtain ⟨k1,b1,⟨hb1,hk1⟩,hc1⟩:=zeR L a g.size hl ha h0 (by omega)
 obtain ⟨lv,b2,⟨hb2,hlv⟩,hc2⟩:=Of_a L b1 [1,1,2,3] hl hb1 (by simp) (by simp)
 have hlv' : 1 ≤ lv ∧ lv ≤ 3:=by simp at hlv; omega
 obtain ⟨o,b3,hb3,hc3⟩:=zvp L b2 3 hl hb2 (by omega) (by omega)
 refine zab ⟨50,[(0,.pt 0 0 0),(3,.pv (gC g)),(4,.pt 24 0 0)],[(0,some (dice L a)),(24,some ⟨3,[[.nilS,.nilS,.I 0]],0⟩)],32⟩ rfl ?_ ?_
 ·simp
  exact LeH [(0,0),(24,24)] [16]
 refine zab ⟨50,[(0,.pt 0 0 0),(3,.pv (gC g)),(4,.pt 24 0 0),(5,.pt 104 0 0)],[(0,some (dice L b2)),(24,some ⟨3,[[.nilS,.nilS,.I 0]],0⟩),(104,some ⟨3,[[.rs 17 0 1,.nilS,.I lv]],0⟩),(17,some ⟨1,zah [(k1 : Int)],0⟩)],120⟩ rfl ?_ ?_
 ·simp
  refine za0 (i:=0) rfl (e':=dice L a) (by simp) hc1 (by simp) (by simp) ?_
  simp
  refine zl0 (i:=0) (j:=80) (by decide) (by decide) rfl rfl (e':=dice L b1) (by simp) hc2 (by simp) (by simp) ?_
  simp
  exact LeH [(0,0),(24,24),(104,104),(64,17)] []
 refine zaL (ι:=List Int × Nat) (fun s=>⟨50,[(0,.pt 0 0 0),(4,.pt 24 0 0),(5,.pt 104 0 0)],[(0,some (dice L s.2)),(24,some ⟨3,[[.nilS,.nilS,.I 0]],0⟩),(104,some ⟨3,[[.rs 17 0 s.1.length,.nilS,.I lv]],0⟩),(17,some ⟨1,zah s.1,0⟩)],300⟩)
  (fun s=>s.2 ≤ L.length ∧ s.1 ≠ [] ∧ s.1.length ≤ 2 ∧ s.1.Pairwise (· < ·) ∧ ∀ k ∈ s.1,0 ≤ k ∧ k < g.size) ?_ fun s hs=>?_
 ·refine zab ⟨50,[(0,.pt 0 0 0),(3,.pv (gC g)),(4,.pt 24 0 0),(5,.pt 104 0 0),(18,.B o)],[(0,some (dice L b3)),(24,some ⟨3,[[.nilS,.nilS,.I 0]],0⟩),(104,some ⟨3,[[.rs 17 0 1,.nilS,.I lv]],0⟩),(17,some ⟨1,zah [(k1 : Int)],0⟩)],136⟩ rfl ?_ ?_
  ·simp
   refine za0 (i:=0) rfl (e':=dice L b2) (by simp) hc3 (by simp) (by simp) ?_
   simp
   exact Le.keep rfl (Nat.le_refl _) (by simp) (by simp)
  cases o with
  | true =>
    refine zac _ rfl (fun _=>?_) fun h=>by cases h
    obtain ⟨k2,b4,⟨hb4,hk2⟩,hc4⟩:=zeR L b3 g.size hl hb3 h0 (by omega)
    have hput:=zso [(k1 : Int)] k2 (by simp)
    obtain ⟨S,hS⟩ : ∃ S,S = putL [(k1 : Int)] k2:=⟨_,rfl⟩
    rw [← hS] at hput
    refine zbP rfl ?_
    simp
    refine za0 (i:=0) rfl (e':=dice L b3) (by simp) hc4 (by simp) (by simp) ?_
    simp
    refine zs6 (j:=17) (by decide) rfl hput (by simp) ?_
    simp [fcd]
    refine ⟨rfl,S,b4,⟨hb4,?_,?_,?_,fun k hk=>?_⟩,LeI [(0,0),(24,24),(104,104),(184,17)] []⟩
    ·intro h
     have : (k1 : Int) ∈ S:=by rw [hS]; exact zmj.2 (.inl (by simp))
     rw [h] at this
     cases this
    ·rw [hS]; exact ztw _ _
    ·rw [hS]; exact zna (by simp)
    ·rw [hS] at hk
     rcases zmj.1 hk with h | h
     ·simp at h; omega
     ·omega
  | false =>
    refine zac _ rfl (fun h=>by cases h) fun _=>?_
    refine zae ?_
    exact ⟨([(k1 : Int)],b3),⟨hb3,by simp,by simp,by simp,by simp; omega⟩,LeH [(0,0),(24,24),(104,104),(17,17)] []⟩
 obtain ⟨S,b4⟩:=s
 obtain ⟨hb4,hS1,hS2,hS3,hS4⟩:=hs
 simp only at hb4 hS1 hS2 hS3 hS4
 obtain ⟨v0,b5,⟨hb5,hv0⟩,hc5⟩:=Of_a L b4 [3,2,1,6,0] hl hb4 (by simp) (by simp)
 have hv0' : 0 ≤ v0 ∧ v0 ≤ 6:=by simp at hv0; omega
 have hwv : IntKind.i64.wrap (1 + v0) = 1 + v0:=w64 (by omega) (by omega)
 obtain ⟨n0,b6,⟨hb6,hn0⟩,hc6⟩:=zeR L b5 4 hl hb5 (by omega) (by omega)
 have hwn : IntKind.i64.wrap (1 + (n0 : Int)) = ((n0 + 1 : Nat) : Int):=by rw [w64 (by omega) (by omega)]; omega
 refine zab ⟨50,[(0,.pt 0 0 0),(4,.pt 24 0 0),(5,.pt 104 0 0),(6,.I (1 + v0))],[(0,some (dice L b5)),(24,some ⟨3,[[.nilS,.nilS,.I 0]],0⟩),(104,some ⟨3,[[.rs 17 0 S.length,.nilS,.I lv]],0⟩),(17,some ⟨1,zah S,0⟩)],400⟩ rfl ?_ ?_
 ·simp
  refine zl0 (i:=0) (j:=308) (by decide) (by decide) rfl rfl (e':=dice L b4) (by simp) hc5 (by simp) (by simp) ?_
  simp [hwv]
  exact LeI [(0,0),(24,24),(104,104),(17,17)] []
 refine zaa ?_
 refine zab ⟨50,[(0,.pt 0 0 0),(4,.pt 24 0 0),(5,.pt 104 0 0),(6,.I (1 + v0)),(7,.I (n0 + 1 : Nat))],[(0,some (dice L b6)),(24,some ⟨3,[[.nilS,.nilS,.I 0]],0⟩),(104,some ⟨3,[[.rs 17 0 S.length,.nilS,.I lv]],0⟩),(17,some ⟨1,zah S,0⟩)],432⟩ rfl ?_ ?_
 ·simp
  refine za0 (i:=0) rfl (e':=dice L b5) (by simp) hc6 (by simp) (by simp) ?_
  simp [hwn]
  exact LeI [(0,0),(24,24),(104,104),(17,17)] []
 refine zaf ?_
 refine zao (ι:=(List Int × Int) × (Nat × Nat)) (fun s=>⟨50,[(0,.pt 0 0 0),(4,.pt 24 0 0),(5,.pt 104 0 0),(6,.I s.1.2),(7,.I s.2.1)],[(0,some (dice L s.2.2)),(24,some ⟨3,[[.nilS,.nilS,.I 0]],0⟩),(104,some ⟨3,[[.rs 17 0 S.length,.rs 18 0 s.1.1.length,.I lv]],0⟩),(17,some ⟨1,zah S,0⟩),(18,some ⟨1,zah s.1.1,0⟩)],432⟩)
  (fun s=>s.1.1.length + s.2.1 = n0 + 1 ∧ TabL s.1.1 ∧ (1 ≤ s.1.2 ∧ s.1.2 ≤ 7) ∧ (∀ x ∈ s.1.1,s.1.2 ≤ x) ∧ s.2.2 ≤ L.length) (fun s=>s.2.1) (([],1 + v0),(n0 + 1,b6)) ⟨by simp,fun i h=>by simp at h,⟨by simp only; omega,by simp only; omega⟩,by simp,hb6⟩
  (Le.lst [(0,0),(24,24),(104,104),(17,17)] [] [(18,1)] rfl (by simp) (by simp) (by simp) (by simp) (by simp) (by simp) (by simp) (by simp [Up]) (by simp [fcd]; exact ⟨zaI.rfl' (by simp),zaI.rfl' (by simp),zaI.row rfl (by omega) (by simp [UpL,Up]),zaI.rfl' (by simp)⟩)) ?_
 rintro ⟨⟨T,v⟩,n,b⟩ ⟨hTn,hT,hv,hTv,hb⟩
 simp only at hTn hT hv hTv hb
 refine zaa ?_
 refine rk (s:=?s7) [0,4,5,6,7,35] [0,24,104,17,18] rfl ?o7 ?q7
 case o7=>simp; rfl
 refine zac _ rfl (fun h8=>?_) fun h8=>?_
 ·simp at h8
  obtain ⟨m,rfl⟩ : ∃ m,n = m + 1:=⟨n - 1,by omega⟩
  have hwm : IntKind.i64.wrap (((m + 1 : Nat) : Int) - 1) = (m : Int):=by rw [w64 (by omega) (by omega)]; omega
  have hwm2 : IntKind.i64.wrap (m : Int) = (m : Int):=w64 (by omega) (by omega)
  obtain ⟨d,b',⟨hb',hd⟩,hc7⟩:=zeR L b 3 hl hb (by omega) (by omega)
  have hwd : IntKind.i64.wrap (v - (d : Int)) = v - (d : Int):=w64 (by omega) (by omega)
  have htl : ∀ f : Int → List AV,List.take T.length (List.map f T) = List.map f T:=fun f=>List.take_of_length_le (by simp)
  refine zae ?_
  refine zaa ?_
  refine zaf ?_
  refine zab ⟨50,[(0,.pt 0 0 0),(4,.pt 24 0 0),(5,.pt 104 0 0),(6,.I v),(7,.I (m + 1 : Nat))],[(0,some (dice L b)),(24,some ⟨3,[[.nilS,.nilS,.I 0]],0⟩),(104,some ⟨3,[[.rs 17 0 S.length,.rs 18 0 (T ++ [v]).length,.I lv]],0⟩),(17,some ⟨1,zah S,0⟩),(18,some ⟨1,zah (T ++ [v]),0⟩)],512⟩ rfl ?_ ?_
  ·simp [htl]
   refine ⟨by omega,by omega,?_⟩
   exact LeI [(0,0),(24,24),(104,104),(17,17),(480,18)] []
  refine zad (s:=?s9) rfl ?o9 ?q9
  case o9 =>
   simp
   refine za0 (i:=0) rfl (e':=dice L b) (by simp) hc7 (by simp) (by simp) ?_
   simp [hwd]
   rfl
  refine zad (s:=?s10) rfl ?o10 ?q10
  case o10=>simp; rfl
  refine ⟨((T ++ [v],if 1 < v - d then v - d else 1),(m,b')),⟨by simp only [List.length_append,List.length_singleton]; omega,zsX hT hv.1 (by omega) hTv,⟨by simp only; split <;> omega,by simp only; split <;> omega⟩,fun x hx=>?_,hb'⟩,by simp only; omega,Le.go [(0,0),(24,24),(104,104),(17,17),(18,18)] [] rfl rfl (by simp [hwm2]) (by simp [fcd])⟩
  have : v ≤ x:=by
   rcases List.mem_append.1 hx with h | h
   ·exact hTv x h
   ·rw [List.mem_singleton] at h; omega
  simp only
  split <;> omega
 simp at h8
 obtain rfl : n = 0:=by omega
 refine zan ?_
 refine hit ?_
 refine rk (s:=?s11) [4] [0,24,17,18] rfl ?o11 ?q11
 case o11=>simp; rfl
 refine zag ?_
 refine zij.mk (.inr rfl) (⟨S,T,lv⟩,b) ⟨⟨hS1,ziI hS3 hS4,by simp only; omega,by simp only; omega,hlv'.1,hlv'.2,hT⟩,hS2,by simp only; omega,hb⟩ ?_
 refine ⟨_,rfl,[],[17,18],by simp [List.range,List.range.loop],by simp,by simp,?_,?_⟩
 ·simp [List.range,List.range.loop,fcd,zaq]
 ·simp [List.range,List.range.loop]
theorem zli : ∀ {a b : List Int},a.Pairwise (· < ·) → b.Pairwise (· < ·) → (∀ x,x ∈ a ↔ x ∈ b) → a = b
 | [],[],_,_,_=>rfl
 | [],y :: b,_,_,h=>by have:=(h y).2 (by simp); cases this
 | x :: a,[],_,_,h=>by have:=(h x).1 (by simp); cases this
 | x :: a,y :: b,ha,hb,h=>by
   have ha':=List.pairwise_cons.1 ha
   have hb':=List.pairwise_cons.1 hb
   have hxy : x = y:=by
    have h1:=(h x).1 (by simp)
    have h2:=(h y).2 (by simp)
    rcases List.mem_cons.1 h1 with e | e
    ·exact e
    ·rcases List.mem_cons.1 h2 with e2 | e2
     ·exact e2.symm
     ·have:=hb'.1 x e
      have:=ha'.1 y e2
      omega
   subst hxy
   congr 1
   refine zli ha'.2 hb'.2 fun z=>⟨fun hz=>?_,fun hz=>?_⟩
   ·rcases List.mem_cons.1 ((h z).1 (List.mem_cons_of_mem _ hz)) with rfl | e
    ·have:=ha'.1 z hz; omega
    ·exact e
   ·rcases List.mem_cons.1 ((h z).2 (List.mem_cons_of_mem _ hz)) with rfl | e
    ·have:=hb'.1 z hz; omega
    ·exact e
theorem znE {a : List Int} {k : Int} (h0 : 0 ≤ k) (h1 : k < 64) : putL (zaz a) k = zaz (a ++ [k]):=by
 refine zli (zna (zgf a)) (zgf _) fun x=>?_
 rw [zmj,zdv,zdv,List.mem_append,List.mem_singleton]
 constructor
 ·rintro (h | rfl)
  ·exact ⟨.inl h.1,h.2⟩
  ·exact ⟨.inr rfl,h0,h1⟩
 ·rintro ⟨h | h,h2⟩
  ·exact .inl ⟨h,h2⟩
  ·exact .inr h
open Classical in
noncomputable def accR (g : Gr) (p : Pol) (o : List Int) : List Int:=o.foldl (fun acc k=>if zat g p (zaz (acc ++ [k])) then acc ++ [k] else acc) []
variable {g : Gr} {p : Pol}
theorem zpY : accR g p [] = []:=rfl
open Classical in
theorem zbY {o : List Int} {k : Int} (h : zat g p (zaz (accR g p o ++ [k]))) : accR g p (o ++ [k]) = accR g p o ++ [k]:=by
 have h2 : accR g p (o ++ [k]) = if zat g p (zaz (accR g p o ++ [k])) then accR g p o ++ [k] else accR g p o:=by unfold accR; rw [List.foldl_append]; rfl
 rw [h2,if_pos h]
open Classical in
theorem zh7 {o : List Int} {k : Int} (h : ¬ zat g p (zaz (accR g p o ++ [k]))) : accR g p (o ++ [k]) = accR g p o:=by
 have h2 : accR g p (o ++ [k]) = if zat g p (zaz (accR g p o ++ [k])) then accR g p o ++ [k] else accR g p o:=by unfold accR; rw [List.foldl_append]; rfl
 rw [h2,if_neg h]
theorem znf (o : List Int) (k : Int) : accR g p (o ++ [k]) = accR g p o ∨ accR g p (o ++ [k]) = accR g p o ++ [k]:=by
 by_cases h : zat g p (zaz (accR g p o ++ [k]))
 ·exact .inr (zbY h)
 ·exact .inl (zh7 h)
theorem zep : ∀ (n : Nat) (o : List Int),o.length = n → (accR g p o).Sublist o
 | 0,o,h=>by
   obtain rfl:=List.eq_nil_of_length_eq_zero h
   exact List.nil_sublist _
 | n + 1,o,h=>by
   have hne : o ≠ []:=fun e=>by rw [e] at h; cases h
   rw [← List.dropLast_concat_getLast hne]
   have ih:=zep n o.dropLast (by rw [List.length_dropLast,h]; rfl)
   rcases znf (g:=g) (p:=p) o.dropLast (o.getLast hne) with e | e
   ·rw [e]; exact ih.trans (List.sublist_append_left _ _)
   ·rw [e]; exact ih.append (List.Sublist.refl _)
theorem zet {o : List Int} {x : Int} (h : x ∈ accR g p o) : x ∈ o:=(zep _ o rfl).subset h
theorem zqq (o : List Int) : (accR g p o).length ≤ o.length:=(zep _ o rfl).length_le
open Classical in
noncomputable def ze9 (N : Nat) (A : List Ed) : List Int:=((List.range N).map fun k : Nat=>(k : Int)).filter fun k=>decide (∀ S : Int → Bool,S 0 = true → S 1 = false → capS S A = maxF N A → S k = true)
theorem zp8 {N : Nat} {A : List Ed} {f D : List Int} {by_ : Int → Stp} (hn : zd2 N A) (hf : zaB N A f) (hm : ∀ f',zaB N A f' → valF A f' ≤ valF A f) (ht : zrL A f D by_) (h0 : (0 : Int) ∈ D) (h1 : (1 : Int) ∉ D) (hc : zfC A f D) :
  ((List.range N).map fun k : Nat=>(k : Int)).filter (fun k=>decide (k ∈ D)) = ze9 N A:=by
 unfold ze9
 refine List.filter_congr fun k _=>?_
 rw [decide_eq_decide]
 have hmf:=zig hf hm
 constructor
 ·intro hk S s0 s1 hS
  exact zlx hn hf ht s0 s1 (hS.trans hmf) k hk
 ·intro h
  have:=h (fun x=>decide (x ∈ D)) (by simpa using h0) (by simpa using h1) (by rw [hmf]; exact (zjo hn hf h0 h1 hc).1.symm)
  simpa using this
open Classical in
noncomputable def refS (g : Gr) (p : Pol) (o : List Int) : List Int × List (Int × List Int) :=
 o.foldl (fun s k=>if zat g p (zaz (s.1 ++ [k])) then (s.1 ++ [k],s.2) else (s.1,s.2 ++ [(k,ze9 (netN g) (netA g p (zaz (s.1 ++ [k]))))])) ([],[])
noncomputable def refR (g : Gr) (p : Pol) (o : List Int) : List (Int × List Int):=(refS g p o).2
open Classical in
theorem zj6 (o : List Int) (k : Int) : refS g p (o ++ [k]) = if zat g p (zaz ((refS g p o).1 ++ [k])) then ((refS g p o).1 ++ [k],(refS g p o).2) else ((refS g p o).1,(refS g p o).2 ++ [(k,ze9 (netN g) (netA g p (zaz ((refS g p o).1 ++ [k]))))]):=by
 unfold refS
 rw [List.foldl_append]
 rfl
theorem zmT : ∀ (n : Nat) (o : List Int),o.length = n → (refS g p o).1 = accR g p o
 | 0,o,h=>by
   obtain rfl:=List.eq_nil_of_length_eq_zero h
   rfl
 | n + 1,o,h=>by
   have hne : o ≠ []:=fun e=>by rw [e] at h; cases h
   rw [← List.dropLast_concat_getLast hne]
   have ih:=zmT n o.dropLast (by rw [List.length_dropLast,h]; rfl)
   rw [zj6,ih]
   split
   ·rename_i h1
    rw [zbY h1]
   ·rename_i h1
    rw [zh7 h1]
theorem zhx {o : List Int} {k : Int} (h : zat g p (zaz (accR g p o ++ [k]))) : refR g p (o ++ [k]) = refR g p o:=by
 unfold refR
 rw [zj6,zmT _ o rfl,if_pos h]
theorem zjT {o : List Int} {k : Int} (h : ¬ zat g p (zaz (accR g p o ++ [k]))) : refR g p (o ++ [k]) = refR g p o ++ [(k,ze9 (netN g) (netA g p (zaz (accR g p o ++ [k]))))]:=by
 unfold refR
 rw [zj6,zmT _ o rfl,if_neg h]
structure ztT (g : Gr) (p : Pol) (acc : List Int) (k : Int) (side : List Int) : Prop where
 no : ¬ zat g p (zaz (acc ++ [k]))
 ok : zcX ⟨netN g,netA g p (zaz (acc ++ [k]))⟩ side
 cut : cutV (netA g p (zaz (acc ++ [k]))) side = maxF (netN g) (netA g p (zaz (acc ++ [k])))
 len : side.length ≤ 130
 eq : side = ze9 (netN g) (netA g p (zaz (acc ++ [k])))
structure zmD (g : Gr) (p : Pol) (o : List Int) (R : List (Int × List Int)) : Prop where
 all : ∀ i (h : i < o.length),o[i] ∉ accR g p (o.take (i + 1)) → ∃ side,(o[i],side) ∈ R
 right : ∀ r ∈ R,∃ i,∃ h : i < o.length,o[i] = r.1 ∧ ztT g p (accR g p (o.take i)) r.1 r.2
 len : R.length ≤ o.length
 eq : R = refR g p o
theorem zmD.nil : zmD g p [] []:=⟨fun i h=>absurd h (Nat.not_lt_zero _),(fun r h=>nomatch h),Nat.le_refl _,rfl⟩
theorem zmD.yes {o : List Int} {k : Int} {R : List (Int × List Int)} (hr : zmD g p o R) (h : zat g p (zaz (accR g p o ++ [k]))) : zmD g p (o ++ [k]) R:=by
 refine ⟨fun i hi hn=>?_,fun r hr'=>?_,Nat.le_trans hr.len (by simp),by rw [zhx h]; exact hr.eq⟩
 ·rw [List.length_append,List.length_singleton] at hi
  by_cases hio : i < o.length
  ·rw [List.getElem_append_left hio] at hn ⊢
   rw [List.take_append_of_le_length (by omega)] at hn
   exact hr.all i hio hn
  ·obtain rfl : i = o.length:=by omega
   refine absurd ?_ hn
   rw [List.take_of_length_le (by simp),zbY h]
   simp
 ·obtain ⟨i,hi,h1,h2⟩:=hr.right r hr'
  refine ⟨i,by simp; omega,by rw [List.getElem_append_left hi]; exact h1,?_⟩
  rw [List.take_append_of_le_length (by omega)]
  exact h2
theorem zmD.no {o : List Int} {k : Int} {R : List (Int × List Int)} {side : List Int} (hr : zmD g p o R) (h : ztT g p (accR g p o) k side) : zmD g p (o ++ [k]) (R ++ [(k,side)]):=by
 refine ⟨fun i hi hn=>?_,fun r hr'=>?_,by have:=hr.len; simp; omega,by rw [zjT h.no,← hr.eq,← h.eq]⟩
 ·rw [List.length_append,List.length_singleton] at hi
  by_cases hio : i < o.length
  ·rw [List.getElem_append_left hio] at hn ⊢
   rw [List.take_append_of_le_length (by omega)] at hn
   obtain ⟨s,hs⟩:=hr.all i hio hn
   exact ⟨s,List.mem_append_left _ hs⟩
  ·obtain rfl : i = o.length:=by omega
   exact ⟨side,by simp⟩
 ·rcases List.mem_append.1 hr' with h3 | h3
  ·obtain ⟨i,hi,h1,h2⟩:=hr.right r h3
   refine ⟨i,by simp; omega,by rw [List.getElem_append_left hi]; exact h1,?_⟩
   rw [List.take_append_of_le_length (by omega)]
   exact h2
  ·rw [List.mem_singleton] at h3
   subst h3
   refine ⟨o.length,by simp,by simp,?_⟩
   rw [List.take_append_of_le_length (Nat.le_refl _),List.take_length]
   exact h
def inD (D : List Int) (n : Nat) : List Int:=((List.range n).map fun k : Nat=>(k : Int)).filter fun k=>decide (k ∈ D)
theorem ztG (D : List Int) (n : Nat) : inD D (n + 1) = inD D n ++ if (n : Int) ∈ D then [(n : Int)] else []:=by
 unfold inD
 rw [List.range_succ,List.map_append,List.filter_append]
 simp only [List.map_cons,List.map_nil,List.filter_cons,List.filter_nil]
 split <;> simp_all
theorem zsH {D : List Int} {n : Nat} {x : Int} : x ∈ inD D n ↔ (0 ≤ x ∧ x < n) ∧ x ∈ D:=by
 unfold inD
 rw [List.mem_filter,List.mem_map]
 constructor
 ·rintro ⟨⟨k,hk,rfl⟩,h⟩
  have:=List.mem_range.1 hk
  exact ⟨by omega,by simpa using h⟩
 ·rintro ⟨h,h2⟩
  exact ⟨⟨x.toNat,List.mem_range.2 (by omega),by omega⟩,by simpa using h2⟩
theorem ztn (D : List Int) (n : Nat) : (inD D n).Pairwise (· < ·):=by
 unfold inD
 refine List.Pairwise.filter _ ?_
 rw [List.pairwise_map]
 exact List.pairwise_lt_range.imp fun h=>by omega
theorem zuw (D : List Int) (n : Nat) : (inD D n).length ≤ n:=by
 unfold inD
 refine Nat.le_trans (List.length_filter_le ..) (by simp)
abbrev zaN (R : List (Int × List Int)) : List (List AV):=R.map fun r=>[.I r.1,ints r.2]
abbrev eAcc (acc flow : List Int) (R : List (Int × List Int)) : AV:=.agg [ints acc,ints flow,.vs 2 false (zaN R)]
theorem WayA.mem {A : List Ed} : ∀ {l : List Nat} {u w : Int},WayA A u l w → ∀ j ∈ l,j < A.length
 | i :: l,u,w,hw,j,hj=>by
   rcases List.mem_cons.1 hj with rfl | hj
   ·exact hw.1
   ·exact WayA.mem hw.2.2 j hj
theorem zkx.few {N : Nat} {A : List Ed} {f g : List Int} {l : List Nat} {w : Int} (hn : zd2 N A) (h : zkx A f g l w) : l.length + 1 ≤ N:=by
 have:=zbz (b:=(List.range N).map fun i : Nat=>(i : Int)) h.met fun x hx=>by
  rcases List.mem_cons.1 hx with rfl | hx
  ·have:=hn.two
   exact List.mem_map.2 ⟨0,List.mem_range.2 (by omega),rfl⟩
  ·obtain ⟨j,hj,rfl⟩:=List.mem_map.1 hx
   have ha:=hn.arc _ (zfi (h.way.mem j hj))
   exact List.mem_map.2 ⟨(arcD A j).t.toNat,List.mem_range.2 (by omega),by omega⟩
 simpa [metA] using this
def zgu (l : List (Int × AV)) : List (List AV):=l.map fun p=>[.sc (.int .i64 p.1),p.2]
theorem zgO (n : Int) : ∀ l : List (Int × AV),zdX n (zgu l) = (l.find? (fun p=>p.1 = n)).map (·.2)
 | []=>rfl
 | (k,x) :: l=>by
   have ih:=zgO n l
   simp only [zgu] at ih
   simp only [zgu,List.map_cons,zdX,List.find?_cons]
   by_cases h : n = k
   ·simp [h]
   ·have h' : ¬ k = n:=fun e=>h e.symm
    simp [h,h',ih]
def MapR (rows : List (List AV)) (φ : Int → Option AV) : Prop:=∃ l : List (Int × AV),rows = zgu l ∧ (l.map (·.1)).Nodup ∧ ∀ n,zdX n rows = φ n
theorem MapR.find {rows : List (List AV)} {φ : Int → Option AV} (h : MapR rows φ) (n : Int) : zdX n rows = φ n:=by
 obtain ⟨_,_,_,h⟩:=h
 exact h n
theorem MapR.nil : MapR [] fun _=>none:=⟨[],rfl,by simp,fun _=>rfl⟩
theorem zln (n : Int) (y : AV) : ∀ l : List (Int × AV),∃ l',mset n y (zgu l) = zgu l' ∧ (∀ k,k ∈ l'.map (·.1) ↔ k = n ∨ k ∈ l.map (·.1)) ∧ ((l.map (·.1)).Nodup → (l'.map (·.1)).Nodup) ∧ ∀ k,zdX k (zgu l') = if k = n then some y else zdX k (zgu l)
 | []=>⟨[(n,y)],rfl,by simp,by simp,fun k=>by simp [zgu,zdX]⟩
 | (i,x) :: l=>by
   by_cases h : n = i
   ·subst h
    refine ⟨(n,y) :: l,by simp [zgu,mset],by simp,by simp,fun k=>?_⟩
    simp only [zgu,List.map_cons,zdX]
    split <;> rfl
   ·obtain ⟨l',h1,h2,h3,h4⟩:=zln n y l
    refine ⟨(i,x) :: l',?_,fun k=>?_,fun hn=>?_,fun k=>?_⟩
    ·simp only [zgu] at h1
     simp [zgu,mset,h,h1]
    ·simp only [List.map_cons,List.mem_cons,h2]
     constructor
     ·rintro (h | h | h) <;> simp [h]
     ·rintro (h | h | h) <;> simp [h]
    ·rw [List.map_cons,List.nodup_cons] at hn ⊢
     exact ⟨fun hm=>((h2 i).1 hm).elim (fun e=>h e.symm) hn.1,h3 hn.2⟩
    ·have h4:=h4 k
     simp only [zgu] at h4
     simp only [zgu,List.map_cons,zdX,h4]
     by_cases hk : k = i
     ·subst hk
      simp [show ¬ k = n from fun e=>h e.symm]
     ·simp [hk]
theorem MapR.set {rows : List (List AV)} {φ : Int → Option AV} (h : MapR rows φ) (n : Int) (y : AV) : MapR (mset n y rows) fun k=>if k = n then some y else φ k:=by
 obtain ⟨l,rfl,hn,hf⟩:=h
 obtain ⟨l',h1,_,h3,h4⟩:=zln n y l
 exact ⟨l',h1,h3 hn,fun k=>by rw [h1,h4,hf]⟩
def famH (s N : Nat) (E : Nat → List (List AV)) : List (Nat × Option Ent):=(List.range N).map fun k=>(k + 1000,some ⟨s,E k,0⟩)
def famV (E : Nat → List (List AV)) (k : Nat) : AV:=.rs (k + 1000) 0 (E k).length
def famO (N : Nat) (E : Nat → List (List AV)) : List (List AV):=(List.range N).map fun k=>[famV E k]
theorem zhO (N : Nat) (E : Nat → List (List AV)) : (famO N E).length = N:=by simp [famO]
theorem zht {N k : Nat} {E : Nat → List (List AV)} (h : k < N) : (famO N E)[k]? = some [famV E k]:=by simp [famO,h]
@[simp] theorem zv8 {N k : Nat} {E : Nat → List (List AV)} (h : k < (famO N E).length) : (famO N E)[k] = [famV E k]:=by simp [famO]
theorem zdQ {α β : Type} {f : α → β} (hf : ∀ i j,f i = f j → i = j) : ∀ {l : List α},l.Nodup → (l.map f).Nodup
 | [],_=>List.nodup_nil
 | x :: l,h=>by
   rw [List.nodup_cons] at h
   rw [List.map_cons,List.nodup_cons]
   refine ⟨fun hx=>?_,zdQ hf h.2⟩
   obtain ⟨y,hy,e⟩:=List.mem_map.1 hx
   exact h.1 (hf _ _ e ▸ hy)
theorem zmO {α : Type} (f : Nat → Nat) (hf : ∀ i j,f i = f j → i = j) (g : Nat → α) (l : List Nat) (k : Nat) : lkp (l.map fun k=>(f k,g k)) (f k) = if k ∈ l then some (g k) else none:=by
 induction l with
 | nil=>simp [lkp]
 | cons i l ih =>
   simp only [List.map_cons,lkp]
   by_cases h : i = k
   ·subst h; simp
   ·have h1 : f i ≠ f k:=fun e=>h (hf _ _ e)
    have h2 : ¬ k = i:=fun e=>h e.symm
    simp [h1,ih,h2]
theorem zoo {α : Type} (f : Nat → Nat) (g : Nat → α) (l : List Nat) (j : Nat) (h : ∀ k ∈ l,f k ≠ j) : lkp (l.map fun k=>(f k,g k)) j = none:=by
 induction l with
 | nil=>simp [lkp]
 | cons i l ih =>
   simp only [List.map_cons,lkp]
   rw [if_neg (h i (by simp)),ih fun k hk=>h k (by simp [hk])]
theorem zuh {s N : Nat} {E : Nat → List (List AV)} {r : List (Nat × Option Ent)} {k : Nat} (h : k < N) : lkp (famH s N E ++ r) (k + 1000) = some (some ⟨s,E k,0⟩):=by
 rw [zeT,famH,zmO (fun k=>k + 1000) (fun i j h=>by simpa using h)]
 simp [h]
theorem zpN {s N : Nat} {E : Nat → List (List AV)} {r : List (Nat × Option Ent)} {j : Nat} (h : j < 1000 ∨ 1000 + N ≤ j) : lkp (famH s N E ++ r) j = lkp r j:=by
 rw [zeT,famH,zoo (fun k=>k + 1000) _ _ _ (fun k hk e=>by have:=List.mem_range.1 hk; omega)]
 simp
section
variable {sz n s N : Nat} {t : List (Nat × AV)} {E : Nat → List (List AV)} {r : List (Nat × Option Ent)}
theorem zu4 {k : Nat} (h : k < N) : (⟨sz,t,famH s N E ++ r,n⟩ : St).hp (k + 1000) = some ⟨s,E k,0⟩:=by
 show (lkp _ _).getD none = _
 rw [zuh h]
 rfl
theorem zkn {j : Nat} (h : j < 1000) : (⟨sz,t,famH s N E ++ r,n⟩ : St).hp j = (⟨sz,t,r,n⟩ : St).hp j:=by
 show (lkp _ _).getD none = (lkp _ _).getD none
 rw [zpN (.inl h)]
theorem zt8 {j : Nat} (h : 1000 + N ≤ j) : (⟨sz,t,famH s N E ++ r,n⟩ : St).hp j = (⟨sz,t,r,n⟩ : St).hp j:=by
 show (lkp _ _).getD none = (lkp _ _).getD none
 rw [zpN (.inr h)]
end
def famR (m a N : Nat) (L : List Nat) : List (Nat × Nat):=(m,a + 1000) :: (L ++ ((List.range N).filter (· ≠ a)).map (· + 1000)).map fun j=>(j,j)
theorem ztF {m a N : Nat} {L : List Nat} (hL : L.Nodup) (h1 : ∀ j ∈ L,j < 1000) (hm : m ∉ L) (hm1 : m < 1000 ∨ 1000 + N ≤ m) : ((famR m a N L).map (·.1)).Nodup:=by
 simp only [famR,List.map_cons,List.map_map,fcd,List.map_id',List.nodup_cons,List.mem_append,List.mem_map,List.mem_filter,List.mem_range]
 refine ⟨?_,?_⟩
 ·rintro (h | ⟨k,⟨h,_⟩,e⟩)
  ·exact hm h
  ·omega
 ·refine List.nodup_append.2 ⟨hL,?_,?_⟩
  ·exact zdQ (fun i j h=>by simpa using h) (List.nodup_range.filter _)
  ·intro x hx y hy e
   simp only [List.mem_map] at hy
   obtain ⟨k,_,e2⟩:=hy
   have:=h1 x hx
   omega
theorem zs8 {m a N : Nat} {L : List Nat} (hL : L.Nodup) (h1 : ∀ j ∈ L,j < 1000) : ((famR m a N L).map (·.2)).Nodup:=by
 simp only [famR,List.map_cons,List.map_map,fcd,List.map_id',List.nodup_cons,List.mem_append,List.mem_map,List.mem_filter,List.mem_range]
 refine ⟨?_,?_⟩
 ·rintro (h | ⟨k,⟨_,h⟩,e⟩)
  ·have:=h1 _ h; omega
  ·simp at h; omega
 ·refine List.nodup_append.2 ⟨hL,?_,?_⟩
  ·exact zdQ (fun i j h=>by simpa using h) (List.nodup_range.filter _)
  ·intro x hx y hy e
   simp only [List.mem_map] at hy
   obtain ⟨k,_,e2⟩:=hy
   have:=h1 x hx
   omega
theorem zoy {m a N : Nat} {L : List Nat} : lkp (famR m a N L) m = some (a + 1000):=by simp [famR,lkp]
theorem ze7 {m a N j : Nat} {L : List Nat} (hm : m ≠ j) (h : j ∈ L ∨ ∃ k < N,k ≠ a ∧ j = k + 1000) : lkp (famR m a N L) j = some j:=by
 rw [famR,lkp,if_neg hm,zmO (fun j=>j) (fun i j h=>h) (fun j=>j),if_pos]
 rcases h with h | ⟨k,h1,h2,rfl⟩
 ·simp [h]
 ·simp [h1,h2]
def grow {α : Type} (E : Nat → List α) (a : Nat) (r : α) : Nat → List α:=fun k=>if k = a then E a ++ [r] else E k
theorem zfT (f : AV → AV) (hf : ∀ v,f (.sc v) = .sc v) (rows : List (List AV)) (hr : ∀ r ∈ rows,∀ x ∈ r,∃ v,x = .sc v) : rows.map (·.map f) = rows:=by
 conv=>rhs; rw [← List.map_id rows]
 refine List.map_congr_left fun r hr'=>?_
 conv=>rhs; rw [id,← List.map_id r]
 refine List.map_congr_left fun x hx=>?_
 obtain ⟨v,rfl⟩:=hr r hr' x hx
 exact hf v
theorem zrJ {m a N : Nat} {L : List Nat} {E : Nat → List (List AV)} {row : List AV} {h : Nat → Option Ent} {len : Nat} (ha : a < N) (hm : m < 1000 ∨ 1000 + N ≤ m) (hlen : len = (E a).length + 1) :
  ((famO N E).set a [.rs m 0 len]).map (·.map (conv (famR m a N L) [] h 4)) = famO N (grow E a row):=by
 apply List.ext_getElem?
 intro j
 rw [List.getElem?_map,List.getElem?_set,zhO]
 by_cases hj : a = j
 ·subst hj
  rw [if_pos rfl,if_pos ha,zht ha]
  simp [zoy,famV,grow,hlen]
 ·rw [if_neg hj]
  by_cases hjN : j < N
  ·rw [zht hjN,zht hjN]
   have h1 : lkp (famR m a N L) (j + 1000) = some (j + 1000):=ze7 (by omega) (.inr ⟨j,hjN,fun e=>hj e.symm,rfl⟩)
   have h2 : j ≠ a:=fun e=>hj e.symm
   simp [famV,h1,grow,h2]
  ·simp [famO,hjN]
theorem Le.fam {np s N a m : Nat} {E : Nat → List (List AV)} {row : List AV} (L : List Nat) {st st' : St} (hsz : st'.sz = st.sz)
  (ha : a < N) (hL : L.Nodup) (h1 : ∀ j ∈ L,j < 1000) (hm1 : 1000 + N ≤ m) (hn : 1000 + N ≤ st'.n) (hnp : np ≤ 1000)
  (hE : ∀ k < N,∀ r ∈ E k,∀ x ∈ r,∃ v,x = .sc v) (hrow : ∀ x ∈ row,∃ v,x = .sc v)
  (hst : ∀ k < N,k ≠ a → st.hp (k + 1000) = some ⟨s,E k,0⟩) (hsm : st.hp m = some ⟨s,E a ++ [row],0⟩)
  (hst' : ∀ k < N,st'.hp (k + 1000) = some ⟨s,grow E a row k,0⟩)
  (hout : ∀ j,j ∉ L → (j < 1000 ∨ 1000 + N ≤ j) → st'.hp j = none)
  (ht : ∀ p ∈ st'.t,Wk (conv (famR m a N L) [] st.hp 4 (st.get p.1)) p.2)
  (hb : ∀ j ∈ L,∀ e',st'.hp j = some e' → ∃ e,st.hp j = some e ∧ zaI [] (zax (famR m a N L) [] st.hp 4 e) e') : Le np st st':=by
 have hm : m ∉ L:=fun h=>by have:=h1 m h; omega
 refine Le.mk (famR m a N L) [] [] hsz (ztF hL h1 hm (.inr hm1)) (zs8 hL h1) ?_ (by simp) (by simp) (by omega) (by simp) (fun i=>?_) ?_
 ·intro p hp
  simp only [famR,List.mem_cons,List.mem_map,List.mem_append,List.mem_filter,List.mem_range] at hp
  rcases hp with rfl | ⟨j,h | ⟨k,⟨h2,_⟩,rfl⟩,rfl⟩
  ·exact ⟨by simp only; omega,fun h=>by simp only at h; omega⟩
  ·have:=h1 j h
   exact ⟨by simp only; omega,fun _=>rfl⟩
  ·exact ⟨by simp only; omega,fun _=>rfl⟩
 ·unfold St.get at *
  cases hl : lkp st'.t i with
  | none=>exact .inl (.dead _)
  | some v=>exact .inl (ht _ (zbj hl))
 ·intro j e' he
  left
  by_cases hj : j ∈ L
  ·obtain ⟨e,h2,h3⟩:=hb j hj e' he
   refine ⟨j,e,?_,h2,h3⟩
   simp only [famR,List.mem_cons,List.mem_map,List.mem_append]
   exact .inr ⟨j,.inl hj,rfl⟩
  ·by_cases hr : j < 1000 ∨ 1000 + N ≤ j
   ·rw [hout j hj hr] at he; cases he
   ·obtain ⟨k,rfl⟩ : ∃ k,j = k + 1000:=⟨j - 1000,by omega⟩
    have hk : k < N:=by omega
    rw [hst' k hk] at he
    cases he
    by_cases hka : k = a
    ·subst hka
     rw [show grow E k row k = E k ++ [row] from if_pos rfl]
     refine ⟨m,_,by simp [famR],hsm,?_⟩
     have : zax (famR m k N L) [] st.hp 4 ⟨s,E k ++ [row],0⟩ = ⟨s,E k ++ [row],0⟩:=by
      simp only [zax]
      rw [zfT _ fun v=>by simp [conv]]
      intro r hr x hx
      rcases List.mem_append.1 hr with h | h
      ·exact hE k hk r h x hx
      ·rw [List.mem_singleton.1 h] at hx; exact hrow x hx
     rw [this]
     exact zaI.rfl' (Nat.zero_le _)
    ·simp only [grow,if_neg hka]
     refine ⟨k + 1000,_,?_,hst k hk hka,?_⟩
     ·simp only [famR,List.mem_cons,List.mem_map,List.mem_append,List.mem_filter,List.mem_range]
      exact .inr ⟨k + 1000,.inr ⟨k,⟨hk,by simpa using hka⟩,rfl⟩,rfl⟩
     ·have : zax (famR m a N L) [] st.hp 4 ⟨s,E k,0⟩ = ⟨s,E k,0⟩:=by
       simp only [zax]
       rw [zfT _ (fun v=>by simp [conv]) _ (hE k hk)]
      rw [this]
      exact zaI.rfl' (Nat.zero_le _)
theorem Le.fam0 {np s N o : Nat} (L : List Nat) {st st' : St} (hsz : st'.sz = st.sz) (hs : s ≠ 0) (hL : (o :: L).Nodup) (h1 : ∀ j ∈ o :: L,j < 1000 ∧ np ≤ 1000) (hn : 1000 + N ≤ st'.n)
  (ho : st.hp o = some ⟨1,(List.range N).map fun _=>[.nilS],0⟩) (ho' : st'.hp o = some ⟨1,famO N fun _=>[],0⟩)
  (hst' : ∀ k < N,st'.hp (k + 1000) = some ⟨s,[],0⟩)
  (hout : ∀ j,j ∉ o :: L → (j < 1000 ∨ 1000 + N ≤ j) → st'.hp j = none)
  (ht : ∀ p ∈ st'.t,Wk (conv ((o :: L).map fun j=>(j,j)) [] st.hp 4 (st.get p.1)) p.2)
  (hb : ∀ j ∈ L,∀ e',st'.hp j = some e' → ∃ e,st.hp j = some e ∧ zaI [] (zax ((o :: L).map fun j=>(j,j)) [] st.hp 4 e) e') : Le np st st':=by
 have hnl : ∀ p,p ∈ (List.range N).map (fun k=>(k + 1000,s)) ↔ ∃ k < N,p = (k + 1000,s):=fun p=>by
  rw [List.mem_map]
  exact ⟨fun ⟨k,h,e⟩=>⟨k,List.mem_range.1 h,e.symm⟩,fun ⟨k,h,e⟩=>⟨k,List.mem_range.2 h,e.symm⟩⟩
 have hid : ((o :: L).map fun j=>(j,j)).map (·.1) = o :: L:=by simp [fcd]
 have hid2 : ((o :: L).map fun j=>(j,j)).map (·.2) = o :: L:=by simp [fcd]
 refine Le.mk ((o :: L).map fun j=>(j,j)) [] ((List.range N).map fun k=>(k + 1000,s)) hsz (by rw [hid]; exact hL) (by rw [hid2]; exact hL) ?_ ?_ (by simp) (by have:=h1 o (by simp); omega) ?_ (fun i=>?_) ?_
 ·intro p hp
  obtain ⟨j,hj,rfl⟩:=List.mem_map.1 hp
  have:=h1 j hj
  exact ⟨by simp only; omega,fun _=>rfl⟩
 ·intro p hp
  obtain ⟨k,hk,rfl⟩:=(hnl p).1 hp
  have:=h1 o (by simp)
  refine ⟨by simp only; omega,by simp only; omega,?_,hs⟩
  rw [hid2]
  intro h
  have:=h1 _ h
  omega
 ·rw [List.map_map]
  exact zdQ (fun i j h=>by simpa using h) List.nodup_range
 ·unfold St.get at *
  cases hl : lkp st'.t i with
  | none=>exact .inl (.dead _)
  | some v=>exact .inl (ht _ (zbj hl))
 ·intro j e' he
  by_cases hjo : j = o
  ·subst hjo
   left
   rw [ho'] at he
   cases he
   refine ⟨j,_,by simp,ho,rfl,Nat.le_refl _,Nat.zero_le _,.inr ⟨by simp [zax],by simp [zax,famO],fun i=>?_⟩⟩
   by_cases hi : i < N
   ·simp only [zax,List.map_map,fcd,List.map_cons,List.map_nil,List.getD_eq_getElem?_getD,List.getElem?_map,List.getElem?_range hi,Option.map_some,Option.getD_some,famO,famV,List.length_nil]
    exact ⟨.inr ⟨by simp [conv],i + 1000,s,rfl,(hnl _).2 ⟨i,hi,rfl⟩⟩,trivial⟩
   ·simp [zax,famO,List.getD_eq_getElem?_getD,hi,UpL]
  ·by_cases hj : j ∈ L
   ·left
    obtain ⟨e,h2,h3⟩:=hb j hj e' he
    refine ⟨j,e,by simp [hj],h2,h3.1,h3.2.1,h3.2.2.1,?_⟩
    rcases h3.2.2.2 with h | ⟨q1,q2,q3⟩
    ·exact .inl h
    ·refine .inr ⟨q1,q2,fun i=>?_⟩
     have key : ∀ {xs ys : List AV},UpL [] xs ys → UpL ((List.range N).map fun k=>(k + 1000,s)) xs ys:=by
      intro xs
      induction xs with
      | nil=>intro ys h; cases ys <;> exact h
      | cons x xs ih =>
        intro ys h
        cases ys with
        | nil=>exact h
        | cons y ys =>
          refine ⟨?_,ih h.2⟩
          rcases h.1 with h | ⟨_,_,_,_,h⟩
          ·exact .inl h
          ·simp at h
     exact key (q3 i)
   ·by_cases hr : j < 1000 ∨ 1000 + N ≤ j
    ·rw [hout j (by simp [hjo,hj]) hr] at he; cases he
    ·obtain ⟨k,rfl⟩ : ∃ k,j = k + 1000:=⟨j - 1000,by omega⟩
     have hk : k < N:=by omega
     rw [hst' k hk] at he
     cases he
     exact .inr ⟨(hnl _).2 ⟨k,hk,rfl⟩,rfl,rfl⟩
def famI (N : Nat) : List Nat:=(List.range N).map (· + 1000)
theorem zem {N j : Nat} : j ∈ famI N ↔ 1000 ≤ j ∧ j < 1000 + N:=by
 simp only [famI,List.mem_map,List.mem_range]
 exact ⟨fun ⟨k,h,e⟩=>by omega,fun h=>⟨j - 1000,by omega,by omega⟩⟩
theorem zth {s N o : Nat} {ρ : List (Nat × Nat)} {sn : List Nat} {hp : Nat → Option Ent} {E : Nat → List (List AV)} (hE : ∀ k < N,∀ r ∈ E k,∀ x ∈ r,∃ v,x = .sc v)
  (hρ : lkp ρ o = none) (hsn : o ∈ sn) (hf : ∀ k < N,k + 1000 ∈ sn) (ho : hp o = some ⟨1,famO N E,0⟩) (hh : ∀ k < N,hp (k + 1000) = some ⟨s,E k,0⟩) :
  conv ρ sn hp 4 (.rs o 0 N) = .vs 1 false ((List.range N).map fun k=>[.vs s false (E k)]):=by
 simp only [conv,hρ,hsn,if_true,ho,zhO,Nat.zero_add,Nat.le_refl,List.drop_zero]
 rw [List.take_of_length_le (by rw [zhO]; exact Nat.le_refl _),famO,List.map_map]
 congr 1
 refine List.map_congr_left fun k hk=>?_
 have hk:=List.mem_range.1 hk
 simp only [fcd,List.map_cons,List.map_nil,famV,conv,lkp,hf k hk,if_true,hh k hk,Nat.zero_add,Nat.le_refl,List.drop_zero,List.take_length]
 rw [zfT _ (fun v=>by simp [conv]) _ (hE k hk)]
theorem Le.famOut {np N o : Nat} {L : List Nat} {st st' : St} (hsz : st'.sz = st.sz) (hL : L.Nodup) (h1 : ∀ j ∈ L,j < 1000) (hoL : o ∉ L) (hn : 1000 ≤ st'.n) (hnp : np ≤ o) (hnp2 : np ≤ 1000)
  (hout : ∀ j,j ∉ L → st'.hp j = none)
  (ht : ∀ p ∈ st'.t,Wk (conv (L.map fun j=>(j,j)) (o :: famI N) st.hp 4 (st.get p.1)) p.2)
  (hb : ∀ j ∈ L,∀ e',st'.hp j = some e' → ∃ e,st.hp j = some e ∧ zaI [] (zax (L.map fun j=>(j,j)) (o :: famI N) st.hp 4 e) e') : Le np st st':=by
 have hid : (L.map fun j=>(j,j)).map (·.1) = L:=by simp [fcd]
 have hid2 : (L.map fun j=>(j,j)).map (·.2) = L:=by simp [fcd]
 refine Le.mk (L.map fun j=>(j,j)) (o :: famI N) [] hsz (by rw [hid]; exact hL) (by rw [hid2]; exact hL) ?_ (by simp) ?_ (by omega) (by simp) (fun i=>?_) ?_
 ·intro p hp
  obtain ⟨j,hj,rfl⟩:=List.mem_map.1 hp
  have:=h1 j hj
  exact ⟨by simp only; omega,fun _=>rfl⟩
 ·intro i hi
  rw [hid]
  rcases List.mem_cons.1 hi with rfl | hi
  ·exact ⟨hnp,hoL⟩
  ·have:=zem.1 hi
   exact ⟨by omega,fun h=>by have:=h1 i h; omega⟩
 ·unfold St.get at *
  cases hl : lkp st'.t i with
  | none=>exact .inl (.dead _)
  | some v=>exact .inl (ht _ (zbj hl))
 ·intro j e' he
  left
  by_cases hj : j ∈ L
  ·obtain ⟨e,h2,h3⟩:=hb j hj e' he
   exact ⟨j,e,by simp [hj],h2,h3⟩
  ·rw [hout j hj] at he; cases he
def zqA (s : Stp) : AV:=.agg [.I s.1,.sc (.bool s.2)]
open Classical in
noncomputable def camF (D b : List Int) : Int → Option AV:=fun x=>if x ∈ D then some (if x = 0 then .agg [.I (-1),.sc (.bool false)] else zqA (decS (b.getD x.toNat 0))) else none
theorem zrb (b : List Int) : camF [0] b = fun x=>if x = 0 then some (.agg [.I (-1),.sc (.bool false)]) else none:=by
 funext x
 by_cases h : x = 0 <;> simp [camF,h]
theorem zsi {N : Nat} {A : List Ed} {f D b : List Int} (h : Bfs N A f D b) {s : Stp} (hT : stT A s ∉ D) (h0 : 0 ≤ stT A s) (h1 : stT A s < N) :
  camF (D ++ [stT A s]) (b.set (stT A s).toNat (encS s)) = fun x=>if x = stT A s then some (zqA s) else camF D b x:=by
 have hb : (stT A s).toNat < b.length:=by rw [h.len]; omega
 have hn0 : stT A s ≠ 0:=fun e=>hT (e ▸ h.mem0)
 funext x
 by_cases hx : x = stT A s
 ·subst hx
  simp only [camF,List.mem_append,List.mem_singleton,or_true,if_true,if_neg hn0]
  rw [List.getD_eq_getElem?_getD,List.getElem?_set_self hb,Option.getD_some,zpl]
 ·simp only [camF,List.mem_append,List.mem_singleton,hx,or_false,if_false]
  by_cases hD : x ∈ D
  ·have hr:=h.rng x hD
   rw [if_pos hD,if_pos hD,List.getD_eq_getElem?_getD,List.getElem?_set_ne (by omega),List.getD_eq_getElem?_getD]
  ·rw [if_neg hD,if_neg hD]
theorem zgG (D b : List Int) (x : Int) : (camF D b x).isSome = decide (x ∈ D):=by
 by_cases h : x ∈ D <;> simp [camF,h]
abbrev zby (s : Stp) : List AV:=[.I s.1,.B s.2]
def zhQ (A : List Ed) : Nat → Nat → List Stp
 | 0,_=>[]
 | i + 1,k=>zhQ A i k ++ (if (arcD A i).f = k then [(i,false)] else []) ++ (if (arcD A i).t = k then [(i,true)] else [])
theorem zlD {A : List Ed} {s : Stp} {k : Nat} : ∀ {i : Nat},s ∈ zhQ A i k ↔ s.1 < i ∧ stF A s = k
 | 0=>by simp [zhQ]
 | i + 1=>by
   obtain ⟨j,c⟩:=s
   have ih:=zlD (A:=A) (s:=(j,c)) (k:=k) (i:=i)
   simp only [zhQ,List.mem_append,ih]
   unfold stF
   simp only
   constructor
   ·rintro ((h | h) | h)
    ·exact ⟨by omega,h.2⟩
    ·split at h
     ·rename_i e
      simp at h
      obtain ⟨rfl,rfl⟩:=h
      exact ⟨by omega,by simpa using e⟩
     ·simp at h
    ·split at h
     ·rename_i e
      simp at h
      obtain ⟨rfl,rfl⟩:=h
      exact ⟨by omega,by simpa using e⟩
     ·simp at h
   ·rintro ⟨h1,h2⟩
    rcases Nat.lt_succ_iff_lt_or_eq.1 h1 with h | h
    ·exact .inl (.inl ⟨h,h2⟩)
    ·subst h
     cases c
     ·have : (arcD A j).f = k:=by simpa using h2
      rw [if_pos this]
      exact .inl (.inr (by simp))
     ·have : (arcD A j).t = k:=by simpa using h2
      rw [if_pos this]
      exact .inr (by simp)
theorem zim (A : List Ed) (k : Nat) : ∀ i,(zhQ A i k).length ≤ 2 * i
 | 0=>Nat.le_refl _
 | i + 1=>by
   have ih:=zim A k i
   simp only [zhQ,List.length_append]
   split <;> split <;> simp <;> omega
def famE (A : List Ed) (i : Nat) : Nat → List (List AV):=fun k=>(zhQ A i k).map zby
theorem zpT (A : List Ed) (i k : Nat) : ∀ r ∈ famE A i k,∀ x ∈ r,∃ v,x = .sc v:=by
 intro r hr x hx
 obtain ⟨s,_,rfl⟩:=List.mem_map.1 hr
 simp only [zby,List.mem_cons,List.not_mem_nil,or_false] at hx
 rcases hx with rfl | rfl
 ·exact ⟨_,rfl⟩
 ·exact ⟨_,rfl⟩
theorem ztK (A : List Ed) (i k : Nat) : (famE A i k).length ≤ 2 * i:=by unfold famE; rw [List.length_map]; exact zim A k i
theorem zs7 {E : Nat → List (List AV)} {a : Nat} {row : List AV} (hE : ∀ k,∀ r ∈ E k,∀ x ∈ r,∃ v,x = AV.sc v) (hr : ∀ x ∈ row,∃ v,x = AV.sc v) (k : Nat) : ∀ r ∈ grow E a row k,∀ x ∈ r,∃ v,x = AV.sc v:=by
 unfold grow
 intro r h
 split at h
 ·rcases List.mem_append.1 h with h | h
  ·exact hE a r h
  ·rw [List.mem_singleton.1 h]; exact hr
 ·exact hE k r h
theorem zsr {A : List Ed} {i a b : Nat} (ha : (arcD A i).f = a) (hb : (arcD A i).t = b) (hab : a ≠ b) : famE A (i + 1) = grow (grow (famE A i) a (zby (i,false))) b (zby (i,true)):=by
 funext k
 simp only [famE,zhQ,grow,ha,hb,List.map_append,Int.natCast_inj]
 by_cases h1 : k = a
 ·subst h1
  simp [hab,hab.symm]
 ·by_cases h2 : k = b
  ·subst h2
   simp [hab,h1]
  ·have h3 : ¬ a = k:=fun e=>h1 e.symm
   have h4 : ¬ b = k:=fun e=>h2 e.symm
   simp [h1,h2,h3,h4]
theorem zjF (s : Stp) : ∀ x ∈ zby s,∃ v,x = AV.sc v:=by
 intro x hx
 simp only [zby,List.mem_cons,List.not_mem_nil,or_false] at hx
 rcases hx with rfl | rfl
 ·exact ⟨_,rfl⟩
 ·exact ⟨_,rfl⟩
abbrev atV (N : Nat) (A : List Ed) : AV:=.vs 1 false ((List.range N).map fun k=>[.vs 2 false (famE A A.length k)])
theorem Le.slot {np sz n n' : Nat} {t t' : List (Nat × AV)} {h : List (Nat × Option Ent)} (hn : n ≤ n') (ht : ∀ p ∈ t',(⟨sz,t,h,n⟩ : St).get p.1 = p.2) : Le np ⟨sz,t,h,n⟩ ⟨sz,t',h,n'⟩:=by
 intro T0 M0 w0 T M a w ok hnp
 refine ⟨T,M,⟨ok.sz,ok.df,fun i=>?_,ok.hs,fun id g hg=>Nat.lt_of_lt_of_le (ok.dom id g hg) hn,ok.after⟩,Nat.le_trans hnp hn⟩
 show Rep T w M ((lkp t' i).getD .dead) _
 cases hl : lkp t' i with
 | none=>exact .dead _ _
 | some v =>
   have:=ht _ (zbj hl)
   simp only at this
   show Rep T w M v _
   rw [← this]
   exact ok.tm i
def famS (N : Nat) (L : List Nat) : List (Nat × Nat):=(L ++ famI N).map fun j=>(j,j)
theorem zhe {N j : Nat} {L : List Nat} (h : j ∈ L ∨ ∃ k < N,j = k + 1000) : lkp (famS N L) j = some j:=by
 rw [famS,zmO (fun j=>j) (fun i j h=>h) (fun j=>j),if_pos]
 rcases h with h | ⟨k,h1,rfl⟩
 ·simp [h]
 ·exact List.mem_append_right _ (zem.2 (by omega))
theorem zpz {N j : Nat} {L : List Nat} (h : j ∉ L) (h2 : 1000 + N ≤ j) : lkp (famS N L) j = none:=by
 rw [famS,zmO (fun j=>j) (fun i j h=>h) (fun j=>j),if_neg]
 rw [List.mem_append,not_or]
 exact ⟨h,fun hm=>by have:=zem.1 hm; omega⟩
theorem zrV {N : Nat} {L sn : List Nat} {E : Nat → List (List AV)} {h : Nat → Option Ent} : (famO N E).map (·.map (conv (famS N L) sn h 4)) = famO N E:=by
 conv=>rhs; rw [← List.map_id (famO N E)]
 refine List.map_congr_left fun r hr=>?_
 obtain ⟨k,hk,rfl⟩:=List.mem_map.1 hr
 have:=zhe (N:=N) (L:=L) (j:=k + 1000) (.inr ⟨k,List.mem_range.1 hk,rfl⟩)
 simp [famV,this]
theorem Le.famS {np s N : Nat} {E : Nat → List (List AV)} (L sn : List Nat) {st st' : St} (hsz : st'.sz = st.sz)
  (hL : L.Nodup) (h1 : ∀ j ∈ L,j < 1000) (hn : 1000 + N ≤ st'.n) (hnp : np ≤ 1000) (hsn : ∀ j ∈ sn,1000 + N ≤ j)
  (hE : ∀ k < N,∀ r ∈ E k,∀ x ∈ r,∃ v,x = .sc v)
  (hst : ∀ k < N,st.hp (k + 1000) = some ⟨s,E k,0⟩) (hst' : ∀ k < N,st'.hp (k + 1000) = some ⟨s,E k,0⟩)
  (hout : ∀ j,j ∉ L → (j < 1000 ∨ 1000 + N ≤ j) → st'.hp j = none)
  (ht : ∀ p ∈ st'.t,Wk (conv (famS N L) sn st.hp 4 (st.get p.1)) p.2)
  (hb : ∀ j ∈ L,∀ e',st'.hp j = some e' → ∃ e,st.hp j = some e ∧ zaI [] (zax (famS N L) sn st.hp 4 e) e') : Le np st st':=by
 have hid : (Go.Proofs.YthmaflecfppoiaaGreat.famS N L).map (·.1) = L ++ famI N:=by simp [Go.Proofs.YthmaflecfppoiaaGreat.famS,fcd]
 have hid2 : (Go.Proofs.YthmaflecfppoiaaGreat.famS N L).map (·.2) = L ++ famI N:=by simp [Go.Proofs.YthmaflecfppoiaaGreat.famS,fcd]
 have hnd : (L ++ famI N).Nodup:=List.nodup_append.2 ⟨hL,zdQ (fun i j h=>by simpa using h) List.nodup_range,fun x hx y hy e=>by
  have:=h1 x hx
  have:=zem.1 hy
  omega⟩
 have hmem : ∀ j,(j,j) ∈ Go.Proofs.YthmaflecfppoiaaGreat.famS N L ↔ j ∈ L ∨ j ∈ famI N:=fun j=>by simp [Go.Proofs.YthmaflecfppoiaaGreat.famS]
 refine Le.mk (Go.Proofs.YthmaflecfppoiaaGreat.famS N L) sn [] hsz (by rw [hid]; exact hnd) (by rw [hid2]; exact hnd) ?_ (by simp) ?_ (by omega) (by simp) (fun i=>?_) ?_
 ·intro p hp
  obtain ⟨j,hj,rfl⟩:=List.mem_map.1 hp
  rcases List.mem_append.1 hj with h | h
  ·have:=h1 j h
   exact ⟨by simp only; omega,fun _=>rfl⟩
  ·have:=zem.1 h
   exact ⟨by simp only; omega,fun _=>rfl⟩
 ·intro j hj
  have:=hsn j hj
  refine ⟨by omega,?_⟩
  rw [hid,List.mem_append,not_or]
  exact ⟨fun h=>by have:=h1 j h; omega,fun h=>by have:=zem.1 h; omega⟩
 ·unfold St.get at *
  cases hl : lkp st'.t i with
  | none=>exact .inl (.dead _)
  | some v=>exact .inl (ht _ (zbj hl))
 ·intro j e' he
  left
  by_cases hj : j ∈ L
  ·obtain ⟨e,h2,h3⟩:=hb j hj e' he
   exact ⟨j,e,(hmem j).2 (.inl hj),h2,h3⟩
  ·by_cases hr : j < 1000 ∨ 1000 + N ≤ j
   ·rw [hout j hj hr] at he; cases he
   ·obtain ⟨k,rfl⟩ : ∃ k,j = k + 1000:=⟨j - 1000,by omega⟩
    have hk : k < N:=by omega
    rw [hst' k hk] at he
    cases he
    refine ⟨k + 1000,_,(hmem _).2 (.inr (zem.2 (by omega))),hst k hk,?_⟩
    have : zax (Go.Proofs.YthmaflecfppoiaaGreat.famS N L) sn st.hp 4 ⟨s,E k,0⟩ = ⟨s,E k,0⟩:=by
     simp only [zax]
     rw [zfT _ (fun v=>by simp [conv]) _ (hE k hk)]
    rw [this]
    exact zaI.rfl' (Nat.zero_le _)
abbrev oH (N : Nat) (A : List Ed) (m : Nat) (f : List Int) (E : Nat → List (List AV)) : List (Nat × Option Ent) :=
 famH 2 N E ++ [(0,some ⟨1,zah f,0⟩),(24,some ⟨4,[[.I 0,.nilS,.nilS,.nilS]],0⟩),(64,some ⟨1,famO N E,0⟩),(80,some ⟨4,[[.I N,eEs A,.rs 0 0 m,.rs 64 0 N]],0⟩)]
theorem zcO {sz n i j : Nat} {t : List (Nat × AV)} {h : List (Nat × Option Ent)} {v : Option Ent} (hij : i ≠ j) : (⟨sz,t,(i,v) :: h,n⟩ : St).hp j = (⟨sz,t,h,n⟩ : St).hp j:=by
 rw [zqi,if_neg hij]
theorem ziK {sz n N m : Nat} {t : List (Nat × AV)} {A : List Ed} {f : List Int} {E : Nat → List (List AV)} {k : Nat} (h : k < N) : (⟨sz,t,oH N A m f E,n⟩ : St).hp (k + 1000) = some ⟨2,E k,0⟩:=zu4 h
theorem zpn {sz n N m j : Nat} {t : List (Nat × AV)} {A : List Ed} {f : List Int} {E : Nat → List (List AV)} (hj : j ∉ [0,24,64,80]) (hr : j < 1000 ∨ 1000 + N ≤ j) : (⟨sz,t,oH N A m f E,n⟩ : St).hp j = none:=by
 have hj' : j ≠ 0 ∧ j ≠ 24 ∧ j ≠ 64 ∧ j ≠ 80:=by simpa using hj
 rcases hr with hr | hr
 ·rw [zkn hr]
  simp [hj'.1.symm,hj'.2.1.symm,hj'.2.2.1.symm,hj'.2.2.2.symm]
 ·rw [zt8 hr]
  simp [hj'.1.symm,hj'.2.1.symm,hj'.2.2.1.symm,hj'.2.2.2.symm]
section
variable {sz n N m : Nat} {t : List (Nat × AV)} {A : List Ed} {f : List Int} {E : Nat → List (List AV)}
theorem oH_0 : (⟨sz,t,oH N A m f E,n⟩ : St).hp 0 = some ⟨1,zah f,0⟩:=by rw [zkn (by omega)]; simp
theorem zqR : (⟨sz,t,oH N A m f E,n⟩ : St).hp 24 = some ⟨4,[[.I 0,.nilS,.nilS,.nilS]],0⟩:=by rw [zkn (by omega)]; simp
theorem zpc : (⟨sz,t,oH N A m f E,n⟩ : St).hp 64 = some ⟨1,famO N E,0⟩:=by rw [zkn (by omega)]; simp
theorem znI : (⟨sz,t,oH N A m f E,n⟩ : St).hp 80 = some ⟨4,[[.I N,eEs A,.rs 0 0 m,.rs 64 0 N]],0⟩:=by rw [zkn (by omega)]; simp
end
theorem Le.oStep {N a m x y n n' : Nat} {A : List Ed} {f : List Int} {E : Nat → List (List AV)} {row : List AV} {t t' : List (Nat × AV)} {h : List (Nat × Option Ent)} (ha : a < N) (hx : 1000 + N ≤ x) (hy : 1000 + N ≤ y) (hxy : x ≠ y) (hN : N ≤ 900) (hn' : 1000 + N ≤ n')
  (hE : ∀ k,∀ r ∈ E k,∀ z ∈ r,∃ v,z = .sc v) (hrow : ∀ z ∈ row,∃ v,z = .sc v)
  (hh : h = (64,some ⟨1,(famO N E).set a [.rs x 0 ((E a).length + 1)],0⟩) :: (x,some ⟨2,E a ++ [row],0⟩) :: (a + 1000,none) :: (y,some ⟨2,[row],0⟩) :: oH N A m f E)
  (ht : ∀ p ∈ t',Wk (conv (famR x a N [0,24,64,80]) [] (⟨54,t,h,n⟩ : St).hp 4 ((⟨54,t,h,n⟩ : St).get p.1)) p.2) : Le 1 ⟨54,t,h,n⟩ ⟨54,t',oH N A m f (grow E a row),n'⟩:=by
 have e64 : (⟨54,t,h,n⟩ : St).hp 64 = some ⟨1,(famO N E).set a [.rs x 0 ((E a).length + 1)],0⟩:=by rw [hh,zqi,if_pos rfl]
 have e0 : (⟨54,t,h,n⟩ : St).hp 0 = some ⟨1,zah f,0⟩:=by rw [hh,zcO (by omega),zcO (by omega),zcO (by omega),zcO (by omega),oH_0]
 have e24 : (⟨54,t,h,n⟩ : St).hp 24 = some ⟨4,[[.I 0,.nilS,.nilS,.nilS]],0⟩:=by rw [hh,zcO (by omega),zcO (by omega),zcO (by omega),zcO (by omega),zqR]
 have e80 : (⟨54,t,h,n⟩ : St).hp 80 = some ⟨4,[[.I N,eEs A,.rs 0 0 m,.rs 64 0 N]],0⟩:=by rw [hh,zcO (by omega),zcO (by omega),zcO (by omega),zcO (by omega),znI]
 have l0 : lkp (famR x a N [0,24,64,80]) 0 = some 0:=ze7 (by omega) (.inl (by simp))
 have l64 : lkp (famR x a N [0,24,64,80]) 64 = some 64:=ze7 (by omega) (.inl (by simp))
 refine Le.fam (s:=2) (N:=N) (a:=a) (m:=x) (E:=E) (row:=row) [0,24,64,80] rfl ha (by decide) (by simp) hx hn' (by omega) (fun k _=>hE k) hrow ?_ ?_ (fun k hk=>ziK hk) (fun j hj hr=>zpn hj hr) ht ?_
 ·intro k hk hka
  rw [hh,zcO (by omega),zcO (by omega),zcO (by omega),zcO (by omega),ziK hk]
 ·rw [hh,zcO (by omega),zqi,if_pos rfl]
 ·intro j hj e' he
  simp only [List.mem_cons,List.not_mem_nil,or_false] at hj
  rcases hj with rfl | rfl | rfl | rfl
  ·rw [oH_0] at he
   cases he
   exact ⟨_,e0,by simp only [zax]; rw [zfT _ (fun v=>by simp [conv]) _ (by simp)]; exact zaI.rfl' (Nat.zero_le _)⟩
  ·rw [zqR] at he
   cases he
   exact ⟨_,e24,by simp [zax]; exact zaI.rfl' (Nat.zero_le _)⟩
  ·rw [zpc] at he
   cases he
   refine ⟨_,e64,?_⟩
   simp only [zax]
   rw [zrJ ha (.inr hx) rfl]
   exact zaI.rfl' (Nat.zero_le _)
  ·rw [znI] at he
   cases he
   refine ⟨_,e80,?_⟩
   simp [zax,l0,l64]
   exact zaI.rfl' (Nat.zero_le _)
set_option maxRecDepth 100000 in
set_option maxHeartbeats 4000000 in
theorem zrq (N : Nat) (A : List Ed) (f : List Int) (m : Nat) (hn : za8 ⟨N,A⟩) : zai Tryz.prog zgc [eN ⟨N,A⟩,.rs 0 0 m] [⟨1,zah f,0⟩] (.agg [.I N,eEs A,.rs 0 0 m,atV N A]) [some ⟨1,zah f,0⟩]:=by
 refine zq7.acalls (nbz rfl) (nbz rfl) (Nat.le_refl _) ?_
 show awp _ 1 _ _ ⟨54,[(0,eN ⟨N,A⟩),(1,.rs 0 0 m)],[(0,some ⟨1,zah f,0⟩)],16⟩
 obtain ⟨hn0,hn1,hal,hav⟩:=hn
 simp only at hn0 hn1 hal hav
 refine zab ⟨54,[(1,.rs 0 0 m),(2,.pv (nC ⟨N,A⟩)),(4,.pt 24 0 0)],[(0,some ⟨1,zah f,0⟩),(24,some ⟨4,[[.I 0,.nilS,.nilS,.nilS]],0⟩)],32⟩ rfl ?_ ?_
 ·simp
  exact LeI [(0,0),(24,24)] [16]
 refine zap ⟨54,[(2,.pv (nC ⟨N,A⟩)),(4,.pt 24 0 0),(5,.pt 80 0 0)],[(0,some ⟨1,zah f,0⟩),(24,some ⟨4,[[.I 0,.nilS,.nilS,.nilS]],0⟩),(64,some ⟨1,(List.range N).map fun _=>[.nilS],0⟩),(80,some ⟨4,[[.I N,eEs A,.rs 0 0 m,.rs 64 0 N]],0⟩)],96⟩ rfl ?_ ?_
 ·simp [List.map_const']
  refine ⟨by omega,by omega,rfl,?_⟩
  exact LeI [(0,0),(24,24),(64,64),(80,80)] []
 refine zaa ?_
 refine zab ⟨54,[(4,.pt 24 0 0),(5,.pt 80 0 0),(15,eEs A),(16,.I A.length),(17,.I 0)],[(0,some ⟨1,zah f,0⟩),(24,some ⟨4,[[.I 0,.nilS,.nilS,.nilS]],0⟩),(64,some ⟨1,(List.range N).map fun _=>[.nilS],0⟩),(80,some ⟨4,[[.I N,eEs A,.rs 0 0 m,.rs 64 0 N]],0⟩)],128⟩ rfl ?_ ?_
 ·simp
  exact Le.go [(0,0),(24,24),(64,64),(80,80)] [] rfl rfl (by simp) (by simp [fcd,List.map_const'])
 refine zaf ?_
 refine zao (ι:=Nat) (fun i=>⟨54,[(4,.pt 24 0 0),(5,.pt 80 0 0),(15,eEs A),(16,.I A.length),(17,.I i)],oH N A m f (famE A i),2000⟩) (fun i=>i ≤ A.length) (fun i=>A.length - i) 0 (Nat.zero_le _) ?_ ?_
 ·refine Le.fam0 (s:=2) (N:=N) (o:=64) [0,24,80] rfl (by omega) (by decide) (by simp) (by simp only; omega) (by simp) zpc (fun k hk=>ziK hk) (fun j hj hr=>zpn (by simpa [and_comm,and_left_comm,and_assoc,or_comm,or_left_comm] using hj) hr) (by simp) ?_
  intro j hj e' he
  simp only [List.mem_cons,List.not_mem_nil,or_false] at hj
  rcases hj with rfl | rfl | rfl
  ·rw [oH_0] at he
   cases he
   exact ⟨⟨1,zah f,0⟩,by simp,by simp only [zax]; rw [zfT _ (fun v=>by simp [conv]) _ (by simp)]; exact zaI.rfl' (Nat.zero_le _)⟩
  ·rw [zqR] at he
   cases he
   exact ⟨⟨4,[[.I 0,.nilS,.nilS,.nilS]],0⟩,by simp,by simp [zax]; exact zaI.rfl' (Nat.zero_le _)⟩
  ·rw [znI] at he
   cases he
   exact ⟨⟨4,[[.I N,eEs A,.rs 0 0 m,.rs 64 0 N]],0⟩,by simp,by simp [zax]; exact zaI.rfl' (Nat.zero_le _)⟩
 intro i hi
 refine zab ⟨54,[(4,.pt 24 0 0),(5,.pt 80 0 0),(15,eEs A),(16,.I A.length),(17,.I i),(18,.B (decide (i < A.length)))],oH N A m f (famE A i),2008⟩ rfl ?_ ?_
 ·simp
  exact Le.slot (by omega) (by simp)
 refine zaa ?_
 refine zac _ rfl (fun h5=>?_) fun h5=>?_
 ·simp at h5
  have hw1 : IntKind.i64.wrap ((i : Int) + 1) = (i : Int) + 1:=w64 (by omega) (by omega)
  have heo:=hav _ (List.getElem_mem h5)
  have harc : arcD A i = A[i]:=by unfold arcD; rw [List.getD_eq_getElem?_getD,List.getElem?_eq_getElem h5,Option.getD_some]
  obtain ⟨e,he⟩ : ∃ e,e = A[i]:=⟨_,rfl⟩
  rw [← he] at heo harc
  obtain ⟨q1,q2,q3,q4,q5,_⟩:=heo
  obtain ⟨a,haf,haN⟩ : ∃ a : Nat,e.f = a ∧ a < N:=⟨e.f.toNat,by omega,by omega⟩
  obtain ⟨b,hbt,hbN⟩ : ∃ b : Nat,e.t = b ∧ b < N:=⟨e.t.toNat,by omega,by omega⟩
  have hab : a ≠ b:=fun h=>q5 (by omega)
  have hsucc:=zsr (A:=A) (i:=i) (a:=a) (b:=b) (by rw [harc]; exact haf) (by rw [harc]; exact hbt) hab
  have hEs:=zpT A i
  have hEl:=fun k=>ztK A i k
  obtain ⟨E,hE⟩ : ∃ E,E = famE A i:=⟨_,rfl⟩
  rw [← hE] at hsucc hEs hEl ⊢
  refine zae ?_
  refine zaa ?_
  refine zaf ?_
  refine zab ⟨54,[(4,.pt 24 0 0),(5,.pt 80 0 0),(6,.I i),(7,.pv [.I a,.I b,.I e.v]),(15,eEs A),(16,.I A.length),(17,.I i)],oH N A m f E,3000⟩ rfl ?_ ?_
  ·simp [h5,← he,haf,hbt]
   have l24 : lkp (famS N [0,24,64,80]) 24 = some 24:=zhe (.inl (by simp))
   have l80 : lkp (famS N [0,24,64,80]) 80 = some 80:=zhe (.inl (by simp))
   have l0 : lkp (famS N [0,24,64,80]) 0 = some 0:=zhe (.inl (by simp))
   have l64 : lkp (famS N [0,24,64,80]) 64 = some 64:=zhe (.inl (by simp))
   have lno : lkp (famS N [0,24,64,80]) 2032 = none:=zpz (by simp) (by omega)
   refine Le.famS (s:=2) (N:=N) (E:=E) [0,24,64,80] [2032] rfl (by decide) (by simp) (by simp only; omega) (by omega) (by simp; omega) (fun k _=>hEs k) ?_ (fun k hk=>ziK hk) (fun j hj hr=>zpn hj hr) ?_ ?_
   ·intro k hk
    rw [zcO (by omega),zcO (by omega),ziK hk]
   ·simp [l24,l80,lno]
   ·intro j hj e' he'
    simp only [List.mem_cons,List.not_mem_nil,or_false] at hj
    rcases hj with rfl | rfl | rfl | rfl
    ·rw [oH_0] at he'
     cases he'
     exact ⟨_,by rw [zcO (by omega),zcO (by omega),oH_0],by simp only [zax]; rw [zfT _ (fun v=>by simp [conv]) _ (by simp)]; exact zaI.rfl' (Nat.zero_le _)⟩
    ·rw [zqR] at he'
     cases he'
     exact ⟨_,by rw [zcO (by omega),zcO (by omega),zqR],by simp [zax]; exact zaI.rfl' (Nat.zero_le _)⟩
    ·rw [zpc] at he'
     cases he'
     refine ⟨_,by rw [zcO (by omega),zcO (by omega),zpc],?_⟩
     simp only [zax]
     rw [zrV]
     exact zaI.rfl' (Nat.zero_le _)
    ·rw [znI] at he'
     cases he'
     exact ⟨_,by rw [zcO (by omega),zcO (by omega),znI],by simp [zax,l0,l64]; exact zaI.rfl' (Nat.zero_le _)⟩
  refine zap ⟨54,[(4,.pt 24 0 0),(5,.pt 80 0 0),(6,.I i),(7,.pv [.I a,.I b,.I e.v]),(15,eEs A),(16,.I A.length),(17,.I i)],oH N A m f (grow E a (zby (i,false))),4000⟩ rfl ?_ ?_
  ·have hl:=hEl a
   have hne : ¬ a = 2096:=by omega
   simp [znI,zpc,ziK haN,haN,zht haN,zhO,famV,hne]
   refine ⟨by omega,by omega,rfl,?_⟩
   have l24 : lkp (famR 3104 a N [0,24,64,80]) 24 = some 24:=ze7 (by omega) (.inl (by simp))
   have l80 : lkp (famR 3104 a N [0,24,64,80]) 80 = some 80:=ze7 (by omega) (.inl (by simp))
   refine Le.oStep (x:=3104) (y:=3096) haN (by omega) (by omega) (by omega) (by omega) (by omega) hEs (zjF _) ?_ ?_
   ·simp
   ·simp [l24,l80]
  have hEs1:=zs7 (a:=a) hEs (zjF (i,false))
  have hEl1 : (grow E a (zby (i,false)) b).length ≤ 2 * i:=by
   have:=hEl b
   simp only [grow,if_neg hab.symm]
   exact this
  obtain ⟨E1,hE1⟩ : ∃ E1,E1 = grow E a (zby (i,false)):=⟨_,rfl⟩
  rw [← hE1] at hEs1 hEl1 hsucc ⊢
  refine zbP rfl ?_
  have hne : ¬ b = 3096:=by omega
  simp [znI,zpc,ziK hbN,hbN,zht hbN,zhO,famV,hne]
  refine ⟨by omega,by omega,rfl,?_⟩
  refine zav rfl ?_
  simp
  have l24 : lkp (famR 4104 b N [0,24,64,80]) 24 = some 24:=ze7 (by omega) (.inl (by simp))
  have l80 : lkp (famR 4104 b N [0,24,64,80]) 80 = some 80:=ze7 (by omega) (.inl (by simp))
  refine ⟨i + 1,by omega,by omega,?_⟩
  rw [hsucc]
  refine Le.oStep (x:=4104) (y:=4096) hbN (by omega) (by omega) (by omega) (by omega) (by omega) hEs1 (zjF _) ?_ ?_
  ·simp
  ·simp [l24,l80,hw1]
 simp at h5
 obtain rfl : i = A.length:=by omega
 refine zan ?_
 refine hit ?_
 refine zab ⟨54,[(4,.pt 24 0 0)],[(0,some ⟨1,zah f,0⟩),(24,some ⟨4,[[.I N,eEs A,.rs 0 0 m,atV N A]],0⟩)],5000⟩ rfl ?_ ?_
 ·simp [znI,zqR]
  have hcv : ∀ {h : Nat → Option Ent},h 64 = some ⟨1,famO N (famE A A.length),0⟩ → (∀ k < N,h (k + 1000) = some ⟨2,famE A A.length k,0⟩) → conv [(0,0),(24,24)] (64 :: famI N) h 4 (.rs 64 0 N) = atV N A:=fun h1 h2 =>
   zth (fun k _=>zpT A A.length k) (by simp) (by simp) (fun k hk=>by simp [zem]; omega) h1 h2
  refine Le.famOut (N:=N) (o:=64) (L:=[0,24]) rfl (by decide) (by simp) (by simp) (by simp) (by omega) (by omega) ?_ ?_ ?_
  ·intro j hj
   have hj' : j ≠ 0 ∧ j ≠ 24:=by simpa using hj
   simp [hj'.1.symm,hj'.2.symm]
  ·simp
  ·intro j hj e' he'
   simp only [List.mem_cons,List.not_mem_nil,or_false] at hj
   rcases hj with rfl | rfl
   ·simp at he'
    subst he'
    refine ⟨_,by rw [zcO (by omega),oH_0],?_⟩
    simp only [zax]
    rw [zfT _ (fun v=>by simp [conv]) _ (by simp)]
    exact zaI.rfl' (Nat.zero_le _)
   ·simp at he'
    subst he'
    refine ⟨_,by rw [zqi,if_pos rfl],?_⟩
    refine zaI.eq ?_ (Nat.zero_le _)
    simp only [zax,List.map_cons,List.map_nil]
    rw [hcv (by rw [zcO (by omega),zpc]) (fun k hk=>by rw [zcO (by omega),ziK hk])]
    simp
 refine zag ?_
 exact ⟨.inr rfl,zak.k1 rfl (by simp) (by simp [fcd])⟩
abbrev rC (N : Nat) (A : List Ed) (f : AV) : List AV:=[.I N,eEs A,f,atV N A]
abbrev eR (N : Nat) (A : List Ed) (f : AV) : AV:=.agg (rC N A f)
theorem zop {A : List Ed} {i : Nat} (h : i < A.length) : A[i]? = some (arcD A i):=by
 unfold arcD
 rw [List.getD_eq_getElem?_getD,List.getElem?_eq_getElem h,Option.getD_some]
set_option maxRecDepth 100000 in
theorem zsO (N : Nat) (A : List Ed) (f : List Int) (s : Stp) (hn : za8 ⟨N,A⟩) (hf : Fit2 A f) (hs : s.1 < A.length) : zai Tryz.prog zbM [eR N A (ints f),.agg (zby s)] [] (.tup [.I (zb2 A f s),.I (stT A s)]) []:=by
 refine zg4.acalls (nbz rfl) (nbz rfl) (Nat.le_refl _) ?_
 show awp _ 0 _ _ ⟨35,[(0,eR N A (ints f)),(1,.agg (zby s))],[],16⟩
 obtain ⟨i,c⟩:=s
 simp only at hs
 obtain ⟨hfl,hfa⟩:=zdo.1 hf
 have hA:=zop hs
 have hi:=hfa i hs
 have hav:=hn.2.2.2 _ (zfi hs)
 have hif : i < f.length:=by omega
 obtain ⟨e,he⟩ : ∃ e,e = arcD A i:=⟨_,rfl⟩
 obtain ⟨w,hw⟩ : ∃ w,w = f.getD i 0:=⟨_,rfl⟩
 have hg : f[i]? = some w:=by rw [hw,List.getD_eq_getElem?_getD,List.getElem?_eq_getElem hif,Option.getD_some]
 have hge : A[i] = e:=by rw [List.getElem?_eq_getElem hs,← he] at hA; exact Option.some.inj hA
 have hgf : f[i] = w:=by rw [List.getElem?_eq_getElem hif] at hg; exact Option.some.inj hg
 rw [← he] at hav
 rw [← hw,← he] at hi
 obtain ⟨_,_,_,_,_,_,_,h8,h9⟩:=hav
 have hwr : IntKind.i64.wrap (e.v - w) = e.v - w:=w64 (by omega) (by omega)
 refine zab ⟨35,[(2,.pv (rC N A (ints f))),(3,.pv [.I i,.B c])],[],48⟩ rfl ?_ ?_
 ·simp
  exact LeH [] [16,24]
 refine zab ⟨35,[(2,.pv (rC N A (ints f))),(3,.pv [.I i,.B c]),(6,.pv (eC e))],[],200⟩ rfl ?_ ?_
 ·simp [hs,hge]
  exact LeH [] [104]
 refine zaa ?_
 refine rx (s:=?s3) [2,3,6,15] [] [] rfl ?o3 ?q3
 case o3=>simp; rfl
 refine zac _ rfl (fun h4=>?_) fun h4=>?_
 ·have hc : c = true:=h4
  subst hc
  have h1 : zb2 A f (i,true) = w:=by unfold zb2; simp [hw]
  have h2 : stT A (i,true) = e.f:=by unfold stT; simp [he]
  rw [h1,h2]
  refine zap ⟨35,[(4,.I w),(5,.I e.f)],[],400⟩ rfl ?_ ?_
  ·simp [hif,hgf]
   exact ⟨rfl,LeH [] []⟩
  refine zag ?_
  exact ⟨.inr rfl,zak.out [] [] rfl (by simp) (by simp) (by simp) (by simp)⟩
 have hc : c = false:=h4
 subst hc
 have h1 : zb2 A f (i,false) = e.v - w:=by unfold zb2; simp [hw,he]
 have h2 : stT A (i,false) = e.t:=by unfold stT; simp [he]
 rw [h1,h2]
 refine zae ?_
 refine zap ⟨35,[(4,.I (e.v - w)),(5,.I e.t)],[],400⟩ rfl ?_ ?_
 ·simp [hif,hgf,hwr]
  exact ⟨rfl,LeH [] []⟩
 refine zag ?_
 exact ⟨.inr rfl,zak.out [] [] rfl (by simp) (by simp) (by simp) (by simp)⟩
theorem zkA : ∀ {l : List (Int × AV)} {q : Int × AV},(l.map (·.1)).Nodup → q ∈ l → zdX q.1 (zgu l) = some q.2
 | (k,x) :: l,q,hn,h=>by
   rw [List.map_cons,List.nodup_cons] at hn
   rw [zgO,List.find?_cons]
   rcases List.mem_cons.1 h with rfl | h
   ·simp
   ·have hne : ¬ k = q.1:=fun e=>hn.1 (e ▸ List.mem_map.2 ⟨q,h,rfl⟩)
    have ih:=zkA hn.2 h
    rw [zgO] at ih
    simpa [hne] using ih
structure MapF (rows : List (List AV)) (φ : Int → Option AV) : Prop where
 is : MapR rows φ
 flat : ∀ n x,φ n = some x → ∃ u v,x = .agg [.sc u,.sc v]
theorem MapF.mem {rows : List (List AV)} {φ : Int → Option AV} (h : MapF rows φ) {r : List AV} (hr : r ∈ rows) : ∃ k u v,r = [.sc k,.agg [.sc u,.sc v]]:=by
 obtain ⟨⟨l,rfl,hn,hf⟩,hfl⟩:=h
 obtain ⟨q,hq,rfl⟩:=List.mem_map.1 hr
 obtain ⟨u,v,e⟩:=hfl q.1 q.2 (by rw [← hf]; exact zkA hn hq)
 exact ⟨_,u,v,by rw [e]⟩
theorem MapF.conv {rows : List (List AV)} {φ : Int → Option AV} (h : MapF rows φ) (ρ : List (Nat × Nat)) (sn : List Nat) (g : Nat → Option Ent) : rows.map (·.map (conv ρ sn g 4)) = rows:=by
 conv=>rhs; rw [← List.map_id rows]
 refine List.map_congr_left fun r hr=>?_
 obtain ⟨k,u,v,rfl⟩:=h.mem hr
 simp
theorem MapF.conv' {rows : List (List AV)} {φ : Int → Option AV} (h : MapF rows φ) (ρ : List (Nat × Nat)) (sn : List Nat) (g : Nat → Option Ent) : rows.map (List.map (Go.Proofs.YthmaflecfppoiaaGreat.conv ρ sn g 4)) = rows:=h.conv ρ sn g
theorem MapF.plain {rows : List (List AV)} {φ : Int → Option AV} (h : MapF rows φ) (s ro : Nat) : ziL ⟨s,rows,ro⟩:=by
 intro r hr x hx
 obtain ⟨k,u,v,rfl⟩:=h.mem hr
 simp only [List.mem_cons,List.not_mem_nil,or_false] at hx
 rcases hx with rfl | rfl
 ·exact .sc _
 ·refine .agg _ fun i=>?_
  match i with
  | 0=>exact .sc _
  | 1=>exact .sc _
  | i + 2=>exact .dead
theorem zfU (D b : List Int) (n : Int) (x : AV) (h : camF D b n = some x) : ∃ u v,x = .agg [.sc u,.sc v]:=by
 unfold camF at h
 split at h
 ·split at h
  ·cases h; exact ⟨_,_,rfl⟩
  ·cases h; exact ⟨_,_,rfl⟩
 ·cases h
theorem MapF.set {rows : List (List AV)} {D b D' b' : List Int} (h : MapF rows (camF D b)) (n : Int) (y : AV) (he : camF D' b' = fun k=>if k = n then some y else camF D b k) : MapF (mset n y rows) (camF D' b') :=
 ⟨by rw [he]; exact h.is.set n y,zfU D' b'⟩
theorem zkR {N : Nat} {A : List Ed} (hn : za8 ⟨N,A⟩) {s : Stp} (hs : s.1 < A.length) : 0 ≤ stT A s ∧ stT A s < N:=by
 have : zji N (arcD A s.1):=hn.2.2.2 _ (zfi hs)
 obtain ⟨q1,q2,q3,q4,_⟩:=this
 unfold stT
 split <;> omega
structure MapI (rows : List (List AV)) (φ : Int → Option AV) : Prop where
 is : MapR rows φ
 flat : ∀ n x,φ n = some x → ∃ v,x = .sc v
theorem MapI.mem {rows : List (List AV)} {φ : Int → Option AV} (h : MapI rows φ) {r : List AV} (hr : r ∈ rows) : ∃ k v,r = [.sc k,.sc v]:=by
 obtain ⟨⟨l,rfl,hn,hf⟩,hfl⟩:=h
 obtain ⟨q,hq,rfl⟩:=List.mem_map.1 hr
 obtain ⟨v,e⟩:=hfl q.1 q.2 (by rw [← hf]; exact zkA hn hq)
 exact ⟨_,v,by rw [e]⟩
theorem MapI.conv' {rows : List (List AV)} {φ : Int → Option AV} (h : MapI rows φ) (ρ : List (Nat × Nat)) (sn : List Nat) (g : Nat → Option Ent) : rows.map (List.map (Go.Proofs.YthmaflecfppoiaaGreat.conv ρ sn g 4)) = rows:=by
 conv=>rhs; rw [← List.map_id rows]
 refine List.map_congr_left fun r hr=>?_
 obtain ⟨k,v,rfl⟩:=h.mem hr
 simp
theorem MapI.set {rows : List (List AV)} {φ ψ : Int → Option AV} (h : MapI rows φ) (n v : Int) (he : ψ = fun k=>if k = n then some (.I v) else φ k) : MapI (mset n (.I v) rows) ψ:=by
 subst he
 refine ⟨h.is.set n (.I v),fun k x hx=>?_⟩
 split at hx
 ·cases hx; exact ⟨_,rfl⟩
 ·exact h.flat k x hx
end Go.Proofs.YthmaflecfppoiaaGreat
