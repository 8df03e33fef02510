/- Texts of this claim,merged. -/
import Derived.Test.YteiabadhhhckfaaGreatRa13
import Derived.Test.YteiabadhhhckfaaGreatRa11
import Derived.Test.YteiabadhhhckfaaGreatRa12
set_option linter.unusedSimpArgs false
set_option linter.unusedVariables false
set_option linter.unusedSectionVars false
namespace Go.Proofs.YteiabadhhhckfaaGreat
open Go
set_option maxRecDepth 100000 in
set_option maxHeartbeats 4000000 in
theorem ref14_Network_ok (g : Gr) (p : Pol) (sinks : List Int) (hg : GrOk g) (hp : PolOk g.size p) (hr : Rise sinks 0 (g.size - 1)) (hs : p.seeds.length ≤ 64) (hsl : sinks.length ≤ 64) :
  ACalls Tryz.prog nref14_Network [eG g,eP p,ints sinks] [] (.tup [eN ⟨2 + 2 * g.size,netArcs g p (capsL g p) sinks⟩,.I 0]) []:=by
 refine sref14_Network.acalls (Nat.le_of_ble_eq_true rfl) (Nat.le_of_ble_eq_true rfl) (Nat.le_refl _) ?_
 show awp _ 0 _ _ ⟨158,[(0,eG g),(1,eP p),(2,ints sinks)],[],16⟩
 have hsz:=hg.1.1
 have hsz2:=hg.1.2.1
 have hel:=hg.edges_le
 have hgl:=hg.gone_le
 have hchk:=ref13_Check_ok g p (by omega) (by omega) (by omega) (by have:=hp.2.2.2.1; omega)
 rw [if_pos hg,if_pos hp] at hchk
 have hcb:=capsL_bound (g:=g) hp
 have hcl : (capsL g p).length = g.size.toNat:=capsL_len
 have hlev:=ref11_Level_ok g p.lv (by omega) (by omega)
 rw [netArcs_flat]
 have hGe : ∀ e ∈ (levelG g p.lv).edges,e ∈ g.edges:=fun e he=>(List.mem_filter.1 he).1
 have hGl : (levelG g p.lv).edges.length ≤ 500:=Nat.le_trans (List.length_filter_le ..) hel
 have hall:=ref12_All_ok (levelG g p.lv) p.seeds (hg.level p.lv) (by omega)
 have hcap:=ref13_All_ok (levelG g p.lv) p (hg.level p.lv) (by omega)
 have hcc : capsL (levelG g p.lv) p = capsL g p:=by unfold capsL; rw [levelG_twice]
 rw [hcc] at hcap
 have hDC : ∀ k : Nat,k < g.size.toNat → ∀ (h1 : k < (distL (levelG g p.lv) p.seeds).length) (h2 : k < (capsL g p).length),0 ≤ (distL (levelG g p.lv) p.seeds)[k] ↔ 0 < (capsL g p)[k]:=fun k hk h1 h2=>by
  have:=capOf_pos hp (d:=(distL (levelG g p.lv) p.seeds)[k])
  rw [← this]
  simp [capsL]
 have hDl : (distL (levelG g p.lv) p.seeds).length = g.size.toNat:=by simp [distL,levelG]
 have hGs : (levelG g p.lv).size = g.size:=rfl
 rw [hGs] at hall hcap
 rw [← hcl] at hcap
 rw [← hDl] at hall
 obtain ⟨C,hC⟩ : ∃ C,C = capsL g p:=⟨_,rfl⟩
 obtain ⟨D,hD⟩ : ∃ D,D = distL (levelG g p.lv) p.seeds:=⟨_,rfl⟩
 rw [← hC] at hcap hcl hcb ⊢
 rw [← hD] at hall hDl
 simp only [← hC,← hD] at hDC
 have hDk : ∀ k : Nat,k < C.length → k < D.length:=fun k hk=>by omega
 have hDC' : ∀ (k : Nat) (h2 : k < C.length),0 ≤ D[k]'(hDk k h2) ↔ 0 < C[k]:=fun k h2=>hDC k (by omega) (hDk k h2) h2
 obtain ⟨G,hG⟩ : ∃ G,G = levelG g p.lv:=⟨_,rfl⟩
 rw [← hG] at hlev hGe hGl hall hcap hGs ⊢
 have hfit : ∀ e ∈ G.edges,(0 ≤ e.f ∧ e.f < g.size) ∧ (0 ≤ e.t ∧ e.t < g.size):=fun e he=>by
  have:=hg.fits e (hGe e he)
  unfold Fits at this
  omega
 have hkey : ∀ k : Int,0 ≤ k → k < g.size → ∃ j : Nat,k = j ∧ j < C.length ∧ j < 64:=fun k h0 h1=>⟨k.toNat,by omega,by omega,by omega⟩
 have hseed : ∀ k ∈ p.seeds,∃ j : Nat,k = j ∧ j < C.length ∧ j < 64:=fun k hk=>by
  obtain ⟨i,hi,rfl⟩:=List.getElem_of_mem hk
  have:=hp.2.1 i hi
  exact hkey _ (by omega) (by omega)
 have hsink : ∀ k ∈ sinks,∃ j : Nat,k = j ∧ j < C.length ∧ j < 64:=fun k hk=>by
  obtain ⟨i,hi,rfl⟩:=List.getElem_of_mem hk
  have:=hr i hi
  exact hkey _ (by omega) (by omega)
 have hw3 : IntKind.i64.wrap (2 * g.size) = 2 * g.size:=w64 (by omega) (by omega)
 have hw4 : IntKind.i64.wrap (2 + 2 * g.size) = 2 + 2 * g.size:=w64 (by omega) (by omega)
 refine awp_regc ⟨158,[(2,ints sinks),(3,.pt 16 0 0),(4,.pv (pC p)),(6,.pt 32 0 0)],[(16,some ⟨3,[gC g],0⟩),(32,some ⟨2,[[.I 0,.nilS]],0⟩)],48⟩ rfl ?_ ?_
 ·simp
  exact Le.go [(16,16),(32,32)] [24] rfl rfl (by simp) (by simp)
 refine awp_seq ?_
 refine rk (s:=?s2) [2,3,4,6,8] [16,32] rfl ?o2 ?q2
 case o2=>simp; refine call0e hchk (by simp) ?_; simp; rfl
 refine rk (s:=?s3) [2,3,4,6,22] [16,32] rfl ?o3 ?q3
 case o3=>simp; rfl
 refine awp_cond _ rfl (fun h4=>?_) fun h4=>awp_skip ?_
 ·simp at h4
 refine awp_seq ?_
 refine rk (s:=?s5) [2,3,4,6,29] [16,32] rfl ?o5 ?q5
 case o5=>simp; refine call0e (ref11_Set_ok sinks g.size (by omega)) (by simp) ?_; simp [hr]; rfl
 refine awp_cond _ rfl (fun h6=>?_) fun h6=>awp_skip ?_
 ·simp at h6
 refine awp_regc ⟨158,[(2,ints sinks),(3,.pv (gC G)),(4,.pv (pC p)),(6,.pt 32 0 0)],[(32,some ⟨2,[[.I 0,.nilS]],0⟩)],176⟩ rfl ?_ ?_
 ·simp
  refine call0e hlev (by simp) ?_
  simp
  exact Le.go [(32,32)] [16] rfl rfl (by simp) (by simp)
 refine awp_dregc ⟨158,[(2,ints sinks),(3,.pv (gC G)),(4,.pv (pC p)),(6,.pt 32 0 0),(9,ints D),(10,ints C)],[(32,some ⟨2,[[.I 0,.nilS]],0⟩)],248⟩ rfl ?_ ?_
 ·simp
  refine callN1 hall (by simp) ?_
  simp [fcd]
  refine callN1 hcap (by simp) ?_
  simp [fcd]
  exact ⟨rfl,Le.go [(32,32)] [200,224] rfl rfl (by simp [fcd,take_map_len]) (by simp)⟩
 refine rk (s:=?s7) [2,3,4,6,9,10,11] [32,288] rfl ?o7 ?q7
 case o7=>simp [hGs,hw3,hw4]; rfl
 obtain ⟨N,hN⟩ : ∃ N : Int,N = 2 + 2 * g.size:=⟨_,rfl⟩
 simp only [← hN]
 have hb1 : (p.seeds.flatMap (arc1 C)).length ≤ 64:=Nat.le_trans (flat_len _ (arc1_len C) _) hs
 have hb2 : ((List.range C.length).flatMap (arc2 C)).length ≤ 64:=Nat.le_trans (flat_len _ (arc2_len C) _) (by rw [List.length_range]; omega)
 have hb3 : (sinks.flatMap (arc3 C)).length ≤ 64:=Nat.le_trans (flat_len _ (arc3_len C) _) hsl
 have hb4 : (G.edges.flatMap (arc4 C)).length ≤ 500:=Nat.le_trans (flat_len _ (arc4_len C) _) hGl
 obtain ⟨X1,hX1⟩ : ∃ X,X = p.seeds.flatMap (arc1 C):=⟨_,rfl⟩
 obtain ⟨X2,hX2⟩ : ∃ X,X = (List.range C.length).flatMap (arc2 C):=⟨_,rfl⟩
 obtain ⟨X3,hX3⟩ : ∃ X,X = sinks.flatMap (arc3 C):=⟨_,rfl⟩
 obtain ⟨X4,hX4⟩ : ∃ X,X = G.edges.flatMap (arc4 C):=⟨_,rfl⟩
 obtain ⟨Z2,hZ2⟩ : ∃ Z,Z = X1 ++ X2:=⟨_,rfl⟩
 obtain ⟨Z3,hZ3⟩ : ∃ Z,Z = Z2 ++ X3:=⟨_,rfl⟩
 obtain ⟨Z4,hZ4⟩ : ∃ Z,Z = Z3 ++ X4:=⟨_,rfl⟩
 rw [← hX1] at hb1
 rw [← hX2] at hb2
 rw [← hX3] at hb3
 rw [← hX4] at hb4
 rw [← hX1,← hX2,← hX3,← hX4,← hZ2,← hZ3,← hZ4]
 have hz2 : Z2.length ≤ 128:=by rw [hZ2,List.length_append]; omega
 have hz3 : Z3.length ≤ 192:=by rw [hZ3,List.length_append]; omega
 refine awp_seq ?_
 refine rk (s:=?sa1) [2,3,4,6,9,10,11,12] [32,288] rfl ?oa1 ?qa1
 case oa1=>simp; rfl
 refine awp_block ?_
 obtain ⟨Fa,Fa0,Fas,Fal,FaN⟩ : ∃ F : Nat → List Ed,F 0 = [] ∧ (∀ i (h : i < (p.seeds).length),F (i + 1) = F i ++ arc1 C (p.seeds)[i]) ∧ (∀ i,(F i).length ≤ 64) ∧ F (p.seeds).length = (p.seeds).flatMap (arc1 C) :=
  ⟨fun i=>((p.seeds).take i).flatMap (arc1 C),by simp,fun i h=>by simp only [flat_succ _ _ i h,List.append_assoc],fun i=>by have:=flat_take_len _ (arc1_len C) (p.seeds) i; exact Nat.le_trans this hs,by simp⟩
 rw [← hX1] at FaN
 refine awp_loop (ι:=Nat) (fun i=>⟨158,[(2,ints sinks),(3,.pv (gC G)),(4,.pv (pC p)),(6,.pt 32 0 0),(9,ints D),(10,ints C),(11,.pt 288 0 0),(12,.I i)],[(32,some ⟨2,[[.I 0,.nilS]],0⟩),(288,some (outV N 16 (Fa i).length)),(16,some ⟨3,rowsE (Fa i),0⟩)],312⟩) (fun i=>i ≤ p.seeds.length) (fun i=>p.seeds.length - i) 0 (Nat.zero_le _) (Le.lst [(32,32),(288,288)] [] [(16,3)] rfl (by simp) (by simp) (by simp) (by simp) (by simp) (by simp) (by simp) (by simp [Up]) (by simp [Fa0]; refine ⟨EntUp.rfl' (by simp),EntUp.row rfl (by omega) (by simp [UpL,Up])⟩)) ?_
 intro i hi
 refine awp_seq ?_
 refine rk (s:=?sa2) [2,3,4,6,9,10,11,12,51] [32,288,16] rfl ?oa2 ?qa2
 case oa2=>simp; rfl
 refine awp_cond _ rfl (fun h7=>?_) fun h7=>?_
 ·simp at h7
  have hw : IntKind.i64.wrap ((i : Int) + 1) = (i : Int) + 1:=w64 (by omega) (by omega)
  have hFi:=Fal i
  obtain ⟨k,hk,hkC,hk64⟩:=hseed _ (List.getElem_mem h7)
  have hFn : Fa (i + 1) = Fa i ++ if 0 < C[k] then [⟨0,2 + 2 * (k : Int),C[k]⟩] else []:=by
   rw [Fas i h7,hk]
   unfold arc1
   simp [hkC]
  have hkD:=hDk _ hkC
  have hdc:=hDC' _ hkC
  refine awp_skip ?_
  refine awp_cut (ι:=Unit) (fun _=>⟨158,[(2,ints sinks),(3,.pv (gC G)),(4,.pv (pC p)),(6,.pt 32 0 0),(9,ints D),(10,ints C),(11,.pt 288 0 0),(12,.I i)],[(32,some ⟨2,[[.I 0,.nilS]],0⟩),(288,some (outV N 16 (Fa (i + 1)).length)),(16,some ⟨3,rowsE (Fa (i + 1)),0⟩)],800⟩) (fun _=>True) ?_ fun _ _=>?_
  ·refine awp_block ?_
   refine rk (s:=?sa3) [2,3,4,6,9,10,11,12,13] [32,288,16] rfl ?oa3 ?qa3
   case oa3=>simp [h7,hk]; rfl
   refine rk (s:=?sa4) [2,3,4,6,9,10,11,12,13,63] [32,288,16] rfl ?oa4 ?qa4
   case oa4=>simp [hkD]; rfl
   refine awp_cond _ rfl (fun h8=>?_) fun h8=>?_
   ·simp at h8
    rw [if_pos (hdc.1 h8)] at hFn
    have htl : ∀ f : Ed → List AV,List.take (Fa i).length (List.map f (Fa i)) = List.map f (Fa i):=fun f=>List.take_of_length_le (by simp)
    refine awp_drw rfl ?_
    simp [hkC]
    refine call0e (ref14_Entry_ok k (by omega) (by omega)) (by simp) ?_
    simp [htl,hkC]
    refine ⟨by omega,by omega,?_⟩
    exact ⟨rfl,Le.go [(32,32),(288,288),(520,16)] [] rfl rfl (by simp [hFn]) (by simp [hFn,fcd])⟩
   ·simp at h8
    rw [if_neg (by omega)] at hFn
    refine awp_skip ?_
    exact ⟨(),trivial,Le.go [(32,32),(288,288),(16,16)] [] rfl rfl (by simp [hFn]) (by simp [hFn,fcd])⟩
  refine awp_run (s:=?sa9) rfl ?oa9 ?qa9
  case oa9=>simp; rfl
  exact ⟨i + 1,by omega,by omega,Le.go [(32,32),(288,288),(16,16)] [] rfl rfl (by simp [hw]) (by simp [fcd])⟩
 simp at h7
 obtain rfl : i = p.seeds.length:=by omega
 rw [FaN]
 refine awp_exit ?_
 refine hit ?_
 refine awp_seq ?_
 refine rk (s:=?sb1) [2,3,6,9,10,11,14] [32,288,16] rfl ?ob1 ?qb1
 case ob1=>simp; rfl
 refine awp_block ?_
 obtain ⟨Fb,Fb0,Fbs,Fbl,FbN⟩ : ∃ F : Nat → List Ed,F 0 = X1 ∧ (∀ i (h : i < (List.range C.length).length),F (i + 1) = F i ++ arc2 C (List.range C.length)[i]) ∧ (∀ i,(F i).length ≤ 200) ∧ F (List.range C.length).length = X1 ++ (List.range C.length).flatMap (arc2 C) :=
  ⟨fun i=>X1 ++ ((List.range C.length).take i).flatMap (arc2 C),by simp,fun i h=>by simp only [flat_succ _ _ i h,List.append_assoc],fun i=>by have:=flat_take_len _ (arc2_len C) (List.range C.length) i; rw [List.length_range] at this; rw [List.length_append]; omega,by simp⟩
 rw [List.length_range,← hX2,← hZ2] at FbN
 refine awp_loop (ι:=Nat) (fun i=>⟨158,[(2,ints sinks),(3,.pv (gC G)),(6,.pt 32 0 0),(9,ints D),(10,ints C),(11,.pt 288 0 0),(14,.I i)],[(32,some ⟨2,[[.I 0,.nilS]],0⟩),(288,some (outV N 16 (Fb i).length)),(16,some ⟨3,rowsE (Fb i),0⟩)],360⟩) (fun i=>i ≤ C.length) (fun i=>C.length - i) 0 (Nat.zero_le _) (Le.go [(32,32),(288,288),(16,16)] [] rfl rfl (by simp [Fb0]) (by simp [Fb0,fcd])) ?_
 intro i hi
 refine awp_seq ?_
 refine rk (s:=?sb2) [2,3,6,9,10,11,14,79] [32,288,16] rfl ?ob2 ?qb2
 case ob2=>simp; rfl
 refine awp_cond _ rfl (fun h7=>?_) fun h7=>?_
 ·simp [hGs] at h7
  have hw : IntKind.i64.wrap ((i : Int) + 1) = (i : Int) + 1:=w64 (by omega) (by omega)
  have hFi:=Fbl i
  have hkC : i < C.length:=by omega
  have hFn : Fb (i + 1) = Fb i ++ if 0 < C[i] then [⟨2 + 2 * (i : Int),3 + 2 * (i : Int),C[i] - 1⟩] else []:=by
   rw [Fbs i (by simpa using hkC)]
   unfold arc2
   simp [hkC]
  have hci:=hcb _ (List.getElem_mem hkC)
  have hwc : IntKind.i64.wrap (C[i] - 1) = C[i] - 1:=w64 (by omega) (by omega)
  have hkD:=hDk _ hkC
  have hdc:=hDC' _ hkC
  refine awp_skip ?_
  refine awp_cut (ι:=Unit) (fun _=>⟨158,[(2,ints sinks),(3,.pv (gC G)),(6,.pt 32 0 0),(9,ints D),(10,ints C),(11,.pt 288 0 0),(14,.I i)],[(32,some ⟨2,[[.I 0,.nilS]],0⟩),(288,some (outV N 16 (Fb (i + 1)).length)),(16,some ⟨3,rowsE (Fb (i + 1)),0⟩)],800⟩) (fun _=>True) ?_ fun _ _=>?_
  ·refine awp_block ?_
   refine rk (s:=?sb3) [2,3,6,9,10,11,14,86] [32,288,16] rfl ?ob3 ?qb3
   case ob3=>simp [hkD]; rfl
   refine awp_cond _ rfl (fun h8=>?_) fun h8=>?_
   ·simp at h8
    rw [if_pos (hdc.1 h8)] at hFn
    have htl : ∀ f : Ed → List AV,List.take (Fb i).length (List.map f (Fb i)) = List.map f (Fb i):=fun f=>List.take_of_length_le (by simp)
    refine awp_drw rfl ?_
    simp [hkC,hwc]
    refine call0e (ref14_Entry_ok i (by omega) (by omega)) (by simp) ?_
    simp [htl,hkC,hwc]
    refine call0e (ref14_Exit_ok i (by omega) (by omega)) (by simp) ?_
    simp [htl,hkC,hwc]
    refine ⟨by omega,by omega,?_⟩
    exact ⟨rfl,Le.go [(32,32),(288,288),(536,16)] [] rfl rfl (by simp [hFn]) (by simp [hFn,fcd])⟩
   ·simp at h8
    rw [if_neg (by omega)] at hFn
    refine awp_skip ?_
    exact ⟨(),trivial,Le.go [(32,32),(288,288),(16,16)] [] rfl rfl (by simp [hFn]) (by simp [hFn,fcd])⟩
  refine awp_run (s:=?sb9) rfl ?ob9 ?qb9
  case ob9=>simp; rfl
  exact ⟨i + 1,by omega,by omega,Le.go [(32,32),(288,288),(16,16)] [] rfl rfl (by simp [hw]) (by simp [fcd])⟩
 simp [hGs] at h7
 obtain rfl : i = C.length:=by omega
 rw [FbN]
 refine awp_exit ?_
 refine hit ?_
 refine awp_seq ?_
 refine rk (s:=?sc1) [2,3,6,9,11,15] [32,288,16] rfl ?oc1 ?qc1
 case oc1=>simp; rfl
 refine awp_block ?_
 obtain ⟨Fc,Fc0,Fcs,Fcl,FcN⟩ : ∃ F : Nat → List Ed,F 0 = Z2 ∧ (∀ i (h : i < (sinks).length),F (i + 1) = F i ++ arc3 C (sinks)[i]) ∧ (∀ i,(F i).length ≤ 300) ∧ F (sinks).length = Z2 ++ (sinks).flatMap (arc3 C) :=
  ⟨fun i=>Z2 ++ ((sinks).take i).flatMap (arc3 C),by simp,fun i h=>by simp only [flat_succ _ _ i h,List.append_assoc],fun i=>by have:=flat_take_len _ (arc3_len C) (sinks) i; simp only [List.length_append]; omega,by simp⟩
 rw [← hX3,← hZ3] at FcN
 refine awp_loop (ι:=Nat) (fun i=>⟨158,[(2,ints sinks),(3,.pv (gC G)),(6,.pt 32 0 0),(9,ints D),(11,.pt 288 0 0),(15,.I i)],[(32,some ⟨2,[[.I 0,.nilS]],0⟩),(288,some (outV N 16 (Fc i).length)),(16,some ⟨3,rowsE (Fc i),0⟩)],400⟩) (fun i=>i ≤ sinks.length) (fun i=>sinks.length - i) 0 (Nat.zero_le _) (Le.go [(32,32),(288,288),(16,16)] [] rfl rfl (by simp [Fc0]) (by simp [Fc0,fcd])) ?_
 intro i hi
 refine awp_seq ?_
 refine rk (s:=?sc2) [2,3,6,9,11,15,105] [32,288,16] rfl ?oc2 ?qc2
 case oc2=>simp; rfl
 refine awp_cond _ rfl (fun h7=>?_) fun h7=>?_
 ·simp at h7
  have hw : IntKind.i64.wrap ((i : Int) + 1) = (i : Int) + 1:=w64 (by omega) (by omega)
  have hFi:=Fcl i
  obtain ⟨k,hk,hkC,hk64⟩:=hsink _ (List.getElem_mem h7)
  have hFn : Fc (i + 1) = Fc i ++ if 0 < C[k] then [⟨2 + 2 * (k : Int),1,1⟩] else []:=by
   rw [Fcs i h7,hk]
   unfold arc3
   simp [hkC]
  have hkD:=hDk _ hkC
  have hdc:=hDC' _ hkC
  refine awp_skip ?_
  refine awp_cut (ι:=Unit) (fun _=>⟨158,[(2,ints sinks),(3,.pv (gC G)),(6,.pt 32 0 0),(9,ints D),(11,.pt 288 0 0),(15,.I i)],[(32,some ⟨2,[[.I 0,.nilS]],0⟩),(288,some (outV N 16 (Fc (i + 1)).length)),(16,some ⟨3,rowsE (Fc (i + 1)),0⟩)],800⟩) (fun _=>True) ?_ fun _ _=>?_
  ·refine awp_block ?_
   refine rk (s:=?sc3) [2,3,6,9,11,15,115] [32,288,16] rfl ?oc3 ?qc3
   case oc3=>simp [h7,hk,hkD]; rfl
   refine awp_cond _ rfl (fun h8=>?_) fun h8=>?_
   ·simp at h8
    rw [if_pos (hdc.1 h8)] at hFn
    have htl : ∀ f : Ed → List AV,List.take (Fc i).length (List.map f (Fc i)) = List.map f (Fc i):=fun f=>List.take_of_length_le (by simp)
    refine awp_drw rfl ?_
    simp [h7,hk]
    refine call0e (ref14_Entry_ok k (by omega) (by omega)) (by simp) ?_
    simp [htl,h7,hk]
    refine ⟨by omega,by omega,?_⟩
    exact ⟨rfl,Le.go [(32,32),(288,288),(568,16)] [] rfl rfl (by simp [hFn]) (by simp [hFn,fcd])⟩
   ·simp at h8
    rw [if_neg (by omega)] at hFn
    refine awp_skip ?_
    exact ⟨(),trivial,Le.go [(32,32),(288,288),(16,16)] [] rfl rfl (by simp [hFn]) (by simp [hFn,fcd])⟩
  refine awp_run (s:=?sc9) rfl ?oc9 ?qc9
  case oc9=>simp; rfl
  exact ⟨i + 1,by omega,by omega,Le.go [(32,32),(288,288),(16,16)] [] rfl rfl (by simp [hw]) (by simp [fcd])⟩
 simp at h7
 obtain rfl : i = sinks.length:=by omega
 rw [FcN]
 refine awp_exit ?_
 refine hit ?_
 refine awp_seq ?_
 refine rk (s:=?sd1) [3,6,9,11,16] [32,288,16] rfl ?od1 ?qd1
 case od1=>simp; rfl
 refine awp_block ?_
 obtain ⟨Fd,Fd0,Fds,Fdl,FdN⟩ : ∃ F : Nat → List Ed,F 0 = Z3 ∧ (∀ i (h : i < (G.edges).length),F (i + 1) = F i ++ arc4 C (G.edges)[i]) ∧ (∀ i,(F i).length ≤ 900) ∧ F (G.edges).length = Z3 ++ (G.edges).flatMap (arc4 C) :=
  ⟨fun i=>Z3 ++ ((G.edges).take i).flatMap (arc4 C),by simp,fun i h=>by simp only [flat_succ _ _ i h,List.append_assoc],fun i=>by have:=flat_take_len _ (arc4_len C) (G.edges) i; simp only [List.length_append]; omega,by simp⟩
 rw [← hX4,← hZ4] at FdN
 refine awp_loop (ι:=Nat) (fun i=>⟨158,[(3,.pv (gC G)),(6,.pt 32 0 0),(9,ints D),(11,.pt 288 0 0),(16,.I i)],[(32,some ⟨2,[[.I 0,.nilS]],0⟩),(288,some (outV N 16 (Fd i).length)),(16,some ⟨3,rowsE (Fd i),0⟩)],440⟩) (fun i=>i ≤ G.edges.length) (fun i=>G.edges.length - i) 0 (Nat.zero_le _) (Le.go [(32,32),(288,288),(16,16)] [] rfl rfl (by simp [Fd0]) (by simp [Fd0,fcd])) ?_
 intro i hi
 refine awp_seq ?_
 refine rk (s:=?sd2) [3,6,9,11,16,131] [32,288,16] rfl ?od2 ?qd2
 case od2=>simp; rfl
 refine awp_cond _ rfl (fun h7=>?_) fun h7=>?_
 ·simp at h7
  have hw : IntKind.i64.wrap ((i : Int) + 1) = (i : Int) + 1:=w64 (by omega) (by omega)
  have hFi:=Fdl i
  obtain ⟨x,hx⟩ : ∃ x,x = G.edges[i]:=⟨_,rfl⟩
  have hfx:=hfit _ (List.getElem_mem h7)
  rw [← hx] at hfx
  obtain ⟨k,hk,hkC,hk64⟩:=hkey x.f hfx.1.1 hfx.1.2
  obtain ⟨u,hu,huC,hu64⟩:=hkey x.t hfx.2.1 hfx.2.2
  have hFn : Fd (i + 1) = Fd i ++ if 0 < C[k] then [⟨3 + 2 * (k : Int),2 + 2 * (u : Int),64⟩] else []:=by
   rw [Fds i h7,← hx]
   unfold arc4
   rw [hk,hu]
   simp [hkC]
  have hkD:=hDk _ hkC
  have hdc:=hDC' _ hkC
  refine awp_skip ?_
  refine awp_cut (ι:=Unit) (fun _=>⟨158,[(3,.pv (gC G)),(6,.pt 32 0 0),(9,ints D),(11,.pt 288 0 0),(16,.I i)],[(32,some ⟨2,[[.I 0,.nilS]],0⟩),(288,some (outV N 16 (Fd (i + 1)).length)),(16,some ⟨3,rowsE (Fd (i + 1)),0⟩)],800⟩) (fun _=>True) ?_ fun _ _=>?_
  ·refine awp_block ?_
   refine awp_regc ⟨158,[(3,.pv (gC G)),(6,.pt 32 0 0),(9,ints D),(11,.pt 288 0 0),(16,.I i),(17,.pv (eC x))],[(32,some ⟨2,[[.I 0,.nilS]],0⟩),(288,some (outV N 16 (Fd i).length)),(16,some ⟨3,rowsE (Fd i),0⟩)],536⟩ rfl ?_ ?_
   ·simp [h7,← hx]
    exact Le.go [(32,32),(288,288),(16,16)] [520] rfl rfl (by simp) (by simp [fcd])
   refine rk (s:=?sd4) [3,6,9,11,16,17,144] [32,288,16] rfl ?od4 ?qd4
   case od4=>simp [hk,hkD]; rfl
   refine awp_cond _ rfl (fun h8=>?_) fun h8=>?_
   ·simp at h8
    rw [if_pos (hdc.1 h8)] at hFn
    have htl : ∀ f : Ed → List AV,List.take (Fd i).length (List.map f (Fd i)) = List.map f (Fd i):=fun f=>List.take_of_length_le (by simp)
    refine awp_drw rfl ?_
    simp [hk,hu]
    refine call0e (ref14_Exit_ok k (by omega) (by omega)) (by simp) ?_
    simp [htl,hk,hu]
    refine call0e (ref14_Entry_ok u (by omega) (by omega)) (by simp) ?_
    simp [htl,hk,hu]
    refine ⟨by omega,by omega,?_⟩
    exact ⟨rfl,Le.go [(32,32),(288,288),(664,16)] [] rfl rfl (by simp [hFn]) (by simp [hFn,fcd])⟩
   ·simp at h8
    rw [if_neg (by omega)] at hFn
    refine awp_skip ?_
    exact ⟨(),trivial,Le.go [(32,32),(288,288),(16,16)] [] rfl rfl (by simp [hFn]) (by simp [hFn,fcd])⟩
  refine awp_run (s:=?sd9) rfl ?od9 ?qd9
  case od9=>simp; rfl
  exact ⟨i + 1,by omega,by omega,Le.go [(32,32),(288,288),(16,16)] [] rfl rfl (by simp [hw]) (by simp [fcd])⟩
 simp at h7
 obtain rfl : i = G.edges.length:=by omega
 rw [FdN]
 refine awp_exit ?_
 refine hit ?_
 refine rk (s:=?sz) [6,7] [32,16] rfl ?oz ?qz
 case oz=>simp; rfl
 refine awp_ret ?_
 exact ⟨.inr rfl,RetOk.out [] [16] rfl (by simp) (by simp) (by simp [hN,fcd,take_map_len]) (by simp)⟩
instance (g : Gr) (lv f t : Int) : Decidable (EdgeAt g lv f t):=by unfold EdgeAt; infer_instance
theorem rise_join {a : List Int} {n : Int} (h : ∀ k ∈ a,0 ≤ k ∧ k < n) : Rise (joinL a) 0 (n - 1):=by
 intro i hi
 have hm:=mem_joinL.1 (List.getElem_mem hi)
 have:=h _ hm.1
 refine ⟨by omega,by omega,fun hp=>?_⟩
 exact (List.pairwise_iff_getElem.1 (joinL_lt a)) (i - 1) i (by omega) hi (by omega)
theorem joinL_len (a : List Int) : (joinL a).length ≤ 64:=Nat.le_trans (List.length_filter_le ..) (by simp)
theorem netArcs_len (g : Gr) (p : Pol) (sinks : List Int) (hg : GrOk g) (hs : p.seeds.length ≤ 64) (hsl : sinks.length ≤ 64) : (netArcs g p (capsL g p) sinks).length ≤ 1000:=by
 rw [netArcs_flat]
 have h1:=flat_len _ (arc1_len (capsL g p)) p.seeds
 have h2:=flat_len _ (arc2_len (capsL g p)) (List.range (capsL g p).length)
 have h3:=flat_len _ (arc3_len (capsL g p)) sinks
 have h4:=flat_len _ (arc4_len (capsL g p)) (levelG g p.lv).edges
 have h5 : (levelG g p.lv).edges.length ≤ g.edges.length:=List.length_filter_le ..
 have h6:=hg.edges_le
 have h7:=hg.1.2.1
 have h8:=hg.1.1
 rw [List.length_range] at h2
 have h9 : (capsL g p).length = g.size.toNat:=capsL_len
 simp only [List.length_append]
 omega
def netN (g : Gr) : Nat:=(2 + 2 * g.size).toNat
theorem netN_int {g : Gr} (hg : GrOk g) : ((netN g : Nat) : Int) = 2 + 2 * g.size:=by unfold netN; have:=hg.1.1; omega
abbrev netA (g : Gr) (p : Pol) (ks : List Int) : List Ed:=netArcs g p (capsL g p) ks
def CanServe (g : Gr) (p : Pol) (ks : List Int) : Prop:=maxF (netN g) (netA g p ks) = ks.length
theorem netA_ok {g : Gr} {p : Pol} {ks : List Int} (hg : GrOk g) (hp : PolOk g.size p) (hk : ∀ x ∈ ks,0 ≤ x ∧ x < g.size) : NetOk (netN g) (netA g p ks):=netArcs_ok hg hp hk
theorem netA_val {g : Gr} {p : Pol} {ks : List Int} (hg : GrOk g) (hp : PolOk g.size p) (hk : ∀ x ∈ ks,0 ≤ x ∧ x < g.size) (hs : p.seeds.length ≤ 64) (hsl : ks.length ≤ 64) : NetVal ⟨netN g,netA g p ks⟩:=by
 have h1:=netA_ok hg hp hk
 have h2 : (netA g p ks).length ≤ 1000:=netArcs_len g p ks hg hs hsl
 have h3:=hg.1.2.1
 have hN:=netN_int hg
 have h0:=hg.1.1
 have hcb : ∀ i : Nat,(capsL g p).getD i 0 ≤ 1000:=fun i=>by
  rw [List.getD_eq_getElem?_getD]
  cases h : (capsL g p)[i]? with
  | none=>simp
  | some v =>
    have hm:=List.mem_of_getElem? h
    unfold capsL at hm
    obtain ⟨d,_,rfl⟩:=List.mem_map.1 hm
    exact (capOf_bound hp d).2
 refine ⟨by simp only; omega,by simp only; omega,by simp only; omega,fun a ha=>?_⟩
 obtain ⟨q1,q2,q3,q4,q5,q6,q7,q8⟩:=h1.arc a ha
 refine ⟨q1,by simp only; omega,q3,by simp only; omega,q5,q6,q7,q8,?_⟩
 simp only [netA,netArcs] at ha
 rcases List.mem_append.1 ha with ha | ha
 ·rcases List.mem_append.1 ha with ha | ha
  ·rcases List.mem_append.1 ha with ha | ha
   ·obtain ⟨x,hx,rfl⟩:=List.mem_map.1 ha
    have:=hcb x.toNat
    simp only
    omega
   ·obtain ⟨i,hx,rfl⟩:=List.mem_map.1 ha
    have:=hcb i
    simp only
    omega
  ·obtain ⟨x,hx,rfl⟩:=List.mem_map.1 ha
   simp
 ·obtain ⟨e,hx,rfl⟩:=List.mem_map.1 ha
  simp
structure GreatF (g : Gr) (p : Pol) (ks f : List Int) : Prop where
 ok : FlowOk (netN g) (netA g p ks) f
 most : ∀ f',FlowOk (netN g) (netA g p ks) f' → valF (netA g p ks) f' ≤ valF (netA g p ks) f
 val : valF (netA g p ks) f = maxF (netN g) (netA g p ks)
theorem rise_in {ks : List Int} {n : Int} (h : Rise ks 0 (n - 1)) : ∀ x ∈ ks,0 ≤ x ∧ x < n:=fun x hx=>by
 have:=h.nodup.2 x hx
 omega
set_option maxRecDepth 100000 in
set_option maxHeartbeats 4000000 in
open Classical in
theorem served_a (g : Gr) (p : Pol) (ks : List Int) (hg : GrOk g) (hp : PolOk g.size p) (hr : Rise ks 0 (g.size - 1)) (hs : p.seeds.length ≤ 64) (hsl : ks.length ≤ 64) :
  ∃ f,GreatF g p ks f ∧ ACalls Tryz.prog nref17_served [eG g,eP p,ints ks] [] (.tup [eN ⟨netN g,netA g p ks⟩,.rs 0 0 (netA g p ks).length,.B (decide (CanServe g p ks))]) [some ⟨1,rowsI f,0⟩]:=by
 have hnet:=ref14_Network_ok g p ks hg hp hr hs hsl
 rw [← netN_int hg] at hnet
 have hnv:=netA_val hg hp (rise_in hr) hs hsl
 obtain ⟨f,⟨hf1,hf2⟩,hmax⟩:=Max_a _ _ hnv
 have hval:=ref15_Value_flow hnv hf1
 have hmf:=maxF_of hf1 hf2
 refine ⟨f,⟨hf1,hf2,hmf.symm⟩,?_⟩
 have hcs : CanServe g p ks ↔ valF (netA g p ks) f = ks.length:=by unfold CanServe; rw [hmf]
 have hfl:=hf1.fit.len
 obtain ⟨A,hA⟩ : ∃ A,A = netA g p ks:=⟨_,rfl⟩
 obtain ⟨N,hN⟩ : ∃ N,N = netN g:=⟨_,rfl⟩
 rw [show netArcs g p (capsL g p) ks = A from hA.symm,← hN] at hnet
 rw [← hA,← hN] at hmax hval
 rw [← hA] at hcs hfl ⊢
 rw [← hN]
 refine sref17_served.acalls (Nat.le_of_ble_eq_true rfl) (Nat.le_of_ble_eq_true rfl) (Nat.zero_le _) ?_
 show awp _ 0 _ _ ⟨33,[(0,eG g),(1,eP p),(2,ints ks)],[],16⟩
 have htake : ∀ g : Int → List AV,List.take A.length (List.map g f) = List.map g f:=fun g=>List.take_of_length_le (by simp; omega)
 refine rx (s:=?s1) [2,3,4,6] [32] [16,24] rfl ?o1 ?q1
 case o1=>simp; rfl
 refine rx (s:=?s2) [2,6,9] [32] [112] rfl ?o2 ?q2
 case o2=>simp; refine call0e hnet (by simp) ?_; simp; rfl
 refine awp_regc ⟨33,[(2,ints ks),(6,.pt 32 0 0),(9,.pv (nC ⟨N,A⟩)),(11,.rs 33 0 A.length)],[(32,some ⟨2,[[.I 0,.sc (.slice none 0 0)]],0⟩),(33,some ⟨1,rowsI f,0⟩)],300⟩ rfl ?_ ?_
 ·simp
  refine callN1 hmax (by simp) ?_
  simp
  exact Le.go [(32,32),(144,33)] [] rfl rfl (by simp) (by simp [fcd])
 refine awp_dregc ⟨33,[(6,.pt 32 0 0),(7,.rs 33 0 A.length),(8,.B (decide (CanServe g p ks)))],[(32,some ⟨2,[nC ⟨N,A⟩],0⟩),(33,some ⟨1,rowsI f,0⟩)],600⟩ rfl ?_ ?_
 ·simp
  refine call0s [33] hval (by simp [fcd,htake,hfl]) (.sc _) ?_
  simp [splice]
  exact ⟨rfl,Le.go [(32,32),(33,33)] [] rfl rfl (by simp <;> exact wkB (by rw [Bool.eq_iff_iff]; simp [hcs])) (by simp [fcd])⟩
 refine awp_ret ?_
 exact ⟨.inr rfl,RetOk.out [33] [] rfl (by simp) (by simp) (by simp) (by simp [fcd])⟩
theorem cutV_capS (side : List Int) : ∀ A : List Ed,cutV A side = capS (fun x=>decide (x ∈ side)) A
 | []=>rfl
 | e :: A=>by
   have h1 : cutV (e :: A) side = (if e.f ∈ side ∧ e.t ∉ side then e.v else 0) + cutV A side:=by simp [cutV]
   have h2 : capS (fun x=>decide (x ∈ side)) (e :: A) = (if decide (e.f ∈ side) = true ∧ decide (e.t ∈ side) = false then e.v else 0) + capS (fun x=>decide (x ∈ side)) A:=rfl
   rw [h1,h2,cutV_capS side A]
   simp
section
variable {P : Program} {np id : Nat} {h : Nat → Option Ent} {K : AV → List Nat → List (Nat × Option Ent) → Prop} {f : FuncId} {first capt args args' : List AV} {res : AV}
end
def lowN : List Int → Int → Nat
 | [],_=>0
 | x :: l,k=>if x < k then lowN l k + 1 else 0
def putL (l : List Int) (k : Int) : List Int:=if l[lowN l k]? = some k then l else l.take (lowN l k) ++ k :: l.drop (lowN l k)
theorem lowN_le : ∀ (l : List Int) (k : Int),lowN l k ≤ l.length
 | [],_=>Nat.le_refl _
 | x :: l,k=>by unfold lowN; have:=lowN_le l k; split <;> simp <;> omega
theorem lowN_lt : ∀ {l : List Int} {k : Int} {i : Nat} (h : i < l.length),i < lowN l k → l[i] < k
 | x :: l,k,0,_,h=>by
   unfold lowN at h
   split at h
   ·simpa
   ·omega
 | x :: l,k,i + 1,hi,h=>by
   unfold lowN at h
   split at h
   ·simpa using lowN_lt (l:=l) (by simpa using hi) (by omega)
   ·omega
theorem lowN_stop : ∀ {l : List Int} {k : Int} (h : lowN l k < l.length),¬ l[lowN l k] < k
 | x :: l,k,h=>by
   by_cases hx : x < k
   ·have e : lowN (x :: l) k = lowN l k + 1:=by simp [lowN,hx]
    simp only [e,List.getElem_cons_succ]
    exact lowN_stop (by rw [e] at h; simpa using h)
   ·have e : lowN (x :: l) k = 0:=by simp [lowN,hx]
    simp only [e,List.getElem_cons_zero]
    exact hx
theorem lowN_eq {l : List Int} {k : Int} {i : Nat} (hi : i ≤ l.length) (h1 : ∀ j (h : j < l.length),j < i → l[j] < k) (h2 : ∀ h : i < l.length,¬ l[i] < k) : lowN l k = i:=by
 rcases Nat.lt_trichotomy (lowN l k) i with h | h | h
 ·exact absurd (h1 _ (by omega) h) (lowN_stop (by omega))
 ·exact h
 ·have hl:=lowN_le l k
  exact absurd (lowN_lt (by omega) h) (h2 (by omega))
theorem putL_len (l : List Int) (k : Int) : (putL l k).length ≤ l.length + 1:=by
 unfold putL
 split
 ·omega
 ·simp; have:=lowN_le l k; omega
theorem mem_putL {l : List Int} {k x : Int} : x ∈ putL l k ↔ x ∈ l ∨ x = k:=by
 unfold putL
 split
 ·rename_i h
  constructor
  ·exact .inl
  ·rintro (h1 | rfl)
   ·exact h1
   ·exact List.mem_of_getElem? h
 ·rw [List.mem_append,List.mem_cons]
  conv=>rhs; rw [← List.take_append_drop (lowN l k) l,List.mem_append]
  constructor
  ·rintro (h | rfl | h)
   ·exact .inl (.inl h)
   ·exact .inr rfl
   ·exact .inl (.inr h)
  ·rintro ((h | h) | rfl)
   ·exact .inl h
   ·exact .inr (.inr h)
   ·exact .inr (.inl rfl)
theorem putL_pair {l : List Int} {k : Int} (h : l.Pairwise (· < ·)) : (putL l k).Pairwise (· < ·):=by
 unfold putL
 split
 ·exact h
 ·rename_i hne
  have hd : ∀ y ∈ l.drop (lowN l k),k < y:=by
   intro y hy
   obtain ⟨i,hi,rfl⟩:=List.getElem_of_mem hy
   rw [List.length_drop] at hi
   rw [List.getElem_drop]
   have h0 : lowN l k < l.length:=by omega
   have h1:=lowN_stop h0
   have h2 : l[lowN l k] ≠ k:=fun e=>hne (by rw [List.getElem?_eq_getElem h0,e])
   rcases Nat.eq_zero_or_pos i with rfl | hp
   ·simp only [Nat.add_zero]; omega
   ·have:=(List.pairwise_iff_getElem.1 h) (lowN l k) (lowN l k + i) h0 (by omega) (by omega)
    omega
  have ht : ∀ y ∈ l.take (lowN l k),y < k:=by
   intro y hy
   obtain ⟨i,hi,rfl⟩:=List.getElem_of_mem hy
   rw [List.length_take] at hi
   rw [List.getElem_take]
   exact lowN_lt (by omega) (by omega)
  rw [List.pairwise_append,List.pairwise_cons]
  refine ⟨h.sublist (List.take_sublist ..),⟨hd,h.sublist (List.drop_sublist ..)⟩,fun x hx y hy=>?_⟩
  rcases List.mem_cons.1 hy with rfl | hy
  ·exact ht x hx
  ·have:=ht x hx; have:=hd y hy; omega
theorem rise_of_pair {l : List Int} {n : Int} (h : l.Pairwise (· < ·)) (hr : ∀ k ∈ l,0 ≤ k ∧ k < n) : Rise l 0 (n - 1):=by
 intro i hi
 have:=hr _ (List.getElem_mem hi)
 refine ⟨by omega,by omega,fun hp=>?_⟩
 exact (List.pairwise_iff_getElem.1 h) (i - 1) i (by omega) hi (by omega)
theorem Put_ok (l : List Int) (k : Int) (hl : l.length ≤ 1000000) : ACalls Tryz.prog nref11_Put [ints l,.I k] [] (.rs 0 0 (putL l k).length) [some ⟨1,rowsI (putL l k),0⟩]:=by
 refine sref11_Put.acalls (Nat.le_of_ble_eq_true rfl) (Nat.le_of_ble_eq_true rfl) (Nat.zero_le _) ?_
 show awp _ 0 _ _ ⟨45,[(0,ints l),(1,.I k)],[],16⟩
 refine rx (s:=?s1) [0,1] [] [] rfl ?o1 ?q1
 case o1=>simp; rfl
 refine rx (s:=?s2) [0,1,5] [] [] rfl ?o2 ?q2
 case o2=>simp; rfl
 refine awp_cut (ι:=Nat) (fun i=>⟨45,[(0,ints l),(1,.I k),(5,.I i)],[],200⟩) (fun i=>i = lowN l k) ?_ fun i hil=>?_
 ·refine awp_block ?_
  refine awp_loop (ι:=Nat) (fun i=>⟨45,[(0,ints l),(1,.I k),(5,.I i)],[],32⟩) (fun i=>i ≤ l.length ∧ ∀ j (h : j < l.length),j < i → l[j] < k) (fun i=>l.length - i) 0 (by simp) (Le.go [] [] rfl rfl (by simp) (by simp)) ?_
  rintro i ⟨hi,hp⟩
  refine awp_seq ?_
  refine awp_regc ⟨45,[(0,ints l),(1,.I k),(5,.I i),(17,.B (decide (∃ h : i < l.length,l[i] < k)))],[],200⟩ rfl ?_ ?_
  ·by_cases h1 : i < l.length
   ·simp [h1]
    exact Le.snap [] rfl rfl (by simp [h1])
   ·have hno : ¬ ∃ h : i < l.length,l[i] < k:=fun ⟨h,_⟩=>h1 h
    rw [decide_eq_false hno]
    simp [h1]
    exact Le.snap [] rfl rfl (by simp)
  refine awp_cond _ rfl (fun h2=>?_) fun h2=>?_
  ·rw [decide_eq_true_eq] at h2
   obtain ⟨h1,h2⟩:=h2
   have hw : IntKind.i64.wrap ((i : Int) + 1) = (i : Int) + 1:=w64 (by omega) (by omega)
   refine awp_skip ?_
   refine awp_block ?_
   refine awp_run (s:=?s5) rfl ?o5 ?q5
   case o5=>simp; rfl
   refine ⟨i + 1,⟨h1,fun j hj hji=>?_⟩,by omega,Le.go [] [] rfl rfl (by simp [hw]) (by simp)⟩
   rcases Nat.lt_succ_iff_lt_or_eq.1 hji with h | rfl
   ·exact hp j hj h
   ·exact h2
  ·rw [decide_eq_false_iff_not] at h2
   refine awp_exit ?_
   refine hit ?_
   exact ⟨i,(lowN_eq hi hp fun h h3=>h2 ⟨h,h3⟩).symm,Le.go [] [] rfl rfl (by simp) (by simp)⟩
 have hlo:=lowN_le l k
 rw [← hil] at hlo
 refine awp_seq ?_
 refine awp_regc ⟨45,[(0,ints l),(1,.I k),(5,.I i),(31,.B (decide (l[i]? = some k)))],[],400⟩ rfl ?_ ?_
 ·by_cases h1 : i < l.length
  ·simp [h1]
   exact Le.snap [] rfl rfl (by simp [h1]; exact wkB (by rw [Bool.eq_iff_iff]; simp))
  ·have hno : ¬ l[i]? = some k:=by rw [List.getElem?_eq_none (by omega)]; simp
   rw [decide_eq_false hno]
   simp [h1]
   exact Le.snap [] rfl rfl (by simp)
 refine awp_cond _ rfl (fun h2=>?_) fun h2=>?_
 ·rw [decide_eq_true_eq] at h2
  have hput : putL l k = l:=by unfold putL; rw [← hil,if_pos h2]
  rw [hput]
  refine rk (s:=?s6) [4] [408] rfl ?o6 ?q6
  case o6=>simp; refine ⟨by omega,by omega,?_⟩; rfl
  refine awp_ret ?_
  exact ⟨.inr rfl,RetOk.out [408] [] rfl (by simp) (by simp) (by simp) (by simp [fcd])⟩
 rw [decide_eq_false_iff_not] at h2
 have hput : putL l k = l.take i ++ k :: l.drop i:=by unfold putL; rw [← hil,if_neg h2]
 have hpl : (putL l k).length = l.length + 1:=by rw [hput]; simp; omega
 have hpl2 : (putL l k).length = i + 1 + (l.length - i):=by omega
 refine awp_skip ?_
 refine awp_dregc ⟨45,[(4,.rs 480 0 (putL l k).length)],[(480,some ⟨1,rowsI (putL l k),0⟩)],600⟩ rfl ?_ ?_
 ·simp [hlo]
  refine ⟨by omega,by omega,by omega,by omega,by omega,by omega,rfl,Le.go [(480,480)] [] rfl rfl (by simp [hpl2]) (by simp [hput,fcd,List.take_of_length_le,hlo])⟩
 refine awp_ret ?_
 exact ⟨.inr rfl,RetOk.out [480] [] rfl (by simp) (by simp) (by simp) (by simp [fcd])⟩
theorem ofD_in3 (L : List Int) (a : Nat) {l : List Int} (h : 0 < l.length) : ofD L a l ∈ l:=by
 have:=nextD_lt (L:=L) (a:=a) (n:=l.length) (by omega)
 obtain ⟨q,hq⟩ : ∃ q : Nat,(nextD L a l.length).1 = q:=⟨(nextD L a l.length).1.toNat,by omega⟩
 have hql : q < l.length:=by omega
 unfold ofD
 rw [hq]
 simp [hql]
theorem Next_a (L : List Int) (a : Nat) (n : Int) (hl : L.length ≤ 400) (ha : a ≤ L.length) (h0 : 0 < n) (hn : n ≤ 1000000) : ∃ (x : Nat) (b : Nat),(b ≤ L.length ∧ (x : Int) < n) ∧ ACalls Tryz.prog nmade_Dice_Next [.pt 0 0 0,.I n] [dice L a] (.I x) [some (dice L b)]:=by
 have:=nextD_lt (L:=L) (a:=a) h0
 obtain ⟨q,hq⟩ : ∃ q : Nat,(nextD L a n).1 = q:=⟨(nextD L a n).1.toNat,by omega⟩
 exact ⟨q,_,⟨nextD_le ha,by omega⟩,by rw [← hq]; exact Next_ok L a n (by omega) ha (by omega)⟩
theorem Of_a (L : List Int) (a : Nat) (l : List Int) (hl : L.length ≤ 400) (ha : a ≤ L.length) (h0 : 0 < l.length) (hl2 : l.length ≤ 100) : ∃ (x : Int) (b : Nat),(b ≤ L.length ∧ x ∈ l) ∧ ACalls Tryz.prog nmade_Dice_Of [.pt 0 0 0,ints l] [dice L a] (.I x) [some (dice L b)] :=
 ⟨_,_,⟨nextD_le ha,ofD_in3 L a h0⟩,Of_ok L a l (by omega) ha h0 (by omega)⟩
theorem One_a (L : List Int) (a : Nat) (n : Int) (hl : L.length ≤ 400) (ha : a ≤ L.length) (hn0 : 0 ≤ n) (hn : n ≤ 1000000) : ∃ (x : Bool) (b : Nat),b ≤ L.length ∧ ACalls Tryz.prog nmade_Dice_One [.pt 0 0 0,.I n] [dice L a] (.B x) [some (dice L b)] :=
 ⟨_,_,nextD_le ha,One_ok L a n (by omega) ha hn0 (by omega)⟩
section
variable {P : Program} {np id : Nat} {h : Nat → Option Ent} {K : AV → List Nat → List (Nat × Option Ent) → Prop} {f : FuncId} {first capt args args' : List AV} {res : AV}
theorem callN1sZ {j : Nat} {e ej : Ent} (hnp : np ≤ j) (hj : h j = some ej) (hc : ACalls P f args' [] res [some e]) (he : (first ++ args ++ capt).map (conv [] [j] h 4) = args')
  (hk : K (conv (swp [] id) [] (fun _=>none) 4 res) [j] [(id,some (convE (swp [] id) [] (fun _=>none) 4 e)),(j,some { ej with ro:=ej.rows.length })]) : aK P np id .call (.fn (.func f) first capt :: args) h K :=
 ⟨[],[j],true,args',[],res,[some e],by simp,by simp,by simpa using hnp,by rw [List.zipIdx_nil,he]; exact wkL_refl _,rfl,hc,by simp,.inl rfl,by simpa [swp,hj] using hk⟩
end
def TabL (t : List Int) : Prop:=∀ i (h : i < t.length),1 ≤ t[i] ∧ t[i] ≤ 1000 ∧ (0 < i → t[i] ≤ t[i - 1])
theorem tabL_snoc {t : List Int} {v : Int} (h : TabL t) (h1 : 1 ≤ v) (h2 : v ≤ 1000) (h3 : ∀ x ∈ t,v ≤ x) : TabL (t ++ [v]):=by
 intro i hi
 rw [List.length_append,List.length_singleton] at hi
 by_cases hit : i < t.length
 ·rw [List.getElem_append_left hit]
  obtain ⟨a,b,c⟩:=h i hit
  refine ⟨a,b,fun hp=>?_⟩
  rw [List.getElem_append_left (by omega)]
  exact c hp
 ·obtain rfl : i = t.length:=by omega
  simp only [List.getElem_concat_length]
  refine ⟨h1,h2,fun hp=>?_⟩
  rw [List.getElem_append_left (by omega)]
  exact h3 _ (List.getElem_mem _)
set_option maxRecDepth 100000 in
set_option maxHeartbeats 4000000 in
theorem Policy_a (L : List Int) (a : Nat) (g : Gr) (hl : L.length ≤ 400) (ha : a ≤ L.length) (h0 : 0 < g.size) (hn : g.size ≤ 1000) :
  ∃ x : Pol × Nat,(PolOk g.size x.1 ∧ x.1.seeds.length ≤ 2 ∧ x.1.table.length ≤ 4 ∧ x.2 ≤ L.length) ∧ ACalls Tryz.prog nmade_Dice_Policy [.pt 0 0 0,eG g] [dice L a] (eP x.1) [some (dice L x.2)]:=by
 refine smade_Dice_Policy.acallsX (args:=[.pt 0 0 0,eG g]) (hs:=[dice L a]) (fun x=>eP x.1) (fun x=>[some (dice L x.2)]) (fun x : Pol × Nat=>PolOk g.size x.1 ∧ x.1.seeds.length ≤ 2 ∧ x.1.table.length ≤ 4 ∧ x.2 ≤ L.length) (Nat.le_of_ble_eq_true rfl) (Nat.le_of_ble_eq_true rfl) (fun _=>by simp) ?_
 show awp _ 1 _ _ ⟨50,[(0,.pt 0 0 0),(1,eG g)],[(0,some (dice L a))],16⟩
 obtain ⟨k1,b1,⟨hb1,hk1⟩,hc1⟩:=Next_a L a g.size hl ha h0 (by omega)
 obtain ⟨lv,b2,⟨hb2,hlv⟩,hc2⟩:=Of_a L b1 [1,1,2,3] hl hb1 (by simp) (by simp)
 have hlv' : 1 ≤ lv ∧ lv ≤ 3:=by simp at hlv; omega
 obtain ⟨o,b3,hb3,hc3⟩:=One_a L b2 3 hl hb2 (by omega) (by omega)
 refine awp_regc ⟨50,[(0,.pt 0 0 0),(3,.pv (gC g)),(4,.pt 24 0 0)],[(0,some (dice L a)),(24,some ⟨3,[[.nilS,.nilS,.I 0]],0⟩)],32⟩ rfl ?_ ?_
 ·simp
  exact Le.go [(0,0),(24,24)] [16] rfl rfl (by simp) (by simp)
 refine awp_regc ⟨50,[(0,.pt 0 0 0),(3,.pv (gC g)),(4,.pt 24 0 0),(5,.pt 104 0 0)],[(0,some (dice L b2)),(24,some ⟨3,[[.nilS,.nilS,.I 0]],0⟩),(104,some ⟨3,[[.rs 17 0 1,.nilS,.I lv]],0⟩),(17,some ⟨1,rowsI [(k1 : Int)],0⟩)],120⟩ rfl ?_ ?_
 ·simp
  refine callM1 (i:=0) rfl (e':=dice L a) (by simp) hc1 (by simp) (by simp) ?_
  simp
  refine callM1s (i:=0) (j:=80) (by decide) (by decide) rfl rfl (e':=dice L b1) (by simp) hc2 (by simp) (by simp) ?_
  simp
  exact Le.go [(0,0),(24,24),(104,104),(64,17)] [] rfl rfl (by simp) (by simp)
 refine awp_cut (ι:=List Int × Nat) (fun s=>⟨50,[(0,.pt 0 0 0),(4,.pt 24 0 0),(5,.pt 104 0 0)],[(0,some (dice L s.2)),(24,some ⟨3,[[.nilS,.nilS,.I 0]],0⟩),(104,some ⟨3,[[.rs 17 0 s.1.length,.nilS,.I lv]],0⟩),(17,some ⟨1,rowsI s.1,0⟩)],300⟩)
  (fun s=>s.2 ≤ L.length ∧ s.1 ≠ [] ∧ s.1.length ≤ 2 ∧ s.1.Pairwise (· < ·) ∧ ∀ k ∈ s.1,0 ≤ k ∧ k < g.size) ?_ fun s hs=>?_
 ·refine awp_regc ⟨50,[(0,.pt 0 0 0),(3,.pv (gC g)),(4,.pt 24 0 0),(5,.pt 104 0 0),(18,.B o)],[(0,some (dice L b3)),(24,some ⟨3,[[.nilS,.nilS,.I 0]],0⟩),(104,some ⟨3,[[.rs 17 0 1,.nilS,.I lv]],0⟩),(17,some ⟨1,rowsI [(k1 : Int)],0⟩)],136⟩ rfl ?_ ?_
  ·simp
   refine callM1 (i:=0) rfl (e':=dice L b2) (by simp) hc3 (by simp) (by simp) ?_
   simp
   exact Le.keep rfl (Nat.le_refl _) (by simp) (by simp)
  cases o with
  | true =>
    refine awp_cond _ rfl (fun _=>?_) fun h=>by cases h
    obtain ⟨k2,b4,⟨hb4,hk2⟩,hc4⟩:=Next_a L b3 g.size hl hb3 h0 (by omega)
    have hput:=Put_ok [(k1 : Int)] k2 (by simp)
    obtain ⟨S,hS⟩ : ∃ S,S = putL [(k1 : Int)] k2:=⟨_,rfl⟩
    rw [← hS] at hput
    refine awp_drw rfl ?_
    simp
    refine callM1 (i:=0) rfl (e':=dice L b3) (by simp) hc4 (by simp) (by simp) ?_
    simp
    refine callN1sZ (j:=17) (by decide) rfl hput (by simp) ?_
    simp [fcd]
    refine ⟨rfl,S,b4,⟨hb4,?_,?_,?_,fun k hk=>?_⟩,Le.go [(0,0),(24,24),(104,104),(184,17)] [] rfl rfl (by simp) (by simp [fcd])⟩
    ·intro h
     have : (k1 : Int) ∈ S:=by rw [hS]; exact mem_putL.2 (.inl (by simp))
     rw [h] at this
     cases this
    ·rw [hS]; exact putL_len _ _
    ·rw [hS]; exact putL_pair (by simp)
    ·rw [hS] at hk
     rcases mem_putL.1 hk with h | h
     ·simp at h; omega
     ·omega
  | false =>
    refine awp_cond _ rfl (fun h=>by cases h) fun _=>?_
    refine awp_skip ?_
    exact ⟨([(k1 : Int)],b3),⟨hb3,by simp,by simp,by simp,by simp; omega⟩,Le.go [(0,0),(24,24),(104,104),(17,17)] [] rfl rfl (by simp) (by simp)⟩
 obtain ⟨S,b4⟩:=s
 obtain ⟨hb4,hS1,hS2,hS3,hS4⟩:=hs
 simp only at hb4 hS1 hS2 hS3 hS4
 obtain ⟨v0,b5,⟨hb5,hv0⟩,hc5⟩:=Of_a L b4 [3,2,1,6,0] hl hb4 (by simp) (by simp)
 have hv0' : 0 ≤ v0 ∧ v0 ≤ 6:=by simp at hv0; omega
 have hwv : IntKind.i64.wrap (1 + v0) = 1 + v0:=w64 (by omega) (by omega)
 obtain ⟨n0,b6,⟨hb6,hn0⟩,hc6⟩:=Next_a L b5 4 hl hb5 (by omega) (by omega)
 have hwn : IntKind.i64.wrap (1 + (n0 : Int)) = ((n0 + 1 : Nat) : Int):=by rw [w64 (by omega) (by omega)]; omega
 refine awp_regc ⟨50,[(0,.pt 0 0 0),(4,.pt 24 0 0),(5,.pt 104 0 0),(6,.I (1 + v0))],[(0,some (dice L b5)),(24,some ⟨3,[[.nilS,.nilS,.I 0]],0⟩),(104,some ⟨3,[[.rs 17 0 S.length,.nilS,.I lv]],0⟩),(17,some ⟨1,rowsI S,0⟩)],400⟩ rfl ?_ ?_
 ·simp
  refine callM1s (i:=0) (j:=308) (by decide) (by decide) rfl rfl (e':=dice L b4) (by simp) hc5 (by simp) (by simp) ?_
  simp [hwv]
  exact Le.go [(0,0),(24,24),(104,104),(17,17)] [] rfl rfl (by simp) (by simp [fcd])
 refine awp_seq ?_
 refine awp_regc ⟨50,[(0,.pt 0 0 0),(4,.pt 24 0 0),(5,.pt 104 0 0),(6,.I (1 + v0)),(7,.I (n0 + 1 : Nat))],[(0,some (dice L b6)),(24,some ⟨3,[[.nilS,.nilS,.I 0]],0⟩),(104,some ⟨3,[[.rs 17 0 S.length,.nilS,.I lv]],0⟩),(17,some ⟨1,rowsI S,0⟩)],432⟩ rfl ?_ ?_
 ·simp
  refine callM1 (i:=0) rfl (e':=dice L b5) (by simp) hc6 (by simp) (by simp) ?_
  simp [hwn]
  exact Le.go [(0,0),(24,24),(104,104),(17,17)] [] rfl rfl (by simp) (by simp [fcd])
 refine awp_block ?_
 refine awp_loop (ι:=(List Int × Int) × (Nat × Nat)) (fun s=>⟨50,[(0,.pt 0 0 0),(4,.pt 24 0 0),(5,.pt 104 0 0),(6,.I s.1.2),(7,.I s.2.1)],[(0,some (dice L s.2.2)),(24,some ⟨3,[[.nilS,.nilS,.I 0]],0⟩),(104,some ⟨3,[[.rs 17 0 S.length,.rs 18 0 s.1.1.length,.I lv]],0⟩),(17,some ⟨1,rowsI S,0⟩),(18,some ⟨1,rowsI s.1.1,0⟩)],432⟩)
  (fun s=>s.1.1.length + s.2.1 = n0 + 1 ∧ TabL s.1.1 ∧ (1 ≤ s.1.2 ∧ s.1.2 ≤ 7) ∧ (∀ x ∈ s.1.1,s.1.2 ≤ x) ∧ s.2.2 ≤ L.length) (fun s=>s.2.1) (([],1 + v0),(n0 + 1,b6)) ⟨by simp,fun i h=>by simp at h,⟨by simp only; omega,by simp only; omega⟩,by simp,hb6⟩
  (Le.lst [(0,0),(24,24),(104,104),(17,17)] [] [(18,1)] rfl (by simp) (by simp) (by simp) (by simp) (by simp) (by simp) (by simp) (by simp [Up]) (by simp [fcd]; exact ⟨EntUp.rfl' (by simp),EntUp.rfl' (by simp),EntUp.row rfl (by omega) (by simp [UpL,Up]),EntUp.rfl' (by simp)⟩)) ?_
 rintro ⟨⟨T,v⟩,n,b⟩ ⟨hTn,hT,hv,hTv,hb⟩
 simp only at hTn hT hv hTv hb
 refine awp_seq ?_
 refine rk (s:=?s7) [0,4,5,6,7,35] [0,24,104,17,18] rfl ?o7 ?q7
 case o7=>simp; rfl
 refine awp_cond _ rfl (fun h8=>?_) fun h8=>?_
 ·simp at h8
  obtain ⟨m,rfl⟩ : ∃ m,n = m + 1:=⟨n - 1,by omega⟩
  have hwm : IntKind.i64.wrap (((m + 1 : Nat) : Int) - 1) = (m : Int):=by rw [w64 (by omega) (by omega)]; omega
  have hwm2 : IntKind.i64.wrap (m : Int) = (m : Int):=w64 (by omega) (by omega)
  obtain ⟨d,b',⟨hb',hd⟩,hc7⟩:=Next_a L b 3 hl hb (by omega) (by omega)
  have hwd : IntKind.i64.wrap (v - (d : Int)) = v - (d : Int):=w64 (by omega) (by omega)
  have htl : ∀ f : Int → List AV,List.take T.length (List.map f T) = List.map f T:=fun f=>List.take_of_length_le (by simp)
  refine awp_skip ?_
  refine awp_seq ?_
  refine awp_block ?_
  refine awp_regc ⟨50,[(0,.pt 0 0 0),(4,.pt 24 0 0),(5,.pt 104 0 0),(6,.I v),(7,.I (m + 1 : Nat))],[(0,some (dice L b)),(24,some ⟨3,[[.nilS,.nilS,.I 0]],0⟩),(104,some ⟨3,[[.rs 17 0 S.length,.rs 18 0 (T ++ [v]).length,.I lv]],0⟩),(17,some ⟨1,rowsI S,0⟩),(18,some ⟨1,rowsI (T ++ [v]),0⟩)],512⟩ rfl ?_ ?_
  ·simp [htl]
   refine ⟨by omega,by omega,?_⟩
   exact Le.go [(0,0),(24,24),(104,104),(17,17),(480,18)] [] rfl rfl (by simp) (by simp [fcd])
  refine awp_run (s:=?s9) rfl ?o9 ?q9
  case o9 =>
   simp
   refine callM1 (i:=0) rfl (e':=dice L b) (by simp) hc7 (by simp) (by simp) ?_
   simp [hwd]
   rfl
  refine awp_run (s:=?s10) rfl ?o10 ?q10
  case o10=>simp; rfl
  refine ⟨((T ++ [v],if 1 < v - d then v - d else 1),(m,b')),⟨by simp only [List.length_append,List.length_singleton]; omega,tabL_snoc hT hv.1 (by omega) hTv,⟨by simp only; split <;> omega,by simp only; split <;> omega⟩,fun x hx=>?_,hb'⟩,by simp only; omega,Le.go [(0,0),(24,24),(104,104),(17,17),(18,18)] [] rfl rfl (by simp [hwm2]) (by simp [fcd])⟩
  have : v ≤ x:=by
   rcases List.mem_append.1 hx with h | h
   ·exact hTv x h
   ·rw [List.mem_singleton] at h; omega
  simp only
  split <;> omega
 simp at h8
 obtain rfl : n = 0:=by omega
 refine awp_exit ?_
 refine hit ?_
 refine rk (s:=?s11) [4] [0,24,17,18] rfl ?o11 ?q11
 case o11=>simp; rfl
 refine awp_ret ?_
 refine PostX.mk (.inr rfl) (⟨S,T,lv⟩,b) ⟨⟨hS1,rise_of_pair hS3 hS4,by simp only; omega,by simp only; omega,hlv'.1,hlv'.2,hT⟩,hS2,by simp only; omega,hb⟩ ?_
 refine ⟨_,rfl,[],[17,18],by simp [List.range,List.range.loop],by simp,by simp,?_,?_⟩
 ·simp [List.range,List.range.loop,fcd,take_map_len]
 ·simp [List.range,List.range.loop]
theorem sorted_ext : ∀ {a b : List Int},a.Pairwise (· < ·) → b.Pairwise (· < ·) → (∀ x,x ∈ a ↔ x ∈ b) → a = b
 | [],[],_,_,_=>rfl
 | [],y :: b,_,_,h=>by have:=(h y).2 (by simp); cases this
 | x :: a,[],_,_,h=>by have:=(h x).1 (by simp); cases this
 | x :: a,y :: b,ha,hb,h=>by
   have ha':=List.pairwise_cons.1 ha
   have hb':=List.pairwise_cons.1 hb
   have hxy : x = y:=by
    have h1:=(h x).1 (by simp)
    have h2:=(h y).2 (by simp)
    rcases List.mem_cons.1 h1 with e | e
    ·exact e
    ·rcases List.mem_cons.1 h2 with e2 | e2
     ·exact e2.symm
     ·have:=hb'.1 x e
      have:=ha'.1 y e2
      omega
   subst hxy
   congr 1
   refine sorted_ext ha'.2 hb'.2 fun z=>⟨fun hz=>?_,fun hz=>?_⟩
   ·rcases List.mem_cons.1 ((h z).1 (List.mem_cons_of_mem _ hz)) with rfl | e
    ·have:=ha'.1 z hz; omega
    ·exact e
   ·rcases List.mem_cons.1 ((h z).2 (List.mem_cons_of_mem _ hz)) with rfl | e
    ·have:=hb'.1 z hz; omega
    ·exact e
theorem putL_join {a : List Int} {k : Int} (h0 : 0 ≤ k) (h1 : k < 64) : putL (joinL a) k = joinL (a ++ [k]):=by
 refine sorted_ext (putL_pair (joinL_lt a)) (joinL_lt _) fun x=>?_
 rw [mem_putL,mem_joinL,mem_joinL,List.mem_append,List.mem_singleton]
 constructor
 ·rintro (h | rfl)
  ·exact ⟨.inl h.1,h.2⟩
  ·exact ⟨.inr rfl,h0,h1⟩
 ·rintro ⟨h | h,h2⟩
  ·exact .inl ⟨h,h2⟩
  ·exact .inr h
open Classical in
noncomputable def accR (g : Gr) (p : Pol) (o : List Int) : List Int:=o.foldl (fun acc k=>if CanServe g p (joinL (acc ++ [k])) then acc ++ [k] else acc) []
variable {g : Gr} {p : Pol}
theorem accR_nil : accR g p [] = []:=rfl
open Classical in
theorem accR_yes {o : List Int} {k : Int} (h : CanServe g p (joinL (accR g p o ++ [k]))) : accR g p (o ++ [k]) = accR g p o ++ [k]:=by
 have h2 : accR g p (o ++ [k]) = if CanServe g p (joinL (accR g p o ++ [k])) then accR g p o ++ [k] else accR g p o:=by unfold accR; rw [List.foldl_append]; rfl
 rw [h2,if_pos h]
open Classical in
theorem accR_no {o : List Int} {k : Int} (h : ¬ CanServe g p (joinL (accR g p o ++ [k]))) : accR g p (o ++ [k]) = accR g p o:=by
 have h2 : accR g p (o ++ [k]) = if CanServe g p (joinL (accR g p o ++ [k])) then accR g p o ++ [k] else accR g p o:=by unfold accR; rw [List.foldl_append]; rfl
 rw [h2,if_neg h]
theorem accR_step (o : List Int) (k : Int) : accR g p (o ++ [k]) = accR g p o ∨ accR g p (o ++ [k]) = accR g p o ++ [k]:=by
 by_cases h : CanServe g p (joinL (accR g p o ++ [k]))
 ·exact .inr (accR_yes h)
 ·exact .inl (accR_no h)
theorem accR_sub : ∀ (n : Nat) (o : List Int),o.length = n → (accR g p o).Sublist o
 | 0,o,h=>by
   obtain rfl:=List.eq_nil_of_length_eq_zero h
   exact List.nil_sublist _
 | n + 1,o,h=>by
   have hne : o ≠ []:=fun e=>by rw [e] at h; cases h
   rw [← List.dropLast_concat_getLast hne]
   have ih:=accR_sub n o.dropLast (by rw [List.length_dropLast,h]; rfl)
   rcases accR_step (g:=g) (p:=p) o.dropLast (o.getLast hne) with e | e
   ·rw [e]; exact ih.trans (List.sublist_append_left _ _)
   ·rw [e]; exact ih.append (List.Sublist.refl _)
theorem accR_mem {o : List Int} {x : Int} (h : x ∈ accR g p o) : x ∈ o:=(accR_sub _ o rfl).subset h
theorem accR_len (o : List Int) : (accR g p o).length ≤ o.length:=(accR_sub _ o rfl).length_le
open Classical in
noncomputable def nearL (N : Nat) (A : List Ed) : List Int:=((List.range N).map fun k : Nat=>(k : Int)).filter fun k=>decide (∀ S : Int → Bool,S 0 = true → S 1 = false → capS S A = maxF N A → S k = true)
theorem nearL_of {N : Nat} {A : List Ed} {f D : List Int} {by_ : Int → Stp} (hn : NetOk N A) (hf : FlowOk N A f) (hm : ∀ f',FlowOk N A f' → valF A f' ≤ valF A f) (ht : TreeS A f D by_) (h0 : (0 : Int) ∈ D) (h1 : (1 : Int) ∉ D) (hc : ClosedS A f D) :
  ((List.range N).map fun k : Nat=>(k : Int)).filter (fun k=>decide (k ∈ D)) = nearL N A:=by
 unfold nearL
 refine List.filter_congr fun k _=>?_
 rw [decide_eq_decide]
 have hmf:=maxF_of hf hm
 constructor
 ·intro hk S s0 s1 hS
  exact least_side hn hf ht s0 s1 (hS.trans hmf) k hk
 ·intro h
  have:=h (fun x=>decide (x ∈ D)) (by simpa using h0) (by simpa using h1) (by rw [hmf]; exact (greatest hn hf h0 h1 hc).1.symm)
  simpa using this
open Classical in
noncomputable def refS (g : Gr) (p : Pol) (o : List Int) : List Int × List (Int × List Int) :=
 o.foldl (fun s k=>if CanServe g p (joinL (s.1 ++ [k])) then (s.1 ++ [k],s.2) else (s.1,s.2 ++ [(k,nearL (netN g) (netA g p (joinL (s.1 ++ [k]))))])) ([],[])
noncomputable def refR (g : Gr) (p : Pol) (o : List Int) : List (Int × List Int):=(refS g p o).2
open Classical in
theorem refS_snoc (o : List Int) (k : Int) : refS g p (o ++ [k]) = if CanServe g p (joinL ((refS g p o).1 ++ [k])) then ((refS g p o).1 ++ [k],(refS g p o).2) else ((refS g p o).1,(refS g p o).2 ++ [(k,nearL (netN g) (netA g p (joinL ((refS g p o).1 ++ [k]))))]):=by
 unfold refS
 rw [List.foldl_append]
 rfl
theorem refS_fst : ∀ (n : Nat) (o : List Int),o.length = n → (refS g p o).1 = accR g p o
 | 0,o,h=>by
   obtain rfl:=List.eq_nil_of_length_eq_zero h
   rfl
 | n + 1,o,h=>by
   have hne : o ≠ []:=fun e=>by rw [e] at h; cases h
   rw [← List.dropLast_concat_getLast hne]
   have ih:=refS_fst n o.dropLast (by rw [List.length_dropLast,h]; rfl)
   rw [refS_snoc,ih]
   split
   ·rename_i h1
    rw [accR_yes h1]
   ·rename_i h1
    rw [accR_no h1]
theorem refR_yes {o : List Int} {k : Int} (h : CanServe g p (joinL (accR g p o ++ [k]))) : refR g p (o ++ [k]) = refR g p o:=by
 unfold refR
 rw [refS_snoc,refS_fst _ o rfl,if_pos h]
theorem refR_no {o : List Int} {k : Int} (h : ¬ CanServe g p (joinL (accR g p o ++ [k]))) : refR g p (o ++ [k]) = refR g p o ++ [(k,nearL (netN g) (netA g p (joinL (accR g p o ++ [k]))))]:=by
 unfold refR
 rw [refS_snoc,refS_fst _ o rfl,if_neg h]
structure NearOk (g : Gr) (p : Pol) (acc : List Int) (k : Int) (side : List Int) : Prop where
 no : ¬ CanServe g p (joinL (acc ++ [k]))
 ok : SideOk ⟨netN g,netA g p (joinL (acc ++ [k]))⟩ side
 cut : cutV (netA g p (joinL (acc ++ [k]))) side = maxF (netN g) (netA g p (joinL (acc ++ [k])))
 len : side.length ≤ 130
 eq : side = nearL (netN g) (netA g p (joinL (acc ++ [k])))
structure RefOk (g : Gr) (p : Pol) (o : List Int) (R : List (Int × List Int)) : Prop where
 all : ∀ i (h : i < o.length),o[i] ∉ accR g p (o.take (i + 1)) → ∃ side,(o[i],side) ∈ R
 right : ∀ r ∈ R,∃ i,∃ h : i < o.length,o[i] = r.1 ∧ NearOk g p (accR g p (o.take i)) r.1 r.2
 len : R.length ≤ o.length
 eq : R = refR g p o
theorem RefOk.nil : RefOk g p [] []:=⟨fun i h=>absurd h (Nat.not_lt_zero _),(fun r h=>nomatch h),Nat.le_refl _,rfl⟩
theorem RefOk.yes {o : List Int} {k : Int} {R : List (Int × List Int)} (hr : RefOk g p o R) (h : CanServe g p (joinL (accR g p o ++ [k]))) : RefOk g p (o ++ [k]) R:=by
 refine ⟨fun i hi hn=>?_,fun r hr'=>?_,Nat.le_trans hr.len (by simp),by rw [refR_yes h]; exact hr.eq⟩
 ·rw [List.length_append,List.length_singleton] at hi
  by_cases hio : i < o.length
  ·rw [List.getElem_append_left hio] at hn ⊢
   rw [List.take_append_of_le_length (by omega)] at hn
   exact hr.all i hio hn
  ·obtain rfl : i = o.length:=by omega
   refine absurd ?_ hn
   rw [List.take_of_length_le (by simp),accR_yes h]
   simp
 ·obtain ⟨i,hi,h1,h2⟩:=hr.right r hr'
  refine ⟨i,by simp; omega,by rw [List.getElem_append_left hi]; exact h1,?_⟩
  rw [List.take_append_of_le_length (by omega)]
  exact h2
theorem RefOk.no {o : List Int} {k : Int} {R : List (Int × List Int)} {side : List Int} (hr : RefOk g p o R) (h : NearOk g p (accR g p o) k side) : RefOk g p (o ++ [k]) (R ++ [(k,side)]):=by
 refine ⟨fun i hi hn=>?_,fun r hr'=>?_,by have:=hr.len; simp; omega,by rw [refR_no h.no,← hr.eq,← h.eq]⟩
 ·rw [List.length_append,List.length_singleton] at hi
  by_cases hio : i < o.length
  ·rw [List.getElem_append_left hio] at hn ⊢
   rw [List.take_append_of_le_length (by omega)] at hn
   obtain ⟨s,hs⟩:=hr.all i hio hn
   exact ⟨s,List.mem_append_left _ hs⟩
  ·obtain rfl : i = o.length:=by omega
   exact ⟨side,by simp⟩
 ·rcases List.mem_append.1 hr' with h3 | h3
  ·obtain ⟨i,hi,h1,h2⟩:=hr.right r h3
   refine ⟨i,by simp; omega,by rw [List.getElem_append_left hi]; exact h1,?_⟩
   rw [List.take_append_of_le_length (by omega)]
   exact h2
  ·rw [List.mem_singleton] at h3
   subst h3
   refine ⟨o.length,by simp,by simp,?_⟩
   rw [List.take_append_of_le_length (Nat.le_refl _),List.take_length]
   exact h
def inD (D : List Int) (n : Nat) : List Int:=((List.range n).map fun k : Nat=>(k : Int)).filter fun k=>decide (k ∈ D)
theorem inD_succ (D : List Int) (n : Nat) : inD D (n + 1) = inD D n ++ if (n : Int) ∈ D then [(n : Int)] else []:=by
 unfold inD
 rw [List.range_succ,List.map_append,List.filter_append]
 simp only [List.map_cons,List.map_nil,List.filter_cons,List.filter_nil]
 split <;> simp_all
theorem mem_inD {D : List Int} {n : Nat} {x : Int} : x ∈ inD D n ↔ (0 ≤ x ∧ x < n) ∧ x ∈ D:=by
 unfold inD
 rw [List.mem_filter,List.mem_map]
 constructor
 ·rintro ⟨⟨k,hk,rfl⟩,h⟩
  have:=List.mem_range.1 hk
  exact ⟨by omega,by simpa using h⟩
 ·rintro ⟨h,h2⟩
  exact ⟨⟨x.toNat,List.mem_range.2 (by omega),by omega⟩,by simpa using h2⟩
theorem inD_pair (D : List Int) (n : Nat) : (inD D n).Pairwise (· < ·):=by
 unfold inD
 refine List.Pairwise.filter _ ?_
 rw [List.pairwise_map]
 exact List.pairwise_lt_range.imp fun h=>by omega
theorem inD_len (D : List Int) (n : Nat) : (inD D n).length ≤ n:=by
 unfold inD
 refine Nat.le_trans (List.length_filter_le ..) (by simp)
set_option maxRecDepth 100000 in
set_option maxHeartbeats 4000000 in
theorem Nearest_a (N : Nat) (A : List Ed) (hn : NetVal ⟨N,A⟩) :
  ∃ side : List Int,(SideOk ⟨N,A⟩ side ∧ cutV A side = maxF N A ∧ side.length ≤ 130 ∧ side = nearL N A) ∧ ACalls Tryz.prog nref16_Nearest [eN ⟨N,A⟩] [] (.tup [.rs 0 0 side.length,.I 0]) [some ⟨1,rowsI side,0⟩]:=by
 have hno:=netOk_of hn
 obtain ⟨f,⟨hf1,hf2⟩,hmax⟩:=Max_a N A hn
 have hfl:=hf1.fit.len
 obtain ⟨⟨D,b⟩,⟨hb,hcl⟩,hcall⟩:=Residual_a N A f hn hfl
 simp only at hb hcl hcall
 have h1D : (1 : Int) ∉ D:=fun hm=>by
  obtain ⟨l,hl⟩:=hb.chain hm
  have h1:=hl.push hno hf1 (v:=1) (by omega) fun s hs=>by
   obtain ⟨i,hi,rfl⟩:=List.mem_iff_getElem.1 hs
   have:=(hl.at_ i hi).2.1
   omega
  have h2:=hf2 _ h1.1
  omega
 have hgr:=(greatest hno hf1 hb.mem0 h1D hcl).1
 have hmf:=maxF_of hf1 hf2
 have hn':=hn
 obtain ⟨hn0,hn1,hal,hav⟩:=hn
 simp only at hn0 hn1 hal hav
 have hmD : ∀ x,x ∈ inD D N ↔ x ∈ D:=fun x=>by
  rw [mem_inD]
  exact ⟨fun h=>h.2,fun h=>⟨hb.rng x h,h⟩⟩
 have hside : SideOk ⟨N,A⟩ (inD D N):=⟨hn',rise_of_pair (inD_pair D N) fun k hk=>by have:=(mem_inD.1 hk).1; simp only; omega,(hmD 0).2 hb.mem0,fun h=>h1D ((hmD 1).1 h)⟩
 have hcut : cutV A (inD D N) = maxF N A:=by
  rw [cutV_capS,hmf,hgr]
  congr 1
  funext x
  exact decide_eq_decide.2 (hmD x)
 refine ⟨inD D N,⟨hside,hcut,Nat.le_trans (inD_len D N) (by omega),nearL_of hno hf1 hf2 hb.tree hb.mem0 h1D hcl⟩,?_⟩
 have hblen:=hb.len
 have hbk : ∀ k : Nat,1 ≤ k → k < N → b[k]? = some (b.getD k 0) ∧ (b.getD k 0 = 0 ↔ (k : Int) ∉ D):=fun k h1 h2=>by
  refine ⟨by rw [List.getD_eq_getElem?_getD,List.getElem?_eq_getElem (by omega),Option.getD_some],fun h hm=>?_,fun h=>?_⟩
  ·have:=hb.inn k hm (by omega)
   simp only [Int.toNat_natCast] at this
   exact this h
  ·have:=hb.out k (by omega) h
   simpa using this
 have htake : ∀ g : Int → List AV,List.take A.length (List.map g f) = List.map g f:=fun g=>List.take_of_length_le (by simp; omega)
 refine sref16_Nearest.acalls (Nat.le_of_ble_eq_true rfl) (Nat.le_of_ble_eq_true rfl) (Nat.zero_le _) ?_
 show awp _ 0 _ _ ⟨37,[(0,eN ⟨N,A⟩)],[],16⟩
 refine rx (s:=?s1) [1] [] [16] rfl ?o1 ?q1
 case o1=>simp; rfl
 refine awp_regc ⟨37,[(1,.pv (nC ⟨N,A⟩)),(4,.rs 33 0 A.length),(5,.I 0)],[(33,some ⟨1,rowsI f,0⟩)],100⟩ rfl ?_ ?_
 ·simp
  refine callN1 hmax (by simp) ?_
  simp
  exact Le.go [(48,33)] [] rfl rfl (by simp) (by simp [fcd])
 refine awp_seq ?_
 refine awp_regc ⟨37,[(1,.pv (nC ⟨N,A⟩)),(4,.rs 33 0 A.length),(15,.B false)],[(33,some ⟨1,rowsI f,0⟩)],200⟩ rfl ?_ ?_
 ·simp
  exact Le.go [(33,33)] [] rfl rfl (by simp) (by simp [fcd])
 refine awp_cond _ rfl (fun h=>by cases h) fun _=>?_
 refine awp_skip ?_
 refine awp_regc ⟨37,[(1,.pv (nC ⟨N,A⟩)),(6,.rs 34 0 N)],[(34,some ⟨1,rowsI b,0⟩)],300⟩ rfl ?_ ?_
 ·simp
  refine callN1r [33] hcall (by simp [fcd,htake,hfl]) (.rs _ _ _) plainI ?_
  simp
  exact Le.go [(216,34)] [] rfl rfl (by simp) (by simp [fcd])
 have hi1 : inD D 1 = [0]:=by
  rw [inD_succ]
  have : ((0 : Nat) : Int) ∈ D:=hb.mem0
  rw [if_pos this]
  rfl
 refine awp_regc ⟨37,[(1,.pv (nC ⟨N,A⟩)),(6,.rs 34 0 N),(7,.rs 35 0 (inD D 1).length)],[(34,some ⟨1,rowsI b,0⟩),(35,some ⟨1,rowsI (inD D 1),0⟩)],400⟩ rfl ?_ ?_
 ·rw [hi1]
  simp
  exact Le.go [(34,34),(300,35)] [] rfl rfl (by simp) (by simp [fcd])
 refine awp_seq ?_
 refine awp_regc ⟨37,[(1,.pv (nC ⟨N,A⟩)),(6,.rs 34 0 N),(7,.rs 35 0 (inD D 1).length),(8,.I 1)],[(34,some ⟨1,rowsI b,0⟩),(35,some ⟨1,rowsI (inD D 1),0⟩)],500⟩ rfl ?_ ?_
 ·simp
  exact Le.go [(34,34),(35,35)] [] rfl rfl (by simp) (by simp [fcd])
 refine awp_block ?_
 refine awp_loop (ι:=Nat) (fun k=>⟨37,[(1,.pv (nC ⟨N,A⟩)),(6,.rs 34 0 N),(7,.rs 35 0 (inD D k).length),(8,.I k)],[(34,some ⟨1,rowsI b,0⟩),(35,some ⟨1,rowsI (inD D k),0⟩)],500⟩) (fun k=>1 ≤ k ∧ k ≤ N) (fun k=>N - k) 1 (by omega) (Le.go [(34,34),(35,35)] [] rfl rfl (by simp) (by simp [fcd])) ?_
 rintro k ⟨hk1,hk2⟩
 have hdl:=inD_len D k
 refine awp_seq ?_
 refine awp_regc ⟨37,[(1,.pv (nC ⟨N,A⟩)),(6,.rs 34 0 N),(7,.rs 35 0 (inD D k).length),(8,.I k),(24,.B (decide (k < N)))],[(34,some ⟨1,rowsI b,0⟩),(35,some ⟨1,rowsI (inD D k),0⟩)],600⟩ rfl ?_ ?_
 ·simp
  exact Le.go [(34,34),(35,35)] [] rfl rfl (by simp) (by simp [fcd])
 refine awp_cond _ rfl (fun h10=>?_) fun h10=>?_
 ·simp at h10
  obtain ⟨hbe,hbi⟩:=hbk k hk1 h10
  obtain ⟨y,hy⟩ : ∃ y,y = b.getD k 0:=⟨_,rfl⟩
  rw [← hy] at hbe hbi
  have hsu:=inD_succ D k
  have hw1 : IntKind.i64.wrap ((k : Int) + 1) = (k : Int) + 1:=w64 (by omega) (by omega)
  refine awp_skip ?_
  refine awp_cut (ι:=Unit) (fun _=>⟨37,[(1,.pv (nC ⟨N,A⟩)),(6,.rs 34 0 N),(7,.rs 35 0 (inD D (k + 1)).length),(8,.I k)],[(34,some ⟨1,rowsI b,0⟩),(35,some ⟨1,rowsI (inD D (k + 1)),0⟩)],1000⟩) (fun _=>True) ?_ fun _ _=>?_
  ·refine awp_block ?_
   refine awp_regc ⟨37,[(1,.pv (nC ⟨N,A⟩)),(6,.rs 34 0 N),(7,.rs 35 0 (inD D k).length),(8,.I k),(31,.B (!decide (y = 0)))],[(34,some ⟨1,rowsI b,0⟩),(35,some ⟨1,rowsI (inD D k),0⟩)],700⟩ rfl ?_ ?_
   ·simp [hbe,h10]
    exact Le.go [(34,34),(35,35)] [] rfl rfl (by simp <;> exact wkB (by rw [Bool.eq_iff_iff]; simp)) (by simp [fcd])
   refine awp_cond _ rfl (fun h12=>?_) fun h12=>?_
   ·simp at h12
    rw [if_pos (Decidable.byContradiction fun h=>h12 (hbi.2 h))] at hsu
    rw [hsu]
    obtain ⟨E,hE⟩ : ∃ E,E = inD D k:=⟨_,rfl⟩
    rw [← hE] at hdl ⊢
    have htk : ∀ g : Int → List AV,List.take E.length (List.map g E) = List.map g E:=fun g=>List.take_of_length_le (by simp)
    refine awp_reg rfl ?_
    simp [htk]
    exact ⟨by omega,by omega,Le.go [(34,34),(724,35)] [] rfl rfl (by simp) (by simp [fcd])⟩
   ·simp at h12
    rw [if_neg (hbi.1 h12),List.append_nil] at hsu
    rw [hsu]
    refine awp_skip ?_
    exact ⟨(),trivial,Le.go [(34,34),(35,35)] [] rfl rfl (by simp) (by simp [fcd])⟩
  refine awp_run (s:=?s10) rfl ?o10 ?q10
  case o10=>simp; rfl
  exact ⟨k + 1,by omega,by omega,Le.go [(34,34),(35,35)] [] rfl rfl (by simp [hw1]) (by simp [fcd])⟩
 simp at h10
 obtain rfl : k = N:=by omega
 refine awp_exit ?_
 refine hit ?_
 refine awp_regc ⟨37,[(2,.rs 35 0 (inD D k).length),(3,.I 0)],[(35,some ⟨1,rowsI (inD D k),0⟩)],700⟩ rfl ?_ ?_
 ·simp
  exact Le.go [(35,35)] [] rfl rfl (by simp) (by simp [fcd])
 refine awp_ret ?_
 exact ⟨.inr rfl,RetOk.out [35] [] rfl (by simp) (by simp) (by simp) (by simp [fcd])⟩
theorem RetOk.k2n {rs : List (Nat × Option (Bool × Nat))} {st : St} {vs : List AV} {res : AV} {e0 e1 e : Ent} (i : Nat) (hi : 2 ≤ i) (h1 : resAll st rs = some vs) (hw : Wk (conv [(0,0),(1,1),(i,2)] [] st.hp 4 (resV vs)) res)
  (h0 : (st.hp 0).map (convE [(0,0),(1,1),(i,2)] [] st.hp 4) = some e0) (h2 : (st.hp 1).map (convE [(0,0),(1,1),(i,2)] [] st.hp 4) = some e1) (he : (st.hp i).map (convE [(0,0),(1,1),(i,2)] [] st.hp 4) = some e) : RetOk rs 2 st res [some e0,some e1,some e]:=by
 have e2 : List.range 2 ++ [i] = [0,1,i]:=rfl
 refine ⟨vs,h1,[i],[],?_,by simpa using hi,by simp,?_,?_⟩
 ·rw [e2]
  simp
  omega
 ·rw [e2]
  exact hw
 ·rw [e2]
  show [_,_,_] = _
  have h0' : Option.map (convE (([0,1,i] : List Nat).zipIdx) [] st.hp 4) (st.hp 0) = some e0:=h0
  have h2' : Option.map (convE (([0,1,i] : List Nat).zipIdx) [] st.hp 4) (st.hp 1) = some e1:=h2
  have he' : Option.map (convE (([0,1,i] : List Nat).zipIdx) [] st.hp 4) (st.hp i) = some e:=he
  simp only [List.map_cons,List.map_nil,h0',h2',he']
theorem RetOk.k2 {rs : List (Nat × Option (Bool × Nat))} {st : St} {vs : List AV} {res : AV} {e0 e1 : Ent} (h1 : resAll st rs = some vs) (hw : Wk (conv [(0,0),(1,1)] [] st.hp 4 (resV vs)) res)
  (h0 : (st.hp 0).map (convE [(0,0),(1,1)] [] st.hp 4) = some e0) (h2 : (st.hp 1).map (convE [(0,0),(1,1)] [] st.hp 4) = some e1) : RetOk rs 2 st res [some e0,some e1] :=
 ⟨vs,h1,[],[],by decide,by simp,by simp,hw,by
  show [_,_] = _
  have h0' : Option.map (convE ((List.range 2 ++ [] : List Nat).zipIdx) [] st.hp 4) (st.hp 0) = some e0:=h0
  have h2' : Option.map (convE ((List.range 2 ++ [] : List Nat).zipIdx) [] st.hp 4) (st.hp 1) = some e1:=h2
  simp only [h0',h2']⟩
set_option maxRecDepth 100000 in
theorem Reached_c1_ok {N : Nat} {D b : List Int} {R : List (List AV)} (hR : MapF R (camF D b)) (k : Int) : ACalls Tryz.prog nflow_Reached_c1 [.I k,.pt 0 0 0] [⟨1,[[.mp 1]],0⟩,⟨0,R,0⟩] (.B (decide (k ∈ D))) [some ⟨1,[[.mp 1]],0⟩,some ⟨0,R,0⟩]:=by
 refine sflow_Reached_c1.acalls (Nat.le_of_ble_eq_true rfl) (Nat.le_of_ble_eq_true rfl) (Nat.le_refl _) ?_
 show awp _ 2 _ _ ⟨13,[(0,.I k),(1,.pt 0 0 0)],[(0,some ⟨1,[[.mp 1]],0⟩),(1,some ⟨0,R,0⟩)],16⟩
 have hfind:=hR.is.find
 have hsome:=camF_isSome D b k
 have hgd : ∃ u v,(camF D b k).getD (toAV (Value.agg #[Value.int IntKind.i64 0,Value.bool false])) = .agg [.sc u,.sc v]:=by
  cases hc : camF D b k with
  | none=>exact ⟨_,_,toAV_stp⟩
  | some x =>
    obtain ⟨u,v,rfl⟩:=camF_flat _ _ _ _ hc
    exact ⟨u,v,rfl⟩
 obtain ⟨u,v,huv⟩:=hgd
 refine rk (s:=?s1) [0,1] [0,1] rfl ?o1 ?q1
 case o1=>simp; rfl
 refine awp_regc ⟨13,[(5,.B (decide (k ∈ D)))],[(0,some ⟨1,[[.mp 1]],0⟩),(1,some ⟨0,R,0⟩)],200⟩ rfl ?_ ?_
 ·simp [hfind,hsome,huv]
  exact Le.go [(0,0),(1,1)] [] rfl rfl (by simp) (by simp [hR.conv'])
 refine awp_regc ⟨13,[(3,.B (decide (k ∈ D)))],[(0,some ⟨1,[[.mp 1]],0⟩),(1,some ⟨0,R,0⟩)],300⟩ rfl ?_ ?_
 ·simp
  exact Le.go [(0,0),(1,1)] [] rfl rfl (by simp) (by simp [hR.conv'])
 refine awp_ret ?_
 exact ⟨.inr rfl,RetOk.k2 rfl (by simp) (by simp) (by simp [hR.conv'])⟩
set_option maxRecDepth 100000 in
set_option maxHeartbeats 1000000 in
theorem Where_map {D b : List Int} {R : List (List AV)} (hR : MapF R (camF D b)) (N : Nat) (hN : N ≤ 1000000) :
  ACalls Tryz.prog nlists_Where [.I N,.fn (.func nflow_Reached_c1) [] [.pt 0 0 0]] [⟨1,[[.mp 1]],0⟩,⟨0,R,0⟩] (.rs 2 0 (inD D N).length) [some ⟨1,[[.mp 1]],0⟩,some ⟨0,R,0⟩,some ⟨1,rowsI (inD D N),0⟩]:=by
 refine slists_Where.acalls (Nat.le_of_ble_eq_true rfl) (Nat.le_of_ble_eq_true rfl) (by simp) ?_
 show awp _ 2 _ _ ⟨20,[(0,.I N),(1,.fn (.func nflow_Reached_c1) [] [.pt 0 0 0])],[(0,some ⟨1,[[.mp 1]],0⟩),(1,some ⟨0,R,0⟩)],16⟩
 refine awp_regc ⟨20,[(0,.I N),(1,.fn (.func nflow_Reached_c1) [] [.pt 0 0 0])],[(0,some ⟨1,[[.mp 1]],0⟩),(1,some ⟨0,R,0⟩)],24⟩ rfl ?_ ?_
 ·simp
  exact Le.go [(0,0),(1,1)] [] rfl rfl (by simp) (by simp [hR.conv'])
 refine awp_regc ⟨20,[(0,.I N),(1,.fn (.func nflow_Reached_c1) [] [.pt 0 0 0]),(5,.rs 50 0 0)],[(0,some ⟨1,[[.mp 1]],0⟩),(1,some ⟨0,R,0⟩),(50,some ⟨1,[],0⟩)],100⟩ rfl ?_ ?_
 ·simp
  refine Le.lst [(0,0),(1,1)] [] [(50,1)] rfl (by simp) (by simp) (by simp) (by simp) (by simp) (by simp) (by simp) (by simp [Up,conv]) ?_
  simp [hR.conv']
  exact ⟨EntUp.rfl' (Nat.zero_le _),EntUp.rfl' (Nat.zero_le _)⟩
 refine awp_seq ?_
 refine awp_regc ⟨20,[(1,.fn (.func nflow_Reached_c1) [] [.pt 0 0 0]),(5,.rs 50 0 0),(7,.I N),(8,.I 0)],[(0,some ⟨1,[[.mp 1]],0⟩),(1,some ⟨0,R,0⟩),(50,some ⟨1,[],0⟩)],200⟩ rfl ?_ ?_
 ·simp
  exact Le.go [(0,0),(1,1),(50,50)] [] rfl rfl (by simp [conv]) (by simp [hR.conv'])
 refine awp_block ?_
 refine awp_loop (ι:=Nat) (fun k=>⟨20,[(1,.fn (.func nflow_Reached_c1) [] [.pt 0 0 0]),(5,.rs 50 0 (inD D k).length),(7,.I N),(8,.I k)],[(0,some ⟨1,[[.mp 1]],0⟩),(1,some ⟨0,R,0⟩),(50,some ⟨1,rowsI (inD D k),0⟩)],200⟩) (fun k=>k ≤ N) (fun k=>N - k) 0 (Nat.zero_le _) (Le.go [(0,0),(1,1),(50,50)] [] rfl rfl (by simp [conv,inD]) (by simp [hR.conv',inD])) ?_
 intro k hk
 have hwl:=inD_len D k
 refine awp_regc ⟨20,[(1,.fn (.func nflow_Reached_c1) [] [.pt 0 0 0]),(5,.rs 50 0 (inD D k).length),(7,.I N),(8,.I k),(9,.B (decide (k < N)))],[(0,some ⟨1,[[.mp 1]],0⟩),(1,some ⟨0,R,0⟩),(50,some ⟨1,rowsI (inD D k),0⟩)],300⟩ rfl ?_ ?_
 ·simp
  exact Le.go [(0,0),(1,1),(50,50)] [] rfl rfl (by simp [conv]) (by simp [hR.conv',fcd])
 refine awp_seq ?_
 refine awp_cond _ rfl (fun h=>?_) fun h=>?_
 ·simp at h
  have hw2 : IntKind.i64.wrap ((k : Int) + 1) = (k : Int) + 1:=w64 (by omega) (by omega)
  have hnext:=inD_succ D k
  refine awp_skip ?_
  refine awp_cut (ι:=Unit) (fun _=>⟨20,[(1,.fn (.func nflow_Reached_c1) [] [.pt 0 0 0]),(5,.rs 50 0 (inD D (k + 1)).length),(7,.I N),(8,.I k)],[(0,some ⟨1,[[.mp 1]],0⟩),(1,some ⟨0,R,0⟩),(50,some ⟨1,rowsI (inD D (k + 1)),0⟩)],1000⟩) (fun _=>True) ?_ fun _ _=>?_
  ·rw [hnext]
   obtain ⟨W,hW⟩ : ∃ W,W = inD D k:=⟨_,rfl⟩
   rw [← hW] at hwl ⊢
   refine awp_block ?_
   refine awp_regc ⟨20,[(1,.fn (.func nflow_Reached_c1) [] [.pt 0 0 0]),(5,.rs 50 0 W.length),(6,.I k),(7,.I N),(8,.I k)],[(0,some ⟨1,[[.mp 1]],0⟩),(1,some ⟨0,R,0⟩),(50,some ⟨1,rowsI W,0⟩)],400⟩ rfl ?_ ?_
   ·simp
    exact Le.go [(0,0),(1,1),(50,50)] [] rfl rfl (by simp [conv]) (by simp [hR.conv',fcd])
   refine awp_regc ⟨20,[(1,.fn (.func nflow_Reached_c1) [] [.pt 0 0 0]),(5,.rs 50 0 W.length),(6,.I k),(7,.I N),(8,.I k),(13,.B (decide ((k : Int) ∈ D)))],[(0,some ⟨1,[[.mp 1]],0⟩),(1,some ⟨0,R,0⟩),(50,some ⟨1,rowsI W,0⟩)],500⟩ rfl ?_ ?_
   ·simp
    refine callM2 (i:=0) (j:=1) (by decide) rfl rfl (by simp) (by simp [hR.conv']) (Reached_c1_ok (N:=N) hR k) (by simp) (by simp) ?_
    simp [hR.conv']
    exact Le.go [(0,0),(1,1),(50,50)] [] rfl rfl (by simp [conv]) (by simp [hR.conv',fcd])
   refine awp_cond _ rfl (fun h5=>?_) fun h5=>?_
   ·rw [decide_eq_true_eq] at h5
    rw [if_pos h5]
    have hmw : ∀ g : Int → List AV,List.take W.length (List.map g W) = List.map g W:=fun g=>List.take_of_length_le (by simp)
    refine awp_reg rfl ?_
    simp [hmw]
    exact ⟨by omega,by omega,Le.go [(0,0),(1,1),(524,50)] [] rfl rfl (by simp [conv]) (by simp [hR.conv',fcd])⟩
   ·rw [decide_eq_false_iff_not] at h5
    rw [if_neg h5,List.append_nil]
    refine awp_skip ?_
    exact ⟨(),trivial,Le.go [(0,0),(1,1),(50,50)] [] rfl rfl (by simp [conv]) (by simp [hR.conv',fcd])⟩
  refine awp_reg rfl ?_
  simp [hw2]
  exact ⟨k + 1,by omega,by omega,Le.go [(0,0),(1,1),(50,50)] [] rfl rfl (by simp [conv,hw2]) (by simp [hR.conv',fcd])⟩
 simp at h
 obtain rfl : k = N:=by omega
 refine awp_exit ?_
 refine hit ?_
 refine awp_regc ⟨20,[(4,.rs 50 0 (inD D k).length)],[(0,some ⟨1,[[.mp 1]],0⟩),(1,some ⟨0,R,0⟩),(50,some ⟨1,rowsI (inD D k),0⟩)],400⟩ rfl ?_ ?_
 ·simp
  exact Le.go [(0,0),(1,1),(50,50)] [] rfl rfl (by simp) (by simp [hR.conv',fcd])
 refine awp_ret ?_
 exact ⟨.inr rfl,RetOk.k2n 50 (by omega) rfl (by simp) (by simp) (by simp [hR.conv']) (by simp [fcd])⟩
theorem WayA.last {A : List Ed} : ∀ {l : List Nat} {u w : Int},WayA A u l w → (u :: metA A l)[l.length]? = some w
 | [],u,w,h=>by
   have : u = w:=h
   simp [metA,this]
 | i :: l,u,w,h=>by
   have:=WayA.last h.2.2
   simpa [metA] using this
structure BalF (N : Nat) (A : List Ed) (f : List Int) : Prop where
 len : f.length = A.length
 nonneg : ∀ i,0 ≤ f.getD i 0
 bal : ∀ x : Int,2 ≤ x → x < N → exF A f x = 0
variable {N : Nat} {A : List Ed} {f g : List Int}
theorem FlowOk.balF (h : FlowOk N A f) : BalF N A f:=by
 have hf:=fit2_iff.1 h.fit
 refine ⟨hf.1,fun i=>?_,fun x h2 h3=>?_⟩
 ·by_cases hi : i < A.length
  ·exact (hf.2 i hi).1
  ·rw [List.getD_eq_getElem?_getD,List.getElem?_eq_none (by rw [hf.1]; omega)]
   exact Int.le_refl _
 ·have:=h.bal x.toNat (by omega) (by omega)
  rw [Int.toNat_of_nonneg (by omega)] at this
  unfold exF
  omega
theorem LeftA.balF (hf : BalF N A f) {l : List Nat} (h : LeftA A f g l 1) : BalF N A g ∧ exF A g 0 = exF A f 0 - 1:=by
 refine ⟨⟨h.len,h.nonneg,fun x h2 h3=>?_⟩,?_⟩
 ·rw [h.ex x,hf.bal x h2 h3,if_neg (by omega),if_neg (by omega)]
  rfl
 ·rw [h.ex 0,if_pos rfl,if_neg (by decide)]
  omega
structure TakenW (N : Nat) (A : List Ed) (f g : List Int) (W : List (List Nat)) : Prop where
 bal : BalF N A g
 ex : exF A g 0 = exF A f 0 - W.length
 ways : ∀ w ∈ W,WayA A 0 w 1 ∧ (metA A w).Nodup
 used : ∀ i,g.getD i 0 + (sumN (List.count i) W : Int) ≤ f.getD i 0
theorem TakenW.nil (hf : BalF N A f) : TakenW N A f f []:=⟨hf,by simp,by simp,fun i=>by simp [sumN]⟩
theorem TakenW.more {g' : List Int} {W : List (List Nat)} {l : List Nat} (h : TakenW N A f g W) (hl : LeftA A g g' l 1) : TakenW N A f g' (W ++ [l]):=by
 obtain ⟨b1,b2⟩:=hl.balF h.bal
 refine ⟨b1,by rw [b2,h.ex,List.length_append,List.length_singleton]; omega,fun w hw=>?_,fun i=>?_⟩
 ·rcases List.mem_append.1 hw with hw | hw
  ·exact h.ways w hw
  ·rw [List.mem_singleton] at hw
   subst hw
   exact ⟨hl.way,(List.nodup_cons.1 hl.met).2⟩
 ·have h1:=h.used i
  have h2:=hl.used i
  have h3 : sumN (List.count i) (W ++ [l]) = sumN (List.count i) W + l.count i:=by unfold sumN; simp
  rw [h3]
  omega
theorem capS_sum (S : Int → Bool) : ∀ A : List Ed,capS S A = (A.map fun e=>if S e.f = true ∧ S e.t = false then e.v else 0).sum
 | []=>rfl
 | e :: A=>by
   have ih:=capS_sum S A
   unfold capS at ih ⊢
   simp only [List.map_cons,sumF,List.sum_cons]
   rw [ih]
theorem sum_zero {α : Type} {h : α → Int} : ∀ {l : List α},(∀ x ∈ l,h x = 0) → (l.map h).sum = 0
 | [],_=>rfl
 | x :: l,hx=>by
   rw [List.map_cons,List.sum_cons,hx x (List.mem_cons_self ..),sum_zero fun y hy=>hx y (List.mem_cons_of_mem _ hy)]
   rfl
theorem sum_one {α : Type} {h : α → Int} : ∀ {l : List α},(∀ x ∈ l,h x ≤ 1) → (l.map h).sum ≤ l.length
 | [],_=>Int.le_refl _
 | x :: l,hx=>by
   have ih:=sum_one (l:=l) fun y hy=>hx y (List.mem_cons_of_mem _ hy)
   have h1:=hx x (List.mem_cons_self ..)
   rw [List.map_cons,List.sum_cons,List.length_cons]
   omega
theorem maxF_few {g : Gr} {p : Pol} {ks : List Int} (hg : GrOk g) (hp : PolOk g.size p) (hk : ∀ x ∈ ks,0 ≤ x ∧ x < g.size) : maxF (netN g) (netA g p ks) ≤ ks.length:=by
 have hno:=netA_ok hg hp hk
 obtain ⟨f,hf,hv⟩:=maxF_has hno
 rw [← hv]
 refine Int.le_trans (val_le_cut (S:=fun x=>decide (x ≠ 1)) hno hf (by simp) (by simp)) ?_
 rw [capS_sum]
 simp only [netA,netArcs,List.map_append,List.sum_append,List.map_map]
 have hle:=level_ends hg p.lv
 rw [sum_zero,sum_zero,sum_zero (l:=(levelG g p.lv).edges.filter _)]
 ·have h1:=sum_one (h:=(fun e : Ed=>if (decide (e.f ≠ 1)) = true ∧ (decide (e.t ≠ 1)) = false then e.v else 0) ∘ fun x : Int=>(⟨2 + 2 * x,1,1⟩ : Ed)) (l:=ks.filter fun x=>decide (0 < (capsL g p).getD x.toNat 0)) fun x _=>by
   simp only [Function.comp]
   split <;> omega
  have h2:=List.length_filter_le (fun x=>decide (0 < (capsL g p).getD x.toNat 0)) ks
  omega
 ·intro e he
  have:=hle.2 e (List.mem_filter.1 he).1
  simp only [Function.comp]
  rw [if_neg]
  simp
  omega
 ·intro i _
  simp only [Function.comp]
  rw [if_neg]
  simp
  omega
 ·intro x _
  simp only [Function.comp]
  rw [if_neg]
  simp
  omega
theorem exF_val {N : Nat} {A : List Ed} {f : List Int} (hn : NetOk N A) : exF A f 0 = valF A f:=by
 unfold exF valF
 rw [in_source hn]
 omega
def surG (A : List Ed) (f : List Int) (i : Nat) (x : Int) : Int:=- netG A f i x
variable {N : Nat} {A : List Ed} {f : List Int}
theorem surG_all (hl : f.length = A.length) (x : Int) : surG A f A.length x = exF A f x:=by
 unfold surG
 rw [netG_all hl]
 omega
set_option maxRecDepth 100000 in
set_option maxHeartbeats 4000000 in
theorem surplus_ok (hn : NetVal ⟨N,A⟩) (hfl : f.length = A.length) (hfb : ∀ j (h : j < f.length),0 ≤ f[j] ∧ f[j] ≤ 1048576) : ACalls Tryz.prog nflow_surplus [eN ⟨N,A⟩,ints f] [] (.rs 0 0 N) [some ⟨1,rowsI (rowR N (exF A f)),0⟩]:=by
 refine sflow_surplus.acalls (Nat.le_of_ble_eq_true rfl) (Nat.le_of_ble_eq_true rfl) (Nat.zero_le _) ?_
 show awp _ 0 _ _ ⟨43,[(0,eN ⟨N,A⟩),(1,ints f)],[],16⟩
 obtain ⟨hn0,hn1,hal,hav⟩:=hn
 simp only at hn0 hn1 hal hav
 have hbd:=netG_bound hfl hfb
 refine rx (s:=?s1) [1,2] [] [16] rfl ?o1 ?q1
 case o1=>simp; rfl
 refine awp_regc ⟨43,[(1,ints f),(2,.pv (nC ⟨N,A⟩)),(5,.rs 48 0 N)],[(48,some ⟨1,rowsI (rowR N (surG A f 0)),0⟩)],64⟩ rfl ?_ ?_
 ·simp
  refine ⟨by omega,by omega,?_⟩
  have : rowR N (surG A f 0) = List.replicate N 0:=by
   unfold rowR surG
   simp only [netG_zero]
   simp [List.map_const']
  rw [this]
  exact Le.go [(48,48)] [] rfl rfl (by simp) (by simp)
 refine awp_seq ?_
 refine awp_regc ⟨43,[(1,ints f),(5,.rs 48 0 N),(12,eEs A),(13,.I A.length),(14,.I 0)],[(48,some ⟨1,rowsI (rowR N (surG A f 0)),0⟩)],96⟩ rfl ?_ ?_
 ·simp
  exact Le.go [(48,48)] [] rfl rfl (by simp) (by simp [fcd])
 refine awp_block ?_
 refine awp_loop (ι:=Nat) (fun i=>⟨43,[(1,ints f),(5,.rs 48 0 N),(12,eEs A),(13,.I A.length),(14,.I i)],[(48,some ⟨1,rowsI (rowR N (surG A f i)),0⟩)],96⟩) (fun i=>i ≤ A.length) (fun i=>A.length - i) 0 (Nat.zero_le _) (Le.go [(48,48)] [] rfl rfl (by simp) (by simp [fcd])) ?_
 intro i hi
 refine awp_regc ⟨43,[(1,ints f),(5,.rs 48 0 N),(12,eEs A),(13,.I A.length),(14,.I i),(15,.B (decide (i < A.length)))],[(48,some ⟨1,rowsI (rowR N (surG A f i)),0⟩)],104⟩ rfl ?_ ?_
 ·simp
  exact Le.go [(48,48)] [] rfl rfl (by simp) (by simp [fcd])
 refine awp_seq ?_
 refine awp_cond _ rfl (fun h5=>?_) fun h5=>?_
 ·simp at h5
  have h8 : i < f.length:=by omega
  have hw1 : IntKind.i64.wrap ((i : Int) + 1) = (i : Int) + 1:=w64 (by omega) (by omega)
  obtain ⟨b1,b3⟩:=hfb i h8
  have heo:=hav _ (List.getElem_mem h5)
  have hsucc:=netG_succ h5 h8
  have hbe:=fun x=>hbd x i (by omega)
  obtain ⟨e,he⟩ : ∃ e,e = A[i]:=⟨_,rfl⟩
  obtain ⟨w,hw⟩ : ∃ w,w = f[i]:=⟨_,rfl⟩
  rw [← he,← hw] at hsucc
  rw [← hw] at b1 b3
  rw [← he] at heo
  obtain ⟨e1,e2,e3,e4,e5,_⟩:=heo
  have hg1 : A[i]? = some e:=by rw [List.getElem?_eq_getElem h5,he]
  have hg2 : f[i]? = some w:=by rw [List.getElem?_eq_getElem h8,hw]
  have h2N : e.f < (N : Int) ∧ e.t < (N : Int):=by omega
  have h1:=hbe e.f
  have h2:=hbe e.t
  have hwx : IntKind.i64.wrap (surG A f i e.f + w) = surG A f i e.f + w:=w64 (by unfold surG; omega) (by unfold surG; omega)
  have hwy : IntKind.i64.wrap (surG A f i e.t - w) = surG A f i e.t - w:=w64 (by unfold surG; omega) (by unfold surG; omega)
  have hr1:=rowR_get (N:=N) (g:=surG A f i) (x:=e.f) e1 (by omega)
  have hs1:=rowR_set (N:=N) (g:=surG A f i) (x:=e.f) (v:=surG A f i e.f + w) e1 (by omega)
  obtain ⟨g1,hg1d⟩ : ∃ g1 : Int → Int,g1 = fun y=>if y = e.f then surG A f i e.f + w else surG A f i y:=⟨_,rfl⟩
  rw [← hg1d] at hs1
  have hg1t : g1 e.t = surG A f i e.t:=by rw [hg1d]; exact if_neg fun h=>e5 h.symm
  have hr2:=rowR_get (N:=N) (g:=g1) (x:=e.t) e3 (by omega)
  rw [hg1t] at hr2
  have hs2:=rowR_set (N:=N) (g:=g1) (x:=e.t) (v:=surG A f i e.t - w) e3 (by omega)
  have hend : (rowR N fun y=>if y = e.t then surG A f i e.t - w else g1 y) = rowR N (surG A f (i + 1)):=rowR_congr fun x=>by
   unfold surG at hg1d ⊢
   rw [hsucc,hg1d]
   simp only
   by_cases h3 : x = e.t
   ·rw [h3,if_pos rfl,if_pos rfl,if_neg e5]
    omega
   ·by_cases h4 : x = e.f
    ·rw [if_neg h3,if_pos h4,if_neg fun h=>h3 h.symm,if_pos h4.symm,h4]
     omega
    ·rw [if_neg h3,if_neg h4,if_neg fun h=>h3 h.symm,if_neg fun h=>h4 h.symm]
     omega
  rw [hend] at hs2
  refine awp_skip ?_
  refine awp_seq ?_
  refine awp_block ?_
  refine awp_regc ⟨43,[(1,ints f),(5,.rs 48 0 N),(6,.I i),(7,.pv (eC e)),(12,eEs A),(13,.I A.length),(14,.I i)],[(48,some ⟨1,rowsI (rowR N (surG A f i)),0⟩)],152⟩ rfl ?_ ?_
  ·simp [h5,← he]
   exact Le.go [(48,48)] [128] rfl rfl (by simp) (by simp [fcd])
  refine awp_dregc ⟨43,[(1,ints f),(5,.rs 48 0 N),(6,.I i),(7,.pv (eC e)),(12,eEs A),(13,.I A.length),(14,.I i)],[(48,some ⟨1,rowsI (rowR N g1),0⟩)],400⟩ rfl ?_ ?_
  ·simp [hg2,h8,← hw,hr1,e1,h2N,hwx,splice]
   exact ⟨rfl,Le.go [(48,48)] [] rfl rfl (by simp) (by simp [fcd,← hs1])⟩
  refine awp_drw rfl ?_
  simp [hg2,h8,← hw,hr2,e3,h2N,hwy,splice]
  refine ⟨rfl,?_⟩
  refine awp_reg rfl ?_
  simp
  exact ⟨i + 1,by omega,by omega,Le.go [(48,48)] [] rfl rfl (by simp [hw1]) (by simp [fcd,← hs2])⟩
 simp at h5
 obtain rfl : i = A.length:=by omega
 refine awp_exit ?_
 refine hit ?_
 have hfin : rowR N (surG A f A.length) = rowR N (exF A f):=rowR_congr fun x=>surG_all hfl x
 rw [hfin]
 refine awp_regc ⟨43,[(4,.rs 48 0 N)],[(48,some ⟨1,rowsI (rowR N (exF A f)),0⟩)],200⟩ rfl ?_ ?_
 ·simp
  exact Le.go [(48,48)] [] rfl rfl (by simp) (by simp [fcd])
 refine awp_ret ?_
 exact ⟨.inr rfl,RetOk.out [48] [] rfl (by simp) (by simp) (by simp) (by simp [fcd])⟩
def FitAt (A : List Ed) (f : List Int) (i : Nat) : Prop:=0 ≤ f.getD i 0 ∧ f.getD i 0 ≤ (arcD A i).v
theorem flowOk_iff : FlowOk N A f ↔ f.length = A.length ∧ (∀ i,i < A.length → FitAt A f i) ∧ ∀ x : Nat,2 ≤ x → x < N → exF A f x = 0:=by
 constructor
 ·intro h
  have h1:=fit2_iff.1 h.fit
  exact ⟨h1.1,h1.2,fun x h2 h3=>by have:=h.bal x h2 h3; unfold exF; omega⟩
 ·rintro ⟨h1,h2,h3⟩
  exact ⟨fit2_iff.2 ⟨h1,h2⟩,fun x h4 h5=>by have:=h3 x h4 h5; unfold exF at this; omega⟩
theorem any_bal (g : Int → Int) (N : Nat) : ((rowR N g).drop 2).any (fun x=>!decide (x = 0)) = true ↔ ¬ ∀ x : Nat,2 ≤ x → x < N → g x = 0:=by
 rw [List.any_eq_true]
 constructor
 ·rintro ⟨y,hy,h⟩ hall
  obtain ⟨j,hj,rfl⟩:=List.mem_iff_getElem.1 hy
  rw [List.length_drop,rowR_len] at hj
  have:=hall (2 + j) (by omega) (by omega)
  simp [rowR] at h
  exact h (by simpa using this)
 ·intro h
  obtain ⟨x,hx⟩:=Classical.not_forall.1 h
  obtain ⟨h1,hx⟩:=Classical.not_imp.1 hx
  obtain ⟨h2,hx⟩:=Classical.not_imp.1 hx
  refine ⟨g x,List.mem_iff_getElem.2 ⟨x - 2,by rw [List.length_drop,rowR_len]; omega,?_⟩,by simpa using hx⟩
  simp [rowR,show 2 + (x - 2) = x by omega]
theorem flow_Valid_c1_ok (x : Int) : ACalls Tryz.prog nflow_Valid_c1 [.I x] [] (.B (!decide (x = 0))) []:=by
 refine sflow_Valid_c1.acalls (Nat.le_of_ble_eq_true rfl) (Nat.le_of_ble_eq_true rfl) (Nat.le_refl _) ?_
 show awp _ 0 _ _ ⟨5,[(0,.I x)],[],16⟩
 refine rx (s:=?s1) [0] [] [] rfl ?o1 ?q1
 case o1=>simp; rfl
 refine awp_regc ⟨5,[(2,.B (!decide (x = 0)))],[],100⟩ rfl ?_ ?_
 ·simp
  exact Le.go [] [] rfl rfl (by simp <;> exact wkB (by rw [Bool.eq_iff_iff]; simp)) (by simp)
 refine awp_ret ?_
 exact ⟨.inr rfl,RetOk.one (by simp)⟩
set_option maxRecDepth 100000 in
set_option maxHeartbeats 4000000 in
open Classical in
theorem flow_Valid_ok (hn : NetVal ⟨N,A⟩) (hl : f.length ≤ 1099511627776) : ACalls Tryz.prog nflow_Valid [eN ⟨N,A⟩,ints f] [] (.B (decide (FlowOk N A f))) []:=by
 refine sflow_Valid.acalls (Nat.le_of_ble_eq_true rfl) (Nat.le_of_ble_eq_true rfl) (Nat.le_refl _) ?_
 show awp _ 0 _ _ ⟨41,[(0,eN ⟨N,A⟩),(1,ints f)],[],16⟩
 have hchk:=flow_Check_ok ⟨N,A⟩ (by have:=hn.2.2.1; simp only at this ⊢; omega)
 rw [if_pos hn] at hchk
 have hn':=hn
 obtain ⟨hn0,hn1,hal,hav⟩:=hn
 simp only at hn0 hn1 hal hav
 refine rx (s:=?s1) [1,2] [] [16] rfl ?o1 ?q1
 case o1=>simp; rfl
 refine awp_seq ?_
 refine awp_regc ⟨41,[(1,ints f),(2,.pv (nC ⟨N,A⟩)),(17,.B (!decide (f.length = A.length)))],[],120⟩ rfl ?_ ?_
 ·simp
  refine call0e hchk (by simp) ?_
  simp
  exact Le.go [] [] rfl rfl (by simp <;> exact wkB (by rw [Bool.eq_iff_iff]; simp <;> omega)) (by simp)
 refine awp_cond _ rfl (fun h3=>?_) fun h3=>?_
 ·simp at h3
  refine rx (s:=?s4) [4] [] [] rfl ?o4 ?q4
  case o4=>simp; rfl
  refine awp_ret ?_
  have hno : ¬ FlowOk N A f:=fun h=>h3 (flowOk_iff.1 h).1
  exact ⟨.inr rfl,RetOk.one (by simp [hno])⟩
 simp at h3
 refine awp_skip ?_
 refine awp_seq ?_
 refine rx (s:=?s5) [1,2,19,20,21] [] [] rfl ?o5 ?q5
 case o5=>simp; rfl
 refine awp_block ?_
 refine awp_loop (ι:=Nat) (fun i=>⟨41,[(1,ints f),(2,.pv (nC ⟨N,A⟩)),(19,eEs A),(20,.I A.length),(21,.I i)],[],152⟩) (fun i=>i ≤ A.length ∧ ∀ k,k < i → FitAt A f k) (fun i=>A.length - i) 0 (by simp) (Le.go [] [] rfl rfl (by simp) (by simp)) ?_
 rintro i ⟨hi,hp⟩
 refine rx (s:=?s6) [1,2,19,20,21,22] [] [] rfl ?o6 ?q6
 case o6=>simp; rfl
 refine awp_seq ?_
 refine awp_cond _ rfl (fun h7=>?_) fun h7=>?_
 ·simp at h7
  have hw1 : IntKind.i64.wrap ((i : Int) + 1) = (i : Int) + 1:=w64 (by omega) (by omega)
  have hif : i < f.length:=by omega
  obtain ⟨e,he⟩ : ∃ e,e = A[i]:=⟨_,rfl⟩
  obtain ⟨w,hw⟩ : ∃ w,w = f[i]:=⟨_,rfl⟩
  have hfa : FitAt A f i ↔ 0 ≤ w ∧ w ≤ e.v:=by
   unfold FitAt arcD
   rw [List.getD_eq_getElem?_getD,List.getElem?_eq_getElem hif,Option.getD_some,List.getD_eq_getElem?_getD,List.getElem?_eq_getElem h7,Option.getD_some,he,hw]
  refine awp_skip ?_
  refine awp_seq ?_
  refine awp_block ?_
  refine awp_regc ⟨41,[(1,ints f),(2,.pv (nC ⟨N,A⟩)),(5,.I i),(6,.pv (eC e)),(19,eEs A),(20,.I A.length),(21,.I i)],[],300⟩ rfl ?_ ?_
  ·simp [h7,← he]
   exact Le.go [] [184] rfl rfl (by simp) (by simp)
  refine awp_dregc ⟨41,[(1,ints f),(2,.pv (nC ⟨N,A⟩)),(19,eEs A),(20,.I A.length),(21,.I i),(33,.B (!decide (0 ≤ w ∧ w ≤ e.v)))],[],400⟩ rfl ?_ ?_
  ·simp [hif,← hw]
   refine call0e (lists_In_ok w 0 e.v) (by simp) ?_
   simp
   exact ⟨rfl,Le.go [] [] rfl rfl (by simp <;> exact wkB (by rw [Bool.eq_iff_iff]; simp)) (by simp)⟩
  refine awp_cond _ rfl (fun h10=>?_) fun h10=>?_
  ·have h10' : ¬ (0 ≤ w ∧ w ≤ e.v):=by simp at h10; omega
   refine rx (s:=?s11) [4] [] [] rfl ?o11 ?q11
   case o11=>simp; rfl
   refine awp_ret ?_
   have hno : ¬ FlowOk N A f:=fun h=>h10' (hfa.1 ((flowOk_iff.1 h).2.1 i h7))
   exact ⟨.inr rfl,RetOk.one (by simp [hno])⟩
  have h10' : 0 ≤ w ∧ w ≤ e.v:=by simpa using h10
  refine awp_skip ?_
  refine awp_reg rfl ?_
  simp
  refine ⟨i + 1,⟨by omega,fun k hk=>?_⟩,by omega,Le.go [] [] rfl rfl (by simp [hw1]) (by simp)⟩
  rcases Nat.lt_succ_iff_lt_or_eq.1 hk with h | h
  ·exact hp k h
  ·rw [h]; exact hfa.2 h10'
 simp at h7
 obtain rfl : i = A.length:=by omega
 have hfb : ∀ j (h : j < f.length),0 ≤ f[j] ∧ f[j] ≤ 1048576:=fun j hj=>by
  have h1:=hp j (by omega)
  unfold FitAt at h1
  have e1 : f.getD j 0 = f[j]:=by rw [List.getD_eq_getElem?_getD,List.getElem?_eq_getElem hj,Option.getD_some]
  have e2 : arcD A j = A[j]'(by omega):=by unfold arcD; rw [List.getD_eq_getElem?_getD,List.getElem?_eq_getElem (by omega),Option.getD_some]
  rw [e1,e2] at h1
  have h2:=(hav _ (List.getElem_mem (show j < A.length by omega))).2.2.2.2.2.2.2.2
  omega
 refine awp_exit ?_
 refine hit ?_
 have hsur:=surplus_ok hn' h3 hfb
 have hcf:=ContainsFuncI_ok nflow_Valid_c1 [] (fun x=>!decide (x = 0)) ((rowR N (exF A f)).drop 2) (by rw [List.length_drop,rowR_len]; omega) (fun ρ sn h k=>by simp) (fun e _=>flow_Valid_c1_ok e)
 have hiff : FlowOk N A f ↔ ((rowR N (exF A f)).drop 2).any (fun x=>!decide (x = 0)) = false:=by
  rw [← Bool.not_eq_true,any_bal,Classical.not_not,flowOk_iff]
  exact ⟨fun h=>h.2.2,fun h=>⟨h3,hp,h⟩⟩
 obtain ⟨l,hld⟩ : ∃ l,l = rowR N (exF A f):=⟨_,rfl⟩
 have hll : l.length = N:=by rw [hld,rowR_len]
 rw [← hld] at hsur hcf hiff
 obtain ⟨b,hb⟩ : ∃ b,b = (l.drop 2).any (fun x=>!decide (x = 0)):=⟨_,rfl⟩
 rw [← hb] at hcf hiff
 refine awp_regc ⟨41,[(4,.B (!b))],[],300⟩ rfl ?_ ?_
 ·simp
  refine callN1 hsur (by simp) ?_
  simp
  refine k_slr 2 (i:=176) rfl rfl (by omega) ?_
  simp
  have h2N : 2 + (N - 2) ≤ N:=by omega
  refine call0s [176] hcf (by simp [fcd,hll,h2N]; exact List.take_of_length_le (by simp; omega)) (.sc _) ?_
  simp
  exact Le.go [] [] rfl rfl (by simp) (by simp)
 refine awp_ret ?_
 exact ⟨.inr rfl,RetOk.one (by simp [hiff])⟩
set_option maxRecDepth 100000 in
open Classical in
theorem flow_Value_ok (hn : NetVal ⟨N,A⟩) (hl : f.length ≤ 1099511627776) : ACalls Tryz.prog nflow_Value [eN ⟨N,A⟩,ints f] [] (.I (if FlowOk N A f then valF A f else 0)) []:=by
 refine sflow_Value.acalls (Nat.le_of_ble_eq_true rfl) (Nat.le_of_ble_eq_true rfl) (Nat.le_refl _) ?_
 show awp _ 0 _ _ ⟨14,[(0,eN ⟨N,A⟩),(1,ints f)],[],16⟩
 have hvl:=flow_Valid_ok hn hl
 refine rx (s:=?s1) [1,2] [] [16] rfl ?o1 ?q1
 case o1=>simp; rfl
 refine awp_seq ?_
 refine rx (s:=?s2) [1,2,8] [] [] rfl ?o2 ?q2
 case o2=>simp; refine call0e hvl (by simp) ?_; simp; rfl
 refine awp_cond _ rfl (fun h3=>?_) fun h3=>?_
 ·simp at h3
  refine rx (s:=?s4) [4] [] [] rfl ?o4 ?q4
  case o4=>simp; rfl
  refine awp_ret ?_
  exact ⟨.inr rfl,RetOk.one (by simp [h3])⟩
 simp at h3
 have h31:=fit2_iff.1 h3.fit
 have hav:=hn.2.2.2
 simp only at hav
 have hfb : ∀ j (h : j < f.length),0 ≤ f[j] ∧ f[j] ≤ 1048576:=fun j hj=>by
  have h1:=h31.2 j (by omega)
  have e1 : f.getD j 0 = f[j]:=by rw [List.getD_eq_getElem?_getD,List.getElem?_eq_getElem hj,Option.getD_some]
  have e2 : arcD A j = A[j]'(by omega):=by unfold arcD; rw [List.getD_eq_getElem?_getD,List.getElem?_eq_getElem (by omega),Option.getD_some]
  rw [e1,e2] at h1
  have h2:=(hav _ (List.getElem_mem (show j < A.length by omega))).2.2.2.2.2.2.2.2
  omega
 have hsur:=surplus_ok hn h31.1 hfb
 have hv:=exF_val (f:=f) (netOk_of hn)
 have hn0:=hn.1
 simp only at hn0
 have hr:=rowR_get (N:=N) (g:=exF A f) (x:=0) (Int.le_refl _) (by omega)
 rw [hv] at hr
 obtain ⟨l,hld⟩ : ∃ l,l = rowR N (exF A f):=⟨_,rfl⟩
 rw [← hld] at hsur hr
 simp only [Int.toNat_zero] at hr
 refine awp_skip ?_
 refine awp_regc ⟨14,[(4,.I (valF A f))],[],300⟩ rfl ?_ ?_
 ·simp
  refine callN1 hsur (by simp) ?_
  have h0N : 0 < (N : Int):=by omega
  simp [hr,h0N]
  exact ⟨by omega,Le.go [] [] rfl rfl (by simp) (by simp)⟩
 refine awp_ret ?_
 exact ⟨.inr rfl,RetOk.one (by simp [h3])⟩
section
variable {N : Nat} {A : List Ed} {f : List Int}
theorem stE_range (hn : NetOk N A) {s : Stp} (hs : s.1 < A.length) : 0 ≤ stT A s ∧ stT A s < N:=by
 have:=hn.arc _ (arcD_mem hs)
 unfold stT
 split <;> omega
theorem Bfs.grow (hn : NetOk N A) : ∀ (n : Nat) (D b : List Int),Bfs N A f D b → N - D.length ≤ n → ∃ D' b',Bfs N A f D' b' ∧ ClosedS A f D'
 | n,D,b,h,hl=>by
   by_cases hc : ClosedS A f D
   ·exact ⟨D,b,h,hc⟩
   ·unfold ClosedS at hc
    obtain ⟨s,hs⟩:=Classical.not_forall.1 hc
    obtain ⟨h1,hs⟩:=Classical.not_imp.1 hs
    obtain ⟨h2,hs⟩:=Classical.not_imp.1 hs
    obtain ⟨h3,h4⟩:=Classical.not_imp.1 hs
    have hr:=stE_range hn h1
    have hp:=h.push h1 h2 h3 h4 hr.1 hr.2
    have hf:=hp.few
    rw [List.length_append,List.length_singleton] at hf
    match n,hl with
    | 0,hl=>omega
    | n + 1,hl=>exact Bfs.grow hn n _ _ hp (by rw [List.length_append,List.length_singleton]; omega)
theorem no_sink (hn : NetOk N A) {D b : List Int} (hf1 : FlowOk N A f) (hf2 : ∀ f',FlowOk N A f' → valF A f' ≤ valF A f) (hb : Bfs N A f D b) : (1 : Int) ∉ D:=fun hm=>by
 obtain ⟨l,hl⟩:=hb.chain hm
 have h1:=hl.push hn hf1 (v:=1) (by omega) fun s hs=>by
  obtain ⟨i,hi,rfl⟩:=List.mem_iff_getElem.1 hs
  have:=(hl.at_ i hi).2.1
  omega
 have h2:=hf2 _ h1.1
 omega
theorem maxF_le (hn : NetOk N A) {S : Int → Bool} (h0 : S 0 = true) (h1 : S 1 = false) : maxF N A ≤ capS S A:=by
 obtain ⟨f,hf,hv⟩:=maxF_has hn
 rw [← hv]
 exact val_le_cut hn hf h0 h1
theorem least_ex (hn : NetOk N A) : ∃ X : Int → Bool,X 0 = true ∧ X 1 = false ∧ capS X A = maxF N A ∧ ∀ S : Int → Bool,S 0 = true → S 1 = false → capS S A = maxF N A → ∀ x,X x = true → S x = true:=by
 obtain ⟨f,hf,hm⟩:=ex_greatest hn
 obtain ⟨D,b,hb,hc⟩:=Bfs.grow hn N [0] _ (Bfs.start (f:=f) (by have:=hn.two; omega)) (by omega)
 have h1:=no_sink hn hf hm hb
 have hmf:=maxF_of hf hm
 refine ⟨fun x=>decide (x ∈ D),by simpa using hb.mem0,by simpa using h1,?_,fun S s0 s1 hS x hx=>?_⟩
 ·rw [hmf]
  exact (greatest hn hf hb.mem0 h1 hc).1.symm
 ·exact least_side hn hf hb.tree s0 s1 (hS.trans hmf) x (by simpa using hx)
end
def baseS (g : Gr) (p : Pol) (S : Int → Bool) : Int:=capS S (netA g p [])
def sinkS (S : Int → Bool) (ks : List Int) : Int:=(ks.map fun k=>if S (2 + 2 * k) = true then 1 else 0).sum
variable {g : Gr} {p : Pol}
def ReachK (g : Gr) (p : Pol) (k : Int) : Prop:=0 < (capsL g p).getD k.toNat 0
theorem capS_split {S : Int → Bool} (h1 : S 1 = false) {ks : List Int} (hk : ∀ k ∈ ks,ReachK g p k) : capS S (netA g p ks) = baseS g p S + sinkS S ks:=by
 have hf : ks.filter (fun x=>decide (0 < (capsL g p).getD x.toNat 0)) = ks:=List.filter_eq_self.2 fun x hx=>decide_eq_true (hk x hx)
 unfold baseS sinkS
 simp only [capS_sum,netA,netArcs,List.map_append,List.sum_append,List.map_map,hf]
 have e : ((fun e : Ed=>if S e.f = true ∧ S e.t = false then e.v else 0) ∘ fun x : Int=>(⟨2 + 2 * x,1,1⟩ : Ed)) = fun k=>if S (2 + 2 * k) = true then 1 else 0:=by
  funext k
  simp only [Function.comp,h1,and_true]
 rw [e]
 simp only [List.filter_nil,List.map_nil,List.sum_nil]
 omega
theorem sinkS_le (S : Int → Bool) : ∀ ks : List Int,sinkS S ks ≤ ks.length
 | []=>Int.le_refl _
 | k :: ks=>by
   have ih:=sinkS_le S ks
   unfold sinkS at ih ⊢
   simp only [List.map_cons,List.sum_cons,List.length_cons]
   split <;> omega
theorem sinkS_append (S : Int → Bool) (a b : List Int) : sinkS S (a ++ b) = sinkS S a + sinkS S b:=by simp [sinkS]
theorem sinkS_perm (S : Int → Bool) {a b : List Int} (h : a.Perm b) : sinkS S a = sinkS S b:=by
 unfold sinkS
 induction h with
 | nil=>rfl
 | cons x _ ih=>simp only [List.map_cons,List.sum_cons,ih]
 | swap x y l=>simp only [List.map_cons,List.sum_cons]; omega
 | trans _ _ ih1 ih2=>exact ih1.trans ih2
structure KeysOk (g : Gr) (p : Pol) (ks : List Int) : Prop where
 rng : ∀ x ∈ ks,0 ≤ x ∧ x < g.size
 reach : ∀ x ∈ ks,ReachK g p x
theorem KeysOk.sub {a b : List Int} (h : KeysOk g p b) (hs : ∀ x ∈ a,x ∈ b) : KeysOk g p a:=⟨fun x hx=>h.rng x (hs x hx),fun x hx=>h.reach x (hs x hx)⟩
theorem KeysOk.nil : KeysOk g p []:=⟨fun _ h=>(List.not_mem_nil h).elim,fun _ h=>(List.not_mem_nil h).elim⟩
theorem KeysOk.append {a b : List Int} (h : KeysOk g p a) (h' : KeysOk g p b) : KeysOk g p (a ++ b) :=
 ⟨fun x hx=>(List.mem_append.1 hx).elim (h.rng x) (h'.rng x),fun x hx=>(List.mem_append.1 hx).elim (h.reach x) (h'.reach x)⟩
theorem canServe_iff (hg : GrOk g) (hp : PolOk g.size p) {ks : List Int} (hk : KeysOk g p ks) : CanServe g p ks ↔ ∀ S : Int → Bool,S 0 = true → S 1 = false → (ks.length : Int) ≤ baseS g p S + sinkS S ks:=by
 have hn:=netA_ok hg hp hk.rng
 unfold CanServe
 constructor
 ·intro h S h0 h1
  rw [← capS_split h1 hk.reach,← h]
  exact maxF_le hn h0 h1
 ·intro h
  obtain ⟨X,h0,h1,hc,_⟩:=least_ex hn
  have h2:=h X h0 h1
  rw [← capS_split h1 hk.reach,hc] at h2
  have h3:=maxF_few (p:=p) hg hp hk.rng
  omega
theorem CanServe.perm (hg : GrOk g) (hp : PolOk g.size p) {a b : List Int} (ha : KeysOk g p a) (h : CanServe g p a) (hp' : a.Perm b) : CanServe g p b:=by
 have hb : KeysOk g p b:=ha.sub fun x hx=>hp'.mem_iff.2 hx
 rw [canServe_iff hg hp hb]
 rw [canServe_iff hg hp ha] at h
 intro S h0 h1
 rw [← sinkS_perm S hp',← hp'.length_eq]
 exact h S h0 h1
theorem CanServe.left (hg : GrOk g) (hp : PolOk g.size p) {a b : List Int} (hk : KeysOk g p (a ++ b)) (h : CanServe g p (a ++ b)) : CanServe g p a:=by
 have ha : KeysOk g p a:=hk.sub fun x hx=>List.mem_append_left _ hx
 rw [canServe_iff hg hp ha]
 rw [canServe_iff hg hp hk] at h
 intro S h0 h1
 have:=h S h0 h1
 rw [sinkS_append,List.length_append] at this
 have:=sinkS_le S b
 omega
theorem CanServe.sublist (hg : GrOk g) (hp : PolOk g.size p) {a b : List Int} (hk : KeysOk g p b) (h : CanServe g p b) (hs : a.Sublist b) : CanServe g p a:=by
 obtain ⟨c,hc⟩ : ∃ c,(a ++ c).Perm b:=by
  induction hs with
  | slnil=>exact ⟨[],.refl _⟩
  | cons x hs ih =>
    obtain ⟨c,hc⟩:=ih (hk.sub fun y hy=>List.mem_cons_of_mem _ hy) (by
     have h2 : CanServe g p (_ ++ [x]):=h.perm hg hp hk (List.perm_append_comm (l₁:=[x]))
     exact h2.left hg hp (hk.sub fun y hy=>by simpa [or_comm] using hy))
    exact ⟨x :: c,List.perm_middle.trans (hc.cons x)⟩
  | cons_cons x hs ih =>
    obtain ⟨c,hc⟩:=ih (hk.sub fun y hy=>List.mem_cons_of_mem _ hy) (by
     have h2 : CanServe g p (_ ++ [x]):=h.perm hg hp hk (List.perm_append_comm (l₁:=[x]))
     exact h2.left hg hp (hk.sub fun y hy=>by simpa [or_comm] using hy))
    exact ⟨c,hc.cons x⟩
 exact (h.perm hg hp hk hc.symm).left hg hp (hk.sub fun x hx=>hc.mem_iff.1 hx)
theorem CanServe.nil (hg : GrOk g) (hp : PolOk g.size p) : CanServe g p []:=by
 have h1:=maxF_few (p:=p) (ks:=[]) hg hp (by simp)
 have hn:=netA_ok (p:=p) (ks:=[]) hg hp (by simp)
 have h2:=maxF_ge hn (flow_zero hn)
 have h3 : valF (netA g p []) ((netA g p []).map fun _=>0) = 0:=by
  unfold valF outF
  have : ∀ A : List Ed,sumF (fun e v=>if e.f = 0 then v else 0) A (A.map fun _=>0) = 0:=by
   intro A
   induction A with
   | nil=>rfl
   | cons e A ih=>simp only [List.map_cons,sumF,ih]; split <;> rfl
  exact this _
 unfold CanServe
 simp at h1 ⊢
 omega
end Go.Proofs.YteiabadhhhckfaaGreat
