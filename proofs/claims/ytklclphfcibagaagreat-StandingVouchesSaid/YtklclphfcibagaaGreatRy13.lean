/- Texts of this claim,merged. -/
import Derived.Test.YtklclphfcibagaaGreatRy12
import Derived.Test.YtklclphfcibagaaGreatRy11
import Derived.Test.YtklclphfcibagaaGreatRy7
import Derived.Test.YtklclphfcibagaaGreatRy8
set_option linter.unusedSimpArgs false
set_option linter.unusedVariables false
set_option linter.unusedSectionVars false
namespace Go.Proofs.YtklclphfcibagaaGreat
open Go
def arc1 (c : List Int) (x : Int) : List Ed:=if 0 < c.getD x.toNat 0 then [⟨0,2 + 2 * x,c.getD x.toNat 0⟩] else []
def arc2 (c : List Int) (i : Nat) : List Ed:=if 0 < c.getD i 0 then [⟨2 + 2 * (i : Int),3 + 2 * (i : Int),c.getD i 0 - 1⟩] else []
def arc3 (c : List Int) (x : Int) : List Ed:=if 0 < c.getD x.toNat 0 then [⟨2 + 2 * x,1,1⟩] else []
def arc4 (c : List Int) (e : Ed) : List Ed:=if 0 < c.getD e.f.toNat 0 then [⟨3 + 2 * e.f,2 + 2 * e.t,64⟩] else []
theorem zdj {α : Type} (q : α → Bool) (f : α → Ed) (l : List α) : (l.filter q).map f = l.flatMap fun x=>if q x = true then [f x] else []:=by
 induction l with
 | nil=>rfl
 | cons x l ih=>by_cases h : q x = true <;> simp [h,ih]
theorem zjg (g : Gr) (p : Pol) (c sinks : List Int) : zbm g p c sinks = p.seeds.flatMap (arc1 c) ++ (List.range c.length).flatMap (arc2 c) ++ sinks.flatMap (arc3 c) ++ (zas g p.lv).edges.flatMap (arc4 c):=by
 unfold zbm
 rw [zdj,zdj,zdj,zdj]
 simp only [decide_eq_true_eq]
 rfl
theorem zif {α : Type} (f : α → List Ed) (l : List α) (i : Nat) (h : i < l.length) : (l.take (i + 1)).flatMap f = (l.take i).flatMap f ++ f l[i]:=by
 rw [List.take_succ_eq_append_getElem h,List.flatMap_append]
 simp
theorem zee {α : Type} (f : α → List Ed) (hf : ∀ x,(f x).length ≤ 1) (l : List α) : (l.flatMap f).length ≤ l.length:=by
 induction l with
 | nil=>simp
 | cons x l ih=>rw [List.flatMap_cons,List.length_append,List.length_cons]; have:=hf x; omega
theorem znj (c : List Int) (x : Int) : (arc1 c x).length ≤ 1:=by unfold arc1; split <;> simp
theorem znp (c : List Int) (x : Nat) : (arc2 c x).length ≤ 1:=by unfold arc2; split <;> simp
theorem zm4 (c : List Int) (x : Int) : (arc3 c x).length ≤ 1:=by unfold arc3; split <;> simp
theorem znm (c : List Int) (x : Ed) : (arc4 c x).length ≤ 1:=by unfold arc4; split <;> simp
theorem zef {α : Type} (f : α → List Ed) (hf : ∀ x,(f x).length ≤ 1) (l : List α) (i : Nat) : ((l.take i).flatMap f).length ≤ l.length:=Nat.le_trans (zee f hf _) (List.length_take_le' i l)
set_option maxRecDepth 100000 in
set_option maxHeartbeats 4000000 in
theorem zjP (g : Gr) (p : Pol) (sinks : List Int) (hg : GrOk g) (hp : zcx g.size p) (hr : Rise sinks 0 (g.size - 1)) (hs : p.seeds.length ≤ 64) (hsl : sinks.length ≤ 64) :
  zao Tryz.prog zfc [eG g,eP p,ints sinks] [] (.tup [eN ⟨2 + 2 * g.size,zbm g p (zaX g p) sinks⟩,.I 0]) []:=by
 refine zlh.ac ?_
 show awp _ 0 _ _ ⟨123,[(0,eG g),(1,eP p),(2,ints sinks)],[],16⟩
 have hsz:=hg.1.1
 have hsz2:=hg.1.2.1
 have hel:=hg.edges_le
 have hgl:=hg.gone_le
 have hchk:=zfh g p (by omega) (by omega) (by omega) (by have:=hp.2.2.2.1; omega)
 rw [if_pos hg,if_pos hp] at hchk
 have hcap:=zkT g p hg (by omega)
 have hcb:=zoW (g:=g) hp
 have hcl : (zaX g p).length = g.size.toNat:=zcR
 rw [← hcl] at hcap
 have hlev:=ze5 g p.lv (by omega) (by omega)
 rw [zjg]
 obtain ⟨C,hC⟩ : ∃ C,C = zaX g p:=⟨_,rfl⟩
 rw [← hC] at hcap hcl hcb ⊢
 have hGe : ∀ e ∈ (zas g p.lv).edges,e ∈ g.edges:=fun e he=>(List.mem_filter.1 he).1
 have hGl : (zas g p.lv).edges.length ≤ 500:=Nat.le_trans (List.length_filter_le ..) hel
 obtain ⟨G,hG⟩ : ∃ G,G = zas g p.lv:=⟨_,rfl⟩
 rw [← hG] at hlev hGe hGl ⊢
 have hw1 : IntKind.i64.wrap (g.size - 1) = g.size - 1:=w6
 have hfit : ∀ e ∈ G.edges,(0 ≤ e.f ∧ e.f < g.size) ∧ (0 ≤ e.t ∧ e.t < g.size):=fun e he=>by
  have:=hg.fits e (hGe e he)
  unfold Fits at this
  omega
 have hkey : ∀ k : Int,0 ≤ k → k < g.size → ∃ j : Nat,k = j ∧ j < C.length ∧ j < 64:=fun k h0 h1=>⟨k.toNat,by omega,by omega,by omega⟩
 have hseed : ∀ k ∈ p.seeds,∃ j : Nat,k = j ∧ j < C.length ∧ j < 64:=fun k hk=>by
  obtain ⟨i,hi,rfl⟩:=List.getElem_of_mem hk
  have:=hp.2.1 i hi
  exact hkey _ (by omega) (by omega)
 have hsink : ∀ k ∈ sinks,∃ j : Nat,k = j ∧ j < C.length ∧ j < 64:=fun k hk=>by
  obtain ⟨i,hi,rfl⟩:=List.getElem_of_mem hk
  have:=hr i hi
  exact hkey _ (by omega) (by omega)
 refine zad ⟨123,[(2,ints sinks),(3,.pv (gC g)),(4,.pv (pC p)),(6,.pt 32 0 0)],[(32,some ⟨2,[[.I 0,.nilS]],0⟩)],48⟩ rfl ?_ ?_
 ·simp
  exact LeH [(32,32)] [16,24]
 refine zac ?_
 refine rk (s:=?s2) [2,3,4,6,8] [32] rfl ?o2 ?q2
 case o2=>simp; refine zaJ hchk (by simp) ?_; simp; rfl
 refine rk (s:=?s3) [2,3,4,6,24] [32] rfl ?o3 ?q3
 case o3=>simp; rfl
 refine zak _ rfl (fun h4=>?_) fun h4=>zal ?_
 ·simp at h4
 refine zac ?_
 refine rk (s:=?s5) [2,3,4,6,32] [32] rfl ?o5 ?q5
 case o5=>simp [hw1]; refine zaJ (zex sinks 0 (g.size - 1) (by omega)) (by simp) ?_; simp [hr]; rfl
 refine zak _ rfl (fun h6=>?_) fun h6=>zal ?_
 ·simp at h6
 refine rk (s:=?s7) [2,3,4,6,9] [32,176] rfl ?o7 ?q7
 case o7=>simp; refine zaJ (zco g.size hsz (by omega)) (by simp) ?_; simp; rfl
 obtain ⟨N,hN⟩ : ∃ N : Int,N = 2 + 2 * g.size:=⟨_,rfl⟩
 simp only [← hN]
 refine rk (s:=?s8) [2,3,4,6,9,10] [32,176] rfl ?o8 ?q8
 case o8=>simp; rfl
 refine zad ⟨123,[(2,ints sinks),(3,.pv (gC g)),(4,.pv (pC p)),(6,.pt 32 0 0),(9,.pt 176 0 0),(10,.fn (.func zaO) [] [.pt 176 0 0]),(11,ints C)],[(32,some ⟨2,[[.I 0,.nilS]],0⟩),(176,some ⟨2,[[.I N,.nilS]],0⟩)],240⟩ rfl ?_ ?_
 ·simp
  refine zcD hcap (by simp) ?_
  simp [fcd]
  exact Le.go [(32,32),(176,176)] [224] rfl rfl (by simp [fcd,zaU]) (by simp)
 have hb1 : (p.seeds.flatMap (arc1 C)).length ≤ 64:=Nat.le_trans (zee _ (znj C) _) hs
 have hb2 : ((List.range C.length).flatMap (arc2 C)).length ≤ 64:=Nat.le_trans (zee _ (znp C) _) (by rw [List.length_range]; omega)
 have hb3 : (sinks.flatMap (arc3 C)).length ≤ 64:=Nat.le_trans (zee _ (zm4 C) _) hsl
 have hb4 : (G.edges.flatMap (arc4 C)).length ≤ 500:=Nat.le_trans (zee _ (znm C) _) hGl
 obtain ⟨X1,hX1⟩ : ∃ X,X = p.seeds.flatMap (arc1 C):=⟨_,rfl⟩
 obtain ⟨X2,hX2⟩ : ∃ X,X = (List.range C.length).flatMap (arc2 C):=⟨_,rfl⟩
 obtain ⟨X3,hX3⟩ : ∃ X,X = sinks.flatMap (arc3 C):=⟨_,rfl⟩
 obtain ⟨X4,hX4⟩ : ∃ X,X = G.edges.flatMap (arc4 C):=⟨_,rfl⟩
 obtain ⟨Z2,hZ2⟩ : ∃ Z,Z = X1 ++ X2:=⟨_,rfl⟩
 obtain ⟨Z3,hZ3⟩ : ∃ Z,Z = Z2 ++ X3:=⟨_,rfl⟩
 obtain ⟨Z4,hZ4⟩ : ∃ Z,Z = Z3 ++ X4:=⟨_,rfl⟩
 rw [← hX1] at hb1
 rw [← hX2] at hb2
 rw [← hX3] at hb3
 rw [← hX4] at hb4
 rw [← hX1,← hX2,← hX3,← hX4,← hZ2,← hZ3,← hZ4]
 have hz2 : Z2.length ≤ 128:=by rw [hZ2,List.length_append]; omega
 have hz3 : Z3.length ≤ 192:=by rw [hZ3,List.length_append]; omega
 refine zac ?_
 refine rk (s:=?sa1) [2,3,4,6,9,10,11,43,44,45] [32,176] rfl ?oa1 ?qa1
 case oa1=>simp; rfl
 refine zai ?_
 obtain ⟨Fa,Fa0,Fas,Fal,FaN⟩ : ∃ F : Nat → List Ed,F 0 = [] ∧ (∀ i (h : i < (p.seeds).length),F (i + 1) = F i ++ arc1 C (p.seeds)[i]) ∧ (∀ i,(F i).length ≤ 64) ∧ F (p.seeds).length = (p.seeds).flatMap (arc1 C) :=
  ⟨fun i=>((p.seeds).take i).flatMap (arc1 C),by simp,fun i h=>by simp only [zif _ _ i h,List.append_assoc],fun i=>by have:=zef _ (znj C) (p.seeds) i; exact Nat.le_trans this hs,by simp⟩
 rw [← hX1] at FaN
 refine zaI (ι:=Nat) (fun i=>⟨123,[(2,ints sinks),(3,.pv (gC g)),(4,.pv (pC p)),(6,.pt 32 0 0),(9,.pt 176 0 0),(10,.fn (.func zaO) [] [.pt 176 0 0]),(11,ints C),(43,ints p.seeds),(44,.I p.seeds.length),(45,.I i)],[(32,some ⟨2,[[.I 0,.nilS]],0⟩),(176,some (outV N 16 (Fa i).length)),(16,some ⟨3,zb4 (Fa i),0⟩)],272⟩) (fun i=>i ≤ p.seeds.length) (fun i=>p.seeds.length - i) 0 (Nat.zero_le _) (Le.lst [(32,32),(176,176)] [] [(16,3)] rfl (by simp) (by simp) (by simp) (by simp) (by simp) (by simp) (by simp) (by simp [Up]) (by simp [Fa0]; refine ⟨zba.rfl' (by simp),zba.row rfl (by omega) (by simp [UpL,Up])⟩)) ?_
 intro i hi
 refine rk (s:=?sa2) [2,3,4,6,9,10,11,43,44,45,46] [32,176,16] rfl ?oa2 ?qa2
 case oa2=>simp; rfl
 refine zac ?_
 refine zak _ rfl (fun h7=>?_) fun h7=>?_
 ·simp at h7
  have hw : IntKind.i64.wrap ((i : Int) + 1) = (i : Int) + 1:=w6
  have hFi:=Fal i
  obtain ⟨k,hk,hkC,hk64⟩:=hseed _ (List.getElem_mem h7)
  have hFn : Fa (i + 1) = Fa i ++ if 0 < C[k] then [⟨0,2 + 2 * (k : Int),C[k]⟩] else []:=by
   rw [Fas i h7,hk]
   unfold arc1
   simp [hkC]
  refine zal ?_
  refine zbM (ι:=Unit) (fun _=>⟨123,[(2,ints sinks),(3,.pv (gC g)),(4,.pv (pC p)),(6,.pt 32 0 0),(9,.pt 176 0 0),(10,.fn (.func zaO) [] [.pt 176 0 0]),(11,ints C),(43,ints p.seeds),(44,.I p.seeds.length),(45,.I i)],[(32,some ⟨2,[[.I 0,.nilS]],0⟩),(176,some (outV N 16 (Fa (i + 1)).length)),(16,some ⟨3,zb4 (Fa (i + 1)),0⟩)],700⟩) (fun _=>True) ?_ fun _ _=>?_
  ·refine zai ?_
   refine rk (s:=?sa3) [2,3,4,6,9,10,11,13,43,44,45] [32,176,16] rfl ?oa3 ?qa3
   case oa3=>simp [h7,hk]; rfl
   refine rk (s:=?sa4) [2,3,4,6,9,10,11,13,43,44,45,53] [32,176,16] rfl ?oa4 ?qa4
   case oa4=>simp [hkC]; rfl
   refine zak _ rfl (fun h8=>?_) fun h8=>?_
   ·simp at h8
    rw [if_pos h8] at hFn
    refine zdp rfl ?_
    simp [hkC]
    refine zaJ (zco k (by omega) (by omega)) (by simp) ?_
    simp [hkC]
    refine zlD (i:=176) (j:=16) (by decide) rfl rfl (e1':=outV N 1 (Fa i).length) (e2':=⟨3,zb4 (Fa i),0⟩) (by simp) (by simp [fcd]) (zql N 0 (2 + 2 * (k : Int)) C[k] (Fa i) _ rfl (by omega)) (by simp) (by simp) ?_
    simp [fcd]
    exact ⟨rfl,Le.go [(32,32),(176,176),(400,16)] [] rfl rfl (by simp [hFn]) (by simp [hFn,fcd])⟩
   ·simp at h8
    rw [if_neg (by omega)] at hFn
    refine zal ?_
    exact ⟨(),trivial,Le.go [(32,32),(176,176),(16,16)] [] rfl rfl (by simp [hFn]) (by simp [hFn,fcd])⟩
  refine zau ?_
  exact ⟨i + 1,by omega,by omega,Le.go [(32,32),(176,176),(16,16)] [] rfl rfl (by simp [hw]) (by simp [fcd])⟩
 simp at h7
 obtain rfl : i = p.seeds.length:=by omega
 rw [FaN]
 refine zaD ?_
 refine hit ?_
 refine zac ?_
 refine rk (s:=?sb1) [2,3,4,6,9,10,11,63,64,65] [32,176,16] rfl ?ob1 ?qb1
 case ob1=>simp; rfl
 refine zai ?_
 obtain ⟨Fb,Fb0,Fbs,Fbl,FbN⟩ : ∃ F : Nat → List Ed,F 0 = X1 ∧ (∀ i (h : i < (List.range C.length).length),F (i + 1) = F i ++ arc2 C (List.range C.length)[i]) ∧ (∀ i,(F i).length ≤ 200) ∧ F (List.range C.length).length = X1 ++ (List.range C.length).flatMap (arc2 C) :=
  ⟨fun i=>X1 ++ ((List.range C.length).take i).flatMap (arc2 C),by simp,fun i h=>by simp only [zif _ _ i h,List.append_assoc],fun i=>by have:=zef _ (znp C) (List.range C.length) i; rw [List.length_range] at this; rw [List.length_append]; omega,by simp⟩
 rw [List.length_range,← hX2,← hZ2] at FbN
 refine zaI (ι:=Nat) (fun i=>⟨123,[(2,ints sinks),(3,.pv (gC g)),(4,.pv (pC p)),(6,.pt 32 0 0),(9,.pt 176 0 0),(10,.fn (.func zaO) [] [.pt 176 0 0]),(11,ints C),(63,ints C),(64,.I C.length),(65,.I i)],[(32,some ⟨2,[[.I 0,.nilS]],0⟩),(176,some (outV N 16 (Fb i).length)),(16,some ⟨3,zb4 (Fb i),0⟩)],304⟩) (fun i=>i ≤ C.length) (fun i=>C.length - i) 0 (Nat.zero_le _) (Le.go [(32,32),(176,176),(16,16)] [] rfl rfl (by simp [Fb0]) (by simp [Fb0,fcd])) ?_
 intro i hi
 refine rk (s:=?sb2) [2,3,4,6,9,10,11,63,64,65,66] [32,176,16] rfl ?ob2 ?qb2
 case ob2=>simp; rfl
 refine zac ?_
 refine zak _ rfl (fun h7=>?_) fun h7=>?_
 ·simp at h7
  have hw : IntKind.i64.wrap ((i : Int) + 1) = (i : Int) + 1:=w6
  have hFi:=Fbl i
  have hkC:=h7
  have hFn : Fb (i + 1) = Fb i ++ if 0 < C[i] then [⟨2 + 2 * (i : Int),3 + 2 * (i : Int),C[i] - 1⟩] else []:=by
   rw [Fbs i (by simpa using h7)]
   unfold arc2
   simp [hkC]
  have hci:=hcb _ (List.getElem_mem h7)
  have hwc : IntKind.i64.wrap (C[i] - 1) = C[i] - 1:=w6
  refine zal ?_
  refine zbM (ι:=Unit) (fun _=>⟨123,[(2,ints sinks),(3,.pv (gC g)),(4,.pv (pC p)),(6,.pt 32 0 0),(9,.pt 176 0 0),(10,.fn (.func zaO) [] [.pt 176 0 0]),(11,ints C),(63,ints C),(64,.I C.length),(65,.I i)],[(32,some ⟨2,[[.I 0,.nilS]],0⟩),(176,some (outV N 16 (Fb (i + 1)).length)),(16,some ⟨3,zb4 (Fb (i + 1)),0⟩)],700⟩) (fun _=>True) ?_ fun _ _=>?_
  ·refine zai ?_
   refine rk (s:=?sb3) [2,3,4,6,9,10,11,14,15,63,64,65] [32,176,16] rfl ?ob3 ?qb3
   case ob3=>simp [h7]; rfl
   refine rk (s:=?sb4) [2,3,4,6,9,10,11,14,15,63,64,65,71] [32,176,16] rfl ?ob4 ?qb4
   case ob4=>simp [hkC]; rfl
   refine zak _ rfl (fun h8=>?_) fun h8=>?_
   ·simp at h8
    rw [if_pos h8] at hFn
    refine zaV rfl ?_
    simp [hkC]
    refine zaJ (zco i (by omega) (by omega)) (by simp) ?_
    simp [hkC,hwc]
    refine zaJ (zhB i (by omega) (by omega)) (by simp) ?_
    simp [hkC,hwc]
    refine zlD (i:=176) (j:=16) (by decide) rfl rfl (e1':=outV N 1 (Fb i).length) (e2':=⟨3,zb4 (Fb i),0⟩) (by simp) (by simp [fcd]) (zql N (2 + 2 * (i : Int)) (3 + 2 * (i : Int)) (C[i] - 1) (Fb i) _ rfl (by omega)) (by simp) (by simp) ?_
    simp [fcd]
    exact Le.go [(32,32),(176,176),(424,16)] [] rfl rfl (by simp [hFn]) (by simp [hFn,fcd])
   ·simp at h8
    rw [if_neg (by omega)] at hFn
    refine zal ?_
    exact ⟨(),trivial,Le.go [(32,32),(176,176),(16,16)] [] rfl rfl (by simp [hFn]) (by simp [hFn,fcd])⟩
  refine zau ?_
  exact ⟨i + 1,by omega,by omega,Le.go [(32,32),(176,176),(16,16)] [] rfl rfl (by simp [hw]) (by simp [fcd])⟩
 simp at h7
 obtain rfl : i = C.length:=by omega
 rw [FbN]
 refine zaD ?_
 refine hit ?_
 refine zac ?_
 refine rk (s:=?sc1) [3,4,6,9,10,11,81,82,83] [32,176,16] rfl ?oc1 ?qc1
 case oc1=>simp; rfl
 refine zai ?_
 obtain ⟨Fc,Fc0,Fcs,Fcl,FcN⟩ : ∃ F : Nat → List Ed,F 0 = Z2 ∧ (∀ i (h : i < (sinks).length),F (i + 1) = F i ++ arc3 C (sinks)[i]) ∧ (∀ i,(F i).length ≤ 300) ∧ F (sinks).length = Z2 ++ (sinks).flatMap (arc3 C) :=
  ⟨fun i=>Z2 ++ ((sinks).take i).flatMap (arc3 C),by simp,fun i h=>by simp only [zif _ _ i h,List.append_assoc],fun i=>by have:=zef _ (zm4 C) (sinks) i; simp only [List.length_append]; omega,by simp⟩
 rw [← hX3,← hZ3] at FcN
 refine zaI (ι:=Nat) (fun i=>⟨123,[(3,.pv (gC g)),(4,.pv (pC p)),(6,.pt 32 0 0),(9,.pt 176 0 0),(10,.fn (.func zaO) [] [.pt 176 0 0]),(11,ints C),(81,ints sinks),(82,.I sinks.length),(83,.I i)],[(32,some ⟨2,[[.I 0,.nilS]],0⟩),(176,some (outV N 16 (Fc i).length)),(16,some ⟨3,zb4 (Fc i),0⟩)],336⟩) (fun i=>i ≤ sinks.length) (fun i=>sinks.length - i) 0 (Nat.zero_le _) (Le.go [(32,32),(176,176),(16,16)] [] rfl rfl (by simp [Fc0]) (by simp [Fc0,fcd])) ?_
 intro i hi
 refine rk (s:=?sc2) [3,4,6,9,10,11,81,82,83,84] [32,176,16] rfl ?oc2 ?qc2
 case oc2=>simp; rfl
 refine zac ?_
 refine zak _ rfl (fun h7=>?_) fun h7=>?_
 ·simp at h7
  have hw : IntKind.i64.wrap ((i : Int) + 1) = (i : Int) + 1:=w6
  have hFi:=Fcl i
  obtain ⟨k,hk,hkC,hk64⟩:=hsink _ (List.getElem_mem h7)
  have hFn : Fc (i + 1) = Fc i ++ if 0 < C[k] then [⟨2 + 2 * (k : Int),1,1⟩] else []:=by
   rw [Fcs i h7,hk]
   unfold arc3
   simp [hkC]
  refine zal ?_
  refine zbM (ι:=Unit) (fun _=>⟨123,[(3,.pv (gC g)),(4,.pv (pC p)),(6,.pt 32 0 0),(9,.pt 176 0 0),(10,.fn (.func zaO) [] [.pt 176 0 0]),(11,ints C),(81,ints sinks),(82,.I sinks.length),(83,.I i)],[(32,some ⟨2,[[.I 0,.nilS]],0⟩),(176,some (outV N 16 (Fc (i + 1)).length)),(16,some ⟨3,zb4 (Fc (i + 1)),0⟩)],700⟩) (fun _=>True) ?_ fun _ _=>?_
  ·refine zai ?_
   refine rk (s:=?sc3) [3,4,6,9,10,11,17,81,82,83] [32,176,16] rfl ?oc3 ?qc3
   case oc3=>simp [h7,hk]; rfl
   refine rk (s:=?sc4) [3,4,6,9,10,11,17,81,82,83,91] [32,176,16] rfl ?oc4 ?qc4
   case oc4=>simp [hkC]; rfl
   refine zak _ rfl (fun h8=>?_) fun h8=>?_
   ·simp at h8
    rw [if_pos h8] at hFn
    refine zaV rfl ?_
    simp [hkC]
    refine zaJ (zco k (by omega) (by omega)) (by simp) ?_
    simp [hkC]
    refine zlD (i:=176) (j:=16) (by decide) rfl rfl (e1':=outV N 1 (Fc i).length) (e2':=⟨3,zb4 (Fc i),0⟩) (by simp) (by simp [fcd]) (zql N (2 + 2 * (k : Int)) 1 1 (Fc i) _ rfl (by omega)) (by simp) (by simp) ?_
    simp [fcd]
    exact Le.go [(32,32),(176,176),(432,16)] [] rfl rfl (by simp [hFn]) (by simp [hFn,fcd])
   ·simp at h8
    rw [if_neg (by omega)] at hFn
    refine zal ?_
    exact ⟨(),trivial,Le.go [(32,32),(176,176),(16,16)] [] rfl rfl (by simp [hFn]) (by simp [hFn,fcd])⟩
  refine zau ?_
  exact ⟨i + 1,by omega,by omega,Le.go [(32,32),(176,176),(16,16)] [] rfl rfl (by simp [hw]) (by simp [fcd])⟩
 simp at h7
 obtain rfl : i = sinks.length:=by omega
 rw [FcN]
 refine zaD ?_
 refine hit ?_
 refine zac ?_
 refine rk (s:=?sd1) [6,9,10,11,101,102,103] [32,176,16] rfl ?od1 ?qd1
 case od1=>simp; refine zaJ hlev (by simp) ?_; simp; rfl
 refine zai ?_
 obtain ⟨Fd,Fd0,Fds,Fdl,FdN⟩ : ∃ F : Nat → List Ed,F 0 = Z3 ∧ (∀ i (h : i < (G.edges).length),F (i + 1) = F i ++ arc4 C (G.edges)[i]) ∧ (∀ i,(F i).length ≤ 900) ∧ F (G.edges).length = Z3 ++ (G.edges).flatMap (arc4 C) :=
  ⟨fun i=>Z3 ++ ((G.edges).take i).flatMap (arc4 C),by simp,fun i h=>by simp only [zif _ _ i h,List.append_assoc],fun i=>by have:=zef _ (znm C) (G.edges) i; simp only [List.length_append]; omega,by simp⟩
 rw [← hX4,← hZ4] at FdN
 refine zaI (ι:=Nat) (fun i=>⟨123,[(6,.pt 32 0 0),(9,.pt 176 0 0),(10,.fn (.func zaO) [] [.pt 176 0 0]),(11,ints C),(101,eEs G.edges),(102,.I G.edges.length),(103,.I i)],[(32,some ⟨2,[[.I 0,.nilS]],0⟩),(176,some (outV N 16 (Fd i).length)),(16,some ⟨3,zb4 (Fd i),0⟩)],400⟩) (fun i=>i ≤ G.edges.length) (fun i=>G.edges.length - i) 0 (Nat.zero_le _) (Le.go [(32,32),(176,176),(16,16)] [] rfl rfl (by simp [Fd0]) (by simp [Fd0,fcd])) ?_
 intro i hi
 refine rk (s:=?sd2) [6,9,10,11,101,102,103,104] [32,176,16] rfl ?od2 ?qd2
 case od2=>simp; rfl
 refine zac ?_
 refine zak _ rfl (fun h7=>?_) fun h7=>?_
 ·simp at h7
  have hw : IntKind.i64.wrap ((i : Int) + 1) = (i : Int) + 1:=w6
  have hFi:=Fdl i
  obtain ⟨x,hx⟩ : ∃ x,x = G.edges[i]:=⟨_,rfl⟩
  have hfx:=hfit _ (List.getElem_mem h7)
  rw [← hx] at hfx
  obtain ⟨k,hk,hkC,hk64⟩:=hkey x.f hfx.1.1 hfx.1.2
  obtain ⟨u,hu,huC,hu64⟩:=hkey x.t hfx.2.1 hfx.2.2
  have hFn : Fd (i + 1) = Fd i ++ if 0 < C[k] then [⟨3 + 2 * (k : Int),2 + 2 * (u : Int),64⟩] else []:=by
   rw [Fds i h7,← hx]
   unfold arc4
   rw [hk,hu]
   simp [hkC]
  refine zal ?_
  refine zbM (ι:=Unit) (fun _=>⟨123,[(6,.pt 32 0 0),(9,.pt 176 0 0),(10,.fn (.func zaO) [] [.pt 176 0 0]),(11,ints C),(101,eEs G.edges),(102,.I G.edges.length),(103,.I i)],[(32,some ⟨2,[[.I 0,.nilS]],0⟩),(176,some (outV N 16 (Fd (i + 1)).length)),(16,some ⟨3,zb4 (Fd (i + 1)),0⟩)],700⟩) (fun _=>True) ?_ fun _ _=>?_
  ·refine zai ?_
   refine zad ⟨123,[(6,.pt 32 0 0),(9,.pt 176 0 0),(10,.fn (.func zaO) [] [.pt 176 0 0]),(11,ints C),(19,.pv (eC x)),(101,eEs G.edges),(102,.I G.edges.length),(103,.I i)],[(32,some ⟨2,[[.I 0,.nilS]],0⟩),(176,some (outV N 16 (Fd i).length)),(16,some ⟨3,zb4 (Fd i),0⟩)],440⟩ rfl ?_ ?_
   ·simp [h7,← hx]
    exact LeI [(32,32),(176,176),(16,16)] [424]
   refine rk (s:=?sd4) [6,9,10,11,19,101,102,103,112] [32,176,16] rfl ?od4 ?qd4
   case od4=>simp [hk,hkC]; rfl
   refine zak _ rfl (fun h8=>?_) fun h8=>?_
   ·simp at h8
    rw [if_pos h8] at hFn
    refine zdp rfl ?_
    simp [hk,hu]
    refine zaJ (zhB k (by omega) (by omega)) (by simp) ?_
    simp [hkC]
    refine zaJ (zco u (by omega) (by omega)) (by simp) ?_
    simp [hkC]
    refine zlD (i:=176) (j:=16) (by decide) rfl rfl (e1':=outV N 1 (Fd i).length) (e2':=⟨3,zb4 (Fd i),0⟩) (by simp) (by simp [fcd]) (zql N (3 + 2 * (k : Int)) (2 + 2 * (u : Int)) 64 (Fd i) _ rfl (by omega)) (by simp) (by simp) ?_
    simp [fcd]
    exact ⟨rfl,Le.go [(32,32),(176,176),(544,16)] [] rfl rfl (by simp [hFn]) (by simp [hFn,fcd])⟩
   ·simp at h8
    rw [if_neg (by omega)] at hFn
    refine zal ?_
    exact ⟨(),trivial,Le.go [(32,32),(176,176),(16,16)] [] rfl rfl (by simp [hFn]) (by simp [hFn,fcd])⟩
  refine zau ?_
  exact ⟨i + 1,by omega,by omega,Le.go [(32,32),(176,176),(16,16)] [] rfl rfl (by simp [hw]) (by simp [fcd])⟩
 simp at h7
 obtain rfl : i = G.edges.length:=by omega
 rw [FdN]
 refine zaD ?_
 refine hit ?_
 refine rk (s:=?sz) [6,7] [32,16] rfl ?oz ?qz
 case oz=>simp; rfl
 refine zan ?_
 exact ⟨.inr rfl,zat.out [] [16] rfl (by simp) (by simp) (by simp [hN,fcd,zaU]) (by simp)⟩
instance (g : Gr) (lv f t : Int) : Decidable (zqv g lv f t):=by unfold zqv; infer_instance
theorem znN {a : List Int} {n : Int} (h : ∀ k ∈ a,0 ≤ k ∧ k < n) : Rise (za3 a) 0 (n - 1):=by
 intro i hi
 have hm:=zeG.1 (List.getElem_mem hi)
 have:=h _ hm.1
 refine ⟨by omega,by omega,fun hp=>?_⟩
 exact (List.pairwise_iff_getElem.1 (zjW a)) (i - 1) i (by omega) hi (by omega)
theorem zn2 (a : List Int) : (za3 a).length ≤ 64:=Nat.le_trans (List.length_filter_le ..) (by simp)
theorem zoV (g : Gr) (p : Pol) (sinks : List Int) (hg : GrOk g) (hs : p.seeds.length ≤ 64) (hsl : sinks.length ≤ 64) : (zbm g p (zaX g p) sinks).length ≤ 1000:=by
 rw [zjg]
 have h1:=zee _ (znj (zaX g p)) p.seeds
 have h2:=zee _ (znp (zaX g p)) (List.range (zaX g p).length)
 have h3:=zee _ (zm4 (zaX g p)) sinks
 have h4:=zee _ (znm (zaX g p)) (zas g p.lv).edges
 have h5 : (zas g p.lv).edges.length ≤ g.edges.length:=List.length_filter_le ..
 have h6:=hg.edges_le
 have h7:=hg.1.2.1
 have h8:=hg.1.1
 rw [List.length_range] at h2
 have h9 : (zaX g p).length = g.size.toNat:=zcR
 simp only [List.length_append]
 omega
def netN (g : Gr) : Nat:=(2 + 2 * g.size).toNat
theorem zmZ {g : Gr} (hg : GrOk g) : ((netN g : Nat) : Int) = 2 + 2 * g.size:=by unfold netN; have:=hg.1.1; omega
abbrev netA (g : Gr) (p : Pol) (ks : List Int) : List Ed:=zbm g p (zaX g p) ks
def zaC (g : Gr) (p : Pol) (ks : List Int) : Prop:=maxF (netN g) (netA g p ks) = ks.length
theorem zk9 {g : Gr} {p : Pol} {ks : List Int} (hg : GrOk g) (hp : zcx g.size p) (hk : ∀ x ∈ ks,0 ≤ x ∧ x < g.size) : zeF (netN g) (netA g p ks):=zqW hg hp hk
theorem zuc {g : Gr} {p : Pol} {ks : List Int} (hg : GrOk g) (hp : zcx g.size p) (hk : ∀ x ∈ ks,0 ≤ x ∧ x < g.size) (hs : p.seeds.length ≤ 64) (hsl : ks.length ≤ 64) : zcF ⟨netN g,netA g p ks⟩:=by
 have h1:=zk9 hg hp hk
 have h2 : (netA g p ks).length ≤ 1000:=zoV g p ks hg hs hsl
 have h3:=hg.1.2.1
 have hN:=zmZ hg
 have h0:=hg.1.1
 have hcb : ∀ i : Nat,(zaX g p).getD i 0 ≤ 1000:=fun i=>by
  rw [List.getD_eq_getElem?_getD]
  cases h : (zaX g p)[i]? with
  | none=>simp
  | some v =>
    have hm:=List.mem_of_getElem? h
    unfold zaX at hm
    obtain ⟨d,_,rfl⟩:=List.mem_map.1 hm
    exact (zhp hp d).2
 refine ⟨by simp only; omega,by simp only; omega,by simp only; omega,fun a ha=>?_⟩
 obtain ⟨q1,q2,q3,q4,q5,q6,q7,q8⟩:=h1.arc a ha
 refine ⟨q1,by simp only; omega,q3,by simp only; omega,q5,q6,q7,q8,?_⟩
 simp only [netA,zbm] at ha
 rcases List.mem_append.1 ha with ha | ha
 ·rcases List.mem_append.1 ha with ha | ha
  ·rcases List.mem_append.1 ha with ha | ha
   ·obtain ⟨x,hx,rfl⟩:=List.mem_map.1 ha
    have:=hcb x.toNat
    simp only
    omega
   ·obtain ⟨i,hx,rfl⟩:=List.mem_map.1 ha
    have:=hcb i
    simp only
    omega
  ·obtain ⟨x,hx,rfl⟩:=List.mem_map.1 ha
   simp
 ·obtain ⟨e,hx,rfl⟩:=List.mem_map.1 ha
  simp
structure zsp (g : Gr) (p : Pol) (ks f : List Int) : Prop where
 ok : zaS (netN g) (netA g p ks) f
 most : ∀ f',zaS (netN g) (netA g p ks) f' → valF (netA g p ks) f' ≤ valF (netA g p ks) f
 val : valF (netA g p ks) f = maxF (netN g) (netA g p ks)
theorem zwh {ks : List Int} {n : Int} (h : Rise ks 0 (n - 1)) : ∀ x ∈ ks,0 ≤ x ∧ x < n:=fun x hx=>by
 have:=h.nodup.2 x hx
 omega
section
variable {P : Program} {np id : Nat} {h : Nat → Option Ent} {K : AV → List Nat → List (Nat × Option Ent) → Prop} {f : FuncId} {first capt args args' : List AV} {res : AV}
end
section
variable {P : Program} {np id : Nat} {h : Nat → Option Ent} {K : AV → List Nat → List (Nat × Option Ent) → Prop} {f : FuncId} {first capt args args' : List AV} {res : AV}
end
theorem zgN : ∀ {a b : List Int},a.Pairwise (· < ·) → b.Pairwise (· < ·) → (∀ x,x ∈ a ↔ x ∈ b) → a = b
 | [],[],_,_,_=>rfl
 | [],y :: b,_,_,h=>by have:=(h y).2 (by simp); cases this
 | x :: a,[],_,_,h=>by have:=(h x).1 (by simp); cases this
 | x :: a,y :: b,ha,hb,h=>by
   have ha':=List.pairwise_cons.1 ha
   have hb':=List.pairwise_cons.1 hb
   have hxy : x = y:=by
    have h1:=(h x).1 (by simp)
    have h2:=(h y).2 (by simp)
    rcases List.mem_cons.1 h1 with e | e
    ·exact e
    ·rcases List.mem_cons.1 h2 with e2 | e2
     ·exact e2.symm
     ·have:=hb'.1 x e
      have:=ha'.1 y e2
      omega
   subst hxy
   congr 1
   refine zgN ha'.2 hb'.2 fun z=>⟨fun hz=>?_,fun hz=>?_⟩
   ·rcases List.mem_cons.1 ((h z).1 (List.mem_cons_of_mem _ hz)) with rfl | e
    ·have:=ha'.1 z hz; omega
    ·exact e
   ·rcases List.mem_cons.1 ((h z).2 (List.mem_cons_of_mem _ hz)) with rfl | e
    ·have:=hb'.1 z hz; omega
    ·exact e
open Classical in
noncomputable def accR (g : Gr) (p : Pol) (o : List Int) : List Int:=o.foldl (fun acc k=>if zaC g p (za3 (acc ++ [k])) then acc ++ [k] else acc) []
variable {g : Gr} {p : Pol}
theorem zmY : accR g p [] = []:=rfl
open Classical in
theorem zeU {o : List Int} {k : Int} (h : zaC g p (za3 (accR g p o ++ [k]))) : accR g p (o ++ [k]) = accR g p o ++ [k]:=by
 have h2 : accR g p (o ++ [k]) = if zaC g p (za3 (accR g p o ++ [k])) then accR g p o ++ [k] else accR g p o:=by unfold accR; rw [List.foldl_append]; rfl
 rw [h2,if_pos h]
open Classical in
theorem zi4 {o : List Int} {k : Int} (h : ¬ zaC g p (za3 (accR g p o ++ [k]))) : accR g p (o ++ [k]) = accR g p o:=by
 have h2 : accR g p (o ++ [k]) = if zaC g p (za3 (accR g p o ++ [k])) then accR g p o ++ [k] else accR g p o:=by unfold accR; rw [List.foldl_append]; rfl
 rw [h2,if_neg h]
theorem zoB (o : List Int) (k : Int) : accR g p (o ++ [k]) = accR g p o ∨ accR g p (o ++ [k]) = accR g p o ++ [k]:=by
 by_cases h : zaC g p (za3 (accR g p o ++ [k]))
 ·exact .inr (zeU h)
 ·exact .inl (zi4 h)
theorem zhL : ∀ (n : Nat) (o : List Int),o.length = n → (accR g p o).Sublist o
 | 0,o,h=>by
   obtain rfl:=List.eq_nil_of_length_eq_zero h
   exact List.nil_sublist _
 | n + 1,o,h=>by
   have hne : o ≠ []:=fun e=>by rw [e] at h; cases h
   rw [← List.dropLast_concat_getLast hne]
   have ih:=zhL n o.dropLast (by rw [List.length_dropLast,h]; rfl)
   rcases zoB (g:=g) (p:=p) o.dropLast (o.getLast hne) with e | e
   ·rw [e]; exact ih.trans (List.sublist_append_left _ _)
   ·rw [e]; exact ih.append (List.Sublist.refl _)
theorem zjZ {o : List Int} {x : Int} (h : x ∈ accR g p o) : x ∈ o:=(zhL _ o rfl).subset h
theorem zqx (o : List Int) : (accR g p o).length ≤ o.length:=(zhL _ o rfl).length_le
open Classical in
noncomputable def zhQ (N : Nat) (A : List Ed) : List Int:=((List.range N).map fun k : Nat=>(k : Int)).filter fun k=>decide (∀ S : Int → Bool,S 0 = true → S 1 = false → capS S A = maxF N A → S k = true)
theorem zu7 {N : Nat} {A : List Ed} {f D : List Int} {by_ : Int → Stp} (hn : zeF N A) (hf : zaS N A f) (hm : ∀ f',zaS N A f' → valF A f' ≤ valF A f) (ht : zsI A f D by_) (h0 : (0 : Int) ∈ D) (h1 : (1 : Int) ∉ D) (hc : zgn A f D) :
  ((List.range N).map fun k : Nat=>(k : Int)).filter (fun k=>decide (k ∈ D)) = zhQ N A:=by
 unfold zhQ
 refine List.filter_congr fun k _=>?_
 rw [decide_eq_decide]
 have hmf:=zku hf hm
 constructor
 ·intro hk S s0 s1 hS
  exact zl8 hn hf ht s0 s1 (hS.trans hmf) k hk
 ·intro h
  have:=h (fun x=>decide (x ∈ D)) (by simpa using h0) (by simpa using h1) (by rw [hmf]; exact (zmv hn hf h0 h1 hc).1.symm)
  simpa using this
open Classical in
noncomputable def refS (g : Gr) (p : Pol) (o : List Int) : List Int × List (Int × List Int) :=
 o.foldl (fun s k=>if zaC g p (za3 (s.1 ++ [k])) then (s.1 ++ [k],s.2) else (s.1,s.2 ++ [(k,zhQ (netN g) (netA g p (za3 (s.1 ++ [k]))))])) ([],[])
noncomputable def refR (g : Gr) (p : Pol) (o : List Int) : List (Int × List Int):=(refS g p o).2
open Classical in
theorem zkI (o : List Int) (k : Int) : refS g p (o ++ [k]) = if zaC g p (za3 ((refS g p o).1 ++ [k])) then ((refS g p o).1 ++ [k],(refS g p o).2) else ((refS g p o).1,(refS g p o).2 ++ [(k,zhQ (netN g) (netA g p (za3 ((refS g p o).1 ++ [k]))))]):=by
 unfold refS
 rw [List.foldl_append]
 rfl
theorem zmG : ∀ (n : Nat) (o : List Int),o.length = n → (refS g p o).1 = accR g p o
 | 0,o,h=>by
   obtain rfl:=List.eq_nil_of_length_eq_zero h
   rfl
 | n + 1,o,h=>by
   have hne : o ≠ []:=fun e=>by rw [e] at h; cases h
   rw [← List.dropLast_concat_getLast hne]
   have ih:=zmG n o.dropLast (by rw [List.length_dropLast,h]; rfl)
   rw [zkI,ih]
   split
   ·rename_i h1
    rw [zeU h1]
   ·rename_i h1
    rw [zi4 h1]
theorem zmD {o : List Int} {k : Int} (h : zaC g p (za3 (accR g p o ++ [k]))) : refR g p (o ++ [k]) = refR g p o:=by
 unfold refR
 rw [zkI,zmG _ o rfl,if_pos h]
theorem zpN {o : List Int} {k : Int} (h : ¬ zaC g p (za3 (accR g p o ++ [k]))) : refR g p (o ++ [k]) = refR g p o ++ [(k,zhQ (netN g) (netA g p (za3 (accR g p o ++ [k]))))]:=by
 unfold refR
 rw [zkI,zmG _ o rfl,if_neg h]
structure zvt (g : Gr) (p : Pol) (acc : List Int) (k : Int) (side : List Int) : Prop where
 no : ¬ zaC g p (za3 (acc ++ [k]))
 ok : zvS ⟨netN g,netA g p (za3 (acc ++ [k]))⟩ side
 cut : cutV (netA g p (za3 (acc ++ [k]))) side = maxF (netN g) (netA g p (za3 (acc ++ [k])))
 len : side.length ≤ 130
 eq : side = zhQ (netN g) (netA g p (za3 (acc ++ [k])))
structure zno (g : Gr) (p : Pol) (o : List Int) (R : List (Int × List Int)) : Prop where
 all : ∀ i (h : i < o.length),o[i] ∉ accR g p (o.take (i + 1)) → ∃ side,(o[i],side) ∈ R
 right : ∀ r ∈ R,∃ i,∃ h : i < o.length,o[i] = r.1 ∧ zvt g p (accR g p (o.take i)) r.1 r.2
 len : R.length ≤ o.length
 eq : R = refR g p o
theorem zno.nil : zno g p [] []:=⟨fun i h=>absurd h (Nat.not_lt_zero _),(fun r h=>nomatch h),Nat.le_refl _,rfl⟩
theorem zno.yes {o : List Int} {k : Int} {R : List (Int × List Int)} (hr : zno g p o R) (h : zaC g p (za3 (accR g p o ++ [k]))) : zno g p (o ++ [k]) R:=by
 refine ⟨fun i hi hn=>?_,fun r hr'=>?_,Nat.le_trans hr.len (by simp),by rw [zmD h]; exact hr.eq⟩
 ·rw [List.length_append,List.length_singleton] at hi
  by_cases hio : i < o.length
  ·rw [List.getElem_append_left hio] at hn ⊢
   rw [List.take_append_of_le_length (by omega)] at hn
   exact hr.all i hio hn
  ·obtain rfl : i = o.length:=by omega
   refine absurd ?_ hn
   rw [List.take_of_length_le (by simp),zeU h]
   simp
 ·obtain ⟨i,hi,h1,h2⟩:=hr.right r hr'
  refine ⟨i,by simp; omega,by rw [List.getElem_append_left hi]; exact h1,?_⟩
  rw [List.take_append_of_le_length (by omega)]
  exact h2
theorem zno.no {o : List Int} {k : Int} {R : List (Int × List Int)} {side : List Int} (hr : zno g p o R) (h : zvt g p (accR g p o) k side) : zno g p (o ++ [k]) (R ++ [(k,side)]):=by
 refine ⟨fun i hi hn=>?_,fun r hr'=>?_,by have:=hr.len; simp; omega,by rw [zpN h.no,← hr.eq,← h.eq]⟩
 ·rw [List.length_append,List.length_singleton] at hi
  by_cases hio : i < o.length
  ·rw [List.getElem_append_left hio] at hn ⊢
   rw [List.take_append_of_le_length (by omega)] at hn
   obtain ⟨s,hs⟩:=hr.all i hio hn
   exact ⟨s,List.mem_append_left _ hs⟩
  ·obtain rfl : i = o.length:=by omega
   exact ⟨side,by simp⟩
 ·rcases List.mem_append.1 hr' with h3 | h3
  ·obtain ⟨i,hi,h1,h2⟩:=hr.right r h3
   refine ⟨i,by simp; omega,by rw [List.getElem_append_left hi]; exact h1,?_⟩
   rw [List.take_append_of_le_length (by omega)]
   exact h2
  ·rw [List.mem_singleton] at h3
   subst h3
   refine ⟨o.length,by simp,by simp,?_⟩
   rw [List.take_append_of_le_length (Nat.le_refl _),List.take_length]
   exact h
def inD (D : List Int) (n : Nat) : List Int:=((List.range n).map fun k : Nat=>(k : Int)).filter fun k=>decide (k ∈ D)
theorem zum (D : List Int) (n : Nat) : inD D (n + 1) = inD D n ++ if (n : Int) ∈ D then [(n : Int)] else []:=by
 unfold inD
 rw [List.range_succ,List.map_append,List.filter_append]
 simp only [List.map_cons,List.map_nil,List.filter_cons,List.filter_nil]
 split <;> simp_all
theorem zwJ (D : List Int) (n : Nat) : (inD D n).length ≤ n:=by
 unfold inD
 refine Nat.le_trans (List.length_filter_le ..) (by simp)
theorem zat.k2n {rs : List (Nat × Option (Bool × Nat))} {st : St} {vs : List AV} {res : AV} {e0 e1 e : Ent} (i : Nat) (hi : 2 ≤ i) (h1 : ze0 st rs = some vs) (hw : Wk (conv [(0,0),(1,1),(i,2)] [] st.hp 4 (resV vs)) res)
  (h0 : (st.hp 0).map (zaw [(0,0),(1,1),(i,2)] [] st.hp 4) = some e0) (h2 : (st.hp 1).map (zaw [(0,0),(1,1),(i,2)] [] st.hp 4) = some e1) (he : (st.hp i).map (zaw [(0,0),(1,1),(i,2)] [] st.hp 4) = some e) : zat rs 2 st res [some e0,some e1,some e]:=by
 have e2 : List.range 2 ++ [i] = [0,1,i]:=rfl
 refine ⟨vs,h1,[i],[],?_,by simpa using hi,by simp,?_,?_⟩
 ·rw [e2]
  simp
  omega
 ·rw [e2]
  exact hw
 ·rw [e2]
  show [_,_,_] = _
  have h0' : Option.map (zaw (([0,1,i] : List Nat).zipIdx) [] st.hp 4) (st.hp 0) = some e0:=h0
  have h2' : Option.map (zaw (([0,1,i] : List Nat).zipIdx) [] st.hp 4) (st.hp 1) = some e1:=h2
  have he' : Option.map (zaw (([0,1,i] : List Nat).zipIdx) [] st.hp 4) (st.hp i) = some e:=he
  simp only [List.map_cons,List.map_nil,h0',h2',he']
theorem zat.k2 {rs : List (Nat × Option (Bool × Nat))} {st : St} {vs : List AV} {res : AV} {e0 e1 : Ent} (h1 : ze0 st rs = some vs) (hw : Wk (conv [(0,0),(1,1)] [] st.hp 4 (resV vs)) res)
  (h0 : (st.hp 0).map (zaw [(0,0),(1,1)] [] st.hp 4) = some e0) (h2 : (st.hp 1).map (zaw [(0,0),(1,1)] [] st.hp 4) = some e1) : zat rs 2 st res [some e0,some e1] :=
 ⟨vs,h1,[],[],by decide,by simp,by simp,hw,by
  show [_,_] = _
  have h0' : Option.map (zaw ((List.range 2 ++ [] : List Nat).zipIdx) [] st.hp 4) (st.hp 0) = some e0:=h0
  have h2' : Option.map (zaw ((List.range 2 ++ [] : List Nat).zipIdx) [] st.hp 4) (st.hp 1) = some e1:=h2
  simp only [h0',h2']⟩
set_option maxRecDepth 100000 in
theorem zm3 {N : Nat} {D b : List Int} {R : List (List AV)} (hR : MapF R (camF D b)) (k : Int) : zao Tryz.prog zaQ [.I k,.pt 0 0 0] [⟨1,[[.mp 1]],0⟩,⟨0,R,0⟩] (.B (decide (k ∈ D))) [some ⟨1,[[.mp 1]],0⟩,some ⟨0,R,0⟩]:=by
 refine zjB.ac ?_
 show awp _ 2 _ _ ⟨13,[(0,.I k),(1,.pt 0 0 0)],[(0,some ⟨1,[[.mp 1]],0⟩),(1,some ⟨0,R,0⟩)],16⟩
 have hfind:=hR.is.find
 have hsome:=zho D b k
 have hgd : ∃ u v,(camF D b k).getD (toAV (Value.agg #[Value.int IntKind.i64 0,Value.bool false])) = .agg [.sc u,.sc v]:=by
  cases hc : camF D b k with
  | none=>exact ⟨_,_,zpY⟩
  | some x =>
    obtain ⟨u,v,rfl⟩:=zgk _ _ _ _ hc
    exact ⟨u,v,rfl⟩
 obtain ⟨u,v,huv⟩:=hgd
 refine rk (s:=?s1) [0,1] [0,1] rfl ?o1 ?q1
 case o1=>simp; rfl
 refine zad ⟨13,[(5,.B (decide (k ∈ D)))],[(0,some ⟨1,[[.mp 1]],0⟩),(1,some ⟨0,R,0⟩)],200⟩ rfl ?_ ?_
 ·simp [hfind,hsome,huv]
  exact Le.go [(0,0),(1,1)] [] rfl rfl (by simp) (by simp [hR.conv'])
 refine zad ⟨13,[(3,.B (decide (k ∈ D)))],[(0,some ⟨1,[[.mp 1]],0⟩),(1,some ⟨0,R,0⟩)],300⟩ rfl ?_ ?_
 ·simp
  exact Le.go [(0,0),(1,1)] [] rfl rfl (by simp) (by simp [hR.conv'])
 refine zan ?_
 exact ⟨.inr rfl,zat.k2 rfl (by simp) (by simp) (by simp [hR.conv'])⟩
set_option maxRecDepth 100000 in
set_option maxHeartbeats 1000000 in
theorem zst {D b : List Int} {R : List (List AV)} (hR : MapF R (camF D b)) (N : Nat) (hN : N ≤ 1000000) :
  zao Tryz.prog zcC [.I N,.fn (.func zaQ) [] [.pt 0 0 0]] [⟨1,[[.mp 1]],0⟩,⟨0,R,0⟩] (.rs 2 0 (inD D N).length) [some ⟨1,[[.mp 1]],0⟩,some ⟨0,R,0⟩,some ⟨1,zaj (inD D N),0⟩]:=by
 refine zjy.acalls (nbz rfl) (nbz rfl) (by simp) ?_
 show awp _ 2 _ _ ⟨20,[(0,.I N),(1,.fn (.func zaQ) [] [.pt 0 0 0])],[(0,some ⟨1,[[.mp 1]],0⟩),(1,some ⟨0,R,0⟩)],16⟩
 refine zad ⟨20,[(0,.I N),(1,.fn (.func zaQ) [] [.pt 0 0 0])],[(0,some ⟨1,[[.mp 1]],0⟩),(1,some ⟨0,R,0⟩)],24⟩ rfl ?_ ?_
 ·simp
  exact Le.go [(0,0),(1,1)] [] rfl rfl (by simp) (by simp [hR.conv'])
 refine zad ⟨20,[(0,.I N),(1,.fn (.func zaQ) [] [.pt 0 0 0]),(5,.rs 50 0 0)],[(0,some ⟨1,[[.mp 1]],0⟩),(1,some ⟨0,R,0⟩),(50,some ⟨1,[],0⟩)],100⟩ rfl ?_ ?_
 ·simp
  refine Le.lst [(0,0),(1,1)] [] [(50,1)] rfl (by simp) (by simp) (by simp) (by simp) (by simp) (by simp) (by simp) (by simp [Up,conv]) ?_
  simp [hR.conv']
  exact ⟨zba.rfl' (Nat.zero_le _),zba.rfl' (Nat.zero_le _)⟩
 refine zac ?_
 refine zad ⟨20,[(1,.fn (.func zaQ) [] [.pt 0 0 0]),(5,.rs 50 0 0),(7,.I N),(8,.I 0)],[(0,some ⟨1,[[.mp 1]],0⟩),(1,some ⟨0,R,0⟩),(50,some ⟨1,[],0⟩)],200⟩ rfl ?_ ?_
 ·simp
  exact Le.go [(0,0),(1,1),(50,50)] [] rfl rfl (by simp [conv]) (by simp [hR.conv'])
 refine zai ?_
 refine zaI (ι:=Nat) (fun k=>⟨20,[(1,.fn (.func zaQ) [] [.pt 0 0 0]),(5,.rs 50 0 (inD D k).length),(7,.I N),(8,.I k)],[(0,some ⟨1,[[.mp 1]],0⟩),(1,some ⟨0,R,0⟩),(50,some ⟨1,zaj (inD D k),0⟩)],200⟩) (fun k=>k ≤ N) (fun k=>N - k) 0 (Nat.zero_le _) (Le.go [(0,0),(1,1),(50,50)] [] rfl rfl (by simp [conv,inD]) (by simp [hR.conv',inD])) ?_
 intro k hk
 have hwl:=zwJ D k
 refine zad ⟨20,[(1,.fn (.func zaQ) [] [.pt 0 0 0]),(5,.rs 50 0 (inD D k).length),(7,.I N),(8,.I k),(9,.B (decide (k < N)))],[(0,some ⟨1,[[.mp 1]],0⟩),(1,some ⟨0,R,0⟩),(50,some ⟨1,zaj (inD D k),0⟩)],300⟩ rfl ?_ ?_
 ·simp
  exact Le.go [(0,0),(1,1),(50,50)] [] rfl rfl (by simp [conv]) (by simp [hR.conv',fcd])
 refine zac ?_
 refine zak _ rfl (fun h=>?_) fun h=>?_
 ·simp at h
  have hw2 : IntKind.i64.wrap ((k : Int) + 1) = (k : Int) + 1:=w6
  have hnext:=zum D k
  refine zal ?_
  refine zbM (ι:=Unit) (fun _=>⟨20,[(1,.fn (.func zaQ) [] [.pt 0 0 0]),(5,.rs 50 0 (inD D (k + 1)).length),(7,.I N),(8,.I k)],[(0,some ⟨1,[[.mp 1]],0⟩),(1,some ⟨0,R,0⟩),(50,some ⟨1,zaj (inD D (k + 1)),0⟩)],1000⟩) (fun _=>True) ?_ fun _ _=>?_
  ·rw [hnext]
   obtain ⟨W,hW⟩ : ∃ W,W = inD D k:=⟨_,rfl⟩
   rw [← hW] at hwl ⊢
   refine zai ?_
   refine zad ⟨20,[(1,.fn (.func zaQ) [] [.pt 0 0 0]),(5,.rs 50 0 W.length),(6,.I k),(7,.I N),(8,.I k)],[(0,some ⟨1,[[.mp 1]],0⟩),(1,some ⟨0,R,0⟩),(50,some ⟨1,zaj W,0⟩)],400⟩ rfl ?_ ?_
   ·simp
    exact Le.go [(0,0),(1,1),(50,50)] [] rfl rfl (by simp [conv]) (by simp [hR.conv',fcd])
   refine zad ⟨20,[(1,.fn (.func zaQ) [] [.pt 0 0 0]),(5,.rs 50 0 W.length),(6,.I k),(7,.I N),(8,.I k),(13,.B (decide ((k : Int) ∈ D)))],[(0,some ⟨1,[[.mp 1]],0⟩),(1,some ⟨0,R,0⟩),(50,some ⟨1,zaj W,0⟩)],500⟩ rfl ?_ ?_
   ·simp
    refine zlD (i:=0) (j:=1) (by decide) rfl rfl (by simp) (by simp [hR.conv']) (zm3 (N:=N) hR k) (by simp) (by simp) ?_
    simp [hR.conv']
    exact Le.go [(0,0),(1,1),(50,50)] [] rfl rfl (by simp [conv]) (by simp [hR.conv',fcd])
   refine zak _ rfl (fun h5=>?_) fun h5=>?_
   ·rw [decide_eq_true_eq] at h5
    rw [if_pos h5]
    have hmw : ∀ g : Int → List AV,List.take W.length (List.map g W) = List.map g W:=fun g=>List.take_of_length_le (by simp)
    refine zaV rfl ?_
    simp [hmw]
    exact ⟨by omega,by omega,Le.go [(0,0),(1,1),(524,50)] [] rfl rfl (by simp [conv]) (by simp [hR.conv',fcd])⟩
   ·rw [decide_eq_false_iff_not] at h5
    rw [if_neg h5,List.append_nil]
    refine zal ?_
    exact ⟨(),trivial,Le.go [(0,0),(1,1),(50,50)] [] rfl rfl (by simp [conv]) (by simp [hR.conv',fcd])⟩
  refine zaV rfl ?_
  simp [hw2]
  exact ⟨k + 1,by omega,by omega,Le.go [(0,0),(1,1),(50,50)] [] rfl rfl (by simp [conv,hw2]) (by simp [hR.conv',fcd])⟩
 simp at h
 obtain rfl : k = N:=by omega
 refine zaD ?_
 refine hit ?_
 refine zad ⟨20,[(4,.rs 50 0 (inD D k).length)],[(0,some ⟨1,[[.mp 1]],0⟩),(1,some ⟨0,R,0⟩),(50,some ⟨1,zaj (inD D k),0⟩)],400⟩ rfl ?_ ?_
 ·simp
  exact Le.go [(0,0),(1,1),(50,50)] [] rfl rfl (by simp) (by simp [hR.conv',fcd])
 refine zan ?_
 exact ⟨.inr rfl,zat.k2n 50 (by omega) rfl (by simp) (by simp) (by simp [hR.conv']) (by simp [fcd])⟩
theorem WayA.last {A : List Ed} : ∀ {l : List Nat} {u w : Int},WayA A u l w → (u :: metA A l)[l.length]? = some w
 | [],u,w,h=>by
   have : u = w:=h
   simp [metA,this]
 | i :: l,u,w,h=>by
   have:=WayA.last h.2.2
   simpa [metA] using this
structure BalF (N : Nat) (A : List Ed) (f : List Int) : Prop where
 len : f.length = A.length
 nonneg : ∀ i,0 ≤ f.getD i 0
 bal : ∀ x : Int,2 ≤ x → x < N → exF A f x = 0
variable {N : Nat} {A : List Ed} {f g : List Int}
theorem zaS.balF (h : zaS N A f) : BalF N A f:=by
 have hf:=zeZ.1 h.fit
 refine ⟨hf.1,fun i=>?_,fun x h2 h3=>?_⟩
 ·by_cases hi : i < A.length
  ·exact (hf.2 i hi).1
  ·rw [List.getD_eq_getElem?_getD,List.getElem?_eq_none (by rw [hf.1]; omega)]
   exact Int.le_refl _
 ·have:=h.bal x.toNat (by omega) (by omega)
  rw [Int.toNat_of_nonneg (by omega)] at this
  unfold exF
  omega
theorem zkH.balF (hf : BalF N A f) {l : List Nat} (h : zkH A f g l 1) : BalF N A g ∧ exF A g 0 = exF A f 0 - 1:=by
 refine ⟨⟨h.len,h.nonneg,fun x h2 h3=>?_⟩,?_⟩
 ·rw [h.ex x,hf.bal x h2 h3,if_neg (by omega),if_neg (by omega)]
  rfl
 ·rw [h.ex 0,if_pos rfl,if_neg (by decide)]
  omega
structure zlR (N : Nat) (A : List Ed) (f g : List Int) (W : List (List Nat)) : Prop where
 bal : BalF N A g
 ex : exF A g 0 = exF A f 0 - W.length
 ways : ∀ w ∈ W,WayA A 0 w 1 ∧ (metA A w).Nodup
 used : ∀ i,g.getD i 0 + (sumN (List.count i) W : Int) ≤ f.getD i 0
theorem zlR.nil (hf : BalF N A f) : zlR N A f f []:=⟨hf,by simp,by simp,fun i=>by simp [sumN]⟩
theorem zlR.more {g' : List Int} {W : List (List Nat)} {l : List Nat} (h : zlR N A f g W) (hl : zkH A g g' l 1) : zlR N A f g' (W ++ [l]):=by
 obtain ⟨b1,b2⟩:=hl.balF h.bal
 refine ⟨b1,by rw [b2,h.ex,List.length_append,List.length_singleton]; omega,fun w hw=>?_,fun i=>?_⟩
 ·rcases List.mem_append.1 hw with hw | hw
  ·exact h.ways w hw
  ·rw [List.mem_singleton] at hw
   subst hw
   exact ⟨hl.way,(List.nodup_cons.1 hl.met).2⟩
 ·have h1:=h.used i
  have h2:=hl.used i
  have h3 : sumN (List.count i) (W ++ [l]) = sumN (List.count i) W + l.count i:=by unfold sumN; simp
  rw [h3]
  omega
theorem zj1 (S : Int → Bool) : ∀ A : List Ed,capS S A = (A.map fun e=>if S e.f = true ∧ S e.t = false then e.v else 0).sum
 | []=>rfl
 | e :: A=>by
   have ih:=zj1 S A
   unfold capS at ih ⊢
   simp only [List.map_cons,sumF,List.sum_cons]
   rw [ih]
theorem zjY {α : Type} {h : α → Int} : ∀ {l : List α},(∀ x ∈ l,h x = 0) → (l.map h).sum = 0
 | [],_=>rfl
 | x :: l,hx=>by
   rw [List.map_cons,List.sum_cons,hx x (List.mem_cons_self ..),zjY fun y hy=>hx y (List.mem_cons_of_mem _ hy)]
   rfl
theorem zsA {α : Type} {h : α → Int} : ∀ {l : List α},(∀ x ∈ l,h x ≤ 1) → (l.map h).sum ≤ l.length
 | [],_=>Int.le_refl _
 | x :: l,hx=>by
   have ih:=zsA (l:=l) fun y hy=>hx y (List.mem_cons_of_mem _ hy)
   have h1:=hx x (List.mem_cons_self ..)
   rw [List.map_cons,List.sum_cons,List.length_cons]
   omega
theorem zns {g : Gr} {p : Pol} {ks : List Int} (hg : GrOk g) (hp : zcx g.size p) (hk : ∀ x ∈ ks,0 ≤ x ∧ x < g.size) : maxF (netN g) (netA g p ks) ≤ ks.length:=by
 have hno:=zk9 hg hp hk
 obtain ⟨f,hf,hv⟩:=zpW hno
 rw [← hv]
 refine Int.le_trans (zfi (S:=fun x=>decide (x ≠ 1)) hno hf (by simp) (by simp)) ?_
 rw [zj1]
 simp only [netA,zbm,List.map_append,List.sum_append,List.map_map]
 have hle:=zjc hg p.lv
 rw [zjY,zjY,zjY (l:=(zas g p.lv).edges.filter _)]
 ·have h1:=zsA (h:=(fun e : Ed=>if (decide (e.f ≠ 1)) = true ∧ (decide (e.t ≠ 1)) = false then e.v else 0) ∘ fun x : Int=>(⟨2 + 2 * x,1,1⟩ : Ed)) (l:=ks.filter fun x=>decide (0 < (zaX g p).getD x.toNat 0)) fun x _=>by
   simp only [Function.comp]
   split <;> omega
  have h2:=List.length_filter_le (fun x=>decide (0 < (zaX g p).getD x.toNat 0)) ks
  omega
 ·intro e he
  have:=hle.2 e (List.mem_filter.1 he).1
  simp only [Function.comp]
  rw [if_neg]
  simp
  omega
 ·intro i _
  simp only [Function.comp]
  rw [if_neg]
  simp
  omega
 ·intro x _
  simp only [Function.comp]
  rw [if_neg]
  simp
  omega
theorem zv7 {N : Nat} {A : List Ed} {f : List Int} (hn : zeF N A) : exF A f 0 = valF A f:=by
 unfold exF valF
 rw [zkx hn]
 omega
def surG (A : List Ed) (f : List Int) (i : Nat) (x : Int) : Int:=- netG A f i x
variable {N : Nat} {A : List Ed} {f : List Int}
theorem ztn (hl : f.length = A.length) (x : Int) : surG A f A.length x = exF A f x:=by
 unfold surG
 rw [zu5 hl]
 omega
set_option maxRecDepth 100000 in
set_option maxHeartbeats 4000000 in
theorem zl2 (hn : zcF ⟨N,A⟩) (hfl : f.length = A.length) (hfb : ∀ j (h : j < f.length),0 ≤ f[j] ∧ f[j] ≤ 1048576) : zao Tryz.prog zeg [eN ⟨N,A⟩,ints f] [] (.rs 0 0 N) [some ⟨1,zaj (rowR N (exF A f)),0⟩]:=by
 refine zm0.ac ?_
 show awp _ 0 _ _ ⟨43,[(0,eN ⟨N,A⟩),(1,ints f)],[],16⟩
 obtain ⟨hn0,hn1,hal,hav⟩:=hn
 simp only at hn0 hn1 hal hav
 have hbd:=zmg hfl hfb
 refine rs [1,2] [] [16] ?_
 refine zad ⟨43,[(1,ints f),(2,.pv (nC ⟨N,A⟩)),(5,.rs 48 0 N)],[(48,some ⟨1,zaj (rowR N (surG A f 0)),0⟩)],64⟩ rfl ?_ ?_
 ·simp
  refine ⟨by omega,by omega,?_⟩
  have : rowR N (surG A f 0) = List.replicate N 0:=by
   unfold rowR surG
   simp only [zn0]
   simp [List.map_const']
  rw [this]
  exact LeH [(48,48)] []
 refine zac ?_
 refine zad ⟨43,[(1,ints f),(5,.rs 48 0 N),(12,eEs A),(13,.I A.length),(14,.I 0)],[(48,some ⟨1,zaj (rowR N (surG A f 0)),0⟩)],96⟩ rfl ?_ ?_
 ·simp
  exact LeI [(48,48)] []
 refine zai ?_
 refine zaI (ι:=Nat) (fun i=>⟨43,[(1,ints f),(5,.rs 48 0 N),(12,eEs A),(13,.I A.length),(14,.I i)],[(48,some ⟨1,zaj (rowR N (surG A f i)),0⟩)],96⟩) (fun i=>i ≤ A.length) (fun i=>A.length - i) 0 (Nat.zero_le _) (LeI [(48,48)] []) ?_
 intro i hi
 refine zad ⟨43,[(1,ints f),(5,.rs 48 0 N),(12,eEs A),(13,.I A.length),(14,.I i),(15,.B (decide (i < A.length)))],[(48,some ⟨1,zaj (rowR N (surG A f i)),0⟩)],104⟩ rfl ?_ ?_
 ·simp
  exact LeI [(48,48)] []
 refine zac ?_
 refine zak _ rfl (fun h5=>?_) fun h5=>?_
 ·simp at h5
  have h8 : i < f.length:=by omega
  have hw1 : IntKind.i64.wrap ((i : Int) + 1) = (i : Int) + 1:=w6
  obtain ⟨b1,b3⟩:=hfb i h8
  have heo:=hav _ (List.getElem_mem h5)
  have hsucc:=zox h5 h8
  have hbe:=fun x=>hbd x i (by omega)
  obtain ⟨e,he⟩ : ∃ e,e = A[i]:=⟨_,rfl⟩
  obtain ⟨w,hw⟩ : ∃ w,w = f[i]:=⟨_,rfl⟩
  rw [← he,← hw] at hsucc
  rw [← hw] at b1 b3
  rw [← he] at heo
  obtain ⟨e1,e2,e3,e4,e5,_⟩:=heo
  have hg1 : A[i]? = some e:=by rw [List.getElem?_eq_getElem h5,he]
  have hg2 : f[i]? = some w:=by rw [List.getElem?_eq_getElem h8,hw]
  have h2N : e.f < (N : Int) ∧ e.t < (N : Int):=by omega
  have h1:=hbe e.f
  have h2:=hbe e.t
  have hwx : IntKind.i64.wrap (surG A f i e.f + w) = surG A f i e.f + w:=w64 (by unfold surG; omega) (by unfold surG; omega)
  have hwy : IntKind.i64.wrap (surG A f i e.t - w) = surG A f i e.t - w:=w64 (by unfold surG; omega) (by unfold surG; omega)
  have hr1:=zhI (N:=N) (g:=surG A f i) (x:=e.f) e1 (by omega)
  have hs1:=zqa (N:=N) (g:=surG A f i) (x:=e.f) (v:=surG A f i e.f + w) e1 (by omega)
  obtain ⟨g1,hg1d⟩ : ∃ g1 : Int → Int,g1 = fun y=>if y = e.f then surG A f i e.f + w else surG A f i y:=⟨_,rfl⟩
  rw [← hg1d] at hs1
  have hg1t : g1 e.t = surG A f i e.t:=by rw [hg1d]; exact if_neg fun h=>e5 h.symm
  have hr2:=zhI (N:=N) (g:=g1) (x:=e.t) e3 (by omega)
  rw [hg1t] at hr2
  have hs2:=zqa (N:=N) (g:=g1) (x:=e.t) (v:=surG A f i e.t - w) e3 (by omega)
  have hend : (rowR N fun y=>if y = e.t then surG A f i e.t - w else g1 y) = rowR N (surG A f (i + 1)):=zlF fun x=>by
   unfold surG at hg1d ⊢
   rw [hsucc,hg1d]
   simp only
   by_cases h3 : x = e.t
   ·rw [h3,if_pos rfl,if_pos rfl,if_neg e5]
    omega
   ·by_cases h4 : x = e.f
    ·rw [if_neg h3,if_pos h4,if_neg fun h=>h3 h.symm,if_pos h4.symm,h4]
     omega
    ·rw [if_neg h3,if_neg h4,if_neg fun h=>h3 h.symm,if_neg fun h=>h4 h.symm]
     omega
  rw [hend] at hs2
  refine zal ?_
  refine zac ?_
  refine zai ?_
  refine zad ⟨43,[(1,ints f),(5,.rs 48 0 N),(6,.I i),(7,.pv (eC e)),(12,eEs A),(13,.I A.length),(14,.I i)],[(48,some ⟨1,zaj (rowR N (surG A f i)),0⟩)],152⟩ rfl ?_ ?_
  ·simp [h5,← he]
   exact LeI [(48,48)] [128]
  refine za7 ⟨43,[(1,ints f),(5,.rs 48 0 N),(6,.I i),(7,.pv (eC e)),(12,eEs A),(13,.I A.length),(14,.I i)],[(48,some ⟨1,zaj (rowR N g1),0⟩)],400⟩ rfl ?_ ?_
  ·simp [hg2,h8,← hw,hr1,e1,h2N,hwx,zbR]
   exact ⟨rfl,Le.go [(48,48)] [] rfl rfl (by simp) (by simp [fcd,← hs1])⟩
  refine zdp rfl ?_
  simp [hg2,h8,← hw,hr2,e3,h2N,hwy,zbR]
  refine ⟨rfl,?_⟩
  refine zaV rfl ?_
  simp
  exact ⟨i + 1,by omega,by omega,Le.go [(48,48)] [] rfl rfl (by simp [hw1]) (by simp [fcd,← hs2])⟩
 simp at h5
 obtain rfl : i = A.length:=by omega
 refine zaD ?_
 refine hit ?_
 have hfin : rowR N (surG A f A.length) = rowR N (exF A f):=zlF fun x=>ztn hfl x
 rw [hfin]
 refine zad ⟨43,[(4,.rs 48 0 N)],[(48,some ⟨1,zaj (rowR N (exF A f)),0⟩)],200⟩ rfl ?_ ?_
 ·simp
  exact LeI [(48,48)] []
 refine zan ?_
 exact ⟨.inr rfl,zat.out [48] [] rfl (by simp) (by simp) (by simp) (by simp [fcd])⟩
def zrD (A : List Ed) (f : List Int) (i : Nat) : Prop:=0 ≤ f.getD i 0 ∧ f.getD i 0 ≤ (arcD A i).v
theorem zi8 : zaS N A f ↔ f.length = A.length ∧ (∀ i,i < A.length → zrD A f i) ∧ ∀ x : Nat,2 ≤ x → x < N → exF A f x = 0:=by
 constructor
 ·intro h
  have h1:=zeZ.1 h.fit
  exact ⟨h1.1,h1.2,fun x h2 h3=>by have:=h.bal x h2 h3; unfold exF; omega⟩
 ·rintro ⟨h1,h2,h3⟩
  exact ⟨zeZ.2 ⟨h1,h2⟩,fun x h4 h5=>by have:=h3 x h4 h5; unfold exF at this; omega⟩
theorem zwp (g : Int → Int) (N : Nat) : ((rowR N g).drop 2).any (fun x=>!decide (x = 0)) = true ↔ ¬ ∀ x : Nat,2 ≤ x → x < N → g x = 0:=by
 rw [List.any_eq_true]
 constructor
 ·rintro ⟨y,hy,h⟩ hall
  obtain ⟨j,hj,rfl⟩:=List.mem_iff_getElem.1 hy
  rw [List.length_drop,zfF] at hj
  have:=hall (2 + j) (by omega) (by omega)
  simp [rowR] at h
  exact h (by simpa using this)
 ·intro h
  obtain ⟨x,hx⟩:=Classical.not_forall.1 h
  obtain ⟨h1,hx⟩:=Classical.not_imp.1 hx
  obtain ⟨h2,hx⟩:=Classical.not_imp.1 hx
  refine ⟨g x,List.mem_iff_getElem.2 ⟨x - 2,by rw [List.length_drop,zfF]; omega,?_⟩,by simpa using hx⟩
  simp [rowR,show 2 + (x - 2) = x by omega]
theorem zjN (x : Int) : zao Tryz.prog zdU [.I x] [] (.B (!decide (x = 0))) []:=by
 refine zlw.ac ?_
 show awp _ 0 _ _ ⟨5,[(0,.I x)],[],16⟩
 refine rs [0] [] [] ?_
 refine zad ⟨5,[(2,.B (!decide (x = 0)))],[],100⟩ rfl ?_ ?_
 ·simp
  exact Le.go [] [] rfl rfl (by simp <;> exact wkB (by rw [Bool.eq_iff_iff]; simp)) (by simp)
 refine zan ?_
 exact ⟨.inr rfl,zat.one (by simp)⟩
set_option maxRecDepth 100000 in
set_option maxHeartbeats 4000000 in
open Classical in
theorem zmU (hn : zcF ⟨N,A⟩) (hl : f.length ≤ 1099511627776) : zao Tryz.prog zg6 [eN ⟨N,A⟩,ints f] [] (.B (decide (zaS N A f))) []:=by
 refine zpc.ac ?_
 show awp _ 0 _ _ ⟨41,[(0,eN ⟨N,A⟩),(1,ints f)],[],16⟩
 have hchk:=zhZ ⟨N,A⟩ (by have:=hn.2.2.1; simp only at this ⊢; omega)
 rw [if_pos hn] at hchk
 have hn':=hn
 obtain ⟨hn0,hn1,hal,hav⟩:=hn
 simp only at hn0 hn1 hal hav
 refine rs [1,2] [] [16] ?_
 refine zac ?_
 refine zad ⟨41,[(1,ints f),(2,.pv (nC ⟨N,A⟩)),(17,.B (!decide (f.length = A.length)))],[],120⟩ rfl ?_ ?_
 ·simp
  refine zaJ hchk (by simp) ?_
  simp
  exact Le.go [] [] rfl rfl (by simp <;> exact wkB (by rw [Bool.eq_iff_iff]; simp <;> omega)) (by simp)
 refine zak _ rfl (fun h3=>?_) fun h3=>?_
 ·simp at h3
  refine rs [4] [] [] ?_
  refine zan ?_
  have hno : ¬ zaS N A f:=fun h=>h3 (zi8.1 h).1
  exact ⟨.inr rfl,zat.one (by simp [hno])⟩
 simp at h3
 refine zal ?_
 refine zac ?_
 refine rs [1,2,19,20,21] [] [] ?_
 refine zai ?_
 refine zaI (ι:=Nat) (fun i=>⟨41,[(1,ints f),(2,.pv (nC ⟨N,A⟩)),(19,eEs A),(20,.I A.length),(21,.I i)],[],152⟩) (fun i=>i ≤ A.length ∧ ∀ k,k < i → zrD A f k) (fun i=>A.length - i) 0 (by simp) (LeH [] []) ?_
 rintro i ⟨hi,hp⟩
 refine rs [1,2,19,20,21,22] [] [] ?_
 refine zac ?_
 refine zak _ rfl (fun h7=>?_) fun h7=>?_
 ·simp at h7
  have hw1 : IntKind.i64.wrap ((i : Int) + 1) = (i : Int) + 1:=w6
  have hif : i < f.length:=by omega
  obtain ⟨e,he⟩ : ∃ e,e = A[i]:=⟨_,rfl⟩
  obtain ⟨w,hw⟩ : ∃ w,w = f[i]:=⟨_,rfl⟩
  have hfa : zrD A f i ↔ 0 ≤ w ∧ w ≤ e.v:=by
   unfold zrD arcD
   rw [List.getD_eq_getElem?_getD,List.getElem?_eq_getElem hif,Option.getD_some,List.getD_eq_getElem?_getD,List.getElem?_eq_getElem h7,Option.getD_some,he,hw]
  refine zal ?_
  refine zac ?_
  refine zai ?_
  refine zad ⟨41,[(1,ints f),(2,.pv (nC ⟨N,A⟩)),(5,.I i),(6,.pv (eC e)),(19,eEs A),(20,.I A.length),(21,.I i)],[],300⟩ rfl ?_ ?_
  ·simp [h7,← he]
   exact LeH [] [184]
  refine za7 ⟨41,[(1,ints f),(2,.pv (nC ⟨N,A⟩)),(19,eEs A),(20,.I A.length),(21,.I i),(33,.B (!decide (0 ≤ w ∧ w ≤ e.v)))],[],400⟩ rfl ?_ ?_
  ·simp [hif,← hw]
   refine zaJ (zb6 w 0 e.v) (by simp) ?_
   simp
   exact ⟨rfl,Le.go [] [] rfl rfl (by simp <;> exact wkB (by rw [Bool.eq_iff_iff]; simp)) (by simp)⟩
  refine zak _ rfl (fun h10=>?_) fun h10=>?_
  ·have h10' : ¬ (0 ≤ w ∧ w ≤ e.v):=by simp at h10; omega
   refine rs [4] [] [] ?_
   refine zan ?_
   have hno : ¬ zaS N A f:=fun h=>h10' (hfa.1 ((zi8.1 h).2.1 i h7))
   exact ⟨.inr rfl,zat.one (by simp [hno])⟩
  have h10' : 0 ≤ w ∧ w ≤ e.v:=by simpa using h10
  refine zal ?_
  refine zaV rfl ?_
  simp
  refine ⟨i + 1,⟨by omega,fun k hk=>?_⟩,by omega,Le.go [] [] rfl rfl (by simp [hw1]) (by simp)⟩
  rcases Nat.lt_succ_iff_lt_or_eq.1 hk with h | h
  ·exact hp k h
  ·rw [h]; exact hfa.2 h10'
 simp at h7
 obtain rfl : i = A.length:=by omega
 have hfb : ∀ j (h : j < f.length),0 ≤ f[j] ∧ f[j] ≤ 1048576:=fun j hj=>by
  have h1:=hp j (by omega)
  unfold zrD at h1
  have e1 : f.getD j 0 = f[j]:=by rw [List.getD_eq_getElem?_getD,List.getElem?_eq_getElem hj,Option.getD_some]
  have e2 : arcD A j = A[j]'(by omega):=by unfold arcD; rw [List.getD_eq_getElem?_getD,List.getElem?_eq_getElem (by omega),Option.getD_some]
  rw [e1,e2] at h1
  have h2:=(hav _ (List.getElem_mem (show j < A.length by omega))).2.2.2.2.2.2.2.2
  omega
 refine zaD ?_
 refine hit ?_
 have hsur:=zl2 hn' h3 hfb
 have hcf:=zjS zdU [] (fun x=>!decide (x = 0)) ((rowR N (exF A f)).drop 2) (by rw [List.length_drop,zfF]; omega) (fun ρ sn h k=>by simp) (fun e _=>zjN e)
 have hiff : zaS N A f ↔ ((rowR N (exF A f)).drop 2).any (fun x=>!decide (x = 0)) = false:=by
  rw [← Bool.not_eq_true,zwp,Classical.not_not,zi8]
  exact ⟨fun h=>h.2.2,fun h=>⟨h3,hp,h⟩⟩
 obtain ⟨l,hld⟩ : ∃ l,l = rowR N (exF A f):=⟨_,rfl⟩
 have hll : l.length = N:=by rw [hld,zfF]
 rw [← hld] at hsur hcf hiff
 obtain ⟨b,hb⟩ : ∃ b,b = (l.drop 2).any (fun x=>!decide (x = 0)):=⟨_,rfl⟩
 rw [← hb] at hcf hiff
 refine zad ⟨41,[(4,.B (!b))],[],300⟩ rfl ?_ ?_
 ·simp
  refine zcD hsur (by simp) ?_
  simp
  refine zxy 2 (i:=176) rfl rfl (by omega) ?_
  simp
  have h2N : 2 + (N - 2) ≤ N:=by omega
  refine zl7 [176] hcf (by simp [fcd,hll,h2N]; exact List.take_of_length_le (by simp; omega)) (.sc _) ?_
  simp
  exact LeH [] []
 refine zan ?_
 exact ⟨.inr rfl,zat.one (by simp [hiff])⟩
set_option maxRecDepth 100000 in
open Classical in
theorem zne (hn : zcF ⟨N,A⟩) (hl : f.length ≤ 1099511627776) : zao Tryz.prog zhj [eN ⟨N,A⟩,ints f] [] (.I (if zaS N A f then valF A f else 0)) []:=by
 refine zpr.ac ?_
 show awp _ 0 _ _ ⟨14,[(0,eN ⟨N,A⟩),(1,ints f)],[],16⟩
 have hvl:=zmU hn hl
 refine rs [1,2] [] [16] ?_
 refine zac ?_
 refine rx (s:=?s2) [1,2,8] [] [] rfl ?o2 ?q2
 case o2=>simp; refine zaJ hvl (by simp) ?_; simp; rfl
 refine zak _ rfl (fun h3=>?_) fun h3=>?_
 ·simp at h3
  refine rs [4] [] [] ?_
  refine zan ?_
  exact ⟨.inr rfl,zat.one (by simp [h3])⟩
 simp at h3
 have h31:=zeZ.1 h3.fit
 have hav:=hn.2.2.2
 simp only at hav
 have hfb : ∀ j (h : j < f.length),0 ≤ f[j] ∧ f[j] ≤ 1048576:=fun j hj=>by
  have h1:=h31.2 j (by omega)
  have e1 : f.getD j 0 = f[j]:=by rw [List.getD_eq_getElem?_getD,List.getElem?_eq_getElem hj,Option.getD_some]
  have e2 : arcD A j = A[j]'(by omega):=by unfold arcD; rw [List.getD_eq_getElem?_getD,List.getElem?_eq_getElem (by omega),Option.getD_some]
  rw [e1,e2] at h1
  have h2:=(hav _ (List.getElem_mem (show j < A.length by omega))).2.2.2.2.2.2.2.2
  omega
 have hsur:=zl2 hn h31.1 hfb
 have hv:=zv7 (f:=f) (zhR hn)
 have hn0:=hn.1
 simp only at hn0
 have hr:=zhI (N:=N) (g:=exF A f) (x:=0) (Int.le_refl _) (by omega)
 rw [hv] at hr
 obtain ⟨l,hld⟩ : ∃ l,l = rowR N (exF A f):=⟨_,rfl⟩
 rw [← hld] at hsur hr
 simp only [Int.toNat_zero] at hr
 refine zal ?_
 refine zad ⟨14,[(4,.I (valF A f))],[],300⟩ rfl ?_ ?_
 ·simp
  refine zcD hsur (by simp) ?_
  have h0N : 0 < (N : Int):=by omega
  simp [hr,h0N]
  exact ⟨by omega,LeH [] []⟩
 refine zan ?_
 exact ⟨.inr rfl,zat.one (by simp [h3])⟩
section
variable {N : Nat} {A : List Ed} {f : List Int}
theorem zsF (hn : zeF N A) {s : Stp} (hs : s.1 < A.length) : 0 ≤ stT A s ∧ stT A s < N:=by
 have:=hn.arc _ (zfS hs)
 unfold stT
 split <;> omega
theorem Bfs.grow (hn : zeF N A) : ∀ (n : Nat) (D b : List Int),Bfs N A f D b → N - D.length ≤ n → ∃ D' b',Bfs N A f D' b' ∧ zgn A f D'
 | n,D,b,h,hl=>by
   by_cases hc : zgn A f D
   ·exact ⟨D,b,h,hc⟩
   ·unfold zgn at hc
    obtain ⟨s,hs⟩:=Classical.not_forall.1 hc
    obtain ⟨h1,hs⟩:=Classical.not_imp.1 hs
    obtain ⟨h2,hs⟩:=Classical.not_imp.1 hs
    obtain ⟨h3,h4⟩:=Classical.not_imp.1 hs
    have hr:=zsF hn h1
    have hp:=h.push h1 h2 h3 h4 hr.1 hr.2
    have hf:=hp.few
    rw [List.length_append,List.length_singleton] at hf
    match n,hl with
    | 0,hl=>omega
    | n + 1,hl=>exact Bfs.grow hn n _ _ hp (by rw [List.length_append,List.length_singleton]; omega)
theorem zrG (hn : zeF N A) {D b : List Int} (hf1 : zaS N A f) (hf2 : ∀ f',zaS N A f' → valF A f' ≤ valF A f) (hb : Bfs N A f D b) : (1 : Int) ∉ D:=fun hm=>by
 obtain ⟨l,hl⟩:=hb.chain hm
 have h1:=hl.push hn hf1 (v:=1) (by omega) fun s hs=>by
  obtain ⟨i,hi,rfl⟩:=List.mem_iff_getElem.1 hs
  have:=(hl.at_ i hi).2.1
  omega
 have h2:=hf2 _ h1.1
 omega
theorem zv6 (hn : zeF N A) {S : Int → Bool} (h0 : S 0 = true) (h1 : S 1 = false) : maxF N A ≤ capS S A:=by
 obtain ⟨f,hf,hv⟩:=zpW hn
 rw [← hv]
 exact zfi hn hf h0 h1
theorem ztH (hn : zeF N A) : ∃ X : Int → Bool,X 0 = true ∧ X 1 = false ∧ capS X A = maxF N A ∧ ∀ S : Int → Bool,S 0 = true → S 1 = false → capS S A = maxF N A → ∀ x,X x = true → S x = true:=by
 obtain ⟨f,hf,hm⟩:=zhe hn
 obtain ⟨D,b,hb,hc⟩:=Bfs.grow hn N [0] _ (Bfs.start (f:=f) (by have:=hn.two; omega)) (by omega)
 have h1:=zrG hn hf hm hb
 have hmf:=zku hf hm
 refine ⟨fun x=>decide (x ∈ D),by simpa using hb.mem0,by simpa using h1,?_,fun S s0 s1 hS x hx=>?_⟩
 ·rw [hmf]
  exact (zmv hn hf hb.mem0 h1 hc).1.symm
 ·exact zl8 hn hf hb.tree s0 s1 (hS.trans hmf) x (by simpa using hx)
end
def zjJ (g : Gr) (p : Pol) (S : Int → Bool) : Int:=capS S (netA g p [])
def zc4 (S : Int → Bool) (ks : List Int) : Int:=(ks.map fun k=>if S (2 + 2 * k) = true then 1 else 0).sum
variable {g : Gr} {p : Pol}
def zn3 (g : Gr) (p : Pol) (k : Int) : Prop:=0 < (zaX g p).getD k.toNat 0
theorem zlM {S : Int → Bool} (h1 : S 1 = false) {ks : List Int} (hk : ∀ k ∈ ks,zn3 g p k) : capS S (netA g p ks) = zjJ g p S + zc4 S ks:=by
 have hf : ks.filter (fun x=>decide (0 < (zaX g p).getD x.toNat 0)) = ks:=List.filter_eq_self.2 fun x hx=>decide_eq_true (hk x hx)
 unfold zjJ zc4
 simp only [zj1,netA,zbm,List.map_append,List.sum_append,List.map_map,hf]
 have e : ((fun e : Ed=>if S e.f = true ∧ S e.t = false then e.v else 0) ∘ fun x : Int=>(⟨2 + 2 * x,1,1⟩ : Ed)) = fun k=>if S (2 + 2 * k) = true then 1 else 0:=by
  funext k
  simp only [Function.comp,h1,and_true]
 rw [e]
 simp only [List.filter_nil,List.map_nil,List.sum_nil]
 omega
theorem zgj (S : Int → Bool) : ∀ ks : List Int,0 ≤ zc4 S ks
 | []=>Int.le_refl _
 | k :: ks=>by
   have ih:=zgj S ks
   unfold zc4 at ih ⊢
   simp only [List.map_cons,List.sum_cons]
   split <;> omega
theorem zmI (S : Int → Bool) : ∀ ks : List Int,zc4 S ks ≤ ks.length
 | []=>Int.le_refl _
 | k :: ks=>by
   have ih:=zmI S ks
   unfold zc4 at ih ⊢
   simp only [List.map_cons,List.sum_cons,List.length_cons]
   split <;> omega
theorem znJ (S : Int → Bool) (a b : List Int) : zc4 S (a ++ b) = zc4 S a + zc4 S b:=by simp [zc4]
theorem zl1 (S : Int → Bool) {a b : List Int} (h : a.Perm b) : zc4 S a = zc4 S b:=by
 unfold zc4
 induction h with
 | nil=>rfl
 | cons x _ ih=>simp only [List.map_cons,List.sum_cons,ih]
 | swap x y l=>simp only [List.map_cons,List.sum_cons]; omega
 | trans _ _ ih1 ih2=>exact ih1.trans ih2
theorem zlB {S : Int → Bool} : ∀ {ks : List Int},(∀ k ∈ ks,S (2 + 2 * k) = false) → zc4 S ks = 0
 | [],_=>rfl
 | k :: ks,h=>by
   have ih:=zlB (S:=S) (ks:=ks) fun x hx=>h x (List.mem_cons_of_mem _ hx)
   unfold zc4 at ih ⊢
   simp [ih,h k (List.mem_cons_self ..)]
structure zcs (g : Gr) (p : Pol) (ks : List Int) : Prop where
 rng : ∀ x ∈ ks,0 ≤ x ∧ x < g.size
 reach : ∀ x ∈ ks,zn3 g p x
theorem zcs.sub {a b : List Int} (h : zcs g p b) (hs : ∀ x ∈ a,x ∈ b) : zcs g p a:=⟨fun x hx=>h.rng x (hs x hx),fun x hx=>h.reach x (hs x hx)⟩
theorem zcs.nil : zcs g p []:=⟨fun _ h=>(List.not_mem_nil h).elim,fun _ h=>(List.not_mem_nil h).elim⟩
theorem zcs.append {a b : List Int} (h : zcs g p a) (h' : zcs g p b) : zcs g p (a ++ b) :=
 ⟨fun x hx=>(List.mem_append.1 hx).elim (h.rng x) (h'.rng x),fun x hx=>(List.mem_append.1 hx).elim (h.reach x) (h'.reach x)⟩
theorem zda (hg : GrOk g) (hp : zcx g.size p) {ks : List Int} (hk : zcs g p ks) : zaC g p ks ↔ ∀ S : Int → Bool,S 0 = true → S 1 = false → (ks.length : Int) ≤ zjJ g p S + zc4 S ks:=by
 have hn:=zk9 hg hp hk.rng
 unfold zaC
 constructor
 ·intro h S h0 h1
  rw [← zlM h1 hk.reach,← h]
  exact zv6 hn h0 h1
 ·intro h
  obtain ⟨X,h0,h1,hc,_⟩:=ztH hn
  have h2:=h X h0 h1
  rw [← zlM h1 hk.reach,hc] at h2
  have h3:=zns (p:=p) hg hp hk.rng
  omega
theorem zaC.perm (hg : GrOk g) (hp : zcx g.size p) {a b : List Int} (ha : zcs g p a) (h : zaC g p a) (hp' : a.Perm b) : zaC g p b:=by
 have hb : zcs g p b:=ha.sub fun x hx=>hp'.mem_iff.2 hx
 rw [zda hg hp hb]
 rw [zda hg hp ha] at h
 intro S h0 h1
 rw [← zl1 S hp',← hp'.length_eq]
 exact h S h0 h1
theorem zaC.left (hg : GrOk g) (hp : zcx g.size p) {a b : List Int} (hk : zcs g p (a ++ b)) (h : zaC g p (a ++ b)) : zaC g p a:=by
 have ha : zcs g p a:=hk.sub fun x hx=>List.mem_append_left _ hx
 rw [zda hg hp ha]
 rw [zda hg hp hk] at h
 intro S h0 h1
 have:=h S h0 h1
 rw [znJ,List.length_append] at this
 have:=zmI S b
 omega
theorem zaC.sublist (hg : GrOk g) (hp : zcx g.size p) {a b : List Int} (hk : zcs g p b) (h : zaC g p b) (hs : a.Sublist b) : zaC g p a:=by
 obtain ⟨c,hc⟩ : ∃ c,(a ++ c).Perm b:=by
  induction hs with
  | slnil=>exact ⟨[],.refl _⟩
  | cons x hs ih =>
    obtain ⟨c,hc⟩:=ih (hk.sub fun y hy=>List.mem_cons_of_mem _ hy) (by
     have h2 : zaC g p (_ ++ [x]):=h.perm hg hp hk (List.perm_append_comm (l₁:=[x]))
     exact h2.left hg hp (hk.sub fun y hy=>by simpa [or_comm] using hy))
    exact ⟨x :: c,List.perm_middle.trans (hc.cons x)⟩
  | cons_cons x hs ih =>
    obtain ⟨c,hc⟩:=ih (hk.sub fun y hy=>List.mem_cons_of_mem _ hy) (by
     have h2 : zaC g p (_ ++ [x]):=h.perm hg hp hk (List.perm_append_comm (l₁:=[x]))
     exact h2.left hg hp (hk.sub fun y hy=>by simpa [or_comm] using hy))
    exact ⟨c,hc.cons x⟩
 exact (h.perm hg hp hk hc.symm).left hg hp (hk.sub fun x hx=>hc.mem_iff.1 hx)
theorem zaC.nil (hg : GrOk g) (hp : zcx g.size p) : zaC g p []:=by
 have h1:=zns (p:=p) (ks:=[]) hg hp (by simp)
 have hn:=zk9 (p:=p) (ks:=[]) hg hp (by simp)
 have h2:=zwj hn (zk3 hn)
 have h3 : valF (netA g p []) ((netA g p []).map fun _=>0) = 0:=by
  unfold valF outF
  have : ∀ A : List Ed,sumF (fun e v=>if e.f = 0 then v else 0) A (A.map fun _=>0) = 0:=by
   intro A
   induction A with
   | nil=>rfl
   | cons e A ih=>simp only [List.map_cons,sumF,ih]; split <;> rfl
  exact this _
 unfold zaC
 simp at h1 ⊢
 omega
theorem znQ (S : Int → Bool) : ∀ {s a : List Int},s.Nodup → (∀ x ∈ s,x ∈ a) → zc4 S s ≤ zc4 S a
 | [],a,_,_=>zgj S a
 | x :: s,a,hn,h=>by
   rw [List.nodup_cons] at hn
   have h1:=List.perm_cons_erase (h x (List.mem_cons_self ..))
   have ih:=znQ S (s:=s) (a:=a.erase x) hn.2 fun y hy=>(List.mem_erase_of_ne (by rintro rfl; exact hn.1 hy)).2 (h y (List.mem_cons_of_mem _ hy))
   rw [zl1 S h1]
   unfold zc4 at ih ⊢
   simp only [List.map_cons,List.sum_cons]
   omega
theorem zat.k1n {rs : List (Nat × Option (Bool × Nat))} {st : St} {vs : List AV} {res : AV} {e0 e : Ent} (i : Nat) (hi : 1 ≤ i) (h1 : ze0 st rs = some vs) (hw : Wk (conv [(0,0),(i,1)] [] st.hp 4 (resV vs)) res) (h0 : (st.hp 0).map (zaw [(0,0),(i,1)] [] st.hp 4) = some e0) (he : (st.hp i).map (zaw [(0,0),(i,1)] [] st.hp 4) = some e) : zat rs 1 st res [some e0,some e] :=
 ⟨vs,h1,[i],[],by simp [List.range,List.range.loop]; omega,by simpa using hi,by simp,by simpa [List.range,List.range.loop] using hw,by simpa [List.range,List.range.loop] using ⟨by simpa using h0,by simpa using he⟩⟩
@[simp] theorem zwU {i : Nat} : cellsOf (.mp i) = some [.mp i]:=(rfl)
set_option maxRecDepth 100000 in
set_option maxHeartbeats 2000000 in
theorem zxH (N : Nat) (A : List Ed) (f0 : List Int) (hn : zcF ⟨N,A⟩) (hf0 : zaS N A f0) :
  ∃ f : List Int,(zaS N A f ∧ ∀ f',zaS N A f' → valF A f' ≤ valF A f) ∧ zao Tryz.prog ziU [eN ⟨N,A⟩,ints f0] [] (.rs 0 0 A.length) [some ⟨1,zaj f,0⟩]:=by
 refine zra.acallsX (args:=[eN ⟨N,A⟩,ints f0]) (hs:=[]) (fun f=>.rs 0 0 A.length) (fun f=>[some ⟨1,zaj f,0⟩]) (fun f : List Int=>zaS N A f ∧ ∀ f',zaS N A f' → valF A f' ≤ valF A f) (nbz rfl) (nbz rfl) (fun _=>by simp) ?_
 show awp _ 0 _ _ ⟨14,[(0,eN ⟨N,A⟩),(1,ints f0)],[],16⟩
 have hno:=zhR hn
 have hfl:=hf0.fit.len
 have hopen:=fun (f : List Int)=>zsC N A f A.length hn
 have hpush:=fun (f : List Int) (hf : zaS N A f)=>zxb N A f hn hf
 have hal:=hn.2.2.1
 simp only at hal
 have hcl:=zog f0 (by omega)
 rw [hfl] at hcl
 have htake : ∀ g : Int → List AV,List.take A.length (List.map g f0) = List.map g f0:=fun g=>List.take_of_length_le (by simp; omega)
 refine rs [1,2] [] [16] ?_
 refine za7 ⟨14,[(5,.pt 64 0 0)],[(48,some ⟨1,zaj f0,0⟩),(64,some ⟨4,[rC N A (.rs 48 0 A.length)],0⟩)],80⟩ rfl ?_ ?_
 ·simp
  refine zcD hcl (by simp) ?_
  simp
  refine zh1 (i:=48) rfl (by simp [fcd]) (hopen f0) (by simp) (by simp) ?_
  simp
  exact ⟨rfl,LeI [(48,48),(64,64)] []⟩
 refine zac ?_
 refine zai ?_
 refine zaI (ι:=List Int) (fun f=>⟨14,[(5,.pt 64 0 0)],[(48,some ⟨1,zaj f,0⟩),(64,some ⟨4,[rC N A (.rs 48 0 A.length)],0⟩)],80⟩) (fun f=>zaS N A f) (fun f=>(capS (fun x=>decide (x = 0)) A - valF A f).toNat) f0 hf0 (LeI [(48,48),(64,64)] []) ?_
 intro f hf
 obtain ⟨⟨c,f'⟩,hx,hcall⟩:=hpush f hf
 simp only at hx hcall
 refine zac ?_
 refine zad ⟨14,[(5,.pt 64 0 0),(11,.B c)],[(48,some ⟨1,zaj f',0⟩),(64,some ⟨4,[rC N A (.rs 48 0 A.length)],0⟩)],100⟩ rfl ?_ ?_
 ·simp
  refine zh1 (i:=48) rfl (by simp [fcd]) hcall (by simp) (by simp) ?_
  simp
  exact LeI [(48,48),(64,64)] []
 refine zak _ rfl (fun h4=>?_) fun h4=>?_
 ·have hc : c = true:=h4
  subst hc
  simp only [if_true] at hx
  have hbnd:=zfi (S:=fun x=>decide (x = 0)) hno hx.1 (by simp) (by simp)
  refine zal ?_
  refine zai ?_
  refine zal ?_
  exact ⟨f',hx.1,by have:=hx.2; omega,LeI [(48,48),(64,64)] []⟩
 have hc : c = false:=h4
 subst hc
 simp only [Bool.false_eq_true,if_false] at hx
 obtain ⟨rfl,hm⟩:=hx
 refine zaD ?_
 refine hit ?_
 refine zad ⟨14,[(4,.rs 48 0 A.length)],[(48,some ⟨1,zaj f',0⟩)],200⟩ rfl ?_ ?_
 ·simp
  exact LeI [(48,48)] []
 refine zan ?_
 exact zo1.mk (.inr rfl) f' ⟨hf,hm⟩ (zat.out [48] [] rfl (by simp) (by simp) (by simp) (by simp [fcd]))
set_option maxRecDepth 100000 in
set_option maxHeartbeats 2000000 in
theorem zrr (N : Nat) (A : List Ed) (hn : zcF ⟨N,A⟩) :
  ∃ f : List Int,(zaS N A f ∧ ∀ f',zaS N A f' → valF A f' ≤ valF A f) ∧ zao Tryz.prog zkv [eN ⟨N,A⟩] [] (.tup [.rs 0 0 A.length,.I 0]) [some ⟨1,zaj f,0⟩]:=by
 have hno:=zhR hn
 obtain ⟨f,hf,hg⟩:=zxH N A _ hn (zk3 hno)
 refine ⟨f,hf,?_⟩
 have hchk:=zhZ ⟨N,A⟩ (by have:=hn.2.2.1; simp only at this ⊢; omega)
 rw [if_pos hn] at hchk
 have hal:=hn.2.2.1
 simp only at hal
 have hfl:=hf.1.fit.len
 refine zsL.ac ?_
 show awp _ 0 _ _ ⟨16,[(0,eN ⟨N,A⟩)],[],16⟩
 refine rs [1] [] [16] ?_
 refine zac ?_
 refine rx (s:=?s2) [1,4] [] [] rfl ?o2 ?q2
 case o2=>simp; refine zaJ hchk (by simp) ?_; simp; rfl
 refine rs [1,4,8] [] [] ?_
 refine zak _ rfl (fun h4=>by cases h4) fun h4=>?_
 refine zal ?_
 refine za7 ⟨16,[(2,.rs 48 0 A.length),(3,.I 0)],[(48,some ⟨1,zaj f,0⟩)],300⟩ rfl ?_ ?_
 ·simp
  refine ⟨by omega,by omega,?_⟩
  refine zo6 [112] hg (by simp [List.map_const']) (.rs _ _ _) zxG ?_
  simp
  exact ⟨rfl,LeI [(120,48)] []⟩
 refine zan ?_
 exact ⟨.inr rfl,zat.out [48] [] rfl (by simp) (by simp) (by simp) (by simp [fcd])⟩
set_option maxRecDepth 100000 in
set_option maxHeartbeats 2000000 in
theorem zkc (N : Nat) (A : List Ed) (f : List Int) (hn : zcF ⟨N,A⟩) (hf : zaS N A f) (hm : ∀ f',zaS N A f' → valF A f' ≤ valF A f) :
  zao Tryz.prog zfv [eN ⟨N,A⟩,.rs 0 0 A.length] [⟨1,zaj f,0⟩] (.rs 1 0 (zhQ N A).length) [some ⟨1,zaj f,0⟩,some ⟨1,zaj (zhQ N A),0⟩]:=by
 have hno:=zhR hn
 obtain ⟨⟨D,b,R⟩,⟨hb,hcl,hR⟩,hcall⟩:=zp9 N A f hn hf.fit
 simp only at hb hcl hR hcall
 have hopen:=zsC N A f A.length hn
 have hnear : inD D N = zhQ N A:=zu7 hno hf hm hb.tree hb.mem0 (zrG hno hf hm hb) hcl
 have hwh:=zst hR N (by have:=hn.2.1; simp only at this; omega)
 rw [hnear] at hwh
 have hfl:=hf.fit.len
 have htake : ∀ g : Int → List AV,List.take A.length (List.map g f) = List.map g f:=fun g=>List.take_of_length_le (by simp; omega)
 refine znt.acalls (nbz rfl) (nbz rfl) (by simp) ?_
 show awp _ 1 _ _ ⟨14,[(0,eN ⟨N,A⟩),(1,.rs 0 0 A.length)],[(0,some ⟨1,zaj f,0⟩)],16⟩
 refine zad ⟨14,[(1,.rs 0 0 A.length),(2,.pv (nC ⟨N,A⟩))],[(0,some ⟨1,zaj f,0⟩)],32⟩ rfl ?_ ?_
 ·simp
  exact LeI [(0,0)] [16]
 refine zad ⟨14,[(2,.pv (nC ⟨N,A⟩)),(5,.pt 64 0 0)],[(0,some ⟨1,zaj f,0⟩),(64,some ⟨1,[[.mp 56]],0⟩),(56,some ⟨0,R,0⟩)],100⟩ rfl ?_ ?_
 ·simp
  refine zh1 (i:=0) rfl (by simp [fcd]) hopen (by simp) (by simp) ?_
  simp
  refine zo6 [0] hcall (by simp [fcd,htake,hfl]) (.mp _) (hR.plain _ _) ?_
  simp
  exact Le.go [(0,0),(64,64),(56,56)] [] rfl rfl (by simp) (by simp [fcd,hR.conv'])
 refine zad ⟨14,[(4,.rs 57 0 (zhQ N A).length)],[(0,some ⟨1,zaj f,0⟩),(57,some ⟨1,zaj (zhQ N A),0⟩)],200⟩ rfl ?_ ?_
 ·simp
  refine zlD (i:=64) (j:=56) (by decide) rfl rfl (by simp) (by simp [hR.conv']) hwh (by simp) (by simp [conv]) ?_
  simp
  exact LeI [(0,0),(124,57)] []
 refine zan ?_
 exact ⟨.inr rfl,zat.k1n 57 (by omega) rfl (by simp) (by simp [fcd]) (by simp [fcd])⟩
abbrev zjQ (R : List (Int × List Int)) : List (List AV):=R.map fun r=>[.I r.1,ints r.2]
abbrev eAcc (acc flow : List Int) (R : List (Int × List Int)) : AV:=.agg [ints acc,ints flow,.vs 2 false (zjQ R)]
theorem WayA.mem {A : List Ed} : ∀ {l : List Nat} {u w : Int},WayA A u l w → ∀ j ∈ l,j < A.length
 | i :: l,u,w,hw,j,hj=>by
   rcases List.mem_cons.1 hj with rfl | hj
   ·exact hw.1
   ·exact WayA.mem hw.2.2 j hj
theorem zkH.few {N : Nat} {A : List Ed} {f g : List Int} {l : List Nat} {w : Int} (hn : zeF N A) (h : zkH A f g l w) : l.length + 1 ≤ N:=by
 have:=zcm (b:=(List.range N).map fun i : Nat=>(i : Int)) h.met fun x hx=>by
  rcases List.mem_cons.1 hx with rfl | hx
  ·have:=hn.two
   exact List.mem_map.2 ⟨0,List.mem_range.2 (by omega),rfl⟩
  ·obtain ⟨j,hj,rfl⟩:=List.mem_map.1 hx
   have ha:=hn.arc _ (zfS (h.way.mem j hj))
   exact List.mem_map.2 ⟨(arcD A j).t.toNat,List.mem_range.2 (by omega),by omega⟩
 simpa [metA] using this
section
variable {P : Program} {np id : Nat} {h : Nat → Option Ent} {K : AV → List Nat → List (Nat × Option Ent) → Prop} {f : FuncId} {first capt args args' : List AV} {res : AV}
end
def zvU (g : Gr) (p : Pol) (ks : List Int) (W : List (List Nat)) : Prop :=
 ∃ f g',zsp g p (za3 ks) f ∧ zlR (netN g) (netA g p (za3 ks)) f g' W ∧ (W.length : Int) = maxF (netN g) (netA g p (za3 ks)) ∧ ∀ w ∈ W,w.length ≤ 130
def befL (o acc : List Int) (i : Nat) : List Int:=(o.take i).filter fun k=>decide (k ∈ acc)
theorem zsT {o acc : List Int} {i : Nat} (h : i < o.length) : befL o acc (i + 1) = befL o acc i ++ if o[i] ∈ acc then [o[i]] else []:=by
 unfold befL
 rw [List.take_succ_eq_append_getElem h,List.filter_append]
 simp only [List.filter_cons,List.filter_nil,decide_eq_true_eq]
structure ForR (g : Gr) (p : Pol) (o : List Int) (key : Int) (x : Expl) : Prop where
 key_ : x.key = key
 bef : ∃ i,∃ h : i < o.length,o[i] = key ∧ x.before = befL o (accR g p o) i
 yes : key ∈ accR g p o → x.acc = true ∧ x.side = [] ∧ ∃ W,zvU g p (x.before ++ [key]) W ∧ x.paths = W.map (zdd (netA g p (za3 (x.before ++ [key]))))
 no : key ∉ accR g p o → x.acc = false ∧ x.paths = [] ∧ ∃ R,zno g p o R ∧ (key,x.side) ∈ R
variable {g : Gr} {p : Pol}
theorem zmO : ∀ (b a : List Int),∃ l,accR g p (a ++ b) = accR g p a ++ l ∧ ∀ x ∈ l,x ∈ b
 | [],a=>⟨[],by simp,by simp⟩
 | x :: b,a=>by
   obtain ⟨l,hl,hm⟩:=zmO b (a ++ [x])
   have e : a ++ x :: b = a ++ [x] ++ b:=by simp
   rw [e,hl]
   rcases zoB (g:=g) (p:=p) a x with h | h
   ·exact ⟨l,by rw [h],fun y hy=>List.mem_cons_of_mem _ (hm y hy)⟩
   ·refine ⟨[x] ++ l,by rw [h,List.append_assoc],fun y hy=>?_⟩
    rcases List.mem_append.1 hy with h | h
    ·rw [List.mem_singleton.1 h]; exact List.mem_cons_self
    ·exact List.mem_cons_of_mem _ (hm y h)
theorem zmV {o : List Int} (hn : o.Nodup) {i : Nat} (h : i < o.length) : o[i] ∈ accR g p o ↔ zaC g p (za3 (accR g p (o.take i) ++ [o[i]])):=by
 have hs : o.take (i + 1) = o.take i ++ [o[i]]:=List.take_succ_eq_append_getElem h
 obtain ⟨l,hl,hm⟩:=zmO (g:=g) (p:=p) (o.drop (i + 1)) (o.take (i + 1))
 rw [List.take_append_drop] at hl
 have hni : o[i] ∉ o.take i:=fun hx=>by
  obtain ⟨j,hj,e⟩:=List.mem_take_iff_getElem.1 hx
  have:=(List.getElem_inj hn).1 e
  omega
 have hnd : o[i] ∉ o.drop (i + 1):=fun hx=>by
  obtain ⟨j,hj,e⟩:=List.mem_drop_iff_getElem.1 hx
  have:=(List.getElem_inj hn).1 e
  omega
 constructor
 ·intro hx
  by_cases hc : zaC g p (za3 (accR g p (o.take i) ++ [o[i]]))
  ·exact hc
  ·rw [hl,hs,zi4 hc] at hx
   rcases List.mem_append.1 hx with h1 | h1
   ·exact absurd (zjZ h1) hni
   ·exact absurd (hm _ h1) hnd
 ·intro hc
  rw [hl,hs,zeU hc]
  exact List.mem_append_left _ (List.mem_append_right _ (List.mem_singleton.2 rfl))
theorem zqE {o : List Int} (hn : o.Nodup) : ∀ i,i ≤ o.length → befL o (accR g p o) i = accR g p (o.take i)
 | 0,_=>by simp [befL,zmY]
 | i + 1,h=>by
   have hi : i < o.length:=h
   rw [zsT hi,zqE hn i (by omega),List.take_succ_eq_append_getElem hi]
   by_cases hc : zaC g p (za3 (accR g p (o.take i) ++ [o[i]]))
   ·rw [if_pos ((zmV hn hi).2 hc),zeU hc]
   ·rw [if_neg (fun h=>hc ((zmV hn hi).1 h)),zi4 hc,List.append_nil]
theorem zls {l : List Int} (h : l.Pairwise (· < ·)) : l.Nodup:=h.imp fun h=>by omega
theorem zga {a : List Int} (hn : a.Nodup) (hr : ∀ k ∈ a,0 ≤ k ∧ k < 64) : a.Perm (za3 a):=by
 rw [← zmR hn hr]
 exact (zgL a).symm
theorem zqk {a : List Int} (hn : a.Nodup) (hr : ∀ k ∈ a,0 ≤ k ∧ k < 64) : (za3 a).length = a.length:=(zga hn hr).length_eq.symm
structure AtO (g : Gr) (p : Pol) (key : Int) (before : List Int) : Prop where
 mem : key ∈ ordL (zas g p.lv) p.seeds
 bef : zgt (ordL (zas g p.lv) p.seeds) before key
 nodup : (before ++ [key]).Nodup
 range : ∀ k ∈ before ++ [key],0 ≤ k ∧ k < g.size
 serve : key ∈ accR g p (ordL (zas g p.lv) p.seeds) ↔ zaC g p (za3 (before ++ [key]))
theorem zoK {o : List Int} (hn : o.Nodup) {i : Nat} (h : i < o.length) : zid o o[i] = o.take i:=by
 unfold zid
 rw [List.takeWhile_eq_take_findIdx_not]
 congr 1
 rw [List.findIdx_eq h]
 refine ⟨by simp,fun j hj=>?_⟩
 have : o[j] ≠ o[i]:=fun e=>by have:=(List.getElem_inj hn).1 e; omega
 simp [this]
theorem ForR.at_ {key : Int} {x : Expl} (h : ForR g p (ordL (zas g p.lv) p.seeds) key x) (hg : GrOk g) : x.key = key ∧ AtO g p key x.before ∧ ∃ i,∃ hi : i < (ordL (zas g p.lv) p.seeds).length,(ordL (zas g p.lv) p.seeds)[i] = key ∧ x.before = accR g p ((ordL (zas g p.lv) p.seeds).take i):=by
 have hn:=zem (zas g p.lv) p.seeds
 have hr : ∀ k ∈ ordL (zas g p.lv) p.seeds,0 ≤ k ∧ k < g.size:=fun k hk=>by have h:=zgJ hk; exact h
 obtain ⟨o,ho⟩ : ∃ o,o = ordL (zas g p.lv) p.seeds:=⟨_,rfl⟩
 rw [← ho] at h hn hr ⊢
 obtain ⟨i,hi,hk,hb⟩:=h.bef
 rw [zqE hn i (by omega)] at hb
 refine ⟨h.key_,?_,i,hi,hk,hb⟩
 have hsub : x.before.Sublist (zid o key):=by
  rw [hb,← hk,zoK hn hi]
  exact zhL _ _ rfl
 refine ⟨by rw [← ho,← hk]; exact List.getElem_mem hi,by rw [← ho]; exact hsub,zgt.nodup (order:=o) hsub hn,fun k hkm=>?_,?_⟩
 ·rcases List.mem_append.1 hkm with h1 | h1
  ·refine hr k ?_
   rw [hb] at h1
   exact List.mem_of_mem_take (zjZ h1)
  ·rw [List.mem_singleton.1 h1,← hk]; exact hr _ (List.getElem_mem hi)
 ·rw [← ho,hb,← hk]
  exact zmV hn hi
theorem AtO.joined {key : Int} {before : List Int} (h : AtO g p key before) (hg : GrOk g) : (za3 (before ++ [key])).Nodup ∧ (before ++ [key]).Perm (za3 (before ++ [key])) ∧ (∀ x ∈ za3 (before ++ [key]),0 ≤ x ∧ x < g.size):=by
 have h64:=hg.1.2.1
 have hr : ∀ k ∈ before ++ [key],0 ≤ k ∧ k < 64:=fun k hk=>⟨(h.range k hk).1,by have:=(h.range k hk).2; omega⟩
 exact ⟨zls (zjW _),zga h.nodup hr,fun x hx=>h.range x (zeG.1 hx).1⟩
theorem zoQ {key : Int} {before : List Int} {W : List (List Nat)} (hg : GrOk g) (hp : zcx g.size p) (ha : AtO g p key before) (hc : zaC g p (za3 (before ++ [key]))) (hW : zvU g p (before ++ [key]) W) :
  zlc g p.lv p.seeds (ordL (zas g p.lv) p.seeds) (zaX g p) (W.map (zdd (netA g p (za3 (before ++ [key]))))) (before ++ [key]):=by
 obtain ⟨f,g',hgf,ht,hl,_⟩:=hW
 obtain ⟨j1,j2,j3⟩:=ha.joined hg
 refine zn8 hg hp j1 (fun x hx=>(j3 x hx).1) j2 hgf.ok.fit ht.ways (fun i _=>?_) ?_
 ·have h1:=ht.used i
  have h2:=ht.bal.nonneg i
  omega
 ·have : maxF (netN g) (netA g p (za3 (before ++ [key]))) = (za3 (before ++ [key])).length:=hc
  omega
theorem ForR.yes_serves {key : Int} {x : Expl} (h : ForR g p (ordL (zas g p.lv) p.seeds) key x) (hg : GrOk g) (hp : zcx g.size p) (hk : key ∈ accR g p (ordL (zas g p.lv) p.seeds)) :
  zlc g p.lv p.seeds (ordL (zas g p.lv) p.seeds) (zaX g p) x.paths (x.before ++ [key]):=by
 obtain ⟨_,ha,_⟩:=h.at_ hg
 obtain ⟨_,_,W,hW,hpa⟩:=h.yes hk
 rw [hpa]
 exact zoQ hg hp ha (ha.serve.1 hk) hW
theorem ForR.no_proves {key : Int} {x : Expl} (h : ForR g p (ordL (zas g p.lv) p.seeds) key x) (hg : GrOk g) (hp : zcx g.size p) (hk : key ∉ accR g p (ordL (zas g p.lv) p.seeds)) :
  zpG ⟨2 + 2 * g.size,zbm g p (zaX g p) (za3 (x.before ++ [key]))⟩ x.side x.before.length:=by
 obtain ⟨_,ha,i,hi,hik,hib⟩:=h.at_ hg
 obtain ⟨_,_,R,hR,hs⟩:=h.no hk
 obtain ⟨i',hi',hik',hn⟩:=hR.right _ hs
 simp only at hik' hn
 have hii : i' = i:=(List.getElem_inj (zem (zas g p.lv) p.seeds)).1 (hik'.trans hik.symm)
 subst hii
 rw [← hib] at hn
 obtain ⟨j1,j2,j3⟩:=ha.joined hg
 have hfew:=zns hg hp j3
 have hno : maxF (netN g) (netA g p (za3 (x.before ++ [key]))) ≠ (za3 (x.before ++ [key])).length:=hn.no
 have hlen:=j2.length_eq
 rw [List.length_append,List.length_singleton] at hlen
 have hcut:=hn.cut
 have hok:=hn.ok
 rw [zmZ hg] at hok
 exact ⟨hok,by rw [hcut]; omega⟩
theorem ForR.checked {key : Int} {x : Expl} (h : ForR g p (ordL (zas g p.lv) p.seeds) key x) (hg : GrOk g) (hp : zcx g.size p) : zsn g p x = 0:=by
 rw [zq4 hg.1.2.1]
 obtain ⟨hk,ha,_⟩:=h.at_ hg
 unfold zsW
 simp only
 rw [hk,if_neg (by simpa using ha.mem)]
 by_cases hacc : key ∈ accR g p (ordL (zas g p.lv) p.seeds)
 ·obtain ⟨h1,h2,_⟩:=h.yes hacc
  rw [if_neg (by rw [h1,h2]; simpa using ha.bef),if_pos h1,if_pos (h.yes_serves hg hp hacc)]
 ·obtain ⟨h1,h2,_⟩:=h.no hacc
  rw [if_neg (by rw [h1,h2]; simpa using ha.bef),if_neg (by rw [h1]; simp),if_pos (h.no_proves hg hp hacc)]
theorem zgF (l : List Int) (hl : l.length ≤ 1099511627776) : zao Tryz.prog zds [ints l] [] (.rs 0 0 l.length) [some ⟨1,zaj (srt l),0⟩]:=by
 refine zmw.ac ?_
 show awp _ 0 _ _ ⟨6,[(0,ints l)],[],16⟩
 have hs : zao Tryz.prog zcv [seqF l] [] (.rs 0 0 l.length) [some ⟨1,zaj (srt l),0⟩]:=zrY l hl
 refine rs [0] [] [] ?_
 refine zad ⟨6,[(2,.rs 50 0 l.length)],[(50,some ⟨1,zaj (srt l),0⟩)],100⟩ rfl ?_ ?_
 ·simp
  refine zaJ (zsS l) (by simp) ?_
  simp
  refine zcD hs (by simp [conv]) ?_
  simp
  exact LeI [(40,50)] []
 refine zan ?_
 exact ⟨.inr rfl,zat.out [50] [] rfl (by simp) (by simp) (by simp) (by simp [fcd])⟩
theorem zka (g : Gr) (p : Pol) (hg : GrOk g) (hN : g.size < 20 ∨ (ordL (zas g p.lv) p.seeds).length < 20) (hs : p.seeds.length ≤ 1099511627776) : zao Tryz.prog zfU [eG g,eP p] [] (.rs 0 0 (ordL (zas g p.lv) p.seeds).length) [some ⟨1,zaj (ordL (zas g p.lv) p.seeds),0⟩]:=by
 refine zm2.ac ?_
 show awp _ 0 _ _ ⟨12,[(0,eG g),(1,eP p)],[],16⟩
 have hel:=hg.edges_le
 have hgl:=hg.gone_le
 have hsz:=hg.1.2.1
 have hlev:=ze5 g p.lv (by omega) (by omega)
 have hord:=zit (g:=zas g p.lv) (S:=p.seeds) (hg.level p.lv) hN hs
 obtain ⟨o,ho⟩ : ∃ o,o = ordL (zas g p.lv) p.seeds:=⟨_,rfl⟩
 rw [← ho] at hord ⊢
 refine rs [2,3] [] [16,24] ?_
 refine za7 ⟨12,[(4,.rs 50 0 o.length)],[(50,some ⟨1,zaj o,0⟩)],200⟩ rfl ?_ ?_
 ·simp
  refine zaJ hlev (by simp) ?_
  simp
  refine zcD hord (by simp) ?_
  simp
  exact ⟨rfl,LeI [(88,50)] []⟩
 refine zan ?_
 exact ⟨.inr rfl,zat.out [50] [] rfl (by simp) (by simp) (by simp) (by simp [fcd])⟩
theorem zlu (l : List Int) (x : Int) (hl : l.length ≤ 1000000) : zao Tryz.prog zgp [ints l,.I x] [] (.rs 0 0 (l.length + 1)) [some ⟨1,zaj (l ++ [x]),0⟩]:=by
 refine zoA.ac ?_
 show awp _ 0 _ _ ⟨14,[(0,ints l),(1,.I x)],[],16⟩
 refine rs [0,1] [] [] ?_
 refine zad ⟨14,[(4,.rs 50 0 (l.length + 1))],[(50,some ⟨1,zaj (l ++ [x]),0⟩)],200⟩ rfl ?_ ?_
 ·have hsl : ∀ {id : Nat} {h : Nat → Option Ent} {K : AV → List Nat → List (Nat × Option Ent) → Prop},K (.vs 1 true (l.map fun n=>[AV.I n])) [] [] → aK Tryz.prog 0 id (.slc 1 false true true) [ints l,.I (l.length : Nat),.I (l.length : Nat)] h K:=fun hK=>by
   rw [zjR]
   refine ⟨0,l.length,l.length,l.length,by simp,Nat.zero_le _,rfl,by simp,by simp,by simp,Nat.le_refl _,fun _=>rfl,rfl,?_⟩
   rw [List.drop_zero,Nat.sub_zero,List.take_of_length_le (by simp)]
   exact hK
  simp
  refine hsl ?_
  simp
  exact ⟨by omega,by omega,LeI [(88,50)] []⟩
 refine zan ?_
 exact ⟨.inr rfl,zat.out [50] [] rfl (by simp) (by simp) (by simp) (by simp [fcd])⟩
theorem zfk (g : Gr) (p : Pol) (ks : List Int) (hg : GrOk g) (hp : zcx g.size p) (hk : ks.Nodup) (hr : ∀ k ∈ ks,0 ≤ k ∧ k < g.size) (hs : p.seeds.length ≤ 64) : zao Tryz.prog zdi [eG g,eP p,ints ks] [] (eN ⟨netN g,netA g p (za3 ks)⟩) []:=by
 refine zkh.ac ?_
 show awp _ 0 _ _ ⟨18,[(0,eG g),(1,eP p),(2,ints ks)],[],16⟩
 have hsz:=hg.1.2.1
 have hr64 : ∀ k ∈ ks,0 ≤ k ∧ k < 64:=fun k h=>by have:=hr k h; omega
 have hlen:=zqk hk hr64
 have hJl:=zn2 ks
 have hsort:=zgF ks (by omega)
 rw [zmR hk hr64,← hlen] at hsort
 have hnet:=zjP g p (za3 ks) hg hp (znN hr) hs hJl
 rw [← zmZ hg,show zbm g p (zaX g p) (za3 ks) = netA g p (za3 ks) from rfl] at hnet
 obtain ⟨J,hJ⟩ : ∃ J,J = za3 ks:=⟨_,rfl⟩
 obtain ⟨A,hA⟩ : ∃ A,A = netA g p (za3 ks):=⟨_,rfl⟩
 rw [← hA] at hnet ⊢
 rw [← hJ] at hnet hsort
 refine rs [2,3,4,6] [32] [16,24] ?_
 refine za7 ⟨18,[(6,.pt 32 0 0),(7,.pv (nC ⟨netN g,A⟩))],[(32,some ⟨2,[[.I 0,.nilS]],0⟩)],300⟩ rfl ?_ ?_
 ·simp
  refine zcD hsort (by simp) ?_
  simp
  refine zxM [64] (by simp) hnet (by simp [fcd,zaU]) ?_
  simp
  exact ⟨rfl,LeH [(32,32)] [104]⟩
 refine zad ⟨18,[(6,.pt 32 0 0)],[(32,some ⟨2,[nC ⟨netN g,A⟩],0⟩)],400⟩ rfl ?_ ?_
 ·simp [zbR]
  exact LeH [(32,32)] []
 refine zan ?_
 exact ⟨.inr rfl,zat.out [] [32] rfl (by simp) (by simp) (by simp) (by simp)⟩
def zx5 (N : Nat) (A : List Ed) (f : List Int) : Prop:=zaS N A f ∧ ∀ f',zaS N A f' → valF A f' ≤ valF A f
theorem zle (N : Nat) (A : List Ed) (k : Int) (hn : zcF ⟨N,A⟩) :
  ∃ f : List Int,zx5 N A f ∧ zao Tryz.prog zdo [eN ⟨N,A⟩,.I k] [] (.tup [.rs 0 0 A.length,.B (decide (valF A f = k))]) [some ⟨1,zaj f,0⟩]:=by
 obtain ⟨f,hf,hmax⟩:=zrr N A hn
 refine ⟨f,hf,?_⟩
 have hfl:=hf.1.fit.len
 have hal:=hn.2.2.1
 simp only at hal
 have hval:=zne (f:=f) hn (by omega)
 rw [if_pos hf.1] at hval
 have htake : ∀ g : Int → List AV,List.take A.length (List.map g f) = List.map g f:=fun g=>List.take_of_length_le (by simp; omega)
 refine zmJ.ac ?_
 show awp _ 0 _ _ ⟨19,[(0,eN ⟨N,A⟩),(1,.I k)],[],16⟩
 refine rs [1,2] [] [16] ?_
 refine zad ⟨19,[(1,.I k),(2,.pv (nC ⟨N,A⟩)),(6,.rs 50 0 A.length)],[(50,some ⟨1,zaj f,0⟩)],100⟩ rfl ?_ ?_
 ·simp
  refine zcD hmax (by simp) ?_
  simp
  exact LeI [(48,50)] []
 refine zad ⟨19,[(4,.rs 50 0 A.length),(5,.B (decide (valF A f = k)))],[(50,some ⟨1,zaj f,0⟩)],200⟩ rfl ?_ ?_
 ·simp
  refine zl7 [50] hval (by simp [fcd,htake,hfl]) (.sc _) ?_
  simp
  exact Le.go [(50,50)] [] rfl rfl (by simp <;> exact wkB (by rw [Bool.eq_iff_iff]; simp)) (by simp [fcd])
 refine zan ?_
 exact ⟨.inr rfl,zat.out [50] [] rfl (by simp) (by simp) (by simp) (by simp [fcd])⟩
theorem zao.wk {P : Program} {f : FuncId} {args args' : List AV} {hs : List Ent} {res : AV} {hs' : List (Option Ent)} (h : zao P f args' hs res hs') (hw : WkL args args') : zao P f args hs res hs':=by
 refine ⟨h.1,h.2.1,fun T M w vs h1 h2 h3 hr=>h.2.2 T M w vs h1 h2 h3 ⟨hr.1.trans hw.length,fun i hi=>?_⟩⟩
 have hi' : i < args.length:=by rw [hw.length]; exact hi
 exact (hw.get i hi').rep (hr.2 i hi')
def bqF : List UInt8 → List UInt8 → Bool
 | [],[]=>true
 | x :: xs,y :: ys=>Nat.beq x.toNat y.toNat && bqF xs ys
 | _,_=>false
theorem zvM : ∀ {a b : List UInt8},bqF a b = true → a = b
 | [],[],_=>rfl
 | x :: xs,y :: ys,h=>by
   simp only [bqF,Bool.and_eq_true] at h
   rw [zvM h.2,UInt8.toNat_inj.1 (Nat.eq_of_beq_eq_true h.1)]
 | [],_ :: _,h=>by cases h
 | _ :: _,[],h=>by cases h
def vqF (a b : Value) : Bool:=match a with
 | .int k m=>(match b with | .int k' n=>Nat.beq (kN k) (kN k') && eqF m n | _=>false)
 | .bool x=>(match b with | .bool y=>x == y | _=>false)
 | .string s=>(match b with | .string u=>bqF s.data.toList u.data.toList | _=>false)
 | .slice none 0 0=>(match b with | .slice none 0 0=>true | _=>false)
 | _=>false
theorem zyq {a b : Value} (h : vqF a b = true) : a = b:=by
 unfold vqF at h
 split at h
 ·split at h
  ·rw [zxN,zve,Bool.and_eq_true,decide_eq_true_eq,beq_iff_eq] at h
   rw [h.1,h.2]
  ·cases h
 ·split at h
  ·rw [beq_iff_eq] at h; rw [h]
  ·cases h
 ·split at h
  ·rename_i s _ u
   have:=zvM h
   obtain ⟨⟨s⟩⟩:=s
   obtain ⟨⟨u⟩⟩:=u
   simp only at this
   rw [this]
  ·cases h
 ·split at h
  ·rfl
  ·cases h
 ·cases h
noncomputable def lqF {α : Type} (q : α → α → Bool) (a : List α) : List α → Bool :=
 List.rec (motive:=fun _=>List α → Bool) (fun b=>match b with | []=>true | _ :: _=>false) (fun x _ ih b=>match b with | []=>false | y :: ys=>q x y && ih ys) a
theorem znR {α : Type} {q : α → α → Bool} (hq : ∀ x y,q x y = true → x = y) : ∀ {a b : List α},lqF q a b = true → a = b
 | [],[],_=>rfl
 | [],_ :: _,h=>by cases h
 | _ :: _,[],h=>by cases h
 | x :: xs,y :: ys,h=>by
   have h : (q x y && lqF q xs ys) = true:=h
   rw [Bool.and_eq_true] at h
   rw [hq _ _ h.1,znR hq h.2]
noncomputable def aqX (ih : AV → AV → Bool) (a b : AV) : Bool:=match a with
 | .sc v=>(match b with | .sc u=>vqF v u | _=>false)
 | .agg xs=>(match b with | .agg ys=>lqF ih xs ys | _=>false)
 | .vs s false rows=>(match b with | .vs s' false rows'=>Nat.beq s s' && lqF (lqF ih) rows rows' | _=>false)
 | _=>false
noncomputable def aqF (n : Nat) : AV → AV → Bool:=Nat.rec (motive:=fun _=>AV → AV → Bool) (fun _ _=>false) (fun _ ih=>aqX ih) n
theorem zvq : ∀ (n : Nat) (a b : AV),aqF n a b = true → a = b
 | 0,_,_,h=>by cases h
 | n + 1,a,b,h=>by
   have ih:=zvq n
   have h : aqX (aqF n) a b = true:=h
   unfold aqX at h
   split at h
   ·split at h
    ·rw [zyq h]
    ·cases h
   ·split at h
    ·rw [znR ih h]
    ·cases h
   ·split at h
    ·rw [Bool.and_eq_true] at h
     rw [Nat.eq_of_beq_eq_true h.1,znR (fun _ _=>znR ih) h.2]
    ·cases h
   ·cases h
structure Fct where
 f : FuncId
 args : List AV
 res : AV
 out : List (Option Ent)
abbrev Fct.Ok (P : Program) (q : Fct) : Prop:=zao P q.f q.args [] q.res q.out
noncomputable def zym (l : List Fct) (f : FuncId) (args : List AV) : Option (AV × List (Option Ent)) :=
 List.rec (motive:=fun _=>Option (AV × List (Option Ent))) none (fun q _ ih=>match Nat.beq q.f f && lqF (aqF 6) q.args args with | true=>some (q.res,q.out) | false=>ih) l
def ascB : List Int → Bool
 | []=>true
 | x :: l=>(match l with | []=>true | y :: _=>ltF x y) && ascB l
def ztJ : List (List AV) → Option (List Int)
 | []=>some []
 | [.sc (.int .i64 n)] :: r=>match ztJ r with | some l=>some (n :: l) | none=>none
 | _=>none
def zwZ (args : List AV) : Option (AV × List (Option Ent)):=match args with
 | [.vs 1 false rows]=>match ztJ rows with
   | some l=>match ascB l && Nat.ble l.length 1000 with | true=>some (.rs 0 0 l.length,[some ⟨1,zaj l,0⟩]) | false=>none
   | none=>none
 | _=>none
noncomputable def zam (l : List Fct) : Cf:=fun f args hs=>match hs with
 | []=>match Nat.beq f zds with | true=>zwZ args | false=>zym l f args
 | _ :: _=>none
theorem zp1 : ∀ {rows : List (List AV)} {l : List Int},ztJ rows = some l → rows = zaj l
 | [],l,h=>by cases h; rfl
 | row :: rows,l,h=>by
   unfold ztJ at h
   split at h
   ·rename_i he; cases he
   ·split at h
    ·rename_i hr; cases h; rename_i he _ _ ; injection he with e1 e2; subst e1 e2; rw [zp1 hr]; rfl
    ·cases h
   ·cases h
theorem zr5 : ∀ {l : List Int},ascB l = true → l.Pairwise (· < ·)
 | [],_=>.nil
 | [x],_=>List.pairwise_singleton _ _
 | x :: y :: l,h=>by
   simp only [ascB,Bool.and_eq_true,zsR,decide_eq_true_eq] at h
   have ih:=zr5 (l:=y :: l) (by simp only [ascB,Bool.and_eq_true,zsR]; exact h.2)
   refine List.pairwise_cons.2 ⟨fun z hz=>?_,ih⟩
   rcases List.mem_cons.1 hz with rfl | hz
   ·exact h.1
   ·have:=(List.pairwise_cons.1 ih).1 z hz; omega
theorem zwc {l : List Int} (h : l.Pairwise (· < ·)) : srt l = l:=List.mergeSort_of_pairwise (h.imp fun h=>by simp; omega)
theorem zaE {l : List Fct} (h : ∀ q ∈ l,q.Ok Tryz.prog) : ∀ f a b r c,zam l f a b = some (r,c) → zao Tryz.prog f a b r c:=by
 intro f a b r c e
 unfold zam at e
 split at e
 ·split at e
  ·rename_i hf
   have hf:=Nat.eq_of_beq_eq_true hf
   subst hf
   unfold zwZ at e
   split at e
   ·split at e
    ·rename_i L hL
     split at e
     ·rename_i hA
      rw [Bool.and_eq_true] at hA
      have hl : L.length ≤ 1099511627776:=Nat.le_trans (nbz hA.2) (by omega)
      replace hA:=hA.1
      cases e
      have:=zr5 hA
      rw [zp1 hL]
      have h1:=zgF L hl
      rw [zwc this] at h1
      exact h1
     ·cases e
    ·cases e
   ·cases e
  ·induction l with
   | nil=>cases e
   | cons q l ih =>
     have e : (match Nat.beq q.f f && lqF (aqF 6) q.args a with | true=>some (q.res,q.out) | false=>zym l f a) = some (r,c):=e
     split at e
     ·rename_i hq
      rw [Bool.and_eq_true] at hq
      have e1:=Nat.eq_of_beq_eq_true hq.1
      have e2:=znR (fun _ _=>zvq 6 _ _) hq.2
      cases e
      rw [← e1,← e2]
      exact h q (List.mem_cons_self ..)
     ·exact ih (fun q hq=>h q (List.mem_cons_of_mem _ hq)) e
 ·cases e
end Go.Proofs.YtklclphfcibagaaGreat
