/- Texts of this claim,merged. -/
import Derived.Test.YtfdbhehkkobfgaaGreatRu13
import Derived.Test.YtfdbhehkkobfgaaGreatRu9
import Derived.Test.YtfdbhehkkobfgaaGreatRu11
import Derived.Test.YtfdbhehkkobfgaaGreatRu10
import Derived.Test.YtfdbhehkkobfgaaGreatRu8
import Derived.Test.YtfdbhehkkobfgaaGreatRu7
import Derived.Test.YtfdbhehkkobfgaaGreatRu6
set_option linter.unusedSimpArgs false
set_option linter.unusedVariables false
set_option linter.unusedSectionVars false
namespace Go.Proofs.YtfdbhehkkobfgaaGreat
open Go
def zez (g : Gr) (S : List Int) (i : Nat) : List Int:=((List.range i).map Int.ofNat).filter fun k=>decide (0 ≤ dist g S k)
theorem zn1 (g : Gr) (S : List Int) (i : Nat) : zez g S (i + 1) = zez g S i ++ if 0 ≤ dist g S i then [(i : Int)] else []:=by
 unfold zez
 rw [List.range_succ,List.map_append,List.filter_append]
 congr 1
 by_cases h : 0 ≤ dist g S (i : Int)
 ·simp [h]
 ·simp [h]
theorem zrq (g : Gr) (S : List Int) (i : Nat) : (zez g S i).length ≤ i:=by
 unfold zez
 exact Nat.le_trans (List.length_filter_le _ _) (by simp)
def rowJ (G : Gr) (S K : List Int) (r x : Int) (j : Nat) (v : Int) : List Int:=(List.range K.length).map fun q=>if q < j then wayW G S r x (K.getD q 0) else if q = j then v else 0
section
variable {G : Gr} {S K : List Int} {r x : Int}
theorem znc (j : Nat) (v : Int) : (rowJ G S K r x j v).length = K.length:=by simp [rowJ]
theorem zpH : zah (rowJ G S K r x 0 0) = List.replicate K.length [AV.I 0]:=by
 simp [rowJ,fcd,List.map_const']
theorem zqI {j : Nat} {v : Int} (h : j < (rowJ G S K r x j v).length) : (rowJ G S K r x j v)[j] = v:=by simp [rowJ]
theorem zrt {j : Nat} {v v2 : Int} : (zah (rowJ G S K r x j v)).set j [AV.I v2] = zah (rowJ G S K r x j v2):=by
 rw [zcZ]
 congr 1
 unfold rowJ
 rw [zh0]
 refine List.map_congr_left fun q _=>?_
 by_cases h : q = j
 ·subst h; simp
 ·simp [h]
theorem zpS {j : Nat} (hj : j < K.length) : rowJ G S K r x j (wayW G S r x K[j]) = rowJ G S K r x (j + 1) 0:=by
 unfold rowJ
 refine List.map_congr_left fun q _=>?_
 by_cases h1 : q < j
 ·rw [if_pos h1,if_pos (by omega)]
 ·rw [if_neg h1]
  by_cases h2 : q = j
  ·subst h2
   rw [if_pos rfl,if_pos (by omega)]
   simp [hj]
  ·rw [if_neg h2,if_neg (by omega)]
   split <;> rfl
end
theorem zql (G : Gr) (S : List Int) (r x : Int) : rowJ G S (zap G S) r x (zap G S).length 0 = zaW G S r x:=by
 unfold rowJ zaW
 rw [← zl0 (zap G S) fun y=>wayW G S r x y]
 refine List.map_congr_left fun q hq=>?_
 rw [if_pos (List.mem_range.1 hq)]
section
variable (g : Gr) (p : Pol) (r : Int) (hg : GrOk g) (hr : 1 ≤ r) (hr5 : r ≤ 5) (hs : p.seeds.length ≤ 64)
include hg hr hr5 hs
set_option maxRecDepth 100000 in
set_option maxHeartbeats 8000000 in
theorem znd : zaj Tryz.prog zdq [eG g,eP p,.I r] [] (.tup [ints (zap (zao g p.lv) p.seeds),zaB (zbG (zao g p.lv) p.seeds r)]) []:=by
 refine zkH.acalls (nbz rfl) (nbz rfl) (Nat.le_refl _) ?_
 show awp _ 0 _ _ ⟨117,[(0,eG g),(1,eP p),(2,.I r)],[],16⟩
 have hel:=hg.edges_le
 have hgl:=hg.gone_le
 have hlev:=zig g p.lv (by omega) (by omega)
 have hGg:=hg.level p.lv
 have hall:=zkv (zao g p.lv) p.seeds hGg (by omega)
 obtain ⟨G,hGd⟩ : ∃ G,G = zao g p.lv:=⟨_,rfl⟩
 rw [← hGd] at hlev hGg hall ⊢
 have hGe:=hGg.edges_le
 have hG0:=hGg.1.1
 have hG1:=hGg.1.2.1
 obtain ⟨n,hn⟩ : ∃ n : Nat,G.size = n:=⟨G.size.toNat,by omega⟩
 have hGn : G.size.toNat = n:=by omega
 rw [hGn] at hall
 have hDl : (zdc G p.seeds).length = n:=by simp [zdc,hGn]
 have hDk : ∀ (k : Nat) (h : k < (zdc G p.seeds).length),(zdc G p.seeds)[k] = dist G p.seeds k:=fun k h=>by simp [zdc]
 obtain ⟨D,hDd⟩ : ∃ D,D = zdc G p.seeds:=⟨_,rfl⟩
 rw [← hDd] at hall hDl
 simp only [← hDd] at hDk
 have hDT : ∀ f : Int → List AV,(D.map f).take n = D.map f:=fun f=>List.take_of_length_le (by simp [hDl])
 refine zab ⟨117,[(2,.I r),(3,.pt 16 0 0),(4,.pv (pC p))],[(16,some ⟨3,[gC g],0⟩)],100⟩ rfl ?_ ?_
 ·simp
  exact LeH [(16,16)] [24]
 refine zab ⟨117,[(2,.I r),(3,.pv (gC G)),(4,.pv (pC p))],[],200⟩ rfl ?_ ?_
 ·simp
  refine zal hlev (by simp) ?_
  simp
  exact LeH [] [16]
 refine zab ⟨117,[(2,.I r),(3,.pv (gC G)),(4,.pv (pC p)),(8,ints D)],[],300⟩ rfl ?_ ?_
 ·simp
  refine zdK hall (by simp) ?_
  simp
  exact Le.go [] [224] rfl rfl (by simp [hDl,hDT,fcd]) (by simp)
 refine rx (s:=?z4) [2,3,4,8,9] [] [] rfl ?p4 ?r4
 case p4=>simp; rfl
 have hBT : ∀ (i : Nat) (f : Int → List AV),((zez G p.seeds i).map f).take (zez G p.seeds i).length = (zez G p.seeds i).map f:=fun i f=>List.take_of_length_le (by simp)
 refine zat (ι:=Unit) (fun _=>⟨117,[(2,.I r),(3,.pv (gC G)),(4,.pv (pC p)),(9,ints (zap G p.seeds))],[],5000⟩) (fun _=>True) ?_ fun _ _=>?_
 ·refine rx (s:=?z5) [2,3,4,8,9,10] [] [] rfl ?p5 ?r5
  case p5=>simp; rfl
  refine zaf ?_
  refine zan (ι:=Nat) (fun i=>⟨117,[(2,.I r),(3,.pv (gC G)),(4,.pv (pC p)),(8,ints D),(9,.rs 50 0 (zez G p.seeds i).length),(10,.I i)],[(50,some ⟨1,zah (zez G p.seeds i),0⟩)],1000⟩) (fun i=>i ≤ n) (fun i=>n - i) 0 (Nat.zero_le _) (Le.lst [] [] [(50,1)] rfl (by simp) (by simp) (by simp) (by simp) (by simp) (by simp) (by simp) (by simp [Up,zez]) (by simp [zez])) ?_
  intro i hi
  refine zaa ?_
  refine rx (s:=?z6) [2,3,4,8,9,10,27] [50] [] rfl ?p6 ?r6
  case p6=>simp [hn,fcd]; rfl
  refine zad _ rfl (fun hc=>?_) fun hc=>?_
  ·simp at hc
   have hiD : i < D.length:=by omega
   have hDi:=hDk i hiD
   have hwi : IntKind.i64.wrap ((i : Int) + 1) = (i : Int) + 1:=w64 (by omega) (by omega)
   have hks:=zn1 G p.seeds i
   have hkl:=zrq G p.seeds i
   obtain ⟨B,hB⟩ : ∃ B,B = zez G p.seeds i:=⟨_,rfl⟩
   have hBT2:=hBT i
   rw [← hB] at hks hkl hBT2
   refine zae ?_
   refine zat (ι:=Unit) (fun _=>⟨117,[(2,.I r),(3,.pv (gC G)),(4,.pv (pC p)),(8,ints D),(9,.rs 50 0 (zez G p.seeds (i + 1)).length),(10,.I i)],[(50,some ⟨1,zah (zez G p.seeds (i + 1)),0⟩)],3000⟩) (fun _=>True) ?_ fun _ _=>?_
   ·refine zaf ?_
    refine zab ⟨117,[(2,.I r),(3,.pv (gC G)),(4,.pv (pC p)),(8,ints D),(9,.rs 50 0 B.length),(10,.I i),(34,.B (decide (0 ≤ dist G p.seeds i)))],[(50,some ⟨1,zah B,0⟩)],1500⟩ rfl ?_ ?_
    ·simp [hiD,hDi]
     exact Le.go [(50,50)] [] rfl rfl (by simp [hB]) (by simp [hB,fcd])
    refine zad _ rfl (fun hd=>?_) fun hd=>?_
    ·rw [decide_eq_true_eq] at hd
     rw [if_pos hd] at hks
     refine zaC rfl ?_
     simp [zeN]
     refine ⟨by omega,by omega,?_⟩
     rw [hks]
     exact Le.go [(1524,50)] [] rfl rfl (by simp) (by simp [fcd,hBT2])
    ·rw [decide_eq_false_iff_not] at hd
     rw [if_neg hd,List.append_nil] at hks
     refine zae ?_
     refine ⟨(),trivial,?_⟩
     rw [hks]
     exact LeI [(50,50)] []
   refine zac (s:=?z8) rfl ?p8 ?r8
   case p8=>simp [hwi]; rfl
   exact ⟨i + 1,by omega,by omega,LeI [(50,50)] []⟩
  ·simp at hc
   obtain rfl : i = n:=by omega
   have hkk : zez G p.seeds i = zap G p.seeds:=by unfold zez zap; rw [hGn]
   have hBT2:=hBT i
   rw [hkk] at hBT2
   refine zak ?_
   refine hit ?_
   refine ⟨(),trivial,?_⟩
   exact Le.go [] [50] rfl rfl (by simp [hkk,hBT2,fcd]) (by simp)
 have hK64 : (zap G p.seeds).length ≤ 64:=by
  have:=zdb (g:=G) (S:=p.seeds)
  omega
 have hrl : zbG G p.seeds r = (zap G p.seeds).map (zaW G p.seeds r):=rfl
 have hja:=zql G p.seeds r
 obtain ⟨K,hKd⟩ : ∃ K,K = zap G p.seeds:=⟨_,rfl⟩
 rw [← hKd] at hK64 hrl
 simp only [← hKd] at hja
 rw [← hKd]
 have hKT : ∀ f : Int → List AV,(K.map f).take K.length = K.map f:=fun f=>List.take_of_length_le (by simp)
 obtain ⟨q,hq⟩ : ∃ q,q = K.length:=⟨_,rfl⟩
 refine rx (s:=?z20) [2,3,4,9,11] [] [] rfl ?p20 ?r20
 case p20=>simp; rfl
 refine zat (ι:=Unit) (fun _=>⟨117,[(9,ints K),(11,zaB (zbG G p.seeds r))],[],30000⟩) (fun _=>True) ?_ fun _ _=>?_
 ·refine rx (s:=?z21) [2,3,4,9,11,12] [] [] rfl ?p21 ?r21
  case p21=>simp; rfl
  refine zaf ?_
  refine zan (ι:=Nat) (fun i=>⟨117,[(2,.I r),(3,.pv (gC G)),(4,.pv (pC p)),(9,ints K),(11,.rs 50 0 i),(12,.I i)],[(50,some ⟨1,zaM ((K.take i).map (zaW G p.seeds r)),0⟩)],6000⟩) (fun i=>i ≤ q) (fun i=>q - i) 0 (Nat.zero_le _) (Le.lst [] [] [(50,1)] rfl (by simp) (by simp) (by simp) (by simp) (by simp) (by simp) (by simp) (by simp [Up]) (by simp)) ?_
  intro i hi
  have hD4 : ∀ f : List Int → List AV,(((K.take i).map (zaW G p.seeds r)).map f).take i = ((K.take i).map (zaW G p.seeds r)).map f:=fun f=>List.take_of_length_le (by simp; omega)
  have hDl2 : ((K.take i).map (zaW G p.seeds r)).length = i:=by simp; omega
  obtain ⟨D2,hD2⟩ : ∃ D,D = (K.take i).map (zaW G p.seeds r):=⟨_,rfl⟩
  rw [← hD2] at hD4 hDl2
  refine zaa ?_
  refine zab ⟨117,[(2,.I r),(3,.pv (gC G)),(4,.pv (pC p)),(9,ints K),(11,.rs 50 0 i),(12,.I i),(42,.B (decide (i < q)))],[(50,some ⟨1,zaM D2,0⟩)],6100⟩ rfl ?_ ?_
  ·simp [← hq]
   exact Le.go [(50,50)] [] rfl rfl (by simp) (by simp [fcd,hD2])
  refine zad _ rfl (fun hc=>?_) fun hc=>?_
  ·rw [decide_eq_true_eq] at hc
   have hiK : i < K.length:=by omega
   have hwi : IntKind.i64.wrap ((i : Int) + 1) = (i : Int) + 1:=w64 (by omega) (by omega)
   have hsucc : (K.take (i + 1)).map (zaW G p.seeds r) = D2 ++ [zaW G p.seeds r K[i]]:=by
    rw [List.take_succ_eq_append_getElem hiK,List.map_append,hD2]
    rfl
   obtain ⟨x,hx⟩ : ∃ x,x = K[i]:=⟨_,rfl⟩
   rw [← hx] at hsucc
   have hjl : ∀ j v,(rowJ G p.seeds K r x j v).length = q:=fun j v=>by rw [znc,hq]
   have hjz : zah (rowJ G p.seeds K r x 0 0) = List.replicate q [AV.I 0]:=by rw [zpH,hq]
   refine zae ?_
   refine zat (ι:=Unit) (fun _=>⟨117,[(2,.I r),(3,.pv (gC G)),(4,.pv (pC p)),(9,ints K),(11,.rs 50 0 (i + 1)),(12,.I i)],[(50,some ⟨1,zaM ((K.take (i + 1)).map (zaW G p.seeds r)),0⟩)],25000⟩) (fun _=>True) ?_ fun _ _=>?_
   ·refine zaf ?_
    refine zab ⟨117,[(2,.I r),(3,.pv (gC G)),(4,.pv (pC p)),(9,ints K),(11,.rs 50 0 i),(12,.I i),(13,.rs 51 0 q)],[(50,some ⟨1,zaM D2,0⟩),(51,some ⟨1,zah (rowJ G p.seeds K r x 0 0),0⟩)],6300⟩ rfl ?_ ?_
    ·simp [← hq]
     exact ⟨by omega,by omega,Le.go [(50,50),(6116,51)] [] rfl rfl (by simp) (by simp [fcd,hjz])⟩
    refine zat (ι:=Unit) (fun _=>⟨117,[(2,.I r),(3,.pv (gC G)),(4,.pv (pC p)),(9,ints K),(11,.rs 50 0 i),(12,.I i),(13,.rs 51 0 q)],[(50,some ⟨1,zaM D2,0⟩),(51,some ⟨1,zah (zaW G p.seeds r x),0⟩)],20000⟩) (fun _=>True) ?_ fun _ _=>?_
    ·refine zab ⟨117,[(2,.I r),(3,.pv (gC G)),(4,.pv (pC p)),(9,ints K),(11,.rs 50 0 i),(12,.I i),(13,.rs 51 0 q),(14,.I 0)],[(50,some ⟨1,zaM D2,0⟩),(51,some ⟨1,zah (rowJ G p.seeds K r x 0 0),0⟩)],6500⟩ rfl ?_ ?_
     ·simp
      exact LeI [(50,50),(51,51)] []
     refine zaf ?_
     refine zan (ι:=Nat) (fun j=>⟨117,[(2,.I r),(3,.pv (gC G)),(4,.pv (pC p)),(9,ints K),(11,.rs 50 0 i),(12,.I i),(13,.rs 51 0 q),(14,.I j)],[(50,some ⟨1,zaM D2,0⟩),(51,some ⟨1,zah (rowJ G p.seeds K r x j 0),0⟩)],7000⟩) (fun j=>j ≤ q) (fun j=>q - j) 0 (Nat.zero_le _) (LeI [(50,50),(51,51)] []) ?_
     intro j hj
     refine zaa ?_
     refine zab ⟨117,[(2,.I r),(3,.pv (gC G)),(4,.pv (pC p)),(9,ints K),(11,.rs 50 0 i),(12,.I i),(13,.rs 51 0 q),(14,.I j),(51,.B (decide (j < q)))],[(50,some ⟨1,zaM D2,0⟩),(51,some ⟨1,zah (rowJ G p.seeds K r x j 0),0⟩)],7100⟩ rfl ?_ ?_
     ·simp [← hq]
      exact LeI [(50,50),(51,51)] []
     refine zad _ rfl (fun hcj=>?_) fun hcj=>?_
     ·rw [decide_eq_true_eq] at hcj
      have hjK : j < K.length:=by omega
      have hwj : IntKind.i64.wrap ((j : Int) + 1) = (j : Int) + 1:=w64 (by omega) (by omega)
      have hnext:=zpS (G:=G) (S:=p.seeds) (r:=r) (x:=x) hjK
      obtain ⟨y,hy⟩ : ∃ y,y = K[j]:=⟨_,rfl⟩
      rw [← hy] at hnext
      have hget : ∀ v (h : j < (rowJ G p.seeds K r x j v).length),(rowJ G p.seeds K r x j v)[j] = v:=fun v h=>zqI h
      have hset : ∀ v v2,(zah (rowJ G p.seeds K r x j v)).set j [AV.I v2] = zah (rowJ G p.seeds K r x j v2):=fun v v2=>zrt
      have hhas:=zkT p.seeds y (by omega)
      refine zae ?_
      refine zat (ι:=Unit) (fun _=>⟨117,[(2,.I r),(3,.pv (gC G)),(4,.pv (pC p)),(9,ints K),(11,.rs 50 0 i),(12,.I i),(13,.rs 51 0 q),(14,.I j)],[(50,some ⟨1,zaM D2,0⟩),(51,some ⟨1,zah (rowJ G p.seeds K r x (j + 1) 0),0⟩)],18000⟩) (fun _=>True) ?_ fun _ _=>?_
      ·refine zaf ?_
       refine zat (ι:=Unit) (fun _=>⟨117,[(2,.I r),(3,.pv (gC G)),(4,.pv (pC p)),(9,ints K),(11,.rs 50 0 i),(12,.I i),(13,.rs 51 0 q),(14,.I j)],[(50,some ⟨1,zaM D2,0⟩),(51,some ⟨1,zah (rowJ G p.seeds K r x j (edW G x y)),0⟩)],14000⟩) (fun _=>True) ?_ fun _ _=>?_
       ·refine zab ⟨117,[(2,.I r),(3,.pv (gC G)),(4,.pv (pC p)),(9,ints K),(11,.rs 50 0 i),(12,.I i),(13,.rs 51 0 q),(14,.I j),(15,.I 0)],[(50,some ⟨1,zaM D2,0⟩),(51,some ⟨1,zah (rowJ G p.seeds K r x j 0),0⟩)],7300⟩ rfl ?_ ?_
        ·simp
         exact LeI [(50,50),(51,51)] []
        refine zaf ?_
        refine zan (ι:=Nat) (fun m=>⟨117,[(2,.I r),(3,.pv (gC G)),(4,.pv (pC p)),(9,ints K),(11,.rs 50 0 i),(12,.I i),(13,.rs 51 0 q),(14,.I j),(15,.I m)],[(50,some ⟨1,zaM D2,0⟩),(51,some ⟨1,zah (rowJ G p.seeds K r x j (edWl (G.edges.take m) x y)),0⟩)],8000⟩) (fun m=>m ≤ G.edges.length) (fun m=>G.edges.length - m) 0 (Nat.zero_le _) (Le.go [(50,50),(51,51)] [] rfl rfl (by simp) (by simp [fcd,edWl])) ?_
        intro m hm
        refine zaa ?_
        refine zab ⟨117,[(2,.I r),(3,.pv (gC G)),(4,.pv (pC p)),(9,ints K),(11,.rs 50 0 i),(12,.I i),(13,.rs 51 0 q),(14,.I j),(15,.I m),(58,.B (decide (m < G.edges.length)))],[(50,some ⟨1,zaM D2,0⟩),(51,some ⟨1,zah (rowJ G p.seeds K r x j (edWl (G.edges.take m) x y)),0⟩)],8100⟩ rfl ?_ ?_
        ·simp
         exact LeI [(50,50),(51,51)] []
        refine zad _ rfl (fun hcm=>?_) fun hcm=>?_
        ·rw [decide_eq_true_eq] at hcm
         have hwm : IntKind.i64.wrap ((m : Int) + 1) = (m : Int) + 1:=w64 (by omega) (by omega)
         have hes:=zhy hcm x y
         have heb:=zo3 hGg m x y
         have hev:=hGg.val G.edges[m] (List.getElem_mem hcm)
         obtain ⟨e,hed⟩ : ∃ e,e = G.edges[m]:=⟨_,rfl⟩
         obtain ⟨v,hvd⟩ : ∃ v,v = edWl (G.edges.take m) x y:=⟨_,rfl⟩
         obtain ⟨v2,hvd2⟩ : ∃ v,v = edWl (G.edges.take (m + 1)) x y:=⟨_,rfl⟩
         rw [← hvd,← hvd2,← hed] at hes
         rw [← hvd] at heb
         rw [← hed] at hev
         refine zae ?_
         refine zat (ι:=Unit) (fun _=>⟨117,[(2,.I r),(3,.pv (gC G)),(4,.pv (pC p)),(9,ints K),(11,.rs 50 0 i),(12,.I i),(13,.rs 51 0 q),(14,.I j),(15,.I m)],[(50,some ⟨1,zaM D2,0⟩),(51,some ⟨1,zah (rowJ G p.seeds K r x j v2),0⟩)],12000⟩) (fun _=>True) ?_ fun _ _=>?_
         ·refine zaf ?_
          refine zaO ⟨117,[(2,.I r),(3,.pv (gC G)),(4,.pv (pC p)),(9,ints K),(11,.rs 50 0 i),(12,.I i),(13,.rs 51 0 q),(14,.I j),(15,.I m),(84,.B (decide (e.f = x) && decide (e.t = y)))],[(50,some ⟨1,zaM D2,0⟩),(51,some ⟨1,zah (rowJ G p.seeds K r x j v),0⟩)],9000⟩ rfl ?_ ?_
          ·by_cases hf : e.f = x
           ·simp [hcm,← hed,hf,hiK,← hx,hjK,← hy]
            exact ⟨rfl,Le.go [(50,50),(51,51)] [] rfl rfl (by simp [hf,← hed,← hy] <;> exact wkB (by rw [Bool.eq_iff_iff]; simp)) (by simp [fcd,hvd])⟩
           ·have hfb : (e.f == x) = false:=by simpa using hf
            simp [hcm,← hed,hfb,hiK,← hx,hjK,← hy]
            exact ⟨rfl,Le.go [(50,50),(51,51)] [] rfl rfl (by simp [hf,hfb,← hed]) (by simp [fcd,hvd])⟩
          refine zad _ rfl (fun hb=>?_) fun hb=>?_
          ·rw [Bool.and_eq_true,decide_eq_true_eq,decide_eq_true_eq] at hb
           rw [if_pos hb] at hes
           have hwv : IntKind.i64.wrap (v + e.v) = v2:=by rw [hes]; exact w64 (by omega) (by omega)
           refine zcj rfl ?_
           simp [hcm,← hed,hcj,hjl,hget,hwv,hset]
           exact ⟨rfl,LeI [(50,50),(51,51)] []⟩
          ·rw [Bool.and_eq_false_iff,decide_eq_false_iff_not,decide_eq_false_iff_not] at hb
           rw [if_neg (fun h=>by rcases hb with hb | hb; exact hb h.1; exact hb h.2),Int.add_zero] at hes
           refine zae ?_
           refine ⟨(),trivial,?_⟩
           rw [hes]
           exact LeI [(50,50),(51,51)] []
         refine zac (s:=?z37) rfl ?p37 ?r37
         case p37=>simp [hwm]; rfl
         refine ⟨m + 1,by omega,by omega,?_⟩
         rw [← hvd2]
         exact LeI [(50,50),(51,51)] []
        ·rw [decide_eq_false_iff_not] at hcm
         obtain rfl : m = G.edges.length:=by omega
         have hedW : edWl (G.edges.take G.edges.length) x y = edW G x y:=by rw [List.take_length]; rfl
         refine zak ?_
         refine hit ?_
         refine ⟨(),trivial,?_⟩
         rw [hedW]
         exact LeI [(50,50),(51,51)] []
       have hwd2 : wayW G p.seeds r x y = (if p.seeds.contains y then r else 0) + edW G x y:=rfl
       have hedb:=zne hGg x y
       have hway:=zdE hGg hr hr5 (S:=p.seeds) x y
       rw [← hnext]
       obtain ⟨ew,hew⟩ : ∃ e,e = edW G x y:=⟨_,rfl⟩
       rw [← hew] at hwd2 hedb
       obtain ⟨wa,hwa⟩ : ∃ a,a = wayW G p.seeds r x y:=⟨_,rfl⟩
       rw [← hwa] at hwd2 hway ⊢
       refine zaO ⟨117,[(2,.I r),(3,.pv (gC G)),(4,.pv (pC p)),(9,ints K),(11,.rs 50 0 i),(12,.I i),(13,.rs 51 0 q),(14,.I j),(103,.B (p.seeds.contains y))],[(50,some ⟨1,zaM D2,0⟩),(51,some ⟨1,zah (rowJ G p.seeds K r x j ew),0⟩)],15000⟩ rfl ?_ ?_
       ·simp [hjK,← hy]
        refine zal hhas (by simp) ?_
        simp
        exact ⟨rfl,Le.go [(50,50),(51,51)] [] rfl rfl (by simp) (by simp [fcd,hew])⟩
       refine zad _ rfl (fun hb=>?_) fun hb=>?_
       ·rw [if_pos hb] at hwd2
        have hwv : IntKind.i64.wrap (ew + r) = wa:=by rw [hwd2,Int.add_comm]; exact w64 (by omega) (by omega)
        refine zaC rfl ?_
        simp [hcj,hjl,hget,hwv,hset]
        exact LeI [(50,50),(51,51)] []
       ·rw [if_neg (by rw [hb]; simp),Int.zero_add] at hwd2
        subst hwd2
        refine zae ?_
        exact ⟨(),trivial,LeI [(50,50),(51,51)] []⟩
      refine zac (s:=?z40) rfl ?p40 ?r40
      case p40=>simp [hwj]; rfl
      exact ⟨j + 1,by omega,by omega,LeI [(50,50),(51,51)] []⟩
     ·rw [decide_eq_false_iff_not] at hcj
      obtain rfl : j = q:=by omega
      have hja2:=hja x
      rw [← hq] at hja2
      refine zak ?_
      refine hit ?_
      refine ⟨(),trivial,?_⟩
      rw [hja2]
      exact LeI [(50,50),(51,51)] []
    have hRl : (zaW G p.seeds r x).length = q:=by rw [← hja x,znc,hq]
    have hR4 : ∀ f : Int → List AV,((zaW G p.seeds r x).map f).take q = (zaW G p.seeds r x).map f:=fun f=>List.take_of_length_le (by simp [hRl])
    have hS5 : List.take (i + 1) (List.map ((fun l=>[ints l]) ∘ zaW G p.seeds r) K) = zaM D2 ++ [[ints (zaW G p.seeds r x)]]:=by
     rw [← List.map_take,← List.map_map,hsucc]
     simp
    refine zaC rfl ?_
    simp [hDl2]
    refine ⟨by omega,by omega,?_⟩
    rw [hS5]
    exact Le.go [(20024,50)] [51] rfl rfl (by simp) (by simp [fcd,hD4,hR4,hRl])
   refine zac (s:=?z42) rfl ?p42 ?r42
   case p42=>simp [hwi]; rfl
   exact ⟨i + 1,by omega,by omega,LeI [(50,50)] []⟩
  ·rw [decide_eq_false_iff_not] at hc
   obtain rfl : i = q:=by omega
   have hDr : D2 = zbG G p.seeds r:=by rw [hD2,hrl,hq,List.take_length]
   rw [hDr] at hD4 hDl2
   refine zak ?_
   refine hit ?_
   refine ⟨(),trivial,?_⟩
   rw [hDr]
   exact Le.go [] [50] rfl rfl (by simp [fcd,hD4,hDl2]) (by simp)
 refine rx (s:=?z50) [6,7] [] [] rfl ?p50 ?r50
 case p50=>simp; rfl
 refine zag ?_
 exact ⟨.inr rfl,zam.out [] [] rfl (by simp) (by simp) (by simp) (by simp)⟩
end
structure MapI (rows : List (List AV)) (φ : Int → Option AV) : Prop where
 is : MapR rows φ
 flat : ∀ n x,φ n = some x → ∃ v,x = .sc v
theorem MapI.mem {rows : List (List AV)} {φ : Int → Option AV} (h : MapI rows φ) {r : List AV} (hr : r ∈ rows) : ∃ k v,r = [.sc k,.sc v]:=by
 obtain ⟨⟨l,rfl,hn,hf⟩,hfl⟩:=h
 obtain ⟨q,hq,rfl⟩:=List.mem_map.1 hr
 obtain ⟨v,e⟩:=hfl q.1 q.2 (by rw [← hf]; exact zhj hn hq)
 exact ⟨_,v,by rw [e]⟩
theorem MapI.set {rows : List (List AV)} {φ ψ : Int → Option AV} (h : MapI rows φ) (n v : Int) (he : ψ = fun k=>if k = n then some (.I v) else φ k) : MapI (mset n (.I v) rows) ψ:=by
 subst he
 refine ⟨h.is.set n (.I v),fun k x hx=>?_⟩
 split at hx
 ·cases hx; exact ⟨_,rfl⟩
 ·exact h.flat k x hx
theorem MapI.del {rows : List (List AV)} {φ ψ : Int → Option AV} (h : MapI rows φ) (n : Int) (he : ψ = fun k=>if k = n then none else φ k) : MapI (mdel n rows) ψ:=by
 subst he
 refine ⟨h.is.del n,fun k x hx=>?_⟩
 split at hx
 ·cases hx
 ·exact h.flat k x hx
section
variable {P : Program} {np id : Nat} {h : Nat → Option Ent} {K : AV → List Nat → List (Nat × Option Ent) → Prop} {f : FuncId} {first capt args args' : List AV} {res : AV}
end
theorem zrD (L : List Int) (hl : L.length ≤ 400) : ∃ (g : Gr) (b : Nat),(GrOk g ∧ 2 ≤ g.size ∧ g.size ≤ 9 ∧ b ≤ L.length) ∧ zaj Tryz.prog zbv [.pt 0 0 0] [dice L 0] (eG g) [some (dice L b)] :=
 have h:=zmj L 0 (Nat.zero_le _)
 ⟨_,_,⟨h.ok,h.lo,h.hi,h.at_⟩,zqU L 0 hl (Nat.zero_le _)⟩
variable {g : Gr} {p : Pol}
theorem Rise.pair {l : List Int} {lo hi : Int} (h : Rise l lo hi) : l.Pairwise (· < ·):=by
 have hlt : ∀ (j i : Nat) (hj : j < l.length) (hij : i < j),l[i] < l[j]:=by
  intro j
  induction j with
  | zero=>intro i _ hij; omega
  | succ j ih =>
    intro i hj hij
    have h1:=(h (j + 1) hj).2.2 (by omega)
    simp only [Nat.add_sub_cancel] at h1
    rcases Nat.lt_or_ge i j with h2 | h2
    ·have:=ih i (by omega) h2
     omega
    ·have : i = j:=by omega
     subst this
     exact h1
 exact List.pairwise_iff_getElem.2 fun i j hi hj hij=>hlt j i hj hij
section
variable {g : Gr} {p : Pol}
theorem zcu.join {a : List Int} (h : zcu g p a) : zcu g p (za2 a):=h.sub fun _ hx=>(zf3.1 hx).1
end
variable {g : Gr} {p : Pol}
theorem h64 (hg : GrOk g) {a : List Int} (h : ∀ x ∈ a,0 ≤ x ∧ x < g.size) : ∀ x ∈ a,0 ≤ x ∧ x < 64:=fun x hx=>by
 have:=h x hx
 have:=hg.1.2.1
 omega
variable {g : Gr} {p : Pol}
variable {g : Gr} {p : Pol}
theorem ForR.uniq {key : Int} {x y : Expl} (hg : GrOk g) (hx : ForR g p (ordL (zao g p.lv) p.seeds) key x) (hy : ForR g p (ordL (zao g p.lv) p.seeds) key y) :
  x.key = y.key ∧ x.acc = y.acc ∧ x.before = y.before ∧ x.side = y.side ∧ x.paths.length = y.paths.length:=by
 obtain ⟨hx1,hx2,i,hi,hik,hib⟩:=hx.at_ hg
 obtain ⟨hy1,hy2,j,hj,hjk,hjb⟩:=hy.at_ hg
 have hij : i = j:=(List.getElem_inj (zb9 (zao g p.lv) p.seeds)).1 (hik.trans hjk.symm)
 subst hij
 have hb : x.before = y.before:=hib.trans hjb.symm
 refine ⟨hx1.trans hy1.symm,?_⟩
 by_cases hacc : key ∈ accR g p (ordL (zao g p.lv) p.seeds)
 ·obtain ⟨x1,x2,W,⟨f,g',_,_,hl,_⟩,x3⟩:=hx.yes hacc
  obtain ⟨y1,y2,V,⟨f',g'',_,_,hl',_⟩,y3⟩:=hy.yes hacc
  refine ⟨x1.trans y1.symm,hb,x2.trans y2.symm,?_⟩
  rw [x3,y3,List.length_map,List.length_map]
  rw [hb] at hl
  omega
 ·obtain ⟨x1,x2,R,hR,hs⟩:=hx.no hacc
  obtain ⟨y1,y2,R',hR',hs'⟩:=hy.no hacc
  refine ⟨x1.trans y1.symm,hb,?_,by rw [x2,y2]⟩
  obtain ⟨a,ha,hak,hn⟩:=hR.right _ hs
  obtain ⟨b,hb',hbk,hn'⟩:=hR'.right _ hs'
  simp only at hak hbk hn hn'
  have h1 : a = i:=(List.getElem_inj (zb9 (zao g p.lv) p.seeds)).1 (hak.trans hik.symm)
  have h2 : b = i:=(List.getElem_inj (zb9 (zao g p.lv) p.seeds)).1 (hbk.trans hik.symm)
  subst h1
  subst h2
  rw [hn.eq,hn'.eq]
def g1 : Gr:=⟨1,[],[]⟩
def p1 : Pol:=⟨[0],[2],1⟩
section
variable {P : Program} {np id : Nat} {h : Nat → Option Ent} {K : AV → List Nat → List (Nat × Option Ent) → Prop} {f : FuncId} {first capt args args' : List AV} {res : AV}
end
open Classical in
noncomputable def chkE (g : Gr) (p : Pol) : Int:=if GrOk g then if zbx g.size p then 0 else 15 else 14
theorem zom {g : Gr} {p : Pol} : chkE g p = 0 ↔ GrOk g ∧ zbx g.size p:=by
 unfold chkE
 by_cases h1 : GrOk g
 ·by_cases h2 : zbx g.size p
  ·simp [h1,h2]
  ·simp [h1,h2]
 ·simp [h1]
theorem zkR (g : Gr) (p : Pol) (hl : g.edges.length ≤ 140737488355328) (hl2 : g.gone.length ≤ 140737488355328) (hs : p.seeds.length ≤ 140737488355328) (ht : p.table.length ≤ 140737488355328) :
  zaj Tryz.prog zci [eG g,eP p] [] (.I (chkE g p)) []:=zdN g p hl hl2 hs ht
theorem zkI (g : Gr) (p : Pol) (hl : g.edges.length ≤ 140737488355328) (hl2 : g.gone.length ≤ 140737488355328) (hs : p.seeds.length ≤ 140737488355328) (ht : p.table.length ≤ 140737488355328) :
  zaj Tryz.prog zb6 [eG g,eP p] [] (.I (chkE g p)) []:=ze7 g p hl hl2 hs ht
variable {g : Gr} {p : Pol}
section
variable (g : Gr) (p : Pol) (r : Int) (hg : GrOk g) (hp : zbx g.size p) (hr : 1 ≤ r) (hr5 : r ≤ 5) (hs : p.seeds.length ≤ 64) (ht : p.table.length ≤ 8)
include hg hp hr hr5 hs ht
theorem zpp : ∀ s ∈ p.seeds,Key (zao g p.lv) s:=fun s h=>by
 have hR:=hp.2.1
 obtain ⟨i,hi,rfl⟩:=List.getElem_of_mem h
 have:=hR i hi
 exact ⟨this.1,by show p.seeds[i] < g.size; omega⟩
theorem zmB : zaj Tryz.prog zb6 [eG g,eP p] [] (.I 0) []:=by
 have hel:=hg.edges_le
 have hgl:=hg.gone_le
 have h:=ze7 g p (by omega) (by omega) (by omega) (by omega)
 rwa [if_pos hg,if_pos hp] at h
set_option maxRecDepth 100000 in
set_option maxHeartbeats 8000000 in
theorem zen : zaj Tryz.prog zaX [eG g,eP p,.I r] [] (.tup [ints (zfl (zao g p.lv) p.seeds r).1,.I (zfl (zao g p.lv) p.seeds r).2]) []:=by
 refine ze8.acalls (nbz rfl) (nbz rfl) (Nat.le_refl _) ?_
 show awp _ 0 _ _ ⟨90,[(0,eG g),(1,eP p),(2,.I r)],[],16⟩
 have hchk:=zmB g p r hg hp hr hr5 hs ht
 have hrat:=znd g p r hg hr hr5 hs
 have hGg:=hg.level p.lv
 have hS:=zpp g p r hg hp hr hr5 hs ht
 have hsz : (zao g p.lv).size = g.size:=rfl
 obtain ⟨G,hGd⟩ : ∃ G,G = zao g p.lv:=⟨_,rfl⟩
 rw [← hGd] at hrat hGg hS hsz ⊢
 have hms : ∀ i (h : i < (zap G p.seeds).length),zaj Tryz.prog zbH [ints (zaW G p.seeds r (zbI G p.seeds i))] [] (.I (zdd G p.seeds r (zbI G p.seeds i))) []:=fun i h=>zi8 _ (fun x hx=>by
  obtain ⟨y,_,rfl⟩:=List.mem_map.1 hx
  exact zdE hGg hr hr5 _ y) (by
   have:=zdb (g:=G) (S:=p.seeds)
   have:=hGg.1.2.1
   simp [zaW]
   omega)
 have htree : ∀ (h9 : (zap G p.seeds).length ≤ 9) i (h : i < (zap G p.seeds).length),zaj Tryz.prog zdp [zaB (zbG G p.seeds r),.I i] [] (.I (zg1 G p.seeds r i)) []:=fun h9 i h=>by
  obtain ⟨N,hN⟩ : ∃ N,(zap G p.seeds).length = N + 1:=⟨(zap G p.seeds).length - 1,by omega⟩
  have hN1 : (zap G p.seeds).length - 1 = N:=by omega
  have htk:=zmN hGg hr hr5 hS h9 (r:=r) h
  have hmm : ∀ j,smN (N + 1) (zfi G p.seeds r j) = zdd G p.seeds r (zbI G p.seeds j):=fun j=>by rw [← hN]; exact zje
  unfold zg1 at htk ⊢
  rw [hN1] at htk ⊢
  refine znC (zbG G p.seeds r) (zfi G p.seeds r) N i (by simp [zbG,hN]) (by omega) (by omega) (fun j hj=>?_) (fun a b=>zdE hGg hr hr5 _ _) (fun j hj=>?_) htk
  ·rw [zeI (by omega),zkw hN]
  ·rw [hmm]
   have h1:=zfz hGg hr hr5 (S:=p.seeds) (zbI G p.seeds j)
   have h2 : zfi G p.seeds r j j ≤ zdd G p.seeds r (zbI G p.seeds j):=zlm (fun v hv=>by
    obtain ⟨y,_,rfl⟩:=List.mem_map.1 hv
    exact (zdE hGg hr hr5 _ y).1) (List.mem_map.2 ⟨zbI G p.seeds j,zhU (by omega),rfl⟩)
   omega
 have hLg : ∀ i (h : i < (zbG G p.seeds r).length),(zbG G p.seeds r)[i] = zaW G p.seeds r (zbI G p.seeds i):=fun i h=>by
  have:=zeI (G:=G) (S:=p.seeds) (r:=r) (i:=i) (by simpa [zbG] using h)
  rw [List.getElem?_eq_getElem h] at this
  exact Option.some.inj this
 have hLl : (zbG G p.seeds r).length = (zap G p.seeds).length:=by simp [zbG]
 have hraw:=fun (h9 : (zap G p.seeds).length ≤ 9) i (h : i < (zap G p.seeds).length)=>zml hGg hr hr5 hS h9 (r:=r) (i:=i) h
 have hgp:=fun (h9 : (zap G p.seeds).length ≤ 9) (h : 0 < (zap G p.seeds).length)=>zno hGg hr hr5 hS h9 (r:=r) h
 have hin:=fun i (h : i < (zap G p.seeds).length)=>zcI.1 (List.getElem_mem h)
 have hK64 : (zap G p.seeds).length ≤ 64:=by
  have:=zdb (g:=G) (S:=p.seeds)
  have:=hGg.1.2.1
  omega
 have hs0:=hg.1.1
 have hs1:=hg.1.2.1
 have hoA:=fun i y (h : i < (zap G p.seeds).length) h2=>zrz (G:=G) (S:=p.seeds) (r:=r) (i:=i) (y:=y) h h2
 have hoB:=fun i y (h : i < (zap G p.seeds).length) h2=>zrO (G:=G) (S:=p.seeds) (r:=r) (i:=i) (y:=y) h h2
 have hoG:=fun i y (h : i < (zap G p.seeds).length) h2 h3=>zrQ (G:=G) (S:=p.seeds) (r:=r) (i:=i) (y:=y) h h2 h3
 have hoH:=fun i y (h : i < (zap G p.seeds).length) h2 h3=>zrM (G:=G) (S:=p.seeds) (r:=r) (i:=i) (y:=y) h h2 h3
 obtain ⟨K,hKd⟩ : ∃ K,K = zap G p.seeds:=⟨_,rfl⟩
 obtain ⟨L,hLd⟩ : ∃ L,L = zbG G p.seeds r:=⟨_,rfl⟩
 have hsg : zfl G p.seeds r = if K = [] then ([],11) else if 9 < K.length then ([],3) else (outK G p.seeds r,0):=by rw [hKd]; rfl
 rw [hsg]
 have hall : oA G p.seeds r K.length = oB G p.seeds r 0:=by rw [hKd]; exact zrP
 have hall2 : oB G p.seeds r K.length = outK G p.seeds r:=by rw [hKd]; exact zrB
 rw [← hKd] at hK64
 simp only [← hKd,← hLd] at hrat hms htree hLg hLl hraw hgp hin hoA hoB hoG hoH
 refine zab ⟨90,[(2,.I r),(3,.pv (gC g)),(4,.pv (pC p)),(6,.nilS),(7,.I 0)],[],100⟩ rfl ?_ ?_
 ·simp
  exact LeH [] [16,24]
 refine zaa ?_
 refine rx (s:=?z2) [2,3,4,8] [] [] rfl ?p2 ?r2
 case p2=>simp; refine zal hchk (by simp) ?_; simp; rfl
 refine rx (s:=?z3) [2,3,4,19] [] [] rfl ?p3 ?r3
 case p3=>simp; rfl
 refine zad _ rfl (fun h=>by simp at h) fun _=>?_
 refine zae ?_
 refine zaa ?_
 refine zab ⟨90,[(2,.I r),(3,.pv (gC g)),(4,.pv (pC p)),(26,.B false)],[],300⟩ rfl ?_ ?_
 ·have h1 : ¬ r < 1:=by omega
  have h2 : ¬ 5 < r:=by omega
  simp [h1]
  exact Le.go [] [] rfl rfl (by simp [h2]) (by simp)
 refine zad _ rfl (fun h=>by simp at h) fun _=>?_
 refine zae ?_
 refine zab ⟨90,[(3,.pv (gC g)),(9,ints K),(10,zaB L)],[],400⟩ rfl ?_ ?_
 ·simp
  refine zal hrat (by simp) ?_
  simp
  exact LeH [] []
 refine zaa ?_
 refine zab ⟨90,[(3,.pv (gC g)),(9,ints K),(10,zaB L),(36,.B (decide (K = [])))],[],500⟩ rfl ?_ ?_
 ·simp
  exact Le.go [] [] rfl rfl (by simp <;> exact wkB (by rw [Bool.eq_iff_iff]; simp [List.length_eq_zero_iff])) (by simp)
 refine zad _ rfl (fun h=>?_) fun h=>?_
 ·rw [decide_eq_true_eq] at h
  rw [if_pos h]
  refine rx (s:=?z4) [6,7] [] [] rfl ?p4 ?r4
  case p4=>simp; rfl
  refine zag ?_
  exact ⟨.inr rfl,zam.out [] [] rfl (by simp) (by simp) (by simp; exact wkT2 (.nil 1 false) (.refl _)) (by simp)⟩
 rw [decide_eq_false_iff_not] at h
 rw [if_neg h]
 refine zae ?_
 refine zaa ?_
 refine zab ⟨90,[(3,.pv (gC g)),(9,ints K),(10,zaB L),(39,.B (decide (9 < K.length)))],[],600⟩ rfl ?_ ?_
 ·simp
  exact Le.go [] [] rfl rfl (by simp <;> exact wkB (by rw [Bool.eq_iff_iff]; simp; omega)) (by simp)
 refine zad _ rfl (fun h2=>?_) fun h2=>?_
 ·rw [decide_eq_true_eq] at h2
  rw [if_pos h2]
  refine rx (s:=?z5) [6,7] [] [] rfl ?p5 ?r5
  case p5=>simp; rfl
  refine zag ?_
  exact ⟨.inr rfl,zam.out [] [] rfl (by simp) (by simp) (by simp; exact wkT2 (.nil 1 false) (.refl _)) (by simp)⟩
 rw [decide_eq_false_iff_not] at h2
 refine zae ?_
 have hKne:=h
 have hK9 : K.length ≤ 9:=by omega
 have hK0 : 0 < K.length:=List.length_pos_iff.2 hKne
 rw [if_neg (by omega)]
 obtain ⟨n,hn⟩ : ∃ n,n = K.length:=⟨_,rfl⟩
 obtain ⟨N,hNd⟩ : ∃ N,N = G.size.toNat:=⟨_,rfl⟩
 have hgs : g.size = N:=by omega
 have hNl : ∀ i,(oA G p.seeds r i).length = N:=fun i=>by rw [zrN,hNd]
 have hNl2 : ∀ i,(oB G p.seeds r i).length = N:=fun i=>by rw [zrA,hNd]
 have hz : zah (oA G p.seeds r 0) = List.replicate N [AV.I 0]:=by rw [zoo,hNd]
 refine zab ⟨90,[(9,ints K),(10,zaB L),(11,.rs 50 0 N)],[(50,some ⟨1,zah (oA G p.seeds r 0),0⟩)],1000⟩ rfl ?_ ?_
 ·simp [hgs]
  exact ⟨by omega,by omega,Le.go [(616,50)] [] rfl rfl (by simp) (by simp [hz,fcd])⟩
 refine rx (s:=?z8) [9,10,11,12] [50] [] rfl ?p8 ?r8
 case p8=>simp [fcd]; rfl
 refine zat (ι:=Unit) (fun _=>⟨90,[(9,ints K),(11,.rs 50 0 N),(12,.I (gcdL (zgY G p.seeds r) : Nat))],[(50,some ⟨1,zah (oB G p.seeds r 0),0⟩)],4000⟩) (fun _=>True) ?_ fun _ _=>?_
 ·refine rx (s:=?z9) [9,10,11,12,13] [50] [] rfl ?p9 ?r9
  case p9=>simp [fcd]; rfl
  refine zaf ?_
  refine zan (ι:=Nat) (fun i=>⟨90,[(9,ints K),(10,zaB L),(11,.rs 50 0 N),(12,.I (gcdL ((List.range i).map (rawK G p.seeds r)) : Nat)),(13,.I i)],[(50,some ⟨1,zah (oA G p.seeds r i),0⟩)],1200⟩) (fun i=>i ≤ n) (fun i=>n - i) 0 (Nat.zero_le _) (Le.go [(50,50)] [] rfl rfl (by simp [gcdL]) (by simp [fcd])) ?_
  intro i hi
  refine zaa ?_
  refine rx (s:=?z10) [9,10,11,12,13,46] [50] [] rfl ?p10 ?r10
  case p10=>simp [← hn,fcd]; rfl
  refine zad _ rfl (fun hc=>?_) fun hc=>?_
  ·simp at hc
   have hiK : i < K.length:=by omega
   have hiL : i < L.length:=by omega
   have hw1 : IntKind.i64.wrap ((i : Int) + 1) = (i : Int) + 1:=w64 (by omega) (by omega)
   have hkey:=(hin i hiK).1
   obtain ⟨y,hy⟩ : ∃ y : Nat,K[i] = (y : Int):=⟨K[i].toNat,by have:=hkey.1; omega⟩
   have hyN : y < N:=by have:=hkey.2; rw [hy] at this; omega
   obtain ⟨hr1,hr2,hr3⟩:=hraw hK9 i hiK
   have hset:=hoA i y hiK hy
   have hget:=hoG i y hiK hy (by omega)
   have hm:=hms i hiK
   have hLi:=hLg i hiL
   have htr:=htree hK9 i hiK
   have hwr : IntKind.i64.wrap (zg1 G p.seeds r i * zdd G p.seeds r (zbI G p.seeds i)) = ((rawK G p.seeds r i : Nat) : Int):=by rw [Int.mul_comm,← hr1]; exact w64 (by omega) (by omega)
   have hcm:=zkk (rawK G p.seeds r i) (gcdL ((List.range i).map (rawK G p.seeds r)))
   have hgs2 : gcdL ((List.range (i + 1)).map (rawK G p.seeds r)) = Nat.gcd (rawK G p.seeds r i) (gcdL ((List.range i).map (rawK G p.seeds r))):=by
    rw [List.range_succ,List.map_append,Nat.gcd_comm]
    exact zhS _ _
   rw [← hgs2] at hcm
   obtain ⟨q1,hq1⟩ : ∃ q,q = gcdL ((List.range i).map (rawK G p.seeds r)):=⟨_,rfl⟩
   obtain ⟨q2,hq2⟩ : ∃ q,q = gcdL ((List.range (i + 1)).map (rawK G p.seeds r)):=⟨_,rfl⟩
   rw [← hq1,← hq2] at hcm
   obtain ⟨w,hwd⟩ : ∃ w,w = rawK G p.seeds r i:=⟨_,rfl⟩
   rw [← hwd] at hwr hset hget hcm
   have hga : ∀ h : y < (oA G p.seeds r (i + 1)).length,(oA G p.seeds r (i + 1))[y] = ((w : Nat) : Int):=fun h=>by
    rw [List.getElem?_eq_getElem h] at hget
    exact Option.some.inj hget
   refine zae ?_
   refine zat (ι:=Unit) (fun _=>⟨90,[(9,ints K),(10,zaB L),(11,.rs 50 0 N),(12,.I (q2 : Nat)),(13,.I i)],[(50,some ⟨1,zah (oA G p.seeds r (i + 1)),0⟩)],3000⟩) (fun _=>True) ?_ fun _ _=>?_
   ·refine zaf ?_
    refine zaO ⟨90,[(9,ints K),(10,zaB L),(11,.rs 50 0 N),(12,.I (q1 : Nat)),(13,.I i)],[(50,some ⟨1,zah (oA G p.seeds r (i + 1)),0⟩)],1800⟩ rfl ?_ ?_
    ·simp [hiK,hy]
     refine zal htr (by simp) ?_
     simp [hiL,hLi]
     refine zal hm (by simp) ?_
     simp [hwr,hyN,hNl,hset]
     exact ⟨rfl,Le.go [(50,50)] [] rfl rfl (by simp [hq1]) (by simp [fcd])⟩
    refine zaC rfl ?_
    simp [hiK,hy,hyN,hNl,hga]
    refine zal hcm (by simp) ?_
    simp
    exact LeI [(50,50)] []
   refine zac (s:=?z12) rfl ?p12 ?r12
   case p12=>simp [hw1]; rfl
   refine ⟨i + 1,by omega,by omega,?_⟩
   rw [← hq2]
   exact LeI [(50,50)] []
  ·simp at hc
   obtain rfl : i = n:=by omega
   have hgf : gcdL ((List.range i).map (rawK G p.seeds r)) = gcdL (zgY G p.seeds r):=by unfold zgY; rw [hn,hKd]
   refine zak ?_
   refine hit ?_
   refine ⟨(),trivial,?_⟩
   rw [hgf,← hall,← hn]
   exact LeI [(50,50)] []
 have hd0:=hgp hK9 hK0
 obtain ⟨d,hdd⟩ : ∃ d,d = gcdL (zgY G p.seeds r):=⟨_,rfl⟩
 rw [← hdd] at hd0
 simp only [← hdd] at hoB
 refine zat (ι:=Unit) (fun _=>⟨90,[(11,.rs 50 0 N)],[(50,some ⟨1,zah (outK G p.seeds r),0⟩)],8000⟩) (fun _=>True) ?_ fun _ _=>?_
 ·refine zab ⟨90,[(9,ints K),(11,.rs 50 0 N),(12,.I (d : Nat)),(14,.I 0)],[(50,some ⟨1,zah (oB G p.seeds r 0),0⟩)],4500⟩ rfl ?_ ?_
  ·simp
   exact Le.go [(50,50)] [] rfl rfl (by simp [hdd]) (by simp [fcd])
  refine zaf ?_
  refine zan (ι:=Nat) (fun i=>⟨90,[(9,ints K),(11,.rs 50 0 N),(12,.I (d : Nat)),(14,.I i)],[(50,some ⟨1,zah (oB G p.seeds r i),0⟩)],5000⟩) (fun i=>i ≤ n) (fun i=>n - i) 0 (Nat.zero_le _) (LeI [(50,50)] []) ?_
  intro i hi
  refine zaa ?_
  refine rx (s:=?z20) [9,11,12,14,76] [50] [] rfl ?p20 ?r20
  case p20=>simp [← hn,fcd]; rfl
  refine zad _ rfl (fun hc=>?_) fun hc=>?_
  ·simp at hc
   have hiK : i < K.length:=by omega
   have hw1 : IntKind.i64.wrap ((i : Int) + 1) = (i : Int) + 1:=w64 (by omega) (by omega)
   have hkey:=(hin i hiK).1
   obtain ⟨y,hy⟩ : ∃ y : Nat,K[i] = (y : Int):=⟨K[i].toNat,by have:=hkey.1; omega⟩
   have hyN : y < N:=by have:=hkey.2; rw [hy] at this; omega
   obtain ⟨hr1,hr2,hr3⟩:=hraw hK9 i hiK
   have hset:=hoB i y hiK hy
   have hget:=hoH i y hiK hy (by omega)
   obtain ⟨w,hwd⟩ : ∃ w,w = rawK G p.seeds r i:=⟨_,rfl⟩
   rw [← hwd] at hr3 hset hget
   have hga : ∀ h : y < (oB G p.seeds r i).length,(oB G p.seeds r i)[y] = ((w : Nat) : Int):=fun h=>by
    rw [List.getElem?_eq_getElem h] at hget
    exact Option.some.inj hget
   have hdl:=Nat.div_le_self w d
   have hq : binV .quo (.int .i64 (w : Int)) (.int .i64 (d : Int)) = some (.int .i64 ((w / d : Nat) : Int)):=by
    show (if (d : Int) = 0 then none else some (Value.int .i64 (IntKind.i64.wrap ((w : Int).tdiv d)))) = _
    have hwz : IntKind.i64.wrap ((w / d : Nat) : Int) = ((w / d : Nat) : Int):=by
     obtain ⟨z,hz⟩ : ∃ z,z = w / d:=⟨_,rfl⟩
     rw [← hz] at hdl ⊢
     exact w64 (by omega) (by omega)
    rw [if_neg (by omega),show ((w : Int).tdiv d) = ((w / d : Nat) : Int) by simp,hwz]
   refine zae ?_
   refine zaa ?_
   refine zaf ?_
   refine zaC rfl ?_
   simp [-binV,-Int.natCast_ediv,hiK,hy,hyN,hNl2,hga,hq,hset]
   refine zac (s:=?z22) rfl ?p22 ?r22
   case p22=>simp [hw1]; rfl
   exact ⟨i + 1,by omega,by omega,LeI [(50,50)] []⟩
  ·simp at hc
   obtain rfl : i = n:=by omega
   refine zak ?_
   refine hit ?_
   refine ⟨(),trivial,?_⟩
   rw [← hall2,← hn]
   exact LeI [(50,50)] []
 have hol : (outK G p.seeds r).length = N:=by simp [outK,hNd]
 have hoT : ∀ f : Int → List AV,((outK G p.seeds r).map f).take N = (outK G p.seeds r).map f:=fun f=>List.take_of_length_le (by simp [hol])
 refine zab ⟨90,[(6,ints (outK G p.seeds r)),(7,.I 0)],[],9000⟩ rfl ?_ ?_
 ·simp
  exact Le.go [] [50] rfl rfl (by simp [hol,hoT,fcd]) (by simp)
 refine zag ?_
 exact ⟨.inr rfl,zam.out [] [] rfl (by simp) (by simp) (by simp) (by simp)⟩
end
section
variable (g : Gr) (p : Pol) (r : Int) (hg : GrOk g) (hp : zbx g.size p) (hr : 1 ≤ r) (hr5 : r ≤ 5) (hs : p.seeds.length ≤ 64) (ht : p.table.length ≤ 8)
include hg hp hr hr5 hs ht
set_option maxRecDepth 100000 in
theorem zjp (key : Int) : zaj Tryz.prog zc7 [eG g,eP p,.I r,.I key] [] (.I (zmq (zao g p.lv) p.seeds r key)) []:=by
 refine zhV.acalls (nbz rfl) (nbz rfl) (Nat.le_refl _) ?_
 show awp _ 0 _ _ ⟨48,[(0,eG g),(1,eP p),(2,.I r),(3,.I key)],[],16⟩
 have hchk:=zmB g p r hg hp hr hr5 hs ht
 have hrat:=znd g p r hg hr hr5 hs
 have hGg:=hg.level p.lv
 obtain ⟨G,hGd⟩ : ∃ G,G = zao g p.lv:=⟨_,rfl⟩
 rw [← hGd] at hrat hGg ⊢
 have hK64 : (zap G p.seeds).length ≤ 64:=by
  have:=zdb (g:=G) (S:=p.seeds)
  have:=hGg.1.2.1
  omega
 have hms : ∀ i (h : i < (zap G p.seeds).length),zaj Tryz.prog zbH [ints (zaW G p.seeds r (zbI G p.seeds i))] [] (.I (zdd G p.seeds r (zbI G p.seeds i))) []:=fun i h=>zi8 _ (fun x hx=>by
  obtain ⟨y,_,rfl⟩:=List.mem_map.1 hx
  exact zdE hGg hr hr5 _ y) (by simp [zaW]; omega)
 have hLg : ∀ i (h : i < (zbG G p.seeds r).length),(zbG G p.seeds r)[i] = zaW G p.seeds r (zbI G p.seeds i):=fun i h=>by
  have:=zeI (G:=G) (S:=p.seeds) (r:=r) (i:=i) (by simpa [zbG] using h)
  rw [List.getElem?_eq_getElem h] at this
  exact Option.some.inj this
 have hLl : (zbG G p.seeds r).length = (zap G p.seeds).length:=by simp [zbG]
 have hka : ∀ i (h : i < (zap G p.seeds).length),zbI G p.seeds i = (zap G p.seeds)[i]:=fun i h=>zfQ h
 have hmA : zmq G p.seeds r key = if key ∈ zap G p.seeds then zdd G p.seeds r key else 0:=rfl
 rw [hmA]
 obtain ⟨K,hKd⟩ : ∃ K,K = zap G p.seeds:=⟨_,rfl⟩
 obtain ⟨L,hLd⟩ : ∃ L,L = zbG G p.seeds r:=⟨_,rfl⟩
 rw [← hKd] at hK64 ⊢
 simp only [← hKd,← hLd] at hrat hms hLg hLl hka
 refine zab ⟨48,[(2,.I r),(3,.I key),(4,.pv (gC g)),(5,.pv (pC p))],[],100⟩ rfl ?_ ?_
 ·simp
  exact LeH [] [16,24]
 refine zaa ?_
 refine zab ⟨48,[(2,.I r),(3,.I key),(4,.pv (gC g)),(5,.pv (pC p)),(23,.B false)],[],400⟩ rfl ?_ ?_
 ·have f1 : binV .lss (.int .i64 r) (.int .i64 1) = some (.bool false):=by simp; omega
  have f2 : binV .gtr (.int .i64 r) (.int .i64 5) = some (.bool false):=by simp; omega
  have f3 : binV .neq (.int .i64 0) (.int .i64 0) = some (.bool false):=rfl
  simp [-binV]
  refine zal hchk (by simp) ?_
  simp [-binV,f1,f2,f3]
  exact LeH [] []
 refine zad _ rfl (fun h=>by simp at h) fun _=>?_
 refine zae ?_
 refine zab ⟨48,[(3,.I key),(9,ints K),(10,zaB L)],[],600⟩ rfl ?_ ?_
 ·simp
  refine zal hrat (by simp) ?_
  simp
  exact LeH [] []
 refine zat (ι:=Unit) (fun _=>⟨48,[],[],5000⟩) (fun _=>key ∉ K) ?_ fun _ hno=>?_
 ·refine rx (s:=?z5) [3,9,10,11] [] [] rfl ?p5 ?r5
  case p5=>simp; rfl
  refine zaf ?_
  refine zan (ι:=Nat) (fun i=>⟨48,[(3,.I key),(9,ints K),(10,zaB L),(11,.I i)],[],1000⟩) (fun i=>i ≤ K.length ∧ key ∉ K.take i) (fun i=>K.length - i) 0 ⟨Nat.zero_le _,by simp⟩ (LeH [] []) ?_
  rintro i ⟨hi,hn⟩
  refine zaa ?_
  refine rx (s:=?z6) [3,9,10,11,34] [] [] rfl ?p6 ?r6
  case p6=>simp; rfl
  refine zad _ rfl (fun hc=>?_) fun hc=>?_
  ·simp at hc
   have hiL : i < L.length:=by omega
   have hwi : IntKind.i64.wrap ((i : Int) + 1) = (i : Int) + 1:=w64 (by omega) (by omega)
   have hm:=hms i hc
   rw [hka i hc] at hm
   have hLi:=hLg i hiL
   rw [hka i hc] at hLi
   refine zae ?_
   refine zaa ?_
   refine zaf ?_
   refine zab ⟨48,[(3,.I key),(9,ints K),(10,zaB L),(11,.I i),(42,.B (decide (K[i] = key)))],[],1300⟩ rfl ?_ ?_
   ·simp [hc]
    exact Le.go [] [] rfl rfl (by simp <;> exact wkB (by rw [Bool.eq_iff_iff]; simp)) (by simp)
   refine zad _ rfl (fun he=>?_) fun he=>?_
   ·rw [decide_eq_true_eq] at he
    have hkm : key ∈ K:=by rw [← he]; exact List.getElem_mem hc
    rw [if_pos hkm]
    rw [he] at hm hLi
    refine rx (s:=?z8) [8] [] [] rfl ?p8 ?r8
    case p8=>simp [hiL,hLi]; refine zal hm (by simp) ?_; simp; rfl
    refine zag ?_
    exact ⟨.inr rfl,zam.one (by simp)⟩
   rw [decide_eq_false_iff_not] at he
   refine zae ?_
   refine zac (s:=?z9) rfl ?p9 ?r9
   case p9=>simp [hwi]; rfl
   refine ⟨i + 1,⟨by omega,?_⟩,by omega,LeH [] []⟩
   rw [List.take_succ_eq_append_getElem hc,List.mem_append,List.mem_singleton]
   rintro (h | h)
   ·exact hn h
   ·exact he h.symm
  ·simp at hc
   have hno : key ∉ K:=by rwa [List.take_of_length_le (by omega)] at hn
   refine zak ?_
   refine hit ?_
   exact ⟨(),hno,LeH [] []⟩
 rw [if_neg hno]
 refine rx (s:=?z10) [8] [] [] rfl ?p10 ?r10
 case p10=>simp; rfl
 refine zag ?_
 exact ⟨.inr rfl,zam.one (by simp)⟩
end
set_option maxRecDepth 100000 in
theorem zeH (g : Gr) (p : Pol) (r : Int) (o : List Int × Int) (hW : zaj Tryz.prog zaX [eG g,eP p,.I r] [] (.tup [ints o.1,.I o.2]) []) (l : List Int) (hl : o.1.length ≤ 1000000) : zaj Tryz.prog zds [eG g,eP p,.I r,ints l] [] (.B (decide (o.2 = 0 ∧ l = o.1))) []:=by
 refine zkS.acalls (nbz rfl) (nbz rfl) (Nat.le_refl _) ?_
 show awp _ 0 _ _ ⟨43,[(0,eG g),(1,eP p),(2,.I r),(3,ints l)],[],16⟩
 refine zab ⟨43,[(2,.I r),(3,ints l),(4,.pv (gC g)),(5,.pv (pC p))],[],100⟩ rfl ?_ ?_
 ·simp
  exact LeH [] [16,24]
 refine rx (s:=?z2) [3,9,10] [] [] rfl ?p2 ?r2
 case p2=>simp; refine zal hW (by simp) ?_; simp; rfl
 refine zaa ?_
 refine zab ⟨43,[(3,ints l),(9,ints o.1),(27,.B (!(decide (o.2 = 0 ∧ o.1.length = l.length))))],[],400⟩ rfl ?_ ?_
 ·by_cases h0 : o.2 = 0
  ·simp [h0]
   exact Le.go [] [] rfl rfl (by simp [h0] <;> exact wkB (by rw [Bool.eq_iff_iff]; simp; omega)) (by simp)
  ·have f1 : binV .neq (.int .i64 o.2) (.int .i64 0) = some (.bool true):=by simp [h0]
   simp [-binV,f1]
   exact Le.go [] [] rfl rfl (by simp [h0]) (by simp)
 refine zad _ rfl (fun h=>?_) fun h=>?_
 ·have hno : ¬ (o.2 = 0 ∧ l = o.1):=fun q=>by
   rw [Bool.not_eq_true',decide_eq_false_iff_not] at h
   exact h ⟨q.1,by rw [q.2]⟩
  refine rx (s:=?z4) [8] [] [] rfl ?p4 ?r4
  case p4=>simp; rfl
  refine zag ?_
  exact ⟨.inr rfl,zam.one (by simp [hno])⟩
 have h2 : o.2 = 0 ∧ o.1.length = l.length:=by simpa using h
 refine zae ?_
 refine zat (ι:=Unit) (fun _=>⟨43,[],[],5000⟩) (fun _=>l = o.1) ?_ fun _ hy=>?_
 ·refine rx (s:=?z5) [3,9,11] [] [] rfl ?p5 ?r5
  case p5=>simp; rfl
  refine zaf ?_
  refine zan (ι:=Nat) (fun i=>⟨43,[(3,ints l),(9,ints o.1),(11,.I i)],[],1000⟩) (fun i=>i ≤ l.length ∧ l.take i = o.1.take i) (fun i=>l.length - i) 0 ⟨Nat.zero_le _,by simp⟩ (LeH [] []) ?_
  rintro i ⟨hi,hn⟩
  refine zaa ?_
  refine rx (s:=?z6) [3,9,11,31] [] [] rfl ?p6 ?r6
  case p6=>simp; rfl
  refine zad _ rfl (fun hc=>?_) fun hc=>?_
  ·simp at hc
   have hil : i < l.length:=by omega
   have hwi : IntKind.i64.wrap ((i : Int) + 1) = (i : Int) + 1:=w64 (by omega) (by omega)
   refine zae ?_
   refine zaa ?_
   refine zaf ?_
   refine zaO ⟨43,[(3,ints l),(9,ints o.1),(11,.I i),(42,.B (!decide (o.1[i] = l[i])))],[],1300⟩ rfl ?_ ?_
   ·simp [hc,hil]
    exact ⟨rfl,Le.go [] [] rfl rfl (by simp <;> exact wkB (by rw [Bool.eq_iff_iff]; simp)) (by simp)⟩
   refine zad _ rfl (fun he=>?_) fun he=>?_
   ·have hno : ¬ (o.2 = 0 ∧ l = o.1):=fun q=>by
     rw [Bool.not_eq_true',decide_eq_false_iff_not] at he
     apply he
     have:=q.2
     subst this
     rfl
    refine rx (s:=?z8) [8] [] [] rfl ?p8 ?r8
    case p8=>simp; rfl
    refine zag ?_
    exact ⟨.inr rfl,zam.one (by simp [hno])⟩
   have he2 : o.1[i] = l[i]:=by simpa using he
   refine zae ?_
   refine zac (s:=?z9) rfl ?p9 ?r9
   case p9=>simp [hwi]; rfl
   refine ⟨i + 1,⟨by omega,?_⟩,by omega,LeH [] []⟩
   rw [List.take_succ_eq_append_getElem hil,List.take_succ_eq_append_getElem hc,hn,he2]
  ·simp at hc
   have hy : l = o.1:=by
    rw [List.take_of_length_le (by omega),List.take_of_length_le (by omega)] at hn
    exact hn
   refine zak ?_
   refine hit ?_
   exact ⟨(),hy,LeH [] []⟩
 refine rx (s:=?z10) [8] [] [] rfl ?p10 ?r10
 case p10=>simp; rfl
 refine zag ?_
 exact ⟨.inr rfl,zam.one (by simp [h2.1,hy])⟩
set_option maxRecDepth 100000 in
theorem zkO (g : Gr) (p : Pol) (r : Int) (o : List Int × Int) (hW : zaj Tryz.prog zaG [eG g,eP p,.I r] [] (.tup [ints o.1,.I o.2]) []) (l : List Int) (hl : l.length ≤ 140737488355328) : zaj Tryz.prog zaS [eG g,eP p,.I r,ints l] [] (.B (decide (o.2 = 0 ∧ l = o.1))) []:=by
 refine zdJ.acalls (nbz rfl) (nbz rfl) (Nat.le_refl _) ?_
 show awp _ 0 _ _ ⟨25,[(0,eG g),(1,eP p),(2,.I r),(3,ints l)],[],16⟩
 have heq:=zkF l o.1 hl
 refine zab ⟨25,[(2,.I r),(3,ints l),(4,.pv (gC g)),(5,.pv (pC p))],[],100⟩ rfl ?_ ?_
 ·simp
  exact LeH [] [16,24]
 refine rx (s:=?z2) [3,9,10] [] [] rfl ?p2 ?r2
 case p2=>simp; refine zal hW (by simp) ?_; simp; rfl
 refine zab ⟨25,[(8,.B (decide (o.2 = 0 ∧ l = o.1)))],[],400⟩ rfl ?_ ?_
 ·by_cases h0 : o.2 = 0
  ·simp [h0]
   refine zal heq (by simp) ?_
   simp
   exact Le.go [] [] rfl rfl (by simp [h0]) (by simp)
  ·have hb : (o.2 == 0) = false:=by simpa using h0
   simp [hb]
   exact Le.go [] [] rfl rfl (by simp [h0,hb]) (by simp)
 refine zag ?_
 exact ⟨.inr rfl,zam.one (by simp)⟩
section
variable (g : Gr) (p : Pol) (r : Int) (hl : g.edges.length ≤ 1000000) (hl2 : g.gone.length ≤ 1000000) (hs : p.seeds.length ≤ 1000000) (ht : p.table.length ≤ 1000000)
include hl hl2 hs ht
def BadR (e : Int) : Prop:=e ≠ 0 ∧ ((chkE g p ≠ 0 ∧ e = chkE g p) ∨ (chkE g p = 0 ∧ (r < 1 ∨ 5 < r) ∧ e = 2))
set_option maxRecDepth 100000 in
theorem zkd {e : Int} (hb : BadR g p r e) : zaj Tryz.prog zbm [eG g,eP p,.I r] [] (.tup [eWk [] [],.I e]) []:=by
 refine zdH.acalls (nbz rfl) (nbz rfl) (Nat.le_refl _) ?_
 show awp _ 0 _ _ ⟨99,[(0,eG g),(1,eP p),(2,.I r)],[],16⟩
 have hchk:=zkR g p (by omega) (by omega) (by omega) (by omega)
 have hwk : Wk (.tup [.agg [.nilS,.nilS],.I e]) (.tup [eWk [] [],.I e]):=wkT2 (.agg _ _ rfl fun i=>match i with | 0=>.nil 1 false | 1=>.nil 1 false | _ + 2=>.refl _) (.refl _)
 refine zab ⟨99,[(2,.I r),(3,.pv (gC g)),(4,.pv (pC p)),(6,.pt 32 0 0)],[(32,some ⟨2,[[.nilS,.nilS]],0⟩)],100⟩ rfl ?_ ?_
 ·simp
  exact LeH [(32,32)] [16,24]
 refine zaa ?_
 refine rx (s:=?z2) [2,3,4,6,8] [32] [] rfl ?p2 ?r2
 case p2=>simp; refine zal hchk (by simp) ?_; simp; rfl
 rcases hb.2 with ⟨h0,he⟩ | ⟨h0,hr,he⟩
 ·refine zab ⟨99,[(6,.pt 32 0 0),(8,.I e),(22,.B true)],[(32,some ⟨2,[[.nilS,.nilS]],0⟩)],300⟩ rfl ?_ ?_
  ·simp
   exact Le.go [(32,32)] [] rfl rfl (by simp [he] <;> exact wkB (by simp [h0])) (by simp)
  refine zad _ rfl (fun _=>?_) fun h=>by simp at h
  refine zab ⟨99,[(6,.pt 32 0 0),(7,.I e)],[(32,some ⟨2,[[.nilS,.nilS]],0⟩)],400⟩ rfl ?_ ?_
  ·simp [zfY]
   exact LeH [(32,32)] []
  refine zag ?_
  exact ⟨.inr rfl,zam.out [] [] rfl (by simp) (by simp) (by simp; exact hwk) (by simp)⟩
 ·rw [h0]
  refine rx (s:=?z3) [2,3,4,6,22] [32] [] rfl ?p3 ?r3
  case p3=>simp; rfl
  refine zad _ rfl (fun h=>by simp at h) fun _=>?_
  refine zae ?_
  refine zaa ?_
  refine zab ⟨99,[(6,.pt 32 0 0),(27,.B true)],[(32,some ⟨2,[[.nilS,.nilS]],0⟩)],400⟩ rfl ?_ ?_
  ·simp
   refine zal (zbK r 1 5) (by simp) ?_
   simp
   exact Le.go [(32,32)] [] rfl rfl (by simp <;> exact wkB (by rw [Bool.eq_iff_iff]; simp; omega)) (by simp)
  refine zad _ rfl (fun _=>?_) fun h=>by simp at h
  refine zab ⟨99,[(6,.pt 32 0 0),(7,.I e)],[(32,some ⟨2,[[.nilS,.nilS]],0⟩)],500⟩ rfl ?_ ?_
  ·simp [zfY]
   exact Le.go [(32,32)] [] rfl rfl (by simp [he]) (by simp)
  refine zag ?_
  exact ⟨.inr rfl,zam.out [] [] rfl (by simp) (by simp) (by simp; exact hwk) (by simp)⟩
theorem zhn {e : Int} (hb : BadR g p r e) : zaj Tryz.prog zaG [eG g,eP p,.I r] [] (.tup [ints [],.I e]) []:=by
 refine zc1.acalls (nbz rfl) (nbz rfl) (Nat.le_refl _) ?_
 show awp _ 0 _ _ ⟨81,[(0,eG g),(1,eP p),(2,.I r)],[],16⟩
 have hgiv:=zkd g p r hl hl2 hs ht hb
 have he0:=hb.1
 refine zab ⟨81,[(2,.I r),(3,.pv (gC g)),(4,.pv (pC p)),(6,.nilS),(7,.I 0)],[],100⟩ rfl ?_ ?_
 ·simp
  exact LeH [] [16,24]
 refine zab ⟨81,[(9,.I e)],[],200⟩ rfl ?_ ?_
 ·simp
  refine zal hgiv (by simp) ?_
  simp
  exact LeH [] []
 refine zaa ?_
 refine zaf ?_
 refine zab ⟨81,[(9,.I e),(23,.B true)],[],300⟩ rfl ?_ ?_
 ·simp
  exact Le.go [] [] rfl rfl (by simp <;> exact wkB (by simp [he0])) (by simp)
 refine zad _ rfl (fun _=>?_) fun h=>by simp at h
 refine rx (s:=?z5) [6,7] [] [] rfl ?p5 ?r5
 case p5=>simp; rfl
 refine zag ?_
 exact ⟨.inr rfl,zam.out [] [] rfl (by simp) (by simp) (by simp; exact wkT2 (.nil 1 false) (.refl _)) (by simp)⟩
theorem znm {e : Int} (hb : BadR g p r e) (key : Int) : zaj Tryz.prog zbb [eG g,eP p,.I r,.I key] [] (.I 0) []:=by
 refine zek.acalls (nbz rfl) (nbz rfl) (Nat.le_refl _) ?_
 show awp _ 0 _ _ ⟨32,[(0,eG g),(1,eP p),(2,.I r),(3,.I key)],[],16⟩
 have hgiv:=zkd g p r hl hl2 hs ht hb
 have he0:=hb.1
 have hidx:=zbl [] key (by simp)
 refine zab ⟨32,[(2,.I r),(3,.I key),(4,.pv (gC g)),(5,.pv (pC p))],[],100⟩ rfl ?_ ?_
 ·simp
  exact LeH [] [16,24]
 refine zab ⟨32,[(3,.I key),(9,.pv [ints [],zaB []]),(10,.I e)],[],300⟩ rfl ?_ ?_
 ·simp
  refine zal hgiv (by simp) ?_
  simp
  exact Le.go [] [156] rfl rfl (by simp; exact .refl _) (by simp)
 refine zaa ?_
 refine rx (s:=?z3) [9,10,11] [] [] rfl ?p3 ?r3
 case p3=>simp; refine zal hidx (by simp) ?_; simp; rfl
 refine zab ⟨32,[(28,.B false)],[],600⟩ rfl ?_ ?_
 ·have hb2 : (e == 0) = false:=by simpa using he0
  simp [hb2]
  exact LeH [] []
 refine zad _ rfl (fun h=>by simp at h) fun _=>?_
 refine zae ?_
 refine rx (s:=?z6) [8] [] [] rfl ?p6 ?r6
 case p6=>simp; rfl
 refine zag ?_
 exact ⟨.inr rfl,zam.one (by simp)⟩
theorem zdI {e : Int} (hb : BadR g p r e) : zaj Tryz.prog zaX [eG g,eP p,.I r] [] (.tup [ints [],.I e]) []:=by
 refine ze8.acalls (nbz rfl) (nbz rfl) (Nat.le_refl _) ?_
 show awp _ 0 _ _ ⟨90,[(0,eG g),(1,eP p),(2,.I r)],[],16⟩
 have hchk:=zkI g p (by omega) (by omega) (by omega) (by omega)
 refine zab ⟨90,[(2,.I r),(3,.pv (gC g)),(4,.pv (pC p)),(6,.nilS),(7,.I 0)],[],100⟩ rfl ?_ ?_
 ·simp
  exact LeH [] [16,24]
 refine zaa ?_
 refine rx (s:=?z2) [2,3,4,8] [] [] rfl ?p2 ?r2
 case p2=>simp; refine zal hchk (by simp) ?_; simp; rfl
 rcases hb.2 with ⟨h0,he⟩ | ⟨h0,hr,he⟩
 ·refine zab ⟨90,[(8,.I e),(19,.B true)],[],300⟩ rfl ?_ ?_
  ·simp
   exact Le.go [] [] rfl rfl (by simp [he] <;> exact wkB (by simp [h0])) (by simp)
  refine zad _ rfl (fun _=>?_) fun h=>by simp at h
  refine rx (s:=?z5) [6,7] [] [] rfl ?p5 ?r5
  case p5=>simp; rfl
  refine zag ?_
  exact ⟨.inr rfl,zam.out [] [] rfl (by simp) (by simp) (by simp; exact wkT2 (.nil 1 false) (.refl _)) (by simp)⟩
 ·rw [h0]
  refine rx (s:=?z3) [2,3,4,19] [] [] rfl ?p3 ?r3
  case p3=>simp; rfl
  refine zad _ rfl (fun h=>by simp at h) fun _=>?_
  refine zae ?_
  refine zaa ?_
  refine zab ⟨90,[(26,.B true)],[],300⟩ rfl ?_ ?_
  ·by_cases h1 : r < 1
   ·simp [h1]
    exact Le.go [] [] rfl rfl (by simp [h1]) (by simp)
   ·have h2 : 5 < r:=by omega
    simp [h1]
    exact Le.go [] [] rfl rfl (by simp [h1,h2]) (by simp)
  refine zad _ rfl (fun _=>?_) fun h=>by simp at h
  refine rx (s:=?z6) [6,7] [] [] rfl ?p6 ?r6
  case p6=>simp; rfl
  refine zag ?_
  exact ⟨.inr rfl,zam.out [] [] rfl (by simp) (by simp) (by simp [he]; exact wkT2 (.nil 1 false) (.refl _)) (by simp)⟩
set_option maxRecDepth 100000 in
theorem zfa {e : Int} (hb : BadR g p r e) (key : Int) : zaj Tryz.prog zc7 [eG g,eP p,.I r,.I key] [] (.I 0) []:=by
 refine zhV.acalls (nbz rfl) (nbz rfl) (Nat.le_refl _) ?_
 show awp _ 0 _ _ ⟨48,[(0,eG g),(1,eP p),(2,.I r),(3,.I key)],[],16⟩
 have hchk:=zkI g p (by omega) (by omega) (by omega) (by omega)
 refine zab ⟨48,[(2,.I r),(4,.pv (gC g)),(5,.pv (pC p))],[],100⟩ rfl ?_ ?_
 ·simp
  exact LeH [] [16,24]
 refine zaa ?_
 refine zab ⟨48,[(23,.B true)],[],400⟩ rfl ?_ ?_
 ·rcases hb.2 with ⟨h0,he⟩ | ⟨h0,hr,he⟩
  ·have f3 : binV .neq (.int .i64 (chkE g p)) (.int .i64 0) = some (.bool true):=by simp [h0]
   simp [-binV]
   refine zal hchk (by simp) ?_
   simp [-binV,f3]
   exact LeH [] []
  ·rw [h0] at hchk
   have f3 : binV .neq (.int .i64 0) (.int .i64 0) = some (.bool false):=rfl
   simp [-binV]
   refine zal hchk (by simp) ?_
   by_cases h1 : r < 1
   ·have f1 : binV .lss (.int .i64 r) (.int .i64 1) = some (.bool true):=by simp [h1]
    simp [-binV,f1,f3]
    exact LeH [] []
   ·have f1 : binV .lss (.int .i64 r) (.int .i64 1) = some (.bool false):=by simp [h1]
    have f2 : binV .gtr (.int .i64 r) (.int .i64 5) = some (.bool true):=by
     show some (Value.bool (decide (r > 5))) = _
     congr 2
     simp
     omega
    simp [-binV,f1,f2,f3]
    exact LeH [] []
 refine zad _ rfl (fun _=>?_) fun h=>by simp at h
 refine rx (s:=?z5) [8] [] [] rfl ?p5 ?r5
 case p5=>simp; rfl
 refine zag ?_
 exact ⟨.inr rfl,zam.one (by simp)⟩
end
def gX : Gr:=⟨2,[⟨0,1,1⟩],[]⟩
def pX : Pol:=⟨[0],[2],1⟩
theorem zqH : GrOk gX:=by
 refine ⟨⟨by decide +revert,by decide +revert,by decide +revert,fun i h=>by simp [gX] at h⟩,fun i h=>?_⟩
 obtain rfl : i = 0:=by simp [gX] at h; omega
 exact ⟨by unfold Fits; simp [gX],by decide +revert,by decide +revert,fun h=>by cases h⟩
theorem zqA : zbx gX.size pX:=by
 refine ⟨by decide +revert,fun i h=>?_,by decide +revert,by decide +revert,by decide +revert,by decide +revert,fun i h=>?_⟩
 ·obtain rfl : i = 0:=by simp [pX] at h; omega
  exact ⟨by decide +revert,by decide +revert,fun h=>by cases h⟩
 ·obtain rfl : i = 0:=by simp [pX] at h; omega
  exact ⟨by decide +revert,by decide +revert,fun h=>by cases h⟩
theorem zsc : zfl (zao gX pX.lv) pX.seeds 1 = ([2,1],0):=by decide +kernel
theorem zsa : zmq (zao gX pX.lv) pX.seeds 1 0 = 2:=by decide +kernel
set_option maxRecDepth 100000 in
theorem ze5 : zaj Tryz.prog zcc [] [] (.B true) []:=by
 refine zk2.acalls (nbz rfl) (nbz rfl) (Nat.le_refl _) ?_
 show awp _ 0 _ _ ⟨55,[],[],16⟩
 have hW:=zgh gX pX 1 zqH zqA (by decide) (by omega) (by omega) (by decide) (by decide)
 have hM:=zoB gX pX 1 zqH zqA (by decide) (by omega) (by omega) (by decide) (by decide) 0
 have hC:=zmT gX pX 1 zqH zqA (by decide) (by omega) (by omega) (by decide) (by decide) [2,1] (by decide)
 have hD:=zmT gX pX 1 zqH zqA (by decide) (by omega) (by omega) (by decide) (by decide) [4,2] (by decide)
 rw [zsc] at hW hC hD
 rw [zsa] at hM
 refine rx (s:=?z1) [] [] [] rfl ?p1 ?r1
 case p1=>simp; rfl
 refine zab ⟨55,[(1,.pv (gC gX))],[],300⟩ rfl ?_ ?_
 ·simp [zfY,zeN]
  exact Le.go [] [32,48] rfl rfl (by simp [gX]; exact .pv _ _ rfl fun i=>match i with | 0=>.refl _ | 1=>.refl _ | 2=>.nil 1 false | _ + 3=>.refl _) (by simp)
 refine zab ⟨55,[(1,.pv (gC gX)),(2,.pv (pC pX))],[],500⟩ rfl ?_ ?_
 ·simp [zfY,zeN]
  exact Le.go [] [300,308,324] rfl rfl (by simp [pX]; exact .refl _) (by simp)
 refine zab ⟨55,[(1,.pv (gC gX)),(2,.pv (pC pX)),(3,ints [2,1]),(4,.I 0)],[],700⟩ rfl ?_ ?_
 ·simp
  refine zal hW (by simp) ?_
  simp
  exact Le.go [] [] rfl rfl (by simp; exact .refl _) (by simp)
 refine zab ⟨55,[(0,.B true)],[],2000⟩ rfl ?_ ?_
 ·simp
  refine zal hM (by simp) ?_
  simp
  refine zal hC (by simp) ?_
  simp
  refine ziE [972] hD (by simp) (.sc _) ?_
  simp
  exact LeH [] []
 refine zag ?_
 exact ⟨.inr rfl,zam.one (by simp)⟩
theorem zsX {l : List Int} {lo hi : Int} (h : Rise l lo hi) : l.Pairwise (· < ·):=by
 rw [List.pairwise_iff_getElem]
 intro i j hi hj hij
 induction j with
 | zero=>omega
 | succ j ih =>
   have h1:=(h (j + 1) hj).2.2 (by omega)
   simp only [Nat.add_sub_cancel] at h1
   by_cases hji : i = j
   ·subst hji; exact h1
   ·have:=ih (by omega) (by omega)
    omega
section
variable {n : Int} {S : List Int} {r : Int}
end
set_option maxRecDepth 100000 in
theorem zi6 (g : Gr) (p : Pol) (r : Int) (l : List Int) (o : List Int × Int) (m : Int → Int)
  (hWa : zaj Tryz.prog zaG [eG g,eP p,.I r] [] (.tup [ints o.1,.I o.2]) []) (hWb : zaj Tryz.prog zaX [eG g,eP p,.I r] [] (.tup [ints o.1,.I o.2]) [])
  (hMa : ∀ k,zaj Tryz.prog zbb [eG g,eP p,.I r,.I k] [] (.I (m k)) []) (hMb : ∀ k,zaj Tryz.prog zc7 [eG g,eP p,.I r,.I k] [] (.I (m k)) [])
  (hol : o.1.length ≤ 1000000) (hll : l.length ≤ 1000000) : zaj Tryz.prog zbc [eG g,eP p,.I r,ints l] [] (.B true) []:=by
 refine zk4.acalls (nbz rfl) (nbz rfl) (Nat.le_refl _) ?_
 show awp _ 0 _ _ ⟨77,[(0,eG g),(1,eP p),(2,.I r),(3,ints l)],[],16⟩
 have hCa:=zkO g p r o hWa l (by omega)
 have hCb:=zeH g p r o hWb l hol
 have hCc:=zkO g p r o hWa o.1 (by omega)
 have hCd:=zeH g p r o hWb o.1 hol
 have hsame:=zl6 o.1 o.1 (by omega)
 obtain ⟨qa,hqa⟩ : ∃ q,q = decide (o.2 = 0 ∧ l = o.1):=⟨_,rfl⟩
 obtain ⟨qb,hqb⟩ : ∃ q,q = decide (o.2 = 0 ∧ o.1 = o.1):=⟨_,rfl⟩
 rw [← hqa] at hCa hCb
 rw [← hqb] at hCc hCd
 refine zab ⟨77,[(2,.I r),(3,ints l),(4,.pv (gC g)),(5,.pv (pC p))],[],100⟩ rfl ?_ ?_
 ·simp
  exact LeH [] [16,24]
 refine zab ⟨77,[(2,.I r),(3,ints l),(4,.pv (gC g)),(5,.pv (pC p)),(9,ints o.1),(10,.I o.2)],[],300⟩ rfl ?_ ?_
 ·simp
  refine zal hWa (by simp) ?_
  simp
  exact LeH [] []
 refine zab ⟨77,[(2,.I r),(3,ints l),(4,.pv (gC g)),(5,.pv (pC p)),(9,ints o.1),(10,.I o.2),(11,ints o.1),(12,.I o.2)],[],500⟩ rfl ?_ ?_
 ·simp
  refine zal hWb (by simp) ?_
  simp
  exact LeH [] []
 refine zat (ι:=Unit) (fun _=>⟨77,[(2,.I r),(3,ints l),(4,.pv (gC g)),(5,.pv (pC p)),(9,ints o.1),(10,.I o.2),(11,ints o.1),(12,.I o.2)],[],3000⟩) (fun _=>True) ?_ fun _ _=>?_
 ·refine zab ⟨77,[(2,.I r),(3,ints l),(4,.pv (gC g)),(5,.pv (pC p)),(9,ints o.1),(10,.I o.2),(11,ints o.1),(12,.I o.2),(13,.I (-1))],[],600⟩ rfl ?_ ?_
  ·simp
   exact LeH [] []
  refine zaf ?_
  refine zan (ι:=Nat) (fun i=>⟨77,[(2,.I r),(3,ints l),(4,.pv (gC g)),(5,.pv (pC p)),(9,ints o.1),(10,.I o.2),(11,ints o.1),(12,.I o.2),(13,.I ((i : Int) - 1))],[],1000⟩) (fun i=>i ≤ 11) (fun i=>11 - i) 0 (Nat.zero_le _) (LeH [] []) ?_
  intro i hi
  obtain ⟨k,hk⟩ : ∃ k : Int,k = (i : Int) - 1:=⟨_,rfl⟩
  refine zaa ?_
  refine zab ⟨77,[(2,.I r),(3,ints l),(4,.pv (gC g)),(5,.pv (pC p)),(9,ints o.1),(10,.I o.2),(11,ints o.1),(12,.I o.2),(13,.I k),(29,.B (decide (k < 10)))],[],1100⟩ rfl ?_ ?_
  ·simp [← hk]
   exact Le.go [] [] rfl rfl (by simp [hk]) (by simp)
  refine zad _ rfl (fun hc=>?_) fun hc=>?_
  ·rw [decide_eq_true_eq] at hc
   have hwk : IntKind.i64.wrap (k + 1) = ((i + 1 : Nat) : Int) - 1:=by rw [w64 (by omega) (by omega)]; omega
   have h1:=hMa k
   have h2:=hMb k
   refine zae ?_
   refine zaa ?_
   refine zaf ?_
   refine zaO ⟨77,[(2,.I r),(3,ints l),(4,.pv (gC g)),(5,.pv (pC p)),(9,ints o.1),(10,.I o.2),(11,ints o.1),(12,.I o.2),(13,.I k),(42,.B false)],[],1500⟩ rfl ?_ ?_
   ·simp
    refine zal h1 (by simp) ?_
    simp
    refine zal h2 (by simp) ?_
    simp
    exact ⟨rfl,LeH [] []⟩
   refine zad _ rfl (fun h=>by simp at h) fun _=>?_
   refine zae ?_
   refine zac (s:=?z9) rfl ?p9 ?r9
   case p9=>simp [hwk]; rfl
   exact ⟨i + 1,by omega,by omega,LeH [] []⟩
  ·refine zak ?_
   refine hit ?_
   exact ⟨(),trivial,LeH [] []⟩
 refine zaO ⟨77,[(8,.B true)],[],5000⟩ rfl ?_ ?_
 ·simp
  refine zal hsame (by simp) ?_
  simp
  refine zal hCa (by simp) ?_
  simp
  refine zal hCb (by simp) ?_
  simp
  refine zal hCc (by simp) ?_
  simp
  refine zal hCd (by simp) ?_
  simp
  exact ⟨rfl,LeH [] []⟩
 refine zag ?_
 exact ⟨.inr rfl,zam.one (by simp)⟩
theorem zpn {n : Int} {p : Pol} (hp : zbx n p) (h64 : n ≤ 64) : p.seeds.length ≤ 64 ∧ p.table.length ≤ 8:=by
 refine ⟨?_,hp.2.2.2.1⟩
 have hn : p.seeds.Nodup:=(zsX hp.2.1).imp fun {a b} h=>by omega
 have:=zbM (b:=(List.range 64).map fun i : Nat=>(i : Int)) hn fun x hx=>by
  obtain ⟨i,hi,rfl⟩:=List.getElem_of_mem hx
  have:=hp.2.1 i hi
  exact List.mem_map.2 ⟨(p.seeds[i]).toNat,List.mem_range.2 (by omega),by omega⟩
 simpa using this
theorem zdO (g : Gr) (p : Pol) (r : Int) (l : List Int) (hN : GrOk g → g.size < 20) (hl : g.edges.length ≤ 1000000) (hl2 : g.gone.length ≤ 1000000) (hs : p.seeds.length ≤ 1000000) (ht : p.table.length ≤ 1000000) (hll : l.length ≤ 1000000) : zaj Tryz.prog zbc [eG g,eP p,.I r,ints l] [] (.B true) []:=by
 by_cases h0 : chkE g p = 0
 ·by_cases hr : r < 1 ∨ 5 < r
  ·have hb : BadR g p r 2:=⟨by omega,.inr ⟨h0,hr,rfl⟩⟩
   exact zi6 g p r l ([],2) (fun _=>0) (zhn g p r hl hl2 hs ht hb) (zdI g p r hl hl2 hs ht hb) (znm g p r hl hl2 hs ht hb) (zfa g p r hl hl2 hs ht hb) (by simp) hll
  ·obtain ⟨hg,hp⟩:=zom.1 h0
   obtain ⟨hs2,ht2⟩:=zpn hp hg.1.2.1
   have hsz:=hg.1.2.1
   refine zi6 g p r l (zfl (zao g p.lv) p.seeds r) (zmq (zao g p.lv) p.seeds r) (zgh g p r hg hp (hN hg) (by omega) (by omega) hs2 ht2) (zen g p r hg hp (by omega) (by omega) hs2 ht2) (fun k=>zoB g p r hg hp (hN hg) (by omega) (by omega) hs2 ht2 k) (fun k=>zjp g p r hg hp (by omega) (by omega) hs2 ht2 k) ?_ hll
   unfold zfl
   split
   ·simp
   ·split
    ·simp
    ·simp [outK,zao]; omega
 ·have hb : BadR g p r (chkE g p):=⟨h0,.inl ⟨h0,rfl⟩⟩
  exact zi6 g p r l ([],chkE g p) (fun _=>0) (zhn g p r hl hl2 hs ht hb) (zdI g p r hl hl2 hs ht hb) (znm g p r hl hl2 hs ht hb) (zfa g p r hl hl2 hs ht hb) (by simp) hll
set_option maxRecDepth 100000 in
set_option maxHeartbeats 8000000 in
theorem zhO (L : List Int) (p : Pol) (r : Int) : zaj Tryz.prog zch [ints L,eP p,.I r] [] (.B true) []:=by
 refine zed.acalls (nbz rfl) (nbz rfl) (Nat.le_refl _) ?_
 show awp _ 0 _ _ ⟨44,[(0,ints L),(1,eP p),(2,.I r)],[],16⟩
 have hlight:=zmv L
 refine zab ⟨44,[(0,ints L),(2,.I r),(4,.pv (pC p))],[],50⟩ rfl ?_ ?_
 ·simp
  exact LeH [] [16]
 refine zaa ?_
 refine zab ⟨44,[(0,ints L),(2,.I r),(4,.pv (pC p)),(23,.B (!decide (L.length ≤ 400) || decide (70 < p.seeds.length) || decide (20 < p.table.length)))],[],300⟩ rfl ?_ ?_
 ·have f1 : binV .gtr (.int .i64 (p.seeds.length : Int)) (.int .i64 70) = some (.bool (decide (70 < p.seeds.length))):=by
   show some (Value.bool (decide ((p.seeds.length : Int) > 70))) = _
   congr 2
   rw [Bool.eq_iff_iff]
   simp
   omega
  have f2 : binV .gtr (.int .i64 (p.table.length : Int)) (.int .i64 20) = some (.bool (decide (20 < p.table.length))):=by
   show some (Value.bool (decide ((p.table.length : Int) > 20))) = _
   congr 2
   rw [Bool.eq_iff_iff]
   simp
   omega
  simp [-binV]
  refine zal hlight (by simp) ?_
  by_cases h1 : L.length ≤ 400
  ·by_cases h2 : 70 < p.seeds.length
   ·simp [-binV,f1,f2,h1,h2]
    exact Le.go [] [] rfl rfl (by simp [h1,h2]) (by simp)
   ·simp [-binV,f1,f2,h1,h2]
    exact Le.go [] [] rfl rfl (by simp [h1,h2]) (by simp)
  ·simp [-binV,f1,f2,h1]
   exact Le.go [] [] rfl rfl (by simp [h1]) (by simp)
 refine zad _ rfl (fun h3=>?_) fun h3=>?_
 ·refine rx (s:=?s4) [6] [] [] rfl ?o4 ?q4
  case o4=>simp; refine zal ze5 (by simp) ?_; simp; rfl
  refine zag ?_
  exact ⟨.inr rfl,zam.one (by simp)⟩
 simp only [Bool.or_eq_false_iff,Bool.not_eq_false',decide_eq_true_eq,decide_eq_false_iff_not] at h3
 obtain ⟨⟨h3,h70⟩,h20⟩:=h3
 obtain ⟨g,b1,⟨hg,hg2,hg9,hb1⟩,hcg⟩:=zrD L h3
 have hel:=hg.edges_le
 have hgl:=hg.gone_le
 have hag1:=zdO g p r [] (fun _=>by omega) (by omega) (by omega) (by omega) (by omega) (by simp)
 refine zae ?_
 refine zab ⟨44,[(2,.I r),(4,.pv (pC p)),(7,.pt 20 0 0)],[(20,some (dice L 0))],400⟩ rfl ?_ ?_
 ·simp
  refine zdK (zpA L) (by simp) ?_
  simp
  exact LeH [(308,20)] []
 refine zab ⟨44,[(2,.I r),(4,.pv (pC p)),(8,.pv (gC g))],[],500⟩ rfl ?_ ?_
 ·simp
  refine zbw (i:=20) rfl (e':=dice L 0) (by simp) hcg (by simp) (by simp) ?_
  simp
  exact LeH [] [416]
 have hmr:=zlR (n:=r) (m:=5) (by omega)
 have hwm : IntKind.i64.wrap (1 + modI r 5) = 1 + modI r 5:=w64 (by omega) (by omega)
 have hag2:=zdO g p (1 + modI r 5) [] (fun _=>by omega) (by omega) (by omega) (by omega) (by omega) (by simp)
 have hmod:=zoX r 5 (by omega)
 refine zaO ⟨44,[(6,.B true)],[],2000⟩ rfl ?_ ?_
 ·simp
  refine zal ze5 (by simp) ?_
  simp
  refine zrT hag1 (by simp; exact .nil 1 false) ?_
  simp
  refine zal hmod (by simp) ?_
  simp [hwm]
  refine zrT hag2 (by simp; exact .nil 1 false) ?_
  simp
  exact ⟨rfl,LeH [] []⟩
 refine zag ?_
 exact ⟨.inr rfl,zam.one (by simp)⟩
def zkK (k : Nat) (g : Gr) : Prop:=g.size < 20 ∧ g.edges.length ≤ k ∧ g.gone.length ≤ 10
theorem zlG {k : Nat} {g : Gr} (h : zkK k g) (e : Ed) : zkK (k + 1) (zcm g e).1:=by
 obtain ⟨h1,h2,h3⟩:=h
 have hc : (zcm g e).1 = zcR ∨ (zcm g e).1 = zii g e:=by
  unfold zcm
  repeat' split
  all_goals simp
 rcases hc with hc | hc
 ·rw [hc]
  exact ⟨by show (0 : Int) < 20; omega,Nat.zero_le _,Nat.zero_le _⟩
 ·rw [hc]
  refine ⟨h1,?_,h3⟩
  simp [zii]
  omega
structure zsZ where
 k : Nat
 b : Nat
 G : Gr
structure zuv where
 l : List Int
 b : Nat
set_option maxRecDepth 100000 in
set_option maxHeartbeats 16000000 in
theorem zj4 (L raw : List Int) (n : Int) : zaj Tryz.prog zcL [ints L,ints raw,.I n] [] (.B true) []:=by
 refine zey.acalls (nbz rfl) (nbz rfl) (Nat.le_refl _) ?_
 show awp _ 0 _ _ ⟨107,[(0,ints L),(1,ints raw),(2,.I n)],[],16⟩
 have hlight:=zmv L
 refine rx (s:=?s1) [0,1,2] [] [] rfl ?o1 ?q1
 case o1=>simp; rfl
 refine zaa ?_
 refine zab ⟨107,[(0,ints L),(1,ints raw),(2,.I n),(22,.B (!decide (L.length ≤ 400) || decide (70 < raw.length)))],[],100⟩ rfl ?_ ?_
 ·have f1 : binV .gtr (.int .i64 (raw.length : Int)) (.int .i64 70) = some (.bool (decide (70 < raw.length))):=by
   show some (Value.bool (decide ((raw.length : Int) > 70))) = _
   congr 2
   rw [Bool.eq_iff_iff]
   simp
   omega
  simp [-binV]
  refine zal hlight (by simp) ?_
  by_cases h1 : L.length ≤ 400
  ·simp [-binV,f1,h1]
   exact Le.go [] [] rfl rfl (by simp [h1]) (by simp)
  ·simp [-binV,f1,h1]
   exact Le.go [] [] rfl rfl (by simp [h1]) (by simp)
 refine zad _ rfl (fun h3=>?_) fun h3=>?_
 ·refine rx (s:=?s4) [6] [] [] rfl ?o4 ?q4
  case o4=>simp; refine zal ze5 (by simp) ?_; simp; rfl
  refine zag ?_
  exact ⟨.inr rfl,zam.one (by simp)⟩
 simp only [Bool.or_eq_false_iff,Bool.not_eq_false',decide_eq_true_eq,decide_eq_false_iff_not] at h3
 obtain ⟨h3,hraw⟩:=h3
 obtain ⟨g,b1,⟨hg,hg2,hg9,hb1⟩,hcg⟩:=zrD L h3
 obtain ⟨⟨p,b2⟩,⟨hp1,hp2,hp3,hb2⟩,hcp⟩:=zq3 L b1 g h3 hb1 (by omega) (by omega)
 simp only at hp1 hp2 hp3 hb2 hcp
 have hel:=hg.edges_le
 have hgl:=hg.gone_le
 refine zae ?_
 refine zab ⟨107,[(1,ints raw),(2,.I n),(7,.pt 20 0 0)],[(20,some (dice L 0))],200⟩ rfl ?_ ?_
 ·simp
  refine zdK (zpA L) (by simp) ?_
  simp
  exact LeH [(108,20)] []
 refine zab ⟨107,[(1,ints raw),(2,.I n),(7,.pt 20 0 0),(8,.pv (gC g))],[(20,some (dice L b1))],300⟩ rfl ?_ ?_
 ·simp
  refine zbw (i:=20) rfl (e':=dice L 0) (by simp) hcg (by simp) (by simp) ?_
  simp
  exact LeH [(20,20)] [216]
 refine zab ⟨107,[(1,ints raw),(2,.I n),(7,.pt 20 0 0),(8,.pv (gC g)),(9,.pv (pC p))],[(20,some (dice L b2))],400⟩ rfl ?_ ?_
 ·simp
  refine zbw (i:=20) rfl (e':=dice L b1) (by simp) hcp (by simp) (by simp) ?_
  simp
  exact LeH [(20,20)] [324]
 obtain ⟨x0,b3,⟨hb3,hx0⟩,hcn⟩:=zhi L b2 5 h3 hb2 (by omega) (by omega)
 obtain ⟨r,hrd⟩ : ∃ r : Int,r = 1 + x0:=⟨_,rfl⟩
 have hwx : IntKind.i64.wrap (1 + (x0 : Int)) = r:=by rw [hrd]; exact w64 (by omega) (by omega)
 have hr1 : 1 ≤ r:=by omega
 have hr5 : r ≤ 5:=by omega
 have hs1:=hg.1.1
 refine zab ⟨107,[(1,ints raw),(2,.I n),(7,.pt 20 0 0),(8,.pv (gC g)),(9,.pv (pC p)),(10,.I r)],[(20,some (dice L b3))],500⟩ rfl ?_ ?_
 ·simp
  refine zbw (i:=20) rfl (e':=dice L b2) (by simp) hcn (by simp) (by simp) ?_
  simp
  exact Le.go [(20,20)] [] rfl rfl (by simp [hwx]) (by simp)
 have hW:=zen g p r hg hp1 hr1 hr5 (by omega) (by omega)
 have hol : (zfl (zao g p.lv) p.seeds r).1.length ≤ 20:=by
  unfold zfl
  split
  ·simp
  ·split
   ·simp
   ·simp [outK,zao]; omega
 obtain ⟨o,ho⟩ : ∃ o,o = zfl (zao g p.lv) p.seeds r:=⟨_,rfl⟩
 rw [← ho] at hW hol
 refine zab ⟨107,[(1,ints raw),(2,.I n),(7,.pt 20 0 0),(8,.pv (gC g)),(9,.pv (pC p)),(10,.I r),(11,ints o.1)],[(20,some (dice L b3))],700⟩ rfl ?_ ?_
 ·simp
  refine zal hW (by simp) ?_
  simp
  exact LeH [(20,20)] []
 refine zab ⟨107,[(1,ints raw),(2,.I n),(7,.pt 20 0 0),(8,.pv (gC g)),(9,.pv (pC p)),(10,.I r),(11,.rs 50 0 o.1.length)],[(20,some (dice L b3)),(50,some ⟨1,zah o.1,0⟩)],800⟩ rfl ?_ ?_
 ·simp
  exact ⟨by omega,by omega,LeI [(20,20),(708,50)] []⟩
 refine zat (ι:=zuv) (fun x=>⟨107,[(1,ints raw),(2,.I n),(7,.pt 20 0 0),(8,.pv (gC g)),(9,.pv (pC p)),(10,.I r),(11,.rs 50 0 x.l.length)],[(20,some (dice L x.b)),(50,some ⟨1,zah x.l,0⟩)],2000⟩) (fun x=>x.l.length ≤ 20 ∧ x.b ≤ L.length) ?_ fun x hx=>?_
 ·refine zab ⟨107,[(1,ints raw),(2,.I n),(7,.pt 20 0 0),(8,.pv (gC g)),(9,.pv (pC p)),(10,.I r),(11,.rs 50 0 o.1.length),(45,.B (decide (0 < o.1.length)))],[(20,some (dice L b3)),(50,some ⟨1,zah o.1,0⟩)],900⟩ rfl ?_ ?_
  ·simp
   exact LeI [(20,20),(50,50)] []
  refine zad _ rfl (fun hc=>?_) fun hc=>?_
  ·rw [decide_eq_true_eq] at hc
   have hmr:=zlR (n:=n) (m:=(o.1.length : Int)) (by omega)
   obtain ⟨m,hm⟩ : ∃ m : Nat,modI n o.1.length = m:=⟨(modI n o.1.length).toNat,by omega⟩
   have hml : m < o.1.length:=by omega
   have hmod:=zoX n o.1.length (by omega)
   rw [hm] at hmod
   obtain ⟨x1,b4,⟨hb4,hx1⟩,hcn4⟩:=zhi L b3 3 h3 hb3 (by omega) (by omega)
   obtain ⟨v,hv⟩ : ∃ v,v = IntKind.i64.wrap (o.1[m] + IntKind.i64.wrap ((x1 : Int) - 1)):=⟨_,rfl⟩
   have hset : (zah o.1).set m [AV.I v] = zah (o.1.set m v):=zcZ
   obtain ⟨l2,hl2⟩ : ∃ l,l = o.1.set m v:=⟨_,rfl⟩
   rw [← hl2] at hset
   have hl2l : l2.length = o.1.length:=by rw [hl2,List.length_set]
   refine zcj rfl ?_
   simp
   refine zal hmod (by simp) ?_
   simp [hml]
   refine zbw (i:=20) rfl (e':=dice L b3) (by simp) hcn4 (by simp) (by simp) ?_
   simp [hml,← hv,hset]
   exact ⟨rfl,⟨l2,b4⟩,⟨by simp only; omega,hb4⟩,Le.go [(20,20),(50,50)] [] rfl rfl (by simp [hl2l]) (by simp [fcd])⟩
  ·refine zae ?_
   exact ⟨⟨o.1,b3⟩,⟨hol,hb3⟩,LeI [(20,20),(50,50)] []⟩
 obtain ⟨l,b5⟩:=x
 obtain ⟨hll,hb5⟩:=hx
 simp only at hll hb5
 refine zab ⟨107,[(1,ints raw),(2,.I n),(7,.pt 20 0 0),(8,.pv (gC g)),(9,.pv (pC p)),(10,.I r),(11,.rs 50 0 l.length),(13,.pt 60 0 0)],[(20,some (dice L b5)),(50,some ⟨1,zah l,0⟩),(60,some ⟨3,[[.I 12,.nilS,.nilS]],0⟩)],2100⟩ rfl ?_ ?_
 ·simp [zfY]
  exact LeI [(20,20),(50,50),(2008,60)] []
 refine zat (ι:=zsZ) (fun x=>⟨107,[(1,ints raw),(2,.I n),(7,.pt 20 0 0),(8,.pv (gC g)),(9,.pv (pC p)),(10,.I r),(11,.rs 50 0 l.length),(13,.pt 60 0 0)],[(20,some (dice L x.b)),(50,some ⟨1,zah l,0⟩),(60,some ⟨3,[gC x.G],0⟩)],5000⟩) (fun x=>x.b ≤ L.length ∧ zkK 100 x.G) ?_ fun x hx=>?_
 ·refine zab ⟨107,[(1,ints raw),(2,.I n),(7,.pt 20 0 0),(8,.pv (gC g)),(9,.pv (pC p)),(10,.I r),(11,.rs 50 0 l.length),(13,.pt 60 0 0),(14,.I 1)],[(20,some (dice L b5)),(50,some ⟨1,zah l,0⟩),(60,some ⟨3,[[.I 12,.nilS,.nilS]],0⟩)],2200⟩ rfl ?_ ?_
  ·simp
   exact LeI [(20,20),(50,50),(60,60)] []
  refine zaf ?_
  refine zan (ι:=zsZ) (fun x=>⟨107,[(1,ints raw),(2,.I n),(7,.pt 20 0 0),(8,.pv (gC g)),(9,.pv (pC p)),(10,.I r),(11,.rs 50 0 l.length),(13,.pt 60 0 0),(14,.I x.k)],[(20,some (dice L x.b)),(50,some ⟨1,zah l,0⟩),(60,some ⟨3,[gC x.G],0⟩)],2500⟩) (fun x=>x.k ≤ 12 ∧ x.b ≤ L.length ∧ zkK x.k x.G) (fun x=>12 - x.k) ⟨1,b5,⟨12,[],[]⟩⟩ ⟨by simp,hb5,by simp [zkK]⟩ ?_ ?_
  ·refine Le.lst [(20,20),(50,50),(60,60)] [] [] rfl (by simp) (by simp) (by simp) (by simp) (by simp) (by simp) (by simp) (by simp [Up]) (by simp [fcd]; exact ⟨zaD.rfl' (by simp),zaD.rfl' (by simp),zaD.row rfl (by omega) (by simp [UpL,Up]; exact ⟨.nil 3 false,.nil 1 false⟩)⟩)
  rintro ⟨k,b,G⟩ ⟨hk,hb,hG⟩
  simp only at hk hb hG
  obtain ⟨x2,b6,⟨hb6,hx2⟩,hcn6⟩:=zhi L b 3 h3 hb (by omega) (by omega)
  have hw9 : IntKind.i64.wrap (9 + (x2 : Int)) = 9 + x2:=w64 (by omega) (by omega)
  refine zaa ?_
  refine zab ⟨107,[(1,ints raw),(2,.I n),(7,.pt 20 0 0),(8,.pv (gC g)),(9,.pv (pC p)),(10,.I r),(11,.rs 50 0 l.length),(13,.pt 60 0 0),(14,.I k),(63,.B (decide (k < 9 + x2)))],[(20,some (dice L b6)),(50,some ⟨1,zah l,0⟩),(60,some ⟨3,[gC G],0⟩)],3000⟩ rfl ?_ ?_
  ·simp
   refine zbw (i:=20) rfl (e':=dice L b) (by simp) hcn6 (by simp) (by simp) ?_
   simp [hw9]
   exact Le.go [(20,20),(50,50),(60,60)] [] rfl rfl (by simp <;> exact wkB (by rw [Bool.eq_iff_iff]; simp; omega)) (by simp [fcd])
  refine zad _ rfl (fun hc=>?_) fun hc=>?_
  ·rw [decide_eq_true_eq] at hc
   have hwk : IntKind.i64.wrap ((k : Int) + 1) = ((k + 1 : Nat) : Int):=by rw [w64 (by omega) (by omega)]; omega
   obtain ⟨hG1,hG2,hG3⟩:=hG
   have hwith:=zfW G ⟨0,k,3⟩ (by omega) (by omega)
   have hGn:=zlG (k:=k) (g:=G) ⟨hG1,hG2,hG3⟩ ⟨0,k,3⟩
   obtain ⟨G2,hG2d⟩ : ∃ G2,G2 = (zcm G ⟨0,k,3⟩).1:=⟨_,rfl⟩
   obtain ⟨e2,he2d⟩ : ∃ e2,e2 = (zcm G ⟨0,k,3⟩).2:=⟨_,rfl⟩
   rw [← hG2d,← he2d] at hwith
   rw [← hG2d] at hGn
   refine zae ?_
   refine zaa ?_
   refine zaf ?_
   refine zaC rfl ?_
   simp [zfY]
   refine zal hwith (by simp) ?_
   simp
   refine zac (s:=?z12) rfl ?p12 ?r12
   case p12=>simp [hwk]; rfl
   exact ⟨⟨k + 1,b6,G2⟩,⟨by simp only; omega,hb6,hGn⟩,by simp only; omega,LeI [(20,20),(50,50),(60,60)] []⟩
  ·refine zak ?_
   refine hit ?_
   exact ⟨⟨k,b6,G⟩,⟨hb6,hG.1,by have:=hG.2.1; simp only; omega,hG.2.2⟩,LeI [(20,20),(50,50),(60,60)] []⟩
 obtain ⟨k,b,G⟩:=x
 obtain ⟨hb,hG1,hG2,hG3⟩:=hx
 simp only at hb hG1 hG2 hG3
 obtain ⟨x3,b7,⟨hb7,hx3⟩,hcn7⟩:=Of_a L b [0,6,n] h3 hb (by simp) (by simp)
 have ha1:=zdO g p r raw (fun _=>by omega) (by omega) (by omega) (by omega) (by omega) (by omega)
 have ha2:=zdO g p r l (fun _=>by omega) (by omega) (by omega) (by omega) (by omega) (by omega)
 have ha3:=zdO g p x3 raw (fun _=>by omega) (by omega) (by omega) (by omega) (by omega) (by omega)
 have ha4:=zdO G ⟨[0],[2],1⟩ r raw (fun _=>hG1) (by omega) (by omega) (by simp) (by simp) (by omega)
 have hlT : ∀ f : Int → List AV,(l.map f).take l.length = l.map f:=fun f=>List.take_of_length_le (by simp)
 refine zaO ⟨107,[(6,.B true)],[],9000⟩ rfl ?_ ?_
 ·simp
  refine zal ze5 (by simp) ?_
  simp
  refine zal ha1 (by simp) ?_
  simp
  refine ziE [50] ha2 (by simp [fcd,hlT]) (.sc _) ?_
  simp [zeN]
  refine zjd (i:=20) (j:=5160) (by decide) (by decide) rfl rfl (e':=dice L b) (by simp) hcn7 (by simp) (by simp) ?_
  simp
  refine zal ha3 (by simp) ?_
  simp [zeN,zfY]
  refine ziE [5216,5224] ha4 (by simp) (.sc _) ?_
  simp
  exact ⟨rfl,LeH [] []⟩
 refine zag ?_
 exact ⟨.inr rfl,zam.one (by simp)⟩
end Go.Proofs.YtfdbhehkkobfgaaGreat
