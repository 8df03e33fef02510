/- Texts of this claim,merged. -/
import Derived.Test.YtfdbhehkkobfgaaGreatRu11
import Derived.Test.YtfdbhehkkobfgaaGreatRu8
import Derived.Test.YtfdbhehkkobfgaaGreatRu9
import Derived.Test.YtfdbhehkkobfgaaGreatRu7
import Derived.Lib.Mul64
set_option linter.unusedSimpArgs false
set_option linter.unusedVariables false
set_option linter.unusedSectionVars false
namespace Go.Proofs.YtfdbhehkkobfgaaGreat
open Go
abbrev zaM (L : List (List Int)) : List (List AV):=L.map fun l=>[ints l]
section
variable (g : Gr) (p : Pol) (r : Int) (hg : GrOk g) (hp : zbx g.size p) (hN : g.size < 20) (hr : 1 ≤ r) (hr5 : r ≤ 5) (hs : p.seeds.length ≤ 64) (ht : p.table.length ≤ 8)
include hg hp hN hr hr5 hs ht
set_option maxRecDepth 100000 in
set_option maxHeartbeats 8000000 in
theorem zm7 : zaj Tryz.prog zbm [eG g,eP p,.I r] [] (.tup [eWk (zap (zao g p.lv) p.seeds) (zbG (zao g p.lv) p.seeds r),.I 0]) []:=by
 refine zdH.acalls (nbz rfl) (nbz rfl) (Nat.le_refl _) ?_
 show awp _ 0 _ _ ⟨99,[(0,eG g),(1,eP p),(2,.I r)],[],16⟩
 have hel:=hg.edges_le
 have hgl:=hg.gone_le
 have hchk:=zdN g p (by omega) (by omega) (by omega) (by omega)
 rw [if_pos hg,if_pos hp] at hchk
 have hlev:=zis g p.lv (by omega) (by omega)
 have hGg:=hg.level p.lv
 have hord:=zgD (g:=zao g p.lv) (S:=p.seeds) hGg hN (by omega)
 have hol : (ordL (zao g p.lv) p.seeds).length ≤ 64:=by
  have:=zqo (S:=p.seeds) hGg.1.1
  have:=hGg.1.2.1
  omega
 have hsrt:=zhl (ordL (zao g p.lv) p.seeds) (by omega)
 rw [zmr hGg] at hsrt
 have hKo : (ordL (zao g p.lv) p.seeds).length = (zap (zao g p.lv) p.seeds).length:=by
  have:=(zdt (ordL (zao g p.lv) p.seeds)).length_eq
  rw [zmr hGg] at this
  exact this.symm
 rw [hKo] at hsrt
 have hGe:=hGg.edges_le
 obtain ⟨G,hGd⟩ : ∃ G,G = zao g p.lv:=⟨_,rfl⟩
 rw [← hGd] at hlev hGg hord hol hsrt hKo hGe ⊢
 obtain ⟨O,hOd⟩ : ∃ O,O = ordL G p.seeds:=⟨_,rfl⟩
 rw [← hOd] at hord hsrt hol hKo
 have hKlen : (zap G p.seeds).length ≤ 64:=by omega
 refine zab ⟨99,[(2,.I r),(3,.pv (gC g)),(4,.pv (pC p)),(6,.pt 32 0 0)],[(32,some ⟨2,[[.nilS,.nilS]],0⟩)],100⟩ rfl ?_ ?_
 ·simp
  exact LeH [(32,32)] [16,24]
 refine zaa ?_
 refine rx (s:=?z2) [2,3,4,6,8] [32] [] rfl ?p2 ?r2
 case p2=>simp; refine zal hchk (by simp) ?_; simp; rfl
 refine rx (s:=?z3) [2,3,4,6,22] [32] [] rfl ?p3 ?r3
 case p3=>simp; rfl
 refine zad _ rfl (fun h=>by simp at h) fun _=>?_
 refine zae ?_
 refine zaa ?_
 refine zab ⟨99,[(2,.I r),(3,.pv (gC g)),(4,.pv (pC p)),(6,.pt 32 0 0),(27,.B false)],[(32,some ⟨2,[[.nilS,.nilS]],0⟩)],400⟩ rfl ?_ ?_
 ·simp
  refine zal (zbK r 1 5) (by simp) ?_
  simp
  exact Le.go [(32,32)] [] rfl rfl (by simp [hr,hr5]) (by simp)
 refine zad _ rfl (fun h=>by simp at h) fun _=>?_
 refine zae ?_
 refine zab ⟨99,[(2,.I r),(4,.pv (pC p)),(6,.pt 32 0 0),(9,.pv (gC G))],[(32,some ⟨2,[[.nilS,.nilS]],0⟩)],500⟩ rfl ?_ ?_
 ·simp
  refine zal hlev (by simp) ?_
  simp
  exact LeH [(32,32)] [432]
 obtain ⟨K,hKd⟩ : ∃ K,K = zap G p.seeds:=⟨_,rfl⟩
 rw [← hKd] at hsrt hKo hKlen ⊢
 have hO2 : ∀ f : Int → List AV,(O.map f).take K.length = O.map f:=fun f=>List.take_of_length_le (by simp [hKo])
 have hK2 : ∀ f : Int → List AV,(K.map f).take K.length = K.map f:=fun f=>List.take_of_length_le (by simp)
 refine zab ⟨99,[(2,.I r),(4,.pv (pC p)),(6,.pt 32 0 0),(9,.pv (gC G)),(10,.pt 50 0 0)],[(32,some ⟨2,[[.nilS,.nilS]],0⟩),(50,some ⟨2,[[ints K,.nilS]],0⟩)],800⟩ rfl ?_ ?_
 ·simp
  refine zdK hord (by simp) ?_
  simp
  refine zpf (j:=524) (by omega) (by simp; rfl) hsrt (by simp [fcd,hKo,hO2]) ?_
  simp
  exact Le.go [(32,32),(548,50)] [532] rfl rfl (by simp) (by simp [fcd,hK2])
 have hwn : IntKind.i64.wrap (K.length : Int) = K.length:=w64 (by omega) (by omega)
 have hKn : K.Nodup:=by rw [hKd]; exact za4
 have hrl : zbG G p.seeds r = K.map (zaW G p.seeds r):=by rw [hKd]; rfl
 have hst : ∀ x,rowP G.edges p.seeds K r x G.edges.length = zaW G p.seeds r x:=fun x=>by rw [hKd]; exact zqY G p.seeds r x
 obtain ⟨n,hn⟩ : ∃ n,n = K.length:=⟨_,rfl⟩
 refine zat (ι:=Unit) (fun _=>⟨99,[(6,.pt 32 0 0),(10,.pt 50 0 0)],[(32,some ⟨2,[[.nilS,.nilS]],0⟩),(50,some ⟨2,[[ints K,.rs 51 0 n]],0⟩),(51,some ⟨1,zaM (zbG G p.seeds r),0⟩)],9000⟩) (fun _=>True) ?_ fun _ _=>?_
 ·refine rx (s:=?z7) [2,4,6,9,10,40,41,42] [32,50] [] rfl ?p7 ?r7
  case p7=>simp [← hn]; rfl
  refine zaf ?_
  refine zan (ι:=Nat) (fun i=>⟨99,[(2,.I r),(4,.pv (pC p)),(6,.pt 32 0 0),(9,.pv (gC G)),(10,.pt 50 0 0),(40,ints K),(41,.I n),(42,.I i)],[(32,some ⟨2,[[.nilS,.nilS]],0⟩),(50,some ⟨2,[[ints K,.rs 51 0 i]],0⟩),(51,some ⟨1,zaM ((K.take i).map (zaW G p.seeds r)),0⟩)],1000⟩) (fun i=>i ≤ n) (fun i=>n - i) 0 (Nat.zero_le _) ?_ ?_
  ·exact Le.lst [(32,32),(50,50)] [] [(51,1)] rfl (by simp) (by simp) (by simp) (by simp) (by simp) (by simp) (by simp) (by simp [Up]) (by simp [fcd]; exact ⟨zaD.rfl' (by simp),zaD.row rfl (by omega) (by simp [UpL,Up,Wk.refl])⟩)
  intro i hi
  refine rx (s:=?z8) [2,4,6,9,10,40,41,42,43] [32,50,51] [] rfl ?p8 ?r8
  case p8=>simp [fcd]; rfl
  refine zaa ?_
  refine zad _ rfl (fun hc=>?_) fun hc=>?_
  ·simp at hc
   have hw1 : IntKind.i64.wrap ((i : Int) + 1) = (i : Int) + 1:=w64 (by omega) (by omega)
   have hiK : i < K.length:=by omega
   have hR3 : ∀ f : List Int → List AV,(((K.take i).map (zaW G p.seeds r)).map f).take i = ((K.take i).map (zaW G p.seeds r)).map f:=fun f=>List.take_of_length_le (by simp; omega)
   have hsucc : (K.take (i + 1)).map (zaW G p.seeds r) = (K.take i).map (zaW G p.seeds r) ++ [zaW G p.seeds r K[i]]:=by
    rw [List.take_succ_eq_append_getElem hiK,List.map_append]
    rfl
   obtain ⟨x,hx⟩ : ∃ x,x = K[i]:=⟨_,rfl⟩
   have hxK : x ∈ zap G p.seeds:=by rw [← hKd,hx]; exact List.getElem_mem hiK
   rw [← hx] at hsucc
   obtain ⟨D,hD⟩ : ∃ D,D = (K.take i).map (zaW G p.seeds r):=⟨_,rfl⟩
   have hDl : D.length = i:=by rw [hD]; simp; omega
   rw [← hD] at hR3 hsucc
   refine zae ?_
   refine zat (ι:=Unit) (fun _=>⟨99,[(2,.I r),(4,.pv (pC p)),(6,.pt 32 0 0),(9,.pv (gC G)),(10,.pt 50 0 0),(40,ints K),(41,.I n),(42,.I i)],[(32,some ⟨2,[[.nilS,.nilS]],0⟩),(50,some ⟨2,[[ints K,.rs 51 0 (i + 1)]],0⟩),(51,some ⟨1,zaM ((K.take (i + 1)).map (zaW G p.seeds r)),0⟩)],8000⟩) (fun _=>True) ?_ fun _ _=>?_
   ·refine zaf ?_
    refine zab ⟨99,[(2,.I r),(4,.pv (pC p)),(6,.pt 32 0 0),(9,.pv (gC G)),(10,.pt 50 0 0),(12,.I x),(40,ints K),(41,.I n),(42,.I i)],[(32,some ⟨2,[[.nilS,.nilS]],0⟩),(50,some ⟨2,[[ints K,.rs 51 0 i]],0⟩),(51,some ⟨1,zaM D,0⟩)],1200⟩ rfl ?_ ?_
    ·simp [hiK,← hx,fcd]
     exact Le.go [(32,32),(50,50),(51,51)] [] rfl rfl (by simp) (by simp [fcd,hD])
    refine zab ⟨99,[(2,.I r),(4,.pv (pC p)),(6,.pt 32 0 0),(9,.pv (gC G)),(10,.pt 50 0 0),(12,.I x),(13,.rs 52 0 n),(40,ints K),(41,.I n),(42,.I i)],[(32,some ⟨2,[[.nilS,.nilS]],0⟩),(50,some ⟨2,[[ints K,.rs 51 0 i]],0⟩),(51,some ⟨1,zaM D,0⟩),(52,some ⟨1,zah (rowA p.seeds K r 0),0⟩)],1400⟩ rfl ?_ ?_
    ·simp [← hn]
     exact ⟨by omega,by omega,Le.go [(32,32),(50,50),(51,51),(1224,52)] [] rfl rfl (by simp) (by simp [fcd,zpm,← hn])⟩
    refine zat (ι:=Unit) (fun _=>⟨99,[(2,.I r),(4,.pv (pC p)),(6,.pt 32 0 0),(9,.pv (gC G)),(10,.pt 50 0 0),(12,.I x),(13,.rs 52 0 n),(40,ints K),(41,.I n),(42,.I i)],[(32,some ⟨2,[[.nilS,.nilS]],0⟩),(50,some ⟨2,[[ints K,.rs 51 0 i]],0⟩),(51,some ⟨1,zaM D,0⟩),(52,some ⟨1,zah (rowP G.edges p.seeds K r x 0),0⟩)],3000⟩) (fun _=>True) ?_ fun _ _=>?_
    ·refine rx (s:=?z11) [2,4,6,9,10,12,13,40,41,42,51,52,53] [32,50,51,52] [] rfl ?p11 ?r11
     case p11=>simp [← hn,fcd]; rfl
     refine zaf ?_
     refine zan (ι:=Nat) (fun k=>⟨99,[(2,.I r),(4,.pv (pC p)),(6,.pt 32 0 0),(9,.pv (gC G)),(10,.pt 50 0 0),(12,.I x),(13,.rs 52 0 n),(40,ints K),(41,.I n),(42,.I i),(51,ints K),(52,.I n),(53,.I k)],[(32,some ⟨2,[[.nilS,.nilS]],0⟩),(50,some ⟨2,[[ints K,.rs 51 0 i]],0⟩),(51,some ⟨1,zaM D,0⟩),(52,some ⟨1,zah (rowA p.seeds K r k),0⟩)],1600⟩) (fun k=>k ≤ n) (fun k=>n - k) 0 (Nat.zero_le _) (LeI [(32,32),(50,50),(51,51),(52,52)] []) ?_
     intro k hkl
     refine rx (s:=?z12) [2,4,6,9,10,12,13,40,41,42,51,52,53,54] [32,50,51,52] [] rfl ?p12 ?r12
     case p12=>simp [fcd]; rfl
     refine zaa ?_
     refine zad _ rfl (fun hk=>?_) fun hk=>?_
     ·simp at hk
      have hkK : k < K.length:=by omega
      have hw2 : IntKind.i64.wrap ((k : Int) + 1) = (k : Int) + 1:=w64 (by omega) (by omega)
      have hcon:=zdT p.seeds K[k] (by omega)
      refine zae ?_
      refine zat (ι:=Unit) (fun _=>⟨99,[(2,.I r),(4,.pv (pC p)),(6,.pt 32 0 0),(9,.pv (gC G)),(10,.pt 50 0 0),(12,.I x),(13,.rs 52 0 n),(40,ints K),(41,.I n),(42,.I i),(51,ints K),(52,.I n),(53,.I k)],[(32,some ⟨2,[[.nilS,.nilS]],0⟩),(50,some ⟨2,[[ints K,.rs 51 0 i]],0⟩),(51,some ⟨1,zaM D,0⟩),(52,some ⟨1,zah (rowA p.seeds K r (k + 1)),0⟩)],2500⟩) (fun _=>True) ?_ fun _ _=>?_
      ·refine zaf ?_
       refine rx (s:=?z13) [2,4,6,9,10,12,13,14,15,40,41,42,51,52,53] [32,50,51,52] [] rfl ?p13 ?r13
       case p13=>simp [hkK,fcd]; rfl
       refine rx (s:=?z14) [2,4,6,9,10,12,13,14,15,40,41,42,51,52,53,61] [32,50,51,52] [] rfl ?p14 ?r14
       case p14=>simp; refine zal hcon (by simp) ?_; simp [fcd]; rfl
       refine zad _ rfl (fun hin=>?_) fun hin=>?_
       ·rw [decide_eq_true_eq] at hin
        have hset:=zok (r:=r) hkK hin
        refine zaC rfl ?_
        simp [zqh,← hn,hk,hset]
        exact LeI [(32,32),(50,50),(51,51),(52,52)] []
       ·rw [decide_eq_false_iff_not] at hin
        rw [zpq hkK hin]
        refine zae ?_
        exact ⟨(),trivial,LeI [(32,32),(50,50),(51,51),(52,52)] []⟩
      refine zac (s:=?z15) rfl ?p15 ?r15
      case p15=>simp [hw2]; rfl
      exact ⟨k + 1,by omega,by omega,LeI [(32,32),(50,50),(51,51),(52,52)] []⟩
     ·simp at hk
      obtain rfl : k = n:=by omega
      refine zak ?_
      refine hit ?_
      refine ⟨(),trivial,?_⟩
      rw [← zq1 (E:=G.edges) (x:=x),← hn]
      exact LeI [(32,32),(50,50),(51,51),(52,52)] []
    refine zat (ι:=Unit) (fun _=>⟨99,[(2,.I r),(4,.pv (pC p)),(6,.pt 32 0 0),(9,.pv (gC G)),(10,.pt 50 0 0),(12,.I x),(13,.rs 52 0 n),(40,ints K),(41,.I n),(42,.I i)],[(32,some ⟨2,[[.nilS,.nilS]],0⟩),(50,some ⟨2,[[ints K,.rs 51 0 i]],0⟩),(51,some ⟨1,zaM D,0⟩),(52,some ⟨1,zah (zaW G p.seeds r x),0⟩)],6000⟩) (fun _=>True) ?_ fun _ _=>?_
    ·refine rx (s:=?z21) [2,4,6,9,10,12,13,40,41,42,68,69,70] [32,50,51,52] [] rfl ?p21 ?r21
     case p21=>simp [fcd]; rfl
     refine zaf ?_
     refine zan (ι:=Nat) (fun m=>⟨99,[(2,.I r),(4,.pv (pC p)),(6,.pt 32 0 0),(9,.pv (gC G)),(10,.pt 50 0 0),(12,.I x),(13,.rs 52 0 n),(40,ints K),(41,.I n),(42,.I i),(68,eEs G.edges),(69,.I G.edges.length),(70,.I m)],[(32,some ⟨2,[[.nilS,.nilS]],0⟩),(50,some ⟨2,[[ints K,.rs 51 0 i]],0⟩),(51,some ⟨1,zaM D,0⟩),(52,some ⟨1,zah (rowP G.edges p.seeds K r x m),0⟩)],3500⟩) (fun m=>m ≤ G.edges.length) (fun m=>G.edges.length - m) 0 (Nat.zero_le _) (LeI [(32,32),(50,50),(51,51),(52,52)] []) ?_
     intro m hml
     refine rx (s:=?z22) [2,4,6,9,10,12,13,40,41,42,68,69,70,71] [32,50,51,52] [] rfl ?p22 ?r22
     case p22=>simp [fcd]; rfl
     refine zaa ?_
     refine zad _ rfl (fun hm=>?_) fun hm=>?_
     ·simp at hm
      have hw2 : IntKind.i64.wrap ((m : Int) + 1) = (m : Int) + 1:=w64 (by omega) (by omega)
      obtain ⟨e,he⟩ : ∃ e,e = G.edges[m]:=⟨_,rfl⟩
      refine zae ?_
      refine zat (ι:=Unit) (fun _=>⟨99,[(2,.I r),(4,.pv (pC p)),(6,.pt 32 0 0),(9,.pv (gC G)),(10,.pt 50 0 0),(12,.I x),(13,.rs 52 0 n),(40,ints K),(41,.I n),(42,.I i),(68,eEs G.edges),(69,.I G.edges.length),(70,.I m)],[(32,some ⟨2,[[.nilS,.nilS]],0⟩),(50,some ⟨2,[[ints K,.rs 51 0 i]],0⟩),(51,some ⟨1,zaM D,0⟩),(52,some ⟨1,zah (rowP G.edges p.seeds K r x (m + 1)),0⟩)],5000⟩) (fun _=>True) ?_ fun _ _=>?_
      ·refine zaf ?_
       refine zab ⟨99,[(2,.I r),(4,.pv (pC p)),(6,.pt 32 0 0),(9,.pv (gC G)),(10,.pt 50 0 0),(12,.I x),(13,.rs 52 0 n),(17,.pv (eC e)),(40,ints K),(41,.I n),(42,.I i),(68,eEs G.edges),(69,.I G.edges.length),(70,.I m)],[(32,some ⟨2,[[.nilS,.nilS]],0⟩),(50,some ⟨2,[[ints K,.rs 51 0 i]],0⟩),(51,some ⟨1,zaM D,0⟩),(52,some ⟨1,zah (rowP G.edges p.seeds K r x m),0⟩)],3700⟩ rfl ?_ ?_
       ·simp [hm,← he]
        exact LeI [(32,32),(50,50),(51,51),(52,52)] [3524]
       refine rx (s:=?z24) [2,4,6,9,10,12,13,17,40,41,42,68,69,70,77] [32,50,51,52] [] rfl ?p24 ?r24
       case p24=>simp [fcd]; rfl
       refine zad _ rfl (fun hf=>?_) fun hf=>?_
       ·simp at hf
        have hem : e ∈ G.edges:=by rw [he]; exact List.getElem_mem hm
        have htk : e.t ∈ K:=by
         rw [hKd,zcI]
         have h1:=zla hGg hem (S:=p.seeds) (by rw [hf]; exact (zcI.1 hxK).2)
         have h2:=hGg.fits e hem
         unfold Fits at h2
         exact ⟨⟨by omega,by omega⟩,h1.1⟩
        have hidx:=zbl K e.t (by omega)
        obtain ⟨q,hq⟩ : ∃ q : Nat,q = K.idxOf e.t:=⟨_,rfl⟩
        have hqn : q < K.length:=by rw [hq]; exact List.idxOf_lt_length_iff.2 htk
        have hqe : K[q] = e.t:=by subst hq; exact List.getElem_idxOf hqn
        have hxi : idxI K e.t = (q : Int):=by unfold idxI; rw [if_pos htk,hq]
        rw [hxi] at hidx
        have hset:=zqe (E:=G.edges) (S:=p.seeds) (r:=r) (x:=x) hKn hm (by rw [← he]; exact hf) hqn (by rw [← he]; exact hqe)
        have hb:=zo3 hGg m x (K.getD q 0)
        have hv:=hGg.val e hem
        obtain ⟨b,hbd⟩ : ∃ b,b = (if p.seeds.contains (K.getD q 0) then r else 0) + edWl (G.edges.take m) x (K.getD q 0):=⟨_,rfl⟩
        have hbb : 0 ≤ b ∧ b ≤ 8:=by rw [hbd]; split <;> omega
        rw [← hbd,← he] at hset
        have hwb : IntKind.i64.wrap (b + e.v) = b + e.v:=w64 (by omega) (by omega)
        have hget : ∀ h : q < (rowP G.edges p.seeds K r x m).length,(rowP G.edges p.seeds K r x m)[q] = b:=fun h=>by rw [zq5 h,hbd]
        have hqn2 : q < n:=by omega
        have hget2 : (rowP G.edges p.seeds K r x m)[q]? = some b:=by rw [List.getElem?_eq_getElem (by rw [zjf]; exact hqn),hget]
        refine zcj rfl ?_
        simp
        refine zal hidx (by simp) ?_
        simp [zjf,← hn,hqn2,hget2,hget,hwb,hset]
        refine ⟨rfl,?_⟩
        exact LeI [(32,32),(50,50),(51,51),(52,52)] []
       ·simp at hf
        refine zae ?_
        refine ⟨(),trivial,?_⟩
        rw [zp2 hm (by rw [← he]; exact hf)]
        exact LeI [(32,32),(50,50),(51,51),(52,52)] []
      refine zac (s:=?z25) rfl ?p25 ?r25
      case p25=>simp [hw2]; rfl
      exact ⟨m + 1,by omega,by omega,LeI [(32,32),(50,50),(51,51),(52,52)] []⟩
     ·simp at hm
      obtain rfl : m = G.edges.length:=by omega
      refine zak ?_
      refine hit ?_
      refine ⟨(),trivial,?_⟩
      rw [hst x]
      exact LeI [(32,32),(50,50),(51,51),(52,52)] []
    have hRl : (zaW G p.seeds r x).length = n:=by rw [← hst x,zjf,hn]
    have hR4 : ∀ f : Int → List AV,((zaW G p.seeds r x).map f).take n = (zaW G p.seeds r x).map f:=fun f=>List.take_of_length_le (by simp [hRl])
    have hD4 : ∀ f : List Int → List AV,(D.map f).take i = D.map f:=fun f=>List.take_of_length_le (by simp [hDl])
    refine zaC rfl ?_
    have hS5 : List.take (i + 1) (List.map ((fun l=>[ints l]) ∘ zaW G p.seeds r) K) = zaM D ++ [[ints (zaW G p.seeds r x)]]:=by
     rw [← List.map_take,← List.map_map,hsucc]
     simp
    simp [hDl]
    refine ⟨by omega,by omega,?_⟩
    rw [hS5]
    exact Le.go [(32,32),(50,50),(6032,51)] [52] rfl rfl (by simp) (by simp [fcd,hD4,hR4,hRl])
   refine zac (s:=?z16) rfl ?p16 ?r16
   case p16=>simp [hw1]; rfl
   exact ⟨i + 1,by omega,by omega,LeI [(32,32),(50,50),(51,51)] []⟩
  ·simp at hc
   obtain rfl : i = n:=by omega
   refine zak ?_
   refine hit ?_
   exact ⟨(),trivial,Le.go [(32,32),(50,50),(51,51)] [] rfl rfl (by simp) (by simp [fcd,hn,hrl,hK2])⟩
 have hR2 : ∀ f : List Int → List AV,((zbG G p.seeds r).map f).take (zbG G p.seeds r).length = (zbG G p.seeds r).map f:=fun f=>List.take_of_length_le (by simp)
 have hrll : (zbG G p.seeds r).length = n:=by rw [hrl,List.length_map,hn]
 refine zab ⟨99,[(6,.pt 32 0 0),(7,.I 0)],[(32,some ⟨2,[[ints K,zaB (zbG G p.seeds r)]],0⟩)],9900⟩ rfl ?_ ?_
 ·simp
  exact Le.go [(32,32)] [51] rfl rfl (by simp) (by simp [fcd,← hrll,hR2])
 refine zag ?_
 exact ⟨.inr rfl,zam.out [] [] rfl (by simp) (by simp) (by simp) (by simp)⟩
end
abbrev za0 (s N : Nat) (E : Nat → List (List AV)) : List (Nat × Option Ent):=famH s N E ++ [(50,some ⟨1,famO N E,0⟩)]
def famN (m x N : Nat) : List (Nat × Nat):=(m,N + 1000) :: (x,50) :: (famI N).map fun j=>(j,j)
theorem hpN {sz n i j : Nat} {t : List (Nat × AV)} {h : List (Nat × Option Ent)} {v : Option Ent} (hij : i ≠ j) : (⟨sz,t,(i,v) :: h,n⟩ : St).hp j = (⟨sz,t,h,n⟩ : St).hp j:=by
 rw [zeC,if_neg hij]
theorem beqN (a b : Nat) : ((a : Int) == (b : Int)) = decide (a = b):=by
 by_cases h : a = b
 ·subst h; simp
 ·have : ¬ (a : Int) = b:=by omega
  rw [decide_eq_false h]
  simpa using this
section
variable {sz n N s : Nat} {t : List (Nat × AV)} {E : Nat → List (List AV)}
theorem zdo {k : Nat} (h : k < N) : (⟨sz,t,za0 s N E,n⟩ : St).hp (k + 1000) = some ⟨s,E k,0⟩:=ztI h
theorem zgu : (⟨sz,t,za0 s N E,n⟩ : St).hp 50 = some ⟨1,famO N E,0⟩:=by rw [zpd (by omega)]; simp
theorem zoV {j : Nat} (hj : j ≠ 50) (hr : j < 1000 ∨ 1000 + N ≤ j) : (⟨sz,t,za0 s N E,n⟩ : St).hp j = none:=by
 rcases hr with hr | hr
 ·rw [zpd hr]
  simp [Ne.symm hj]
 ·rw [zss hr]
  simp [Ne.symm hj]
theorem zl5 {j : Nat} {e : Ent} (h : (⟨sz,t,za0 s N E,n⟩ : St).hp j = some e) : (j = 50 ∧ e = ⟨1,famO N E,0⟩) ∨ ∃ k,k < N ∧ j = k + 1000 ∧ e = ⟨s,E k,0⟩:=by
 by_cases hj : j = 50
 ·subst hj
  rw [zgu] at h
  cases h
  exact .inl ⟨rfl,rfl⟩
 ·by_cases hr : j < 1000 ∨ 1000 + N ≤ j
  ·rw [zoV hj hr] at h; cases h
  ·obtain ⟨k,rfl⟩ : ∃ k,j = k + 1000:=⟨j - 1000,by omega⟩
   have hk : k < N:=by omega
   rw [zdo hk] at h
   cases h
   exact .inr ⟨k,hk,rfl,rfl⟩
end
theorem znK {m x N : Nat} : lkp (famN m x N) m = some (N + 1000):=by simp [famN,lkp]
theorem zrp {m x N k : Nat} (hk : k < N) (hm : m ≠ k + 1000) (hx : x ≠ k + 1000) : lkp (famN m x N) (k + 1000) = some (k + 1000):=by
 rw [famN,lkp,if_neg hm,lkp,if_neg hx,zmg (fun j=>j) (fun i j h=>h) (fun j=>j),if_pos (zbQ.2 (by omega))]
theorem Le.famNew {sz n n' N m x s : Nat} {E E' : Nat → List (List AV)} {R : List (List AV)} {t t' : List (Nat × AV)} {h : List (Nat × Option Ent)} (hmx : m ≠ x) (hm : m < 1000 ∨ 1000 + N < m) (hx : 1000 + N < x) (hn : 1000 + N < n')
  (hE : ∀ k < N,∀ r ∈ E k,∀ z ∈ r,∃ v,z = .sc v) (hR : ∀ r ∈ R,∀ z ∈ r,∃ v,z = .sc v) (hEE : ∀ k < N,E' k = E k) (hEN : E' N = R)
  (hst : ∀ k < N,(⟨sz,t,h,n⟩ : St).hp (k + 1000) = some ⟨s,E k,0⟩) (hsm : (⟨sz,t,h,n⟩ : St).hp m = some ⟨s,R,0⟩)
  (hsx : (⟨sz,t,h,n⟩ : St).hp x = some ⟨1,famO N E ++ [[.rs m 0 R.length]],0⟩)
  (ht : ∀ p ∈ t',Wk (conv (famN m x N) [] (⟨sz,t,h,n⟩ : St).hp 4 ((⟨sz,t,h,n⟩ : St).get p.1)) p.2) : Le 0 ⟨sz,t,h,n⟩ ⟨sz,t',za0 s (N + 1) E',n'⟩:=by
 have hf1 : (famN m x N).map (·.1) = m :: x :: famI N:=by simp [famN,fcd]
 have hf2 : (famN m x N).map (·.2) = (N + 1000) :: 50 :: famI N:=by simp [famN,fcd]
 have hnd : (famI N).Nodup:=zgs (fun i j h=>by simpa using h) List.nodup_range
 have cnv : ∀ (ρ : List (Nat × Nat)) (hp : Nat → Option Ent) (Z : List (List AV)),(∀ r ∈ Z,∀ z ∈ r,∃ v,z = AV.sc v) → zaz ρ [] hp 4 ⟨s,Z,0⟩ = ⟨s,Z,0⟩:=fun ρ hp Z hZ=>by
  simp only [zaz]
  rw [zmp _ (fun v=>by simp [conv]) _ hZ]
 refine Le.mk (famN m x N) [] [] rfl ?_ ?_ ?_ (by simp) (by simp) (Nat.zero_le _) (by simp) (fun i=>?_) ?_
 ·rw [hf1]
  refine List.nodup_cons.2 ⟨?_,List.nodup_cons.2 ⟨?_,hnd⟩⟩
  ·rw [List.mem_cons,not_or]
   exact ⟨hmx,fun hh=>by have:=zbQ.1 hh; omega⟩
  ·exact fun hh=>by have:=zbQ.1 hh; omega
 ·rw [hf2]
  refine List.nodup_cons.2 ⟨?_,List.nodup_cons.2 ⟨?_,hnd⟩⟩
  ·rw [List.mem_cons,not_or]
   exact ⟨by omega,fun hh=>by have:=zbQ.1 hh; omega⟩
  ·exact fun hh=>by have:=zbQ.1 hh; omega
 ·intro p hp
  have h2 : p.2 ∈ (famN m x N).map (·.2):=List.mem_map.2 ⟨p,hp,rfl⟩
  rw [hf2,List.mem_cons,List.mem_cons] at h2
  refine ⟨?_,fun h0=>absurd h0 (Nat.not_lt_zero _)⟩
  show p.2 < n'
  rcases h2 with h2 | h2 | h2
  ·omega
  ·omega
  ·have:=zbQ.1 h2; omega
 ·show Up [] _ ((lkp t' i).getD .dead)
  cases hl : lkp t' i with
  | none=>exact .inl (.dead _)
  | some v=>exact .inl (ht _ (za1 hl))
 ·intro j e' he
  left
  rcases zl5 he with ⟨rfl,rfl⟩ | ⟨k,hk,rfl,rfl⟩
  ·refine ⟨x,_,by simp [famN],hsx,?_⟩
   refine zaD.eq ?_ (Nat.zero_le _)
   simp only [zaz]
   congr 1
   rw [List.map_append]
   have e1 : famO (N + 1) E' = famO N E ++ [[famV E' N]]:=by
    simp only [famO,List.range_succ,List.map_append,List.map_cons,List.map_nil]
    congr 1
    refine List.map_congr_left fun k hk=>?_
    simp only [famV,hEE k (List.mem_range.1 hk)]
   rw [e1]
   congr 1
   ·conv=>rhs; rw [← List.map_id (famO N E)]
    refine List.map_congr_left fun r hr=>?_
    obtain ⟨k,hk,rfl⟩:=List.mem_map.1 hr
    have hk:=List.mem_range.1 hk
    have:=zrp (m:=m) (x:=x) hk (by omega) (by omega)
    simp [famV,this]
   ·simp [famV,znK,hEN]
  ·by_cases hkN : k = N
   ·subst hkN
    refine ⟨m,_,by simp [famN],hsm,?_⟩
    rw [cnv _ _ _ hR,hEN]
    exact zaD.rfl' (Nat.zero_le _)
   ·have hk2 : k < N:=by omega
    refine ⟨k + 1000,_,?_,hst k hk2,?_⟩
    ·simp only [famN,List.mem_cons,List.mem_map]
     exact .inr (.inr ⟨k + 1000,zbQ.2 (by omega),rfl⟩)
    ·rw [cnv _ _ _ (hE k hk2),hEE k hk2]
     exact zaD.rfl' (Nat.zero_le _)
theorem Le.keepF {np : Nat} {st st' : St} (hsz : st'.sz = st.sz) (hn : st.n ≤ st'.n) (ht : ∀ p ∈ st'.t,st.get p.1 = p.2) (hh : ∀ j e,st'.hp j = some e → st.hp j = some e) : Le np st st':=by
 intro T0 M0 w0 T M a w ok hnp
 refine ⟨T,M,⟨ok.sz.trans hsz.symm,ok.df,fun i=>?_,⟨fun id e he=>ok.hs.ent id e (hh id e he),fun id id' e e' g g' b h1 h2=>ok.hs.inj id id' e e' g g' b (hh _ _ h1) (hh _ _ h2)⟩,fun id g hg=>Nat.lt_of_lt_of_le (ok.dom id g hg) hn,ok.after⟩,Nat.le_trans hnp hn⟩
 unfold St.get at *
 cases hl : lkp st'.t i with
 | none=>exact .dead _ _
 | some v =>
   have:=ht _ (za1 hl)
   simp only at this
   show Rep T w M v _
   rw [← this]
   exact ok.tm i
theorem zku {N : Nat} {E E' : Nat → List (List AV)} (h : ∀ k < N,(E k).length = (E' k).length) : famO N E = famO N E':=by
 unfold famO
 refine List.map_congr_left fun k hk=>?_
 simp only [famV,h k (List.mem_range.1 hk)]
def famG (ρ : List (Nat × Nat)) (N : Nat) : List (Nat × Nat):=ρ ++ (famI N).map fun j=>(j,j)
theorem zrm {ρ : List (Nat × Nat)} {N k : Nat} (h : ∀ p ∈ ρ,p.1 < 1000 ∨ 1000 + N ≤ p.1) (hk : k < N) : lkp (famG ρ N) (k + 1000) = some (k + 1000):=by
 unfold famG
 induction ρ with
 | nil =>
   rw [List.nil_append,zmg (fun j=>j) (fun i j h=>h) (fun j=>j),if_pos (zbQ.2 (by omega))]
 | cons p ρ ih =>
   rw [List.cons_append,lkp,if_neg (by have:=h p (by simp); omega)]
   exact ih fun q hq=>h q (by simp [hq])
theorem znR {N : Nat} {ρ : List (Nat × Nat)} {sn : List Nat} {E : Nat → List (List AV)} {hp : Nat → Option Ent} (h : ∀ p ∈ ρ,p.1 < 1000 ∨ 1000 + N ≤ p.1) : (famO N E).map (·.map (conv (famG ρ N) sn hp 4)) = famO N E:=by
 conv=>rhs; rw [← List.map_id (famO N E)]
 refine List.map_congr_left fun r hr=>?_
 obtain ⟨k,hk,rfl⟩:=List.mem_map.1 hr
 have:=zrm (k:=k) h (List.mem_range.1 hk)
 simp [famV,this]
theorem Le.famX {sz n n' N m s : Nat} {E : Nat → List (List AV)} {x : Option Ent} {t t' : List (Nat × AV)} {h : List (Nat × Option Ent)} (nl : Bool) (hm : m ≠ 50 ∧ (m < 1000 ∨ 1000 + N ≤ m)) (hn : 1000 + N ≤ n')
  (hE : ∀ k < N,∀ r ∈ E k,∀ z ∈ r,∃ v,z = .sc v)
  (hst : ∀ k < N,(⟨sz,t,h,n⟩ : St).hp (k + 1000) = some ⟨s,E k,0⟩) (h50 : (⟨sz,t,h,n⟩ : St).hp 50 = some ⟨1,famO N E,0⟩)
  (hx : x = none ∨ (nl = true ∧ x = some ⟨1,[],0⟩) ∨ (nl = false ∧ ∃ R,(∀ r ∈ R,∀ z ∈ r,∃ v,z = AV.sc v) ∧ x = some ⟨1,R,0⟩ ∧ (⟨sz,t,h,n⟩ : St).hp m = some ⟨1,R,0⟩))
  (ht : ∀ p ∈ t',Up (if nl then [(60,1)] else []) (conv (famG (if nl then [(50,50)] else [(m,60),(50,50)]) N) [] (⟨sz,t,h,n⟩ : St).hp 4 ((⟨sz,t,h,n⟩ : St).get p.1)) p.2) : Le 0 ⟨sz,t,h,n⟩ ⟨sz,t',(60,x) :: za0 s N E,n'⟩:=by
 obtain ⟨ρ,hρ⟩ : ∃ ρ,ρ = (if nl then [(50,50)] else [(m,60),(50,50)]):=⟨_,rfl⟩
 rw [← hρ] at ht
 have hcase : ∀ p ∈ ρ,(p.1 = 50 ∧ p.2 = 50) ∨ (nl = false ∧ p.1 = m ∧ p.2 = 60):=fun p hp=>by
  rw [hρ] at hp
  cases nl <;> simp at hp
  ·rcases hp with rfl | rfl
   ·exact .inr ⟨rfl,rfl,rfl⟩
   ·exact .inl ⟨rfl,rfl⟩
  ·subst hp; exact .inl ⟨rfl,rfl⟩
 have hlow : ∀ p ∈ ρ,p.1 < 1000 ∨ 1000 + N ≤ p.1:=fun p hp=>by
  rcases hcase p hp with h | h <;> omega
 have h5050 : (50,50) ∈ ρ:=by rw [hρ]; cases nl <;> simp
 have hnd : (famI N).Nodup:=zgs (fun i j h=>by simpa using h) List.nodup_range
 have hf1 : (famG ρ N).map (·.1) = ρ.map (·.1) ++ famI N:=by simp [famG,fcd]
 have hf2 : (famG ρ N).map (·.2) = ρ.map (·.2) ++ famI N:=by simp [famG,fcd]
 have hr1 : (ρ.map (·.1)).Nodup:=by rw [hρ]; cases nl <;> simp [hm.1]
 have hr2 : (ρ.map (·.2)).Nodup:=by rw [hρ]; cases nl <;> simp
 refine Le.mk (famG ρ N) [] (if nl then [(60,1)] else []) rfl ?_ ?_ ?_ ?_ (by simp) (Nat.zero_le _) (by cases nl <;> simp) (fun i=>?_) ?_
 ·rw [hf1]
  refine List.nodup_append.2 ⟨hr1,hnd,fun a ha b hb e=>?_⟩
  obtain ⟨p,hp,rfl⟩:=List.mem_map.1 ha
  have:=zbQ.1 hb
  have:=hlow p hp
  omega
 ·rw [hf2]
  refine List.nodup_append.2 ⟨hr2,hnd,fun a ha b hb e=>?_⟩
  obtain ⟨p,hp,rfl⟩:=List.mem_map.1 ha
  have:=zbQ.1 hb
  rcases hcase p hp with h | h <;> omega
 ·intro p hp
  refine ⟨?_,fun h0=>absurd h0 (Nat.not_lt_zero _)⟩
  show p.2 < n'
  unfold famG at hp
  rcases List.mem_append.1 hp with hp | hp
  ·rcases hcase p hp with h | h <;> omega
  ·obtain ⟨j,hj,rfl⟩:=List.mem_map.1 hp
   have:=zbQ.1 hj
   simp only
   omega
 ·intro p hp
  cases nl
  ·simp at hp
  ·simp at hp
   subst hp
   refine ⟨Nat.zero_le _,by simp only; omega,?_,by simp⟩
   rw [hf2,List.mem_append,not_or]
   refine ⟨fun hh=>?_,fun hh=>by have:=zbQ.1 hh; simp only at this; omega⟩
   obtain ⟨p,hp,e⟩:=List.mem_map.1 hh
   rcases hcase p hp with h | h
   ·omega
   ·exact absurd h.1 (by simp)
 ·show Up _ _ ((lkp t' i).getD .dead)
  cases hl : lkp t' i with
  | none=>exact .inl (.dead _)
  | some v=>exact ht _ (za1 hl)
 ·intro j e' he
  by_cases hj : j = 60
  ·subst hj
   rw [zeC,if_pos rfl] at he
   rcases hx with hx | ⟨h1,hx⟩ | ⟨h1,R,hR,hx,hsm⟩
   ·rw [hx] at he; cases he
   ·rw [hx] at he
    cases he
    right
    subst h1
    exact ⟨by simp,rfl,rfl⟩
   ·rw [hx] at he
    cases he
    left
    subst h1
    refine ⟨m,_,?_,hsm,?_⟩
    ·rw [hρ]; simp [famG]
    ·simp only [zaz]
     rw [zmp _ (fun v=>by simp [conv]) _ hR]
     exact zaD.rfl' (Nat.zero_le _)
  ·rw [zeC,if_neg (fun e=>hj e.symm)] at he
   left
   rcases zl5 he with ⟨rfl,rfl⟩ | ⟨k,hk,rfl,rfl⟩
   ·refine ⟨50,_,List.mem_append_left _ h5050,h50,?_⟩
    refine zaD.eq ?_ (Nat.zero_le _)
    simp only [zaz]
    rw [znR hlow]
   ·refine ⟨k + 1000,_,?_,hst k hk,?_⟩
    ·refine List.mem_append_right _ ?_
     exact List.mem_map.2 ⟨k + 1000,zbQ.2 (by omega),rfl⟩
    ·simp only [zaz]
     rw [zmp _ (fun v=>by simp [conv]) _ (hE k hk)]
     exact zaD.rfl' (Nat.zero_le _)
theorem Le.lessH {np sz n : Nat} {t : List (Nat × AV)} {h h' : List (Nat × Option Ent)} (hh : ∀ j e,(⟨sz,t,h',n⟩ : St).hp j = some e → (⟨sz,t,h,n⟩ : St).hp j = some e) : Le np ⟨sz,t,h,n⟩ ⟨sz,t,h',n⟩:=by
 intro T0 M0 w0 T M a w ok hnp
 exact ⟨T,M,⟨ok.sz,ok.df,ok.tm,⟨fun id e he=>ok.hs.ent id e (hh id e he),fun id id' e e' g g' b h1 h2=>ok.hs.inj id id' e e' g g' b (hh _ _ h1) (hh _ _ h2)⟩,ok.dom,ok.after⟩,hnp⟩
theorem Le.famK {sz n n' N s : Nat} {E : Nat → List (List AV)} {t t' : List (Nat × AV)} (hn : 1000 + N ≤ n')
  (hE : ∀ k < N,∀ r ∈ E k,∀ z ∈ r,∃ v,z = .sc v)
  (ht : ∀ p ∈ t',Up [(60,1)] (conv (famG [(50,50)] N) [] (⟨sz,t,za0 s N E,n⟩ : St).hp 4 ((⟨sz,t,za0 s N E,n⟩ : St).get p.1)) p.2) : Le 0 ⟨sz,t,za0 s N E,n⟩ ⟨sz,t',za0 s N E,n'⟩:=by
 refine Le.trans' (Le.famX (m:=0) (x:=none) (t':=t') (n':=n') true ⟨by omega,.inl (by omega)⟩ hn hE (fun k hk=>zdo hk) zgu (.inl rfl) ht) ?_
 refine Le.lessH fun j e he=>?_
 rw [hpN]
 ·exact he
 ·rintro rfl
  rw [zoV (by omega) (.inl (by omega))] at he
  cases he
theorem Le.famSet {np sz n n' N s a : Nat} {E E' : Nat → List (List AV)} {t t' : List (Nat × AV)} (hn : n ≤ n') (hE : ∀ k < N,k ≠ a → E' k = E k) (hl : (E' a).length = (E a).length)
  (ht : ∀ p ∈ t',(⟨sz,t,(a + 1000,some ⟨s,E' a,0⟩) :: za0 s N E,n⟩ : St).get p.1 = p.2) : Le np ⟨sz,t,(a + 1000,some ⟨s,E' a,0⟩) :: za0 s N E,n⟩ ⟨sz,t',za0 s N E',n'⟩:=by
 refine Le.keepF rfl hn ht fun j e he=>?_
 rcases zl5 he with ⟨rfl,rfl⟩ | ⟨k,hk,rfl,rfl⟩
 ·rw [zeC,if_neg (by omega),zgu]
  congr 2
  refine zku fun k hk=>?_
  by_cases hka : k = a
  ·subst hka; exact hl.symm
  ·rw [hE k hk hka]
 ·by_cases hka : k = a
  ·subst hka
   rw [zeC,if_pos rfl]
  ·rw [zeC,if_neg (by omega),zdo hk,hE k hk hka]
def uRow (B : Nat → Nat → Nat) (M k : Nat) : List (List AV):=(List.range M).map fun j=>[U (B k j : Nat)]
theorem zbN (B : Nat → Nat → Nat) (M k : Nat) : ∀ r ∈ uRow B M k,∀ z ∈ r,∃ v,z = AV.sc v:=by
 intro r hr z hz
 obtain ⟨j,_,rfl⟩:=List.mem_map.1 hr
 exact ⟨_,List.mem_singleton.1 hz⟩
theorem zbE (B : Nat → Nat → Nat) (M k : Nat) : (uRow B M k).length = M:=by simp [uRow]
theorem zd4 {B : Nat → Nat → Nat} {M k j : Nat} (h : j < M) : (uRow B M k)[j]? = some [U (B k j : Nat)]:=by simp [uRow,h]
theorem zhx {B : Nat → Nat → Nat} {M k j : Nat} (h : j < (uRow B M k).length) : (uRow B M k)[j] = [U (B k j : Nat)]:=by simp [uRow]
theorem zkL (B : Nat → Nat → Nat) (M k : Nat) : uRow B (M + 1) k = uRow B M k ++ [[U (B k M : Nat)]]:=by simp [uRow,List.range_succ]
theorem zqK {B B' : Nat → Nat → Nat} {M k j : Nat} {v : Nat} (h : ∀ i,i < M → B' k i = if i = j then v else B k i) : (uRow B M k).set j [U (v : Nat)] = uRow B' M k:=by
 apply List.ext_getElem?
 intro i
 rw [List.getElem?_set]
 by_cases hi : i < M
 ·rw [zd4 hi,zd4 hi,zbE,h i hi]
  by_cases hij : j = i
  ·subst hij; simp [hi]
  ·have : ¬ i = j:=fun e=>hij e.symm
   simp [hij,this]
 ·have h1 : (uRow B M k)[i]? = none:=by simp [uRow,hi]
  have h2 : (uRow B' M k)[i]? = none:=by simp [uRow,hi]
  rw [h1,h2]
  split
  ·rw [if_neg (by rw [zbE]; omega)]
  ·rfl
section
variable {a b : Nat}
theorem unw {x : Int} {n : Nat} (h : x = n) (h2 : n < 18446744073709551616) : IntKind.u64.wrap x = n:=by rw [h]; exact wu64 (by omega) (by omega)
theorem bofn (a : Nat) (h : a < 18446744073709551616) : (BitVec.ofInt 64 (a : Int)).toNat = a:=by rw [BitVec.toNat_ofInt]; omega
theorem uand (a : Nat) (h : a < 18446744073709551616) : binV .and (.int .u64 (a : Int)) (.int .u64 4294967295) = some (.int .u64 ((a % 4294967296 : Nat) : Int)):=by
 have h2 : (BitVec.ofInt 64 (4294967295 : Int)).toNat = 2 ^ 32 - 1:=rfl
 show some (Value.int .u64 (IntKind.u64.wrap ((BitVec.ofInt 64 (a : Int) &&& BitVec.ofInt 64 4294967295).toNat : Int))) = _
 rw [BitVec.toNat_and,bofn a h,h2,Nat.and_two_pow_sub_one_eq_mod,unw (n:=a % 4294967296) rfl (by omega)]
theorem zuu (a : Nat) (h : a < 18446744073709551616) : binV .and (.int .u64 (a : Int)) (.int .u64 1) = some (.int .u64 ((a % 2 : Nat) : Int)):=by
 have h2 : (BitVec.ofInt 64 (1 : Int)).toNat = 2 ^ 1 - 1:=rfl
 show some (Value.int .u64 (IntKind.u64.wrap ((BitVec.ofInt 64 (a : Int) &&& BitVec.ofInt 64 1).toNat : Int))) = _
 rw [BitVec.toNat_and,bofn a h,h2,Nat.and_two_pow_sub_one_eq_mod,unw (n:=a % 2) rfl (by omega)]
theorem ushr (a s : Nat) (hs : s ≤ 64) : binV .shr (.int .u64 (a : Int)) (.int .u64 (s : Int)) = some (.int .u64 ((a / 2 ^ s : Nat) : Int)):=by
 show (if (0 : Int) ≤ s then some (Value.int .u64 ((a : Int).fdiv (2 ^ (min (s : Int).toNat 64)))) else none) = _
 rw [if_pos (by omega)]
 have : min (s : Int).toNat 64 = s:=by omega
 have h0 : (0 : Int) ≤ 2 ^ s:=by have:=Int.pow_pos (n:=2) (m:=s) (by omega); omega
 rw [this,Int.fdiv_eq_ediv_of_nonneg _ h0]
 congr 2
theorem umul (a b : Nat) (h : a * b < 18446744073709551616) : binV .mul (.int .u64 (a : Int)) (.int .u64 (b : Int)) = some (.int .u64 ((a * b : Nat) : Int)):=by
 show some (Value.int .u64 (IntKind.u64.wrap ((a : Int) * b))) = _
 rw [unw (n:=a * b) (by simp) h]
theorem uadd (a b : Nat) (h : a + b < 18446744073709551616) : binV .add (.int .u64 (a : Int)) (.int .u64 (b : Int)) = some (.int .u64 ((a + b : Nat) : Int)):=by
 show some (Value.int .u64 (IntKind.u64.wrap ((a : Int) + b))) = _
 rw [unw (n:=a + b) (by simp) h]
theorem usub (a b : Nat) (h : b ≤ a) (h2 : a < 18446744073709551616) : binV .sub (.int .u64 (a : Int)) (.int .u64 (b : Int)) = some (.int .u64 ((a - b : Nat) : Int)):=by
 show some (Value.int .u64 (IntKind.u64.wrap ((a : Int) - b))) = _
 rw [unw (n:=a - b) (by omega) (by omega)]
theorem uquo (a b : Nat) (h : a < 18446744073709551616) (hb : 0 < b) : binV .quo (.int .u64 (a : Int)) (.int .u64 (b : Int)) = some (.int .u64 ((a / b : Nat) : Int)):=by
 show (if (b : Int) = 0 then none else some (Value.int .u64 (IntKind.u64.wrap ((a : Int).tdiv b)))) = _
 rw [if_neg (by omega)]
 have:=Nat.div_le_self a b
 rw [unw (n:=a / b) (by simp) (by omega)]
theorem urem (a b : Nat) (hb : 0 < b) : binV .rem (.int .u64 (a : Int)) (.int .u64 (b : Int)) = some (.int .u64 ((a % b : Nat) : Int)):=by
 show (if (b : Int) = 0 then none else some (Value.int .u64 ((a : Int).tmod b))) = _
 rw [if_neg (by omega)]
 simp [Int.tmod_eq_emod_of_nonneg]
theorem wmod (x : Int) : IntKind.u64.wrap x = x % 18446744073709551616:=IntKind.wrap_u64 x
end
set_option maxRecDepth 100000 in
theorem zoS (x y : Nat) (hx : x < 18446744073709551616) (hy : y < 18446744073709551616) : zaj Tryz.prog zbu [U x,U y] [] (.tup [U ((x * y / 18446744073709551616 : Nat) : Int),U ((x * y % 18446744073709551616 : Nat) : Int)]) []:=by
 refine zem.acalls (nbz rfl) (nbz rfl) (Nat.le_refl _) ?_
 show awp _ 0 _ _ ⟨51,[(0,U x),(1,U y)],[],16⟩
 have a1:=uand x hx
 have a2:=uand y hy
 have s1 : binV .shr (.int .u64 (x : Int)) (.int .u64 32) = some (.int .u64 ((x / 2 ^ 32 : Nat) : Int)):=ushr x 32 (by omega)
 have s2 : binV .shr (.int .u64 (y : Int)) (.int .u64 32) = some (.int .u64 ((y / 2 ^ 32 : Nat) : Int)):=ushr y 32 (by omega)
 obtain ⟨g1,g2,g3,g4⟩:=Go.Lib.mul64_hi x y hx hy
 have hlt : x * y / 18446744073709551616 < 18446744073709551616:=by
  have : x * y ≤ x * 18446744073709551616:=Nat.mul_le_mul_left x (by omega)
  rw [Nat.div_lt_iff_lt_mul (by omega)]
  have h2 : x * 18446744073709551616 < 18446744073709551616 * 18446744073709551616:=Nat.mul_lt_mul_of_pos_right hx (by omega)
  omega
 have e32 : (2 : Nat) ^ 32 = 4294967296:=rfl
 rw [e32] at s1 s2
 have b00 : x % 4294967296 < 4294967296:=Nat.mod_lt _ (by omega)
 have b01 : x / 4294967296 < 4294967296:=by omega
 have b10 : y % 4294967296 < 4294967296:=Nat.mod_lt _ (by omega)
 have b11 : y / 4294967296 < 4294967296:=by omega
 obtain ⟨x0,hx0⟩ : ∃ z,z = x % 4294967296:=⟨_,rfl⟩
 obtain ⟨x1,hx1⟩ : ∃ z,z = x / 4294967296:=⟨_,rfl⟩
 obtain ⟨y0,hy0⟩ : ∃ z,z = y % 4294967296:=⟨_,rfl⟩
 obtain ⟨y1,hy1⟩ : ∃ z,z = y / 4294967296:=⟨_,rfl⟩
 rw [← hx0] at a1 g1 g2 g3 g4 b00
 rw [← hx1] at s1 g2 g3 g4 b01
 rw [← hy0] at a2 g1 g2 g3 g4 b10
 rw [← hy1] at s2 g3 g4 b11
 have m1:=umul x0 y0 g1
 have m2:=umul x1 y0 (by have:=Nat.mul_le_mul (Nat.le_of_lt b01) (Nat.le_of_lt b10); have:=Go.Lib.half_mul_le (a:=x1) (b:=y0) (by omega) (by omega); omega)
 have m3:=umul x0 y1 (by have:=Go.Lib.half_mul_le (a:=x0) (b:=y1) (by omega) (by omega); omega)
 have m4:=umul x1 y1 (by have:=Go.Lib.half_mul_le (a:=x1) (b:=y1) (by omega) (by omega); omega)
 obtain ⟨w0,hw0⟩ : ∃ z,z = x0 * y0:=⟨_,rfl⟩
 rw [← hw0] at m1 g1 g2 g3 g4
 have s3 : binV .shr (.int .u64 (w0 : Int)) (.int .u64 32) = some (.int .u64 ((w0 / 2 ^ 32 : Nat) : Int)):=ushr w0 32 (by omega)
 rw [e32] at s3
 have d1:=uadd (x1 * y0) (w0 / 4294967296) g2
 obtain ⟨t,ht⟩ : ∃ z,z = x1 * y0 + w0 / 4294967296:=⟨_,rfl⟩
 rw [← ht] at d1 g2 g3 g4
 have a3:=uand t g2
 have s4 : binV .shr (.int .u64 (t : Int)) (.int .u64 32) = some (.int .u64 ((t / 2 ^ 32 : Nat) : Int)):=ushr t 32 (by omega)
 rw [e32] at s4
 have d2:=uadd (t % 4294967296) (x0 * y1) g3
 obtain ⟨w1,hw1⟩ : ∃ z,z = t % 4294967296 + x0 * y1:=⟨_,rfl⟩
 rw [← hw1] at d2 g3 g4
 have s5 : binV .shr (.int .u64 (w1 : Int)) (.int .u64 32) = some (.int .u64 ((w1 / 2 ^ 32 : Nat) : Int)):=ushr w1 32 (by omega)
 rw [e32] at s5
 have d3:=uadd (x1 * y1) (t / 4294967296) (by omega)
 have d4:=uadd (x1 * y1 + t / 4294967296) (w1 / 4294967296) (by omega)
 rw [g4] at d4
 have m5 : binV .mul (.int .u64 (x : Int)) (.int .u64 (y : Int)) = some (.int .u64 ((x * y % 18446744073709551616 : Nat) : Int)):=by
  show some (Value.int .u64 (IntKind.u64.wrap ((x : Int) * y))) = _
  rw [wmod]
  simp
 refine rx (s:=?z1) [0,1] [] [] rfl ?p1 ?r1
 case p1=>simp; rfl
 refine rx (s:=?z2) [0,1,6] [] [] rfl ?p2 ?r2
 case p2=>simp [-binV,-Int.natCast_mul,-Int.natCast_add,-Int.natCast_ediv,-Int.natCast_emod,a1]; rfl
 refine rx (s:=?z3) [0,1,6,7] [] [] rfl ?p3 ?r3
 case p3=>simp [-binV,-Int.natCast_mul,-Int.natCast_add,-Int.natCast_ediv,-Int.natCast_emod,s1]; rfl
 refine rx (s:=?z4) [0,1,6,7,8] [] [] rfl ?p4 ?r4
 case p4=>simp [-binV,-Int.natCast_mul,-Int.natCast_add,-Int.natCast_ediv,-Int.natCast_emod,a2]; rfl
 refine rx (s:=?z5) [0,1,6,7,8,9] [] [] rfl ?p5 ?r5
 case p5=>simp [-binV,-Int.natCast_mul,-Int.natCast_add,-Int.natCast_ediv,-Int.natCast_emod,s2]; rfl
 refine rx (s:=?z6) [0,1,6,7,8,9,10] [] [] rfl ?p6 ?r6
 case p6=>simp [-binV,-Int.natCast_mul,-Int.natCast_add,-Int.natCast_ediv,-Int.natCast_emod,m1]; rfl
 refine rx (s:=?z7) [0,1,6,7,9,11] [] [] rfl ?p7 ?r7
 case p7=>simp [-binV,-Int.natCast_mul,-Int.natCast_add,-Int.natCast_ediv,-Int.natCast_emod,m2,s3,d1]; rfl
 refine rx (s:=?z8) [0,1,6,7,9,11,12] [] [] rfl ?p8 ?r8
 case p8=>simp [-binV,-Int.natCast_mul,-Int.natCast_add,-Int.natCast_ediv,-Int.natCast_emod,a3]; rfl
 refine rx (s:=?z9) [0,1,6,7,9,12,13] [] [] rfl ?p9 ?r9
 case p9=>simp [-binV,-Int.natCast_mul,-Int.natCast_add,-Int.natCast_ediv,-Int.natCast_emod,s4]; rfl
 refine rx (s:=?z10) [0,1,7,9,12,13] [] [] rfl ?p10 ?r10
 case p10=>simp [-binV,-Int.natCast_mul,-Int.natCast_add,-Int.natCast_ediv,-Int.natCast_emod,m3,d2]; rfl
 refine rx (s:=?z11) [0,1,4] [] [] rfl ?p11 ?r11
 case p11=>simp [-binV,-Int.natCast_mul,-Int.natCast_add,-Int.natCast_ediv,-Int.natCast_emod,m4,d3,s5,d4]; rfl
 refine rx (s:=?z12) [4,5] [] [] rfl ?p12 ?r12
 case p12=>simp [-binV,-Int.natCast_mul,-Int.natCast_add,-Int.natCast_ediv,-Int.natCast_emod,m5]; rfl
 refine zag ?_
 exact ⟨.inr rfl,zam.out [] [] rfl (by simp) (by simp) (by simp) (by simp)⟩
set_option maxRecDepth 100000 in
theorem zq7 : zaj Tryz.prog zcN [U 2305843009213693951] [] (.I 61) []:=by
 refine zgQ.acalls (nbz rfl) (nbz rfl) (Nat.le_refl _) ?_
 show awp _ 0 _ _ ⟨25,[(0,U 2305843009213693951)],[],16⟩
 have s1 : binV .shr (.int .u64 2305843009213693951) (.int .u64 32) = some (.int .u64 536870911):=ushr 2305843009213693951 32 (by omega)
 have s2 : binV .shr (.int .u64 536870911) (.int .u64 16) = some (.int .u64 8191):=ushr 536870911 16 (by omega)
 have s3 : binV .shr (.int .u64 8191) (.int .u64 8) = some (.int .u64 31):=ushr 8191 8 (by omega)
 refine rx (s:=?z1) [0,2] [] [] rfl ?p1 ?r1
 case p1=>simp; rfl
 refine zaa ?_
 refine rx (s:=?z2) [0,2,4] [] [] rfl ?p2 ?r2
 case p2=>simp; rfl
 refine zad _ rfl (fun _=>?_) fun h=>by simp at h
 refine rx (s:=?z3) [0,2] [] [] rfl ?p3 ?r3
 case p3=>simp [-binV,-Int.natCast_mul,-Int.natCast_add,-Int.natCast_ediv,-Int.natCast_emod,s1]; rfl
 refine zac (s:=?z4) rfl ?p4 ?r4
 case p4=>simp; rfl
 refine zaa ?_
 refine rx (s:=?z5) [0,2,8] [] [] rfl ?p5 ?r5
 case p5=>simp; rfl
 refine zad _ rfl (fun _=>?_) fun h=>by simp at h
 refine rx (s:=?z6) [0,2] [] [] rfl ?p6 ?r6
 case p6=>simp [-binV,-Int.natCast_mul,-Int.natCast_add,-Int.natCast_ediv,-Int.natCast_emod,s2]; rfl
 refine zac (s:=?z7) rfl ?p7 ?r7
 case p7=>simp; rfl
 refine zaa ?_
 refine rx (s:=?z8) [0,2,14] [] [] rfl ?p8 ?r8
 case p8=>simp; rfl
 refine zad _ rfl (fun _=>?_) fun h=>by simp at h
 refine rx (s:=?z9) [0,2] [] [] rfl ?p9 ?r9
 case p9=>simp [-binV,-Int.natCast_mul,-Int.natCast_add,-Int.natCast_ediv,-Int.natCast_emod,s3]; rfl
 refine zac (s:=?z10) rfl ?p10 ?r10
 case p10=>simp; rfl
 refine zab ⟨25,[(2,.I 61)],[],2000⟩ rfl ?_ ?_
 ·simp
  exact ⟨by decide,5,rfl,Le.go [] [] rfl rfl (by simp <;> exact .refl _) (by simp)⟩
 refine zag ?_
 exact ⟨.inr rfl,zam.one (by simp)⟩
theorem zgq : zaj Tryz.prog zbj [U 2305843009213693951] [] (.I 3) []:=by
 refine zdB.acalls (nbz rfl) (nbz rfl) (Nat.le_refl _) ?_
 show awp _ 0 _ _ ⟨6,[(0,U 2305843009213693951)],[],16⟩
 refine rx (s:=?z1) [0] [] [] rfl ?p1 ?r1
 case p1=>simp; rfl
 refine rx (s:=?z2) [2] [] [] rfl ?p2 ?r2
 case p2=>simp; refine zal zq7 (by simp) ?_; simp [show IntKind.i64.wrap 3 = 3 from rfl]; rfl
 refine zag ?_
 exact ⟨.inr rfl,zam.one (by simp)⟩
theorem zpg {hi lo : Nat} (h : hi < 2305843009213693951) (hl : lo < 18446744073709551616) :
  (hi * 8 + lo / 2305843009213693952) * 18446744073709551616 + lo * 8 % 18446744073709551616 = 8 * (hi * 18446744073709551616 + lo) ∧ hi * 8 + lo / 2305843009213693952 < 18446744073709551608:=by omega
theorem zum (hi lo : Nat) (h : hi < 2305843009213693951) (hl : lo < 18446744073709551616) : binV .or (.int .u64 ((hi * 8 : Nat) : Int)) (.int .u64 ((lo / 2305843009213693952 : Nat) : Int)) = some (.int .u64 ((hi * 8 + lo / 2305843009213693952 : Nat) : Int)):=by
 show some (Value.int .u64 (IntKind.u64.wrap ((BitVec.ofInt 64 ((hi * 8 : Nat) : Int) ||| BitVec.ofInt 64 ((lo / 2305843009213693952 : Nat) : Int)).toNat : Int))) = _
 rw [BitVec.toNat_or,bofn _ (by omega),bofn _ (by omega)]
 have e : hi * 8 ||| lo / 2305843009213693952 = hi * 8 + lo / 2305843009213693952:=by
  have h1 : lo / 2305843009213693952 < 2 ^ 3:=by omega
  have h2:=Nat.shiftLeft_add_eq_or_of_lt h1 hi
  rw [Nat.shiftLeft_eq] at h2
  exact h2.symm
 rw [e,unw (n:=hi * 8 + lo / 2305843009213693952) rfl (by omega)]
theorem zpv {q y0 r u1 : Nat} (hr : r < 4294967296) (hu : u1 < 4294967296) (hq : q < 4294967296) (hy : y0 < 4294967296) :
  q * y0 < 18446744073709551616 ∧ 4294967296 * r < 18446744073709551616 ∧ 4294967296 * r + u1 < 18446744073709551616:=by
 have h1 : q * y0 ≤ 4294967295 * 4294967295:=Nat.mul_le_mul (by omega) (by omega)
 omega
theorem zmG {u3 u1 q Y : Nat} (hY : 0 < Y) (hq : q = (u3 * 4294967296 + u1) / Y) (hYl : Y < 18446744073709551616) :
  IntKind.u64.wrap (IntKind.u64.wrap (IntKind.u64.wrap ((u3 : Int) * 4294967296) + u1) - IntKind.u64.wrap ((q : Int) * Y)) = (((u3 * 4294967296 + u1) % Y : Nat) : Int):=by
 have h1:=Nat.div_add_mod (u3 * 4294967296 + u1) Y
 rw [← hq] at h1
 have h2:=Nat.mod_lt (u3 * 4294967296 + u1) hY
 obtain ⟨m,hm⟩ : ∃ m,m = (u3 * 4294967296 + u1) % Y:=⟨_,rfl⟩
 rw [← hm] at h1 h2 ⊢
 have h3 : ((q : Int) * Y) = ((Y * q : Nat) : Int):=by rw [Int.natCast_mul,Int.mul_comm]
 obtain ⟨z,hz⟩ : ∃ z,z = Y * q:=⟨_,rfl⟩
 rw [h3,← hz]
 rw [← hz] at h1
 rw [wmod,wmod,wmod,wmod]
 omega
theorem ushl (a : Nat) : binV .shl (.int .u64 (a : Int)) (.int .u64 3) = some (.int .u64 ((a * 8 % 18446744073709551616 : Nat) : Int)):=by
 show (if (0 : Int) ≤ 3 then some (Value.int .u64 (IntKind.u64.wrap ((a : Int) * 2 ^ (min (3 : Int).toNat 64)))) else none) = _
 rw [if_pos (by omega),wmod]
 have : (2 : Int) ^ (min (3 : Int).toNat 64) = 8:=rfl
 rw [this]
 congr 2
theorem zsu {hi lo : Nat} (h : hi < 2305843009213693951) (hl : lo < 18446744073709551616) :
  (((hi * 8 + lo / 2305843009213693952) * 4294967296 + lo * 8 % 18446744073709551616 / 4294967296) % 18446744073709551608 * 4294967296 + lo * 8 % 18446744073709551616 % 4294967296) % 18446744073709551608 / 8 = (hi * 18446744073709551616 + lo) % 2305843009213693951:=by
 rw [zny (by omega)]
 have e : ((hi * 8 + lo / 2305843009213693952) * 4294967296 + lo * 8 % 18446744073709551616 / 4294967296) * 4294967296 + lo * 8 % 18446744073709551616 % 4294967296 = 2 ^ 3 * (hi * 18446744073709551616 + lo):=by omega
 rw [e]
 exact zqa (s:=3) (y:=2305843009213693951)
theorem zo2 {u3 u1 q r : Nat} (hd : DigG 4294967296 4294967295 4294967288 u3 u1 q r) (h3 : u3 < 18446744073709551608) (hr : 4294967296 ≤ r) : q < 4294967296:=by
 have:=hd.eq
 omega
theorem zq0 {hi lo : Nat} (h : hi < 2305843009213693951) (hl : lo < 18446744073709551616) : ∃ u3 u10 u1 u0 : Nat,
  binV .shl (.int .u64 (hi : Int)) (.int .u64 3) = some (.int .u64 ((hi * 8 : Nat) : Int)) ∧
  binV .shr (.int .u64 (lo : Int)) (.int .u64 61) = some (.int .u64 ((lo / 2305843009213693952 : Nat) : Int)) ∧
  binV .or (.int .u64 ((hi * 8 : Nat) : Int)) (.int .u64 ((lo / 2305843009213693952 : Nat) : Int)) = some (.int .u64 (u3 : Int)) ∧
  binV .shl (.int .u64 (lo : Int)) (.int .u64 3) = some (.int .u64 (u10 : Int)) ∧
  binV .shr (.int .u64 (u10 : Int)) (.int .u64 32) = some (.int .u64 (u1 : Int)) ∧
  binV .and (.int .u64 (u10 : Int)) (.int .u64 4294967295) = some (.int .u64 (u0 : Int)) ∧
  u1 < 4294967296 ∧ u0 < 4294967296 ∧ u3 < 18446744073709551608 ∧
  (Unit → ((u3 * 4294967296 + u1) % 18446744073709551608 * 4294967296 + u0) % 18446744073709551608 / 8 = (hi * 18446744073709551616 + lo) % 2305843009213693951):=by
 have hu10l : lo * 8 % 18446744073709551616 < 18446744073709551616:=Nat.mod_lt _ (by decide)
 refine ⟨hi * 8 + lo / 2305843009213693952,lo * 8 % 18446744073709551616,lo * 8 % 18446744073709551616 / 4294967296,lo * 8 % 18446744073709551616 % 4294967296,?_,ushr lo 61 (by omega),zum hi lo h hl,ushl lo,ushr _ 32 (by omega),uand _ hu10l,?_,Nat.mod_lt _ (by decide),(zpg h hl).2,fun _=>zsu h hl⟩
 ·rw [ushl hi,Nat.mod_eq_of_lt (by omega)]
 ·exact Nat.div_lt_of_lt_mul hu10l
set_option maxRecDepth 100000 in
set_option maxHeartbeats 4000000 in
theorem zqS (hi lo : Nat) (h : hi < 2305843009213693951) (hl : lo < 18446744073709551616) : zaj Tryz.prog zcO [U hi,U lo,U 2305843009213693951] [] (.tup [.dead,U (((hi * 18446744073709551616 + lo) % 2305843009213693951 : Nat) : Int)]) []:=by
 refine zg0.acalls (nbz rfl) (nbz rfl) (Nat.le_refl _) ?_
 show awp _ 0 _ _ ⟨135,[(0,U hi),(1,U lo),(2,U 2305843009213693951)],[],16⟩
 refine rx (s:=?z1) [0,1,2] [] [] rfl ?p1 ?r1
 case p1=>simp; rfl
 refine zaa ?_
 refine rx (s:=?z2) [0,1,2,20] [] [] rfl ?p2 ?r2
 case p2=>simp; rfl
 refine zad _ rfl (fun h=>by simp at h) fun _=>?_
 refine zae ?_
 refine zaa ?_
 refine zab ⟨135,[(0,U hi),(1,U lo),(2,U 2305843009213693951),(24,.B false)],[],100⟩ rfl ?_ ?_
 ·simp
  exact Le.go [] [] rfl rfl (by simp <;> exact wkB (by simp; omega)) (by simp)
 refine zad _ rfl (fun h=>by simp at h) fun _=>?_
 refine zae ?_
 refine zaa ?_
 refine zab ⟨135,[(0,U hi),(1,U lo),(2,U 2305843009213693951),(27,.B (decide (hi = 0)))],[],200⟩ rfl ?_ ?_
 ·simp
  exact Le.go [] [] rfl rfl (by simp <;> exact wkB (by rw [Bool.eq_iff_iff]; simp)) (by simp)
 refine zad _ rfl (fun h0=>?_) fun h0=>?_
 ·simp at h0
  subst h0
  have f1 : binV .quo (.int .u64 (lo : Int)) (.int .u64 2305843009213693951) = some (.int .u64 ((lo / 2305843009213693951 : Nat) : Int)):=uquo lo 2305843009213693951 hl (by omega)
  have f2 : binV .rem (.int .u64 (lo : Int)) (.int .u64 2305843009213693951) = some (.int .u64 ((lo % 2305843009213693951 : Nat) : Int)):=urem lo 2305843009213693951 (by omega)
  refine rxd (s:=?z5) [7] [] [] rfl ?p5 ?r5
  case p5=>simp [-binV,-Int.natCast_mul,-Int.natCast_add,-Int.natCast_ediv,-Int.natCast_emod,f1,f2]; refine ⟨rfl,?_⟩; rfl
  refine zag ?_
  exact ⟨.inr rfl,zam.out [] [] rfl (by simp) (by simp) (by simp [conv]) (by simp)⟩
 refine zae ?_
 clear h0
 refine zab ⟨135,[(0,U hi),(1,U lo),(2,U 2305843009213693951),(8,U 3)],[],300⟩ rfl ?_ ?_
 ·simp
  refine zal zgq (by simp) ?_
  simp
  exact Le.go [] [] rfl rfl (by simp <;> exact .refl _) (by simp)
 have e1 : binV .shl (.int .u64 2305843009213693951) (.int .u64 3) = some (.int .u64 18446744073709551608):=ushl 2305843009213693951
 have e2 : binV .shr (.int .u64 18446744073709551608) (.int .u64 32) = some (.int .u64 4294967295):=ushr 18446744073709551608 32 (by omega)
 have e3 : binV .and (.int .u64 18446744073709551608) (.int .u64 4294967295) = some (.int .u64 4294967288):=uand 18446744073709551608 (by omega)
 obtain ⟨u3,u10,u1,u0,e4,e5,e6,e8,e9,e10,hu1l,hu0l,hU3,hend⟩:=zq0 h hl
 have e7 : binV .sub (.int .u64 64) (.int .u64 3) = some (.int .u64 61):=rfl
 have htop : u3 * 4294967296 + u1 < (4294967295 * 4294967296 + 4294967288) * 4294967296:=by omega
 refine rx (s:=?z6) [0,1,2,8] [] [] rfl ?p6 ?r6
 case p6=>simp [-binV,-Int.natCast_mul,-Int.natCast_add,-Int.natCast_ediv,-Int.natCast_emod,e1]; rfl
 refine rx (s:=?z7) [0,1,2,8,9] [] [] rfl ?p7 ?r7
 case p7=>simp [-binV,-Int.natCast_mul,-Int.natCast_add,-Int.natCast_ediv,-Int.natCast_emod,e2]; rfl
 refine rx (s:=?z8) [0,1,2,8,9,10] [] [] rfl ?p8 ?r8
 case p8=>simp [-binV,-Int.natCast_mul,-Int.natCast_add,-Int.natCast_ediv,-Int.natCast_emod,e3]; rfl
 refine rx (s:=?z9) [1,2,8,9,10,11] [] [] rfl ?p9 ?r9
 case p9=>simp [-binV,-Int.natCast_mul,-Int.natCast_add,-Int.natCast_ediv,-Int.natCast_emod,e4,e7,e5,e6]; rfl
 refine rx (s:=?z10) [2,8,9,10,11,12] [] [] rfl ?p10 ?r10
 case p10=>simp [-binV,-Int.natCast_mul,-Int.natCast_add,-Int.natCast_ediv,-Int.natCast_emod,e8]; rfl
 refine rx (s:=?z11) [2,8,9,10,11,12,13] [] [] rfl ?p11 ?r11
 case p11=>simp [-binV,-Int.natCast_mul,-Int.natCast_add,-Int.natCast_ediv,-Int.natCast_emod,e9]; rfl
 refine rx (s:=?z12) [2,8,9,10,11,13,14] [] [] rfl ?p12 ?r12
 case p12=>simp [-binV,-Int.natCast_mul,-Int.natCast_add,-Int.natCast_ediv,-Int.natCast_emod,e10]; rfl
 have hq0 : u3 / 4294967295 * 4294967295 ≤ u3:=Nat.div_mul_le_self _ _
 have hr0 : u3 - u3 / 4294967295 * 4294967295 < 4294967296:=by omega
 have f1 : binV .quo (.int .u64 (u3 : Int)) (.int .u64 4294967295) = some (.int .u64 ((u3 / 4294967295 : Nat) : Int)):=uquo u3 4294967295 (by omega) (by omega)
 have f2 : binV .mul (.int .u64 ((u3 / 4294967295 : Nat) : Int)) (.int .u64 4294967295) = some (.int .u64 ((u3 / 4294967295 * 4294967295 : Nat) : Int)):=by
  have h9:=umul (u3 / 4294967295) 4294967295 (Nat.lt_of_le_of_lt hq0 (by omega))
  exact h9
 have f3:=usub u3 (u3 / 4294967295 * 4294967295) (by omega) (by omega)
 have hst:=DigG.start (b:=4294967296) (y1:=4294967295) (y0:=4294967288) (u3:=u3) (u1:=u1) (by omega) hu1l
 have hqs : u3 / 4294967295 ≤ u3:=Nat.div_le_self _ _
 obtain ⟨q,hq⟩ : ∃ z,z = u3 / 4294967295:=⟨_,rfl⟩
 rw [← hq] at hq0 hr0 f1 f2 f3 hst hqs
 refine rx (s:=?z13) [2,8,9,10,11,13,14,15] [] [] rfl ?p13 ?r13
 case p13=>simp [-binV,-Int.natCast_mul,-Int.natCast_add,-Int.natCast_ediv,-Int.natCast_emod,f1]; rfl
 refine rx (s:=?z14) [2,8,9,10,11,13,14,15,16] [] [] rfl ?p14 ?r14
 case p14=>simp [-binV,-Int.natCast_mul,-Int.natCast_add,-Int.natCast_ediv,-Int.natCast_emod,f2,f3]; rfl
 obtain ⟨r,hr⟩ : ∃ z,z = u3 - q * 4294967295:=⟨_,rfl⟩
 rw [← hr] at hst hr0 ⊢
 clear f1 f2 f3 hr hq hq0
 obtain ⟨Q,hQ⟩ : ∃ z,z = (u3 * 4294967296 + u1) / (4294967295 * 4294967296 + 4294967288):=⟨_,rfl⟩
 refine zat (ι:=Unit) (fun _=>⟨135,[(2,U 18446744073709551608),(8,U 3),(9,U 4294967295),(10,U 4294967288),(11,U u3),(13,U u1),(14,U u0),(15,U Q)],[],3000⟩) (fun _=>True) ?_ fun _ _=>?_
 ·refine zaf ?_
  refine zan (ι:=Nat × Nat) (fun i=>⟨135,[(2,U 18446744073709551608),(8,U 3),(9,U 4294967295),(10,U 4294967288),(11,U u3),(13,U u1),(14,U u0),(15,U i.1),(16,U i.2)],[],2000⟩)
   (fun i=>DigG 4294967296 4294967295 4294967288 u3 u1 i.1 i.2 ∧ i.2 < 4294967296 ∧ i.1 ≤ u3) (fun i=>i.1) (q,r) ⟨hst,hr0,hqs⟩ (LeH [] []) ?_
  rintro ⟨q,r⟩ ⟨hd,hrl,hql⟩
  clear hst hr0 hqs
  simp only at hd hrl hql
  have hcond : ∀ {b : Bool},(4294967296 ≤ q ∨ 4294967296 * r + u1 < q * 4294967288 ↔ b = true) → True:=fun _=>trivial
  refine zaa ?_
  refine zab ⟨135,[(2,U 18446744073709551608),(8,U 3),(9,U 4294967295),(10,U 4294967288),(11,U u3),(13,U u1),(14,U u0),(15,U q),(16,U r),(78,.B (decide (4294967296 ≤ q ∨ 4294967296 * r + u1 < q * 4294967288)))],[],2200⟩ rfl ?_ ?_
  ·by_cases hb : 4294967296 ≤ q
   ·have g0 : binV .geq (.int .u64 (q : Int)) (.int .u64 4294967296) = some (.bool true):=by simp; omega
    simp [-binV,-Int.natCast_mul,-Int.natCast_add,-Int.natCast_ediv,-Int.natCast_emod,g0]
    exact Le.go [] [] rfl rfl (by simp [hb]) (by simp)
   ·have g0 : binV .geq (.int .u64 (q : Int)) (.int .u64 4294967296) = some (.bool false):=by simp; omega
    obtain ⟨k1,k2,k3⟩:=zpv (q:=q) (y0:=4294967288) hrl hu1l (by omega) (by omega)
    have g1:=umul q 4294967288 k1
    have g2:=umul 4294967296 r k2
    have g3:=uadd (4294967296 * r) u1 k3
    have g4 : binV .gtr (.int .u64 ((q * 4294967288 : Nat) : Int)) (.int .u64 ((4294967296 * r + u1 : Nat) : Int)) = some (.bool (decide (4294967296 * r + u1 < q * 4294967288))):=by
     simp only [binV]
     simp
     omega
    have g1' : binV .mul (.int .u64 (q : Int)) (.int .u64 4294967288) = some (.int .u64 ((q * 4294967288 : Nat) : Int)):=g1
    have g2' : binV .mul (.int .u64 4294967296) (.int .u64 (r : Int)) = some (.int .u64 ((4294967296 * r : Nat) : Int)):=g2
    simp [-binV,-Int.natCast_mul,-Int.natCast_add,-Int.natCast_ediv,-Int.natCast_emod,g0,g1',g2',g3,g4]
    exact Le.go [] [] rfl rfl (by simp [hb]) (by simp)
  refine zad _ rfl (fun hc=>?_) fun hc=>?_
  ·rw [decide_eq_true_eq] at hc
   obtain ⟨hq1,hd2⟩:=hd.less (by omega) (by omega) htop hc
   have g1:=usub q 1 hq1 (by omega)
   have g2:=uadd r 4294967295 (by omega)
   have g1' : binV .sub (.int .u64 (q : Int)) (.int .u64 1) = some (.int .u64 ((q - 1 : Nat) : Int)):=g1
   have g2' : binV .add (.int .u64 (r : Int)) (.int .u64 4294967295) = some (.int .u64 ((r + 4294967295 : Nat) : Int)):=g2
   refine zae ?_
   refine zaf ?_
   refine rx (s:=?z15) [2,8,9,10,11,13,14,15,16] [] [] rfl ?p15 ?r15
   case p15=>simp [-binV,-Int.natCast_mul,-Int.natCast_add,-Int.natCast_ediv,-Int.natCast_emod,g1']; rfl
   refine rx (s:=?z16) [2,8,9,10,11,13,14,15,16] [] [] rfl ?p16 ?r16
   case p16=>simp [-binV,-Int.natCast_mul,-Int.natCast_add,-Int.natCast_ediv,-Int.natCast_emod,g2']; rfl
   have g3 : binV .geq (.int .u64 ((r + 4294967295 : Nat) : Int)) (.int .u64 4294967296) = some (.bool (decide (4294967296 ≤ r + 4294967295))):=by simp only [binV]; simp; omega
   refine rx (s:=?z17) [2,8,9,10,11,13,14,15,16,85] [] [] rfl ?p17 ?r17
   case p17=>simp [-binV,-Int.natCast_mul,-Int.natCast_add,-Int.natCast_ediv,-Int.natCast_emod,g3]; rfl
   refine zad _ rfl (fun hc2=>?_) fun hc2=>?_
   ·rw [decide_eq_true_eq] at hc2
    have hc2 : 4294967296 ≤ r + 4294967295:=by omega
    have hqQ:=hd2.big (by omega) (by omega) (zo2 hd2 hU3 hc2) (by omega) hc2
    rw [← hQ] at hqQ
    refine zak ?_
    refine miss (by decide) ?_
    refine hit ?_
    exact ⟨(),trivial,Le.go [] [] rfl rfl (by simp [← hqQ]) (by simp)⟩
   ·rw [decide_eq_false_iff_not] at hc2
    refine zae ?_
    exact ⟨(q - 1,r + 4294967295),⟨hd2,by omega,by simp only; omega⟩,by simp only; omega,LeH [] []⟩
  ·rw [decide_eq_false_iff_not] at hc
   have hqQ:=hd.fits (by omega) (by omega) (by omega)
   rw [← hQ] at hqQ
   subst hqQ
   refine zak ?_
   refine hit ?_
   exact ⟨(),trivial,LeH [] []⟩
 clear htop
 have hl1 : IntKind.u64.wrap (IntKind.u64.wrap (IntKind.u64.wrap ((u3 : Int) * 4294967296) + u1) - IntKind.u64.wrap ((Q : Int) * 18446744073709551608)) = (((u3 * 4294967296 + u1) % 18446744073709551608 : Nat) : Int):=zmG (Y:=18446744073709551608) (by omega) hQ (by omega)
 have hv : (u3 * 4294967296 + u1) % 18446744073709551608 < 18446744073709551608:=Nat.mod_lt _ (by omega)
 obtain ⟨v,hvd⟩ : ∃ z,z = (u3 * 4294967296 + u1) % 18446744073709551608:=⟨_,rfl⟩
 rw [← hvd] at hl1 hv
 have hend : Unit → (v * 4294967296 + u0) % 18446744073709551608 / 8 = (hi * 18446744073709551616 + lo) % 2305843009213693951:=fun x=>by rw [hvd]; exact hend x
 refine zab ⟨135,[(2,U 18446744073709551608),(8,U 3),(9,U 4294967295),(10,U 4294967288),(14,U u0),(15,U Q),(17,U v)],[],3200⟩ rfl ?_ ?_
 ·simp [hl1]
  exact LeH [] []
 clear hl1 hQ hvd hU3
 have htop2 : v * 4294967296 + u0 < (4294967295 * 4294967296 + 4294967288) * 4294967296:=by omega
 have hq0 : v / 4294967295 * 4294967295 ≤ v:=Nat.div_mul_le_self _ _
 have hr0 : v - v / 4294967295 * 4294967295 < 4294967296:=by omega
 have f1 : binV .quo (.int .u64 (v : Int)) (.int .u64 4294967295) = some (.int .u64 ((v / 4294967295 : Nat) : Int)):=uquo v 4294967295 (by omega) (by omega)
 have f2 : binV .mul (.int .u64 ((v / 4294967295 : Nat) : Int)) (.int .u64 4294967295) = some (.int .u64 ((v / 4294967295 * 4294967295 : Nat) : Int)):=by
  have h9:=umul (v / 4294967295) 4294967295 (Nat.lt_of_le_of_lt hq0 (by omega))
  exact h9
 have f3:=usub v (v / 4294967295 * 4294967295) (by omega) (by omega)
 have hst:=DigG.start (b:=4294967296) (y1:=4294967295) (y0:=4294967288) (u3:=v) (u1:=u0) (by omega) hu0l
 have hqs : v / 4294967295 ≤ v:=Nat.div_le_self _ _
 obtain ⟨q,hq⟩ : ∃ z,z = v / 4294967295:=⟨_,rfl⟩
 rw [← hq] at hq0 hr0 f1 f2 f3 hst hqs
 refine rx (s:=?z23) [2,8,9,10,14,15,17,18] [] [] rfl ?p23 ?r23
 case p23=>simp [-binV,-Int.natCast_mul,-Int.natCast_add,-Int.natCast_ediv,-Int.natCast_emod,f1]; rfl
 refine rx (s:=?z24) [2,8,9,10,14,15,17,18,16] [] [] rfl ?p24 ?r24
 case p24=>simp [-binV,-Int.natCast_mul,-Int.natCast_add,-Int.natCast_ediv,-Int.natCast_emod,f2,f3]; rfl
 obtain ⟨r,hr⟩ : ∃ z,z = v - q * 4294967295:=⟨_,rfl⟩
 rw [← hr] at hst hr0 ⊢
 clear f1 f2 f3 hr hq hq0
 obtain ⟨Q2,hQ2⟩ : ∃ z,z = (v * 4294967296 + u0) / (4294967295 * 4294967296 + 4294967288):=⟨_,rfl⟩
 refine zat (ι:=Unit) (fun _=>⟨135,[(2,U 18446744073709551608),(8,U 3),(14,U u0),(15,U Q),(17,U v),(18,U Q2)],[],6000⟩) (fun _=>True) ?_ fun _ _=>?_
 ·refine zaf ?_
  refine zan (ι:=Nat × Nat) (fun i=>⟨135,[(2,U 18446744073709551608),(8,U 3),(9,U 4294967295),(10,U 4294967288),(14,U u0),(15,U Q),(17,U v),(18,U i.1),(16,U i.2)],[],2000⟩)
   (fun i=>DigG 4294967296 4294967295 4294967288 v u0 i.1 i.2 ∧ i.2 < 4294967296 ∧ i.1 ≤ v) (fun i=>i.1) (q,r) ⟨hst,hr0,hqs⟩ (LeH [] []) ?_
  rintro ⟨q,r⟩ ⟨hd,hrl,hql⟩
  clear hst hr0 hqs
  simp only at hd hrl hql
  have hcond : ∀ {b : Bool},(4294967296 ≤ q ∨ 4294967296 * r + u0 < q * 4294967288 ↔ b = true) → True:=fun _=>trivial
  refine zaa ?_
  refine zab ⟨135,[(2,U 18446744073709551608),(8,U 3),(9,U 4294967295),(10,U 4294967288),(14,U u0),(15,U Q),(17,U v),(18,U q),(16,U r),(113,.B (decide (4294967296 ≤ q ∨ 4294967296 * r + u0 < q * 4294967288)))],[],2200⟩ rfl ?_ ?_
  ·by_cases hb : 4294967296 ≤ q
   ·have g0 : binV .geq (.int .u64 (q : Int)) (.int .u64 4294967296) = some (.bool true):=by simp; omega
    simp [-binV,-Int.natCast_mul,-Int.natCast_add,-Int.natCast_ediv,-Int.natCast_emod,g0]
    exact Le.go [] [] rfl rfl (by simp [hb]) (by simp)
   ·have g0 : binV .geq (.int .u64 (q : Int)) (.int .u64 4294967296) = some (.bool false):=by simp; omega
    obtain ⟨k1,k2,k3⟩:=zpv (q:=q) (y0:=4294967288) hrl hu0l (by omega) (by omega)
    have g1:=umul q 4294967288 k1
    have g2:=umul 4294967296 r k2
    have g3:=uadd (4294967296 * r) u0 k3
    have g4 : binV .gtr (.int .u64 ((q * 4294967288 : Nat) : Int)) (.int .u64 ((4294967296 * r + u0 : Nat) : Int)) = some (.bool (decide (4294967296 * r + u0 < q * 4294967288))):=by
     simp only [binV]
     simp
     omega
    have g1' : binV .mul (.int .u64 (q : Int)) (.int .u64 4294967288) = some (.int .u64 ((q * 4294967288 : Nat) : Int)):=g1
    have g2' : binV .mul (.int .u64 4294967296) (.int .u64 (r : Int)) = some (.int .u64 ((4294967296 * r : Nat) : Int)):=g2
    simp [-binV,-Int.natCast_mul,-Int.natCast_add,-Int.natCast_ediv,-Int.natCast_emod,g0,g1',g2',g3,g4]
    exact Le.go [] [] rfl rfl (by simp [hb]) (by simp)
  refine zad _ rfl (fun hc=>?_) fun hc=>?_
  ·rw [decide_eq_true_eq] at hc
   obtain ⟨hq1,hd2⟩:=hd.less (by omega) (by omega) htop2 hc
   have g1:=usub q 1 hq1 (by omega)
   have g2:=uadd r 4294967295 (by omega)
   have g1' : binV .sub (.int .u64 (q : Int)) (.int .u64 1) = some (.int .u64 ((q - 1 : Nat) : Int)):=g1
   have g2' : binV .add (.int .u64 (r : Int)) (.int .u64 4294967295) = some (.int .u64 ((r + 4294967295 : Nat) : Int)):=g2
   refine zae ?_
   refine zaf ?_
   refine rx (s:=?z35) [2,8,9,10,14,15,16,17,18] [] [] rfl ?p35 ?r35
   case p35=>simp [-binV,-Int.natCast_mul,-Int.natCast_add,-Int.natCast_ediv,-Int.natCast_emod,g1']; rfl
   refine rx (s:=?z36) [2,8,9,10,14,15,16,17,18] [] [] rfl ?p36 ?r36
   case p36=>simp [-binV,-Int.natCast_mul,-Int.natCast_add,-Int.natCast_ediv,-Int.natCast_emod,g2']; rfl
   have g3 : binV .geq (.int .u64 ((r + 4294967295 : Nat) : Int)) (.int .u64 4294967296) = some (.bool (decide (4294967296 ≤ r + 4294967295))):=by simp only [binV]; simp; omega
   refine rx (s:=?z37) [2,8,9,10,14,15,16,17,18,120] [] [] rfl ?p37 ?r37
   case p37=>simp [-binV,-Int.natCast_mul,-Int.natCast_add,-Int.natCast_ediv,-Int.natCast_emod,g3]; rfl
   refine zad _ rfl (fun hc2=>?_) fun hc2=>?_
   ·rw [decide_eq_true_eq] at hc2
    have hc2 : 4294967296 ≤ r + 4294967295:=by omega
    have hqQ:=hd2.big (by omega) (by omega) (zo2 hd2 hv hc2) (by omega) hc2
    rw [← hQ2] at hqQ
    refine zak ?_
    refine miss (by decide) ?_
    refine hit ?_
    exact ⟨(),trivial,Le.go [] [] rfl rfl (by simp [← hqQ]) (by simp)⟩
   ·rw [decide_eq_false_iff_not] at hc2
    refine zae ?_
    exact ⟨(q - 1,r + 4294967295),⟨hd2,by omega,by simp only; omega⟩,by simp only; omega,LeH [] []⟩
  ·rw [decide_eq_false_iff_not] at hc
   have hqQ:=hd.fits (by omega) (by omega) (by omega)
   rw [← hQ2] at hqQ
   subst hqQ
   refine zak ?_
   refine hit ?_
   exact ⟨(),trivial,LeH [] []⟩
 have hl2 : IntKind.u64.wrap (IntKind.u64.wrap (IntKind.u64.wrap ((v : Int) * 4294967296) + u0) - IntKind.u64.wrap ((Q2 : Int) * 18446744073709551608)) = (((v * 4294967296 + u0) % 18446744073709551608 : Nat) : Int):=zmG (Y:=18446744073709551608) (by omega) hQ2 (by omega)
 have m1 : ∀ a b : Int,binV .mul (.int .u64 a) (.int .u64 b) = some (.int .u64 (IntKind.u64.wrap (a * b))):=fun _ _=>rfl
 have m2 : ∀ a b : Int,binV .add (.int .u64 a) (.int .u64 b) = some (.int .u64 (IntKind.u64.wrap (a + b))):=fun _ _=>rfl
 have m3 : ∀ a b : Int,binV .sub (.int .u64 a) (.int .u64 b) = some (.int .u64 (IntKind.u64.wrap (a - b))):=fun _ _=>rfl
 have m4 : binV .shr (.int .u64 (((v * 4294967296 + u0) % 18446744073709551608 : Nat) : Int)) (.int .u64 3) = some (.int .u64 (((v * 4294967296 + u0) % 18446744073709551608 / 8 : Nat) : Int)):=ushr _ 3 (by omega)
 rw [hend ()] at m4
 refine rx (s:=?z40) [7] [] [] rfl ?p40 ?r40
 case p40=>simp [-binV,-Int.natCast_mul,-Int.natCast_add,-Int.natCast_ediv,-Int.natCast_emod,m1,m2,m3,hl2,m4]; rfl
 refine zag ?_
 exact ⟨.inr rfl,zam.out [] [] rfl (by simp) (by simp) (by simp [conv]) (by simp)⟩
theorem zhb (a b : Nat) (ha : a < P61) (hb : b < P61) : zaj Tryz.prog zaN [U a,U b] [] (U ((a * b % P61 : Nat) : Int)) []:=by
 refine zgy.acalls (nbz rfl) (nbz rfl) (Nat.le_refl _) ?_
 show awp _ 0 _ _ ⟨22,[(0,U a),(1,U b)],[],16⟩
 have hp : P61 = 2305843009213693951:=rfl
 rw [hp] at ha hb ⊢
 have hm:=zoS a b (by omega) (by omega)
 have hh : a * b / 18446744073709551616 < 2305843009213693951:=by
  rw [Nat.div_lt_iff_lt_mul (by omega)]
  have h1 : a * b ≤ a * 2305843009213693951:=Nat.mul_le_mul_left a (by omega)
  have h2 : a * 2305843009213693951 ≤ 2305843009213693951 * 2305843009213693951:=Nat.mul_le_mul_right _ (by omega)
  omega
 have hd:=zqS (a * b / 18446744073709551616) (a * b % 18446744073709551616) hh (Nat.mod_lt _ (by omega))
 rw [Nat.mul_comm (a * b / 18446744073709551616),Nat.div_add_mod] at hd
 obtain ⟨m,hmm⟩ : ∃ m,m = a * b:=⟨_,rfl⟩
 rw [← hmm] at hm hd ⊢
 refine rx (s:=?z1) [0,1] [] [] rfl ?p1 ?r1
 case p1=>simp; rfl
 refine rx (s:=?z2) [5,6] [] [] rfl ?p2 ?r2
 case p2=>simp; refine zal hm (by simp) ?_; simp; rfl
 refine rx (s:=?z3) [8] [] [] rfl ?p3 ?r3
 case p3=>simp; refine zal hd (by simp) ?_; simp; rfl
 refine rx (s:=?z4) [4] [] [] rfl ?p4 ?r4
 case p4=>simp; rfl
 refine zag ?_
 exact ⟨.inr rfl,zam.one (by simp)⟩
set_option maxRecDepth 100000 in
theorem znI (a : Nat) (ha : a < P61) : zaj Tryz.prog zb5 [U a] [] (U ((a ^ (P61 - 2) % P61 : Nat) : Int)) []:=by
 refine zfh.acalls (nbz rfl) (nbz rfl) (Nat.le_refl _) ?_
 show awp _ 0 _ _ ⟨19,[(0,U a)],[],16⟩
 obtain ⟨P,hP⟩ : ∃ P,P = P61:=⟨_,rfl⟩
 obtain ⟨E,hE⟩ : ∃ E,E = P61 - 2:=⟨_,rfl⟩
 have hE2 : E = 2305843009213693949:=hE
 have hP2 : P = 2305843009213693951:=hP
 have ht : ∀ x y : Nat,x < P → y < P → zaj Tryz.prog zaN [U x,U y] [] (U ((x * y % P : Nat) : Int)) []:=fun x y hx hy=>by rw [hP] at *; exact zhb x y hx hy
 rw [← hE,← hP]
 rw [← hP] at ha
 clear hE hP
 refine rx (s:=?z1) [0] [] [] rfl ?p1 ?r1
 case p1=>simp; rfl
 refine rx (s:=?z2) [0,3] [] [] rfl ?p2 ?r2
 case p2=>simp; rfl
 refine zaa ?_
 refine rx (s:=?z3) [0,3,4] [] [] rfl ?p3 ?r3
 case p3=>simp; rfl
 refine zaf ?_
 refine zan (ι:=Nat × Nat × Nat) (fun i=>⟨19,[(0,U (i.1 : Int)),(3,U (i.2.1 : Int)),(4,U (i.2.2 : Int))],[],300⟩) (fun i=>i.1 < P ∧ i.2.1 < P ∧ i.2.2 ≤ E ∧ i.2.1 * i.1 ^ i.2.2 % P = a ^ E % P) (fun i=>i.2.2) (a,1,E) ⟨ha,by simp only; omega,Nat.le_refl _,by simp⟩ (Le.go [] [] rfl rfl (by simp [hE2]) (by simp)) ?_
 rintro ⟨x,o,n⟩ ⟨hx,ho,hn,hv⟩
 simp only at hx ho hn hv
 refine zaa ?_
 refine rx (s:=?z4) [0,3,4,6] [] [] rfl ?p4 ?r4
 case p4=>simp; rfl
 refine zad _ rfl (fun hc=>?_) fun hc=>?_
 ·simp at hc
  have f1:=zuu n (by omega)
  have f2 : binV .shr (.int .u64 (n : Int)) (.int .u64 1) = some (.int .u64 ((n / 2 : Nat) : Int)):=ushr n 1 (by omega)
  have f3 : ∀ k : Nat,binV .eql (.int .u64 (k : Int)) (.int .u64 1) = some (.bool (decide (k = 1))):=fun k=>by
   show some (Value.bool ((k : Int) == 1)) = _
   by_cases hk : k = 1
   ·subst hk; rfl
   ·have h2 : ¬ (k : Int) = 1:=by omega
    simp [hk,h2]
  have hturn:=zrk P x n o
  rw [hv] at hturn
  obtain ⟨o2,ho2⟩ : ∃ o2,o2 = if n % 2 = 1 then o * x % P else o:=⟨_,rfl⟩
  rw [← ho2] at hturn
  have hP0 : 0 < P:=by omega
  have ho2l : o2 < P:=by
   rw [ho2]
   split
   ·exact Nat.mod_lt _ hP0
   ·exact ho
  refine zae ?_
  refine zaa ?_
  refine zaf ?_
  refine zat (ι:=Unit) (fun _=>⟨19,[(0,U x),(3,U o2),(4,U n)],[],500⟩) (fun _=>True) ?_ fun _ _=>?_
  ·refine rx (s:=?z5) [0,3,4,11] [] [] rfl ?p5 ?r5
   case p5=>simp [-binV,-Int.natCast_mul,-Int.natCast_add,-Int.natCast_ediv,-Int.natCast_emod,f1,f3]; rfl
   refine zad _ rfl (fun hb=>?_) fun hb=>?_
   ·rw [decide_eq_true_eq] at hb
    rw [if_pos hb] at ho2
    have hto:=ht o x ho hx
    rw [← ho2] at hto
    refine zac (s:=?z6) rfl ?p6 ?r6
    case p6=>simp; refine zal hto (by simp) ?_; simp; rfl
    exact ⟨(),trivial,LeH [] []⟩
   ·rw [decide_eq_false_iff_not] at hb
    rw [if_neg hb] at ho2
    subst ho2
    refine zae ?_
    exact ⟨(),trivial,LeH [] []⟩
  have htx:=ht x x hx hx
  have hx2 : x * x % P < P:=Nat.mod_lt _ hP0
  obtain ⟨x2,hxd⟩ : ∃ x2,x2 = x * x % P:=⟨_,rfl⟩
  rw [← hxd] at htx hx2 hturn
  refine zac (s:=?z7) rfl ?p7 ?r7
  case p7=>simp; refine zal htx (by simp) ?_; simp; rfl
  refine zac (s:=?z8) rfl ?p8 ?r8
  case p8=>simp [-binV,-Int.natCast_mul,-Int.natCast_add,-Int.natCast_ediv,-Int.natCast_emod,f2]; rfl
  exact ⟨(x2,o2,n / 2),⟨hx2,ho2l,by simp only; omega,hturn⟩,by simp only; omega,LeH [] []⟩
 ·simp at hc
  subst hc
  have hov : o = a ^ E % P:=by
   rw [Nat.pow_zero,Nat.mul_one,Nat.mod_eq_of_lt ho] at hv
   exact hv
  rw [← hov]
  refine zak ?_
  refine hit ?_
  refine rx (s:=?z9) [2] [] [] rfl ?p9 ?r9
  case p9=>simp; rfl
  refine zag ?_
  exact ⟨.inr rfl,zam.one (by simp)⟩
def cntS (r i : Nat) : Nat:=if i ≤ r then i else i - 1
theorem zcK (r : Nat) : cntS r 0 = 0:=by simp [cntS]
theorem zfx (r : Nat) : cntS r (r + 1) = cntS r r:=by simp [cntS]
theorem zfF {r i : Nat} (h : i ≠ r) : cntS r (i + 1) = cntS r i + 1:=by unfold cntS; split <;> split <;> omega
theorem ze2 {r i : Nat} (h : i ≠ r) : skp r (cntS r i) = i:=by unfold cntS skp; split <;> split <;> omega
theorem zhh {r N : Nat} (h : r < N + 1) : cntS r (N + 1) = N:=by unfold cntS; split <;> omega
theorem zjy {r i N : Nat} (h : i ≠ r) (hr : r < N + 1) (hi : i < N + 1) : cntS r i < N:=by unfold cntS; split <;> omega
theorem zmL {r i j : Nat} (hi : i ≠ r) (hj : j ≠ r) : cntS r i = cntS r j ↔ i = j:=by unfold cntS; split <;> split <;> omega
def b0 (W : Mat) (N r a c : Nat) : Nat:=(redM W N r a c % 2305843009213693951).toNat
theorem zuL (W : Mat) (N r a c : Nat) : b0 W N r a c < 2305843009213693951:=by
 unfold b0
 have h1:=Int.emod_nonneg (redM W N r a c) (show (2305843009213693951 : Int) ≠ 0 by decide)
 have h2:=Int.emod_lt_of_pos (redM W N r a c) (show (0 : Int) < 2305843009213693951 by decide)
 omega
theorem zuN (W : Mat) (N r a c : Nat) : Cg 2305843009213693951 (b0 W N r a c : Int) (redM W N r a c):=by
 unfold b0
 have h1:=Int.emod_nonneg (redM W N r a c) (show (2305843009213693951 : Int) ≠ 0 by decide)
 rw [Int.toNat_of_nonneg h1]
 exact Cg.emod _
theorem zr1 {W : Mat} {N r i : Nat} (hi : i ≠ r) {m w : Int} (hm : m = smN (N + 1) (W i)) (hw : w = W i i) (h0 : 0 ≤ m - w) (h1 : m - w < 2305843009213693951) : ((b0 W N r (cntS r i) (cntS r i) : Nat) : Int) = m - w:=by
 unfold b0 redM
 rw [if_pos rfl,ze2 hi,← hm,← hw,Int.emod_eq_of_lt h0 h1]
 omega
theorem zs8 {W : Mat} {N r i c : Nat} (hi : i ≠ r) (hc : c ≠ r) (hic : i ≠ c) {w : Int} (hw : w = W i c) (h0 : 0 ≤ w) (h1 : w ≤ 8) : ((b0 W N r (cntS r i) (cntS r c) : Nat) : Int) = (2305843009213693951 - w) % 2305843009213693951:=by
 unfold b0 redM
 rw [if_neg (fun h=>hic ((zmL hi hc).1 h)),ze2 hi,ze2 hc,← hw]
 omega
def newB (P k inv : Nat) (B : Nat → Nat → Nat) (a c : Nat) : Nat:=if k < a ∧ k ≤ c then (B a c + P - (B a k * inv % P) * B k c % P) % P else B a c
def midB (P k inv : Nat) (B : Nat → Nat → Nat) (i j a c : Nat) : Nat:=if a < i ∨ a = i ∧ c < j then newB P k inv B a c else B a c
section
variable {P k inv i j a c N : Nat} {B : Nat → Nat → Nat}
theorem zsb (h : a ≤ k) : midB P k inv B i j a c = B a c:=by
 unfold midB newB
 split
 ·rw [if_neg (by omega)]
 ·rfl
theorem zpa : midB P k inv B (k + 1) k = B:=by
 funext a c
 unfold midB newB
 split
 ·rw [if_neg (by omega)]
 ·rfl
theorem zqM (h : c < N) : midB P k inv B i N a c = midB P k inv B (i + 1) k a c:=by
 unfold midB
 by_cases h1 : a < i ∨ a = i ∧ c < N
 ·have h2 : a < i + 1 ∨ a = i + 1 ∧ c < k:=by omega
  rw [if_pos h1,if_pos h2]
 ·rw [if_neg h1]
  by_cases h2 : a < i + 1 ∨ a = i + 1 ∧ c < k
  ·rw [if_pos h2]
   unfold newB
   rw [if_neg (by omega)]
  ·rw [if_neg h2]
theorem zr7 (h : a < N) : midB P k inv B N k a c = newB P k inv B a c:=by
 unfold midB
 rw [if_pos (.inl h)]
theorem zg8 (hk : k < i) (hj : k ≤ j) : midB P k inv B i j i c = if c < j then newB P k inv B i c else B i c:=by
 unfold midB
 by_cases h : c < j
 ·rw [if_pos (.inr ⟨rfl,h⟩),if_pos h]
 ·rw [if_neg (by omega),if_neg h]
theorem zsF (hk : k < i) : midB P k inv B i k i k = B i k:=by rw [zg8 hk (Nat.le_refl k),if_neg (by omega)]
theorem zsz (hk : k < i) (hj : k ≤ j) : midB P k inv B i j i j = B i j:=by rw [zg8 hk hj,if_neg (by omega)]
theorem zqT (hk : k < i) (hj : k ≤ j) : midB P k inv B i (j + 1) i c = if c = j then (B i j + P - (B i k * inv % P) * B k j % P) % P else midB P k inv B i j i c:=by
 rw [zg8 hk (by omega),zg8 hk hj]
 by_cases h : c = j
 ·subst h
  rw [if_pos (by omega),if_pos rfl]
  unfold newB
  rw [if_pos ⟨hk,hj⟩]
 ·rw [if_neg h]
  by_cases h2 : c < j
  ·rw [if_pos h2,if_pos (by omega)]
  ·rw [if_neg h2,if_neg (by omega)]
theorem zpt (h : a ≠ i) : midB P k inv B i (j + 1) a c = midB P k inv B i j a c:=by
 unfold midB
 by_cases h2 : a < i
 ·rw [if_pos (.inl h2),if_pos (.inl h2)]
 ·rw [if_neg (by omega),if_neg (by omega)]
theorem zte (hP : 0 < P) (h : B a c < P) : newB P k inv B a c < P:=by
 unfold newB
 split
 ·exact Nat.mod_lt _ hP
 ·exact h
theorem ztF (hP : 0 < P) (hk : k < a) (hc : k ≤ c) (hB : B a c < P) : Cg (P : Int) (newB P k inv B a c : Int) (B a c - B a k * inv * B k c):=by
 unfold newB
 rw [if_pos ⟨hk,hc⟩]
 have h1 : (B a k * inv % P) * B k c % P < P:=Nat.mod_lt _ hP
 have e : (((B a c + P - (B a k * inv % P) * B k c % P) % P : Nat) : Int) = ((B a c : Int) + P - (((B a k : Int) * inv % P) * B k c) % P) % P:=by
  rw [Int.natCast_emod,Int.natCast_sub (by omega),Int.natCast_add,Int.natCast_emod,Int.natCast_mul,Int.natCast_emod,Int.natCast_mul]
 rw [e]
 have h2 : Cg (P : Int) ((((B a k : Int) * inv % P) * B k c) % P) (B a k * inv * B k c):=(Cg.emod _).trans ((Cg.emod _).mul (.refl _))
 have h3 : Cg (P : Int) ((B a c : Int) + P) (B a c):=⟨1,by omega⟩
 exact (Cg.emod _).trans (h3.sub h2)
end
structure zh9 (A : Mat) (N k o : Nat) (B : Nat → Nat → Nat) : Prop where
 le : k ≤ N
 lt : ∀ i j,B i j < 2305843009213693951
 olt : o < 2305843009213693951
 el : Elim 2305843009213693951 A k o fun i j=>(B (i + k) (j + k) : Int)
theorem zh9.start (W : Mat) (N r : Nat) : zh9 (redM W N r) N 0 1 (b0 W N r):=⟨Nat.zero_le _,fun i j=>zuL ..,by omega,⟨fun m=>by
 rw [Nat.zero_add]
 refine (zj8 (fun i j=>(zuN W N r i j).symm) m).trans ?_
 have:=Cg.refl (p:=2305843009213693951) (detM m fun i j=>(b0 W N r i j : Int))
 simpa using this⟩⟩
theorem zh9.piv {A : Mat} {N k o : Nat} {B : Nat → Nat → Nat} (h : zh9 A N k o B) (hA : MM N A) (hk : k < N) (hp : (zdk (k + 1) fun i=>A i i) ≤ 722204136308736) : 0 < B k k:=by
 have h1:=h.el.piv hA hk (Int.lt_of_le_of_lt hp (by decide))
 rcases Nat.eq_zero_or_pos (B k k) with h0 | h0
 ·exfalso
  apply h1
  show Cg _ ((B (0 + k) (0 + k) : Nat) : Int) 0
  rw [Nat.zero_add,h0]
  exact .refl _
 ·exact h0
theorem zh9.next {A : Mat} {N k o inv : Nat} {B : Nat → Nat → Nat} (h : zh9 A N k o B) (hk : k < N) (hi : B k k * inv % 2305843009213693951 = 1) : zh9 A N (k + 1) (o * B k k % 2305843009213693951) (newB 2305843009213693951 k inv B):=by
 refine ⟨hk,fun i j=>zte (by omega) (h.lt i j),Nat.mod_lt _ (by omega),?_⟩
 refine h.el.next (inv:=(inv : Int)) ?_ (fun i j=>?_) ?_
 ·show Cg _ (((B (0 + k) (0 + k) : Nat) : Int) * inv) 1
  rw [Nat.zero_add]
  have e : (((B k k * inv % 2305843009213693951 : Nat)) : Int) = 1:=by rw [hi]; rfl
  rw [Int.natCast_emod,Int.natCast_mul] at e
  have h1:=Cg.emod (p:=((2305843009213693951 : Nat) : Int)) ((B k k : Int) * inv)
  rw [e] at h1
  exact h1.symm
 ·have h1:=ztF (P:=2305843009213693951) (k:=k) (inv:=inv) (B:=B) (a:=i + (k + 1)) (c:=j + (k + 1)) (by omega) (by omega) (by omega) (h.lt _ _)
  show Cg _ _ (((B (i + 1 + k) (j + 1 + k) : Nat) : Int) - ((B (i + 1 + k) (0 + k) : Nat) : Int) * inv * ((B (0 + k) (j + 1 + k) : Nat) : Int))
  rw [Nat.zero_add,show i + 1 + k = i + (k + 1) by omega,show j + 1 + k = j + (k + 1) by omega]
  exact h1
 ·show Cg _ _ ((o : Int) * ((B (0 + k) (0 + k) : Nat) : Int))
  rw [Nat.zero_add,Int.natCast_emod,Int.natCast_mul]
  exact Cg.emod _
theorem zh9.done {A : Mat} {N o : Nat} {B : Nat → Nat → Nat} (h : zh9 A N N o B) (hA : MM N A) (hp : (zdk N fun i=>A i i) ≤ 722204136308736) : (o : Int) = detM N A :=
 h.el.done hA (Int.lt_of_le_of_lt hp (by decide)) (by omega) (by have:=h.olt; omega)
theorem zqd {x t : Nat} (hx : x < 2305843009213693951) (ht : t < 2305843009213693951) : (IntKind.u64.wrap (IntKind.u64.wrap ((x : Int) + 2305843009213693951) - t)).tmod 2305843009213693951 = (((x + 2305843009213693951 - t) % 2305843009213693951 : Nat) : Int):=by
 have h1 : IntKind.u64.wrap ((x : Int) + 2305843009213693951) = ((x + 2305843009213693951 : Nat) : Int):=unw (by omega) (by omega)
 have h2 : IntKind.u64.wrap (((x + 2305843009213693951 : Nat) : Int) - t) = ((x + 2305843009213693951 - t : Nat) : Int):=unw (by omega) (by omega)
 rw [h1,h2,Int.tmod_eq_emod_of_nonneg (by omega)]
 omega
end Go.Proofs.YtfdbhehkkobfgaaGreat
