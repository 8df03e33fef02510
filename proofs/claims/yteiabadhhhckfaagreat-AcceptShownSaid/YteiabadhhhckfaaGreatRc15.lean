/- Texts of this claim,merged. -/
import Derived.Test.YteiabadhhhckfaaGreatRc14
import Derived.Test.YteiabadhhhckfaaGreatRc9
import Derived.Test.YteiabadhhhckfaaGreatRc7
set_option linter.unusedSimpArgs false
set_option linter.unusedVariables false
set_option linter.unusedSectionVars false
namespace Go.Proofs.YteiabadhhhckfaaGreat
open Go
theorem zkA (g : Gr) (p : Pol) : ∀ (n : Nat) (o : List Int),o.length = n → (refR g p o).length ≤ n
 | 0,o,h=>by
   obtain rfl:=List.eq_nil_of_length_eq_zero h
   exact Nat.le_refl _
 | n + 1,o,h=>by
   have hne : o ≠ []:=fun e=>by rw [e] at h; cases h
   rw [← List.dropLast_concat_getLast hne]
   have ih:=zkA g p n o.dropLast (by rw [List.length_dropLast,h]; rfl)
   by_cases hc : zap g p (zar (accR g p o.dropLast ++ [o.getLast hne]))
   ·rw [zdo hc]; omega
   ·rw [zeO hc,List.length_append,List.length_singleton]; omega
theorem zix (N : Nat) (A : List Ed) : (zdf N A).length ≤ N:=by
 unfold zdf
 exact Nat.le_trans (List.length_filter_le ..) (by simp)
set_option maxRecDepth 100000 in
set_option maxHeartbeats 8000000 in
theorem zfv (g : Gr) (p : Pol) (hg : GrOk g) (hp : zaZ g.size p) (hs : p.seeds.length ≤ 64) (hN : g.size < 20) :
  ∃ f : List Int,zmT g p (zar (accR g p (ordL (zai g p.lv) p.seeds))) f ∧
    zaj Tryz.prog zdI [eG g,eP p] [] (.tup [eAcc (accR g p (ordL (zai g p.lv) p.seeds)) f (refR g p (ordL (zai g p.lv) p.seeds)),.I 0]) []:=by
 have hsz:=hg.1.1
 have hsz2:=hg.1.2.1
 have hel:=hg.edges_le
 have hgl:=hg.gone_le
 have hchk:=zbV g p (by omega) (by omega) (by omega) (by have:=hp.2.2.2.1; omega)
 rw [if_pos hg,if_pos hp] at hchk
 have hord:=zfj g p hg hN (by omega)
 obtain ⟨o,ho⟩ : ∃ o,o = ordL (zai g p.lv) p.seeds:=⟨_,rfl⟩
 have hor : ∀ k ∈ o,0 ≤ k ∧ k < g.size:=fun k hk=>by rw [ho] at hk; have h:=zcN hk; exact h
 have hon : o.Nodup:=by rw [ho]; exact zbu _ _
 rw [← ho] at hord ⊢
 have hol : o.length ≤ 64:=by
  have:=zbk (b:=(List.range g.size.toNat).map fun i : Nat=>(i : Int)) hon fun x hx=>by
   have:=hor x hx
   exact List.mem_map.2 ⟨x.toNat,List.mem_range.2 (by omega),by omega⟩
  simp at this
  omega
 have h64 : ∀ a : List Int,(∀ x ∈ a,0 ≤ x ∧ x < g.size) → ∀ x ∈ a,0 ≤ x ∧ x < 64:=fun a h x hx=>by have:=h x hx; omega
 have hnv : ∀ a : List Int,(∀ x ∈ a,0 ≤ x ∧ x < g.size) → za4 ⟨netN g,netA g p (zar a)⟩:=fun a h=>zd3 hg hp (zeb (zbE h)) hs (zbw a)
 have hserve : ∀ a : List Int,a.Nodup → (∀ x ∈ a,0 ≤ x ∧ x < g.size) → ∃ f,zmT g p (zar a) f ∧ zaj Tryz.prog zbZ [eN ⟨netN g,netA g p (zar a)⟩,.I (a.length : Nat)] [] (.tup [.rs 0 0 (netA g p (zar a)).length,.B (@decide (zap g p (zar a)) (Classical.propDecidable _))]) [some ⟨1,zah f,0⟩]:=fun a h1 h2=>by
  obtain ⟨f,hf,hc⟩:=zfW _ _ (a.length : Nat) (hnv a h2)
  have hmf:=zgd hf.1 hf.2
  refine ⟨f,⟨hf.1,hf.2,hmf.symm⟩,?_⟩
  have hjl:=zfM h1 (h64 a h2)
  have : decide (valF (netA g p (zar a)) f = (a.length : Nat)) = @decide (zap g p (zar a)) (Classical.propDecidable _):=by
   rw [decide_eq_decide]
   unfold zap
   rw [hmf,hjl]
  rw [this] at hc
  exact hc
 have haccn : ∀ i,(accR g p (o.take i)).Nodup:=fun i=>(hon.sublist ((zdm _ _ rfl).trans (List.take_sublist _ _)))
 have haccr : ∀ i,∀ x ∈ accR g p (o.take i),0 ≤ x ∧ x < g.size:=fun i x hx=>hor x (List.mem_of_mem_take (zcz hx))
 obtain ⟨f,hf,hlast⟩:=hserve (accR g p o) (by have:=haccn o.length; rwa [List.take_length] at this) (by have:=haccr o.length; rwa [List.take_length] at this)
 refine ⟨f,hf,?_⟩
 have hnl:=zbv g p (accR g p o) hg hp (by have:=haccn o.length; rwa [List.take_length] at this) (by have:=haccr o.length; rwa [List.take_length] at this) hs
 have hlf:=hf.ok.fit.len
 refine znT.acalls (Nat.le_of_ble_eq_true rfl) (Nat.le_of_ble_eq_true rfl) (Nat.zero_le _) ?_
 show awp _ 0 _ _ ⟨72,[(0,eG g),(1,eP p)],[],16⟩
 refine rx (s:=?s1) [2,3,4] [32] [16,24] rfl ?o1 ?q1
 case o1=>simp; rfl
 refine zaa ?_
 refine rx (s:=?s2) [2,3,4,6] [32] [] rfl ?o2 ?q2
 case o2=>simp; refine zal hchk (by simp) ?_; simp; rfl
 refine rx (s:=?s3) [2,3,4,18] [32] [] rfl ?o3 ?q3
 case o3=>simp; rfl
 refine zad _ rfl (fun h=>by cases h) fun _=>?_
 refine zae ?_
 refine zab ⟨72,[(2,.pv (gC g)),(3,.pv (pC p)),(4,.pt 32 0 0),(7,.pt 40 0 0)],[(32,some ⟨3,[[.nilS,.nilS,.nilS]],0⟩),(40,some ⟨3,[[.nilS,.nilS,.nilS]],0⟩)],200⟩ rfl ?_ ?_
 ·simp
  exact Le.go [(32,32),(96,40)] [] rfl rfl (by simp) (by simp)
 refine zaa ?_
 refine zab ⟨72,[(2,.pv (gC g)),(3,.pv (pC p)),(4,.pt 32 0 0),(7,.pt 40 0 0),(23,ints o),(24,.I o.length),(25,.I 0)],[(32,some ⟨3,[[.nilS,.nilS,.nilS]],0⟩),(40,some ⟨3,[[.nilS,.nilS,.nilS]],0⟩)],400⟩ rfl ?_ ?_
 ·simp
  refine za1 hord (by simp) ?_
  simp
  exact Le.go [(32,32),(40,40)] [216] rfl rfl (by simp [fcd,zaq]) (by simp)
 refine zaf ?_
 have hR0 : refR g p [] = []:=rfl
 refine zao (ι:=Nat) (fun i=>⟨72,[(2,.pv (gC g)),(3,.pv (pC p)),(4,.pt 32 0 0),(7,.pt 40 0 0),(23,ints o),(24,.I o.length),(25,.I i)],
   [(32,some ⟨3,[[.nilS,.nilS,.nilS]],0⟩),(40,some ⟨3,[[ints (accR g p (o.take i)),.nilS,.rs 42 0 (refR g p (o.take i)).length]],0⟩),(42,some ⟨2,zaJ (refR g p (o.take i)),0⟩)],500⟩)
  (fun i=>i ≤ o.length) (fun i=>o.length - i) 0 (Nat.zero_le _)
  (Le.lst [(32,32),(40,40)] [] [(42,2)] rfl (by simp) (by simp) (by simp) (by simp) (by simp) (by simp) (by simp) (by simp [Up]) (by simp [zkP,hR0,fcd]; exact ⟨zaG.rfl' (by simp),zaG.row rfl (by omega) (by simp [UpL,Up,Wk.refl]; exact Wk.nil _ _)⟩)) ?_
 intro i hi
 have haN:=haccn i
 have haR:=haccr i
 have hal : (accR g p (o.take i)).length ≤ 64:=Nat.le_trans (zoe _) (Nat.le_trans (List.length_take_le' i o) hol)
 have hRl:=zkA g p _ (o.take i) rfl
 have hRl2:=List.length_take_le' i o
 have hyes:=fun k=>zb2 (g:=g) (p:=p) (o:=o.take i) (k:=k)
 have hno:=fun k=>zfw (g:=g) (p:=p) (o:=o.take i) (k:=k)
 have hryes:=fun k=>zdo (g:=g) (p:=p) (o:=o.take i) (k:=k)
 have hrno:=fun k=>zeO (g:=g) (p:=p) (o:=o.take i) (k:=k)
 have hmem : ∀ x ∈ accR g p (o.take i),x ∈ o.take i:=fun x hx=>zcz hx
 obtain ⟨acc,hacc⟩ : ∃ acc,acc = accR g p (o.take i):=⟨_,rfl⟩
 obtain ⟨R,hR⟩ : ∃ R,R = refR g p (o.take i):=⟨_,rfl⟩
 rw [← hacc] at haN haR hal hmem hyes hno hryes hrno
 rw [← hR] at hRl hryes hrno
 rw [← hacc,← hR]
 refine zab ⟨72,[(2,.pv (gC g)),(3,.pv (pC p)),(4,.pt 32 0 0),(7,.pt 40 0 0),(23,ints o),(24,.I o.length),(25,.I i),(26,.B (decide (i < o.length)))],
   [(32,some ⟨3,[[.nilS,.nilS,.nilS]],0⟩),(40,some ⟨3,[[ints acc,.nilS,.rs 42 0 R.length]],0⟩),(42,some ⟨2,zaJ R,0⟩)],600⟩ rfl ?_ ?_
 ·simp
  exact Le.go [(32,32),(40,40),(42,42)] [] rfl rfl (by simp) (by simp [fcd])
 refine zaa ?_
 refine zad _ rfl (fun h11=>?_) fun h11=>?_
 ·simp at h11
  have hw1 : IntKind.i64.wrap ((i : Int) + 1) = (i : Int) + 1:=w64 (by omega) (by omega)
  obtain ⟨k,hk⟩ : ∃ k,k = o[i]:=⟨_,rfl⟩
  have hkr:=hor _ (List.getElem_mem h11)
  rw [← hk] at hkr
  have hts : o.take (i + 1) = o.take i ++ [k]:=by rw [List.take_succ_eq_append_getElem h11,hk]
  have hkacc : k ∉ acc:=fun h=>by
   have h2:=hmem k h
   obtain ⟨j,hj,hjk⟩:=List.mem_iff_getElem.1 h2
   rw [List.getElem_take] at hjk
   rw [List.length_take] at hj
   have:=(List.pairwise_iff_getElem.1 hon) j i (by omega) h11 (by omega)
   exact this (hjk.trans hk)
  have hks : ∀ x ∈ acc ++ [k],0 ≤ x ∧ x < g.size:=fun x hx=>by
   rcases List.mem_append.1 hx with h | h
   ·exact haR x h
   ·rw [List.mem_singleton] at h; subst h; exact hkr
  have hkn : (acc ++ [k]).Nodup:=List.nodup_append.2 ⟨haN,by simp,fun a ha b hb=>by
   rw [List.mem_singleton] at hb
   subst hb
   rintro rfl
   exact hkacc ha⟩
  have hwith:=zf1 acc k (by omega)
  have hnet:=zbv g p (acc ++ [k]) hg hp hkn hks hs
  obtain ⟨fl,hfl,hsv⟩:=hserve (acc ++ [k]) hkn hks
  have hreach:=ziw _ _ fl (hnv _ hks) hfl.ok hfl.most
  have hflen:=hfl.ok.fit.len
  have hnl2:=zix (netN g) (netA g p (zar (acc ++ [k])))
  have hyes:=hyes k
  have hno:=hno k
  have hryes:=hryes k
  have hrno:=hrno k
  rw [← hts] at hyes hno hryes hrno
  obtain ⟨A,hA⟩ : ∃ A,A = netA g p (zar (acc ++ [k])):=⟨_,rfl⟩
  obtain ⟨side,hside⟩ : ∃ side,side = zdf (netN g) A:=⟨_,rfl⟩
  rw [← hA] at hnet hsv hreach hflen hrno
  rw [← hside] at hreach hrno
  have htf : ∀ h : Int → List AV,List.take A.length (List.map h fl) = List.map h fl:=fun h=>List.take_of_length_le (by simp; omega)
  obtain ⟨W,hW⟩ : ∃ W,W = acc ++ [k]:=⟨_,rfl⟩
  have hWl : W.length = acc.length + 1:=by rw [hW]; simp
  rw [← hW] at hwith hnet hsv hyes hno hryes hrno
  rw [← hWl] at hwith
  refine zae ?_
  refine zaI (ι:=Unit) (fun _=>⟨72,[(2,.pv (gC g)),(3,.pv (pC p)),(4,.pt 32 0 0),(7,.pt 40 0 0),(23,ints o),(24,.I o.length),(25,.I i)],
   [(32,some ⟨3,[[.nilS,.nilS,.nilS]],0⟩),(40,some ⟨3,[[ints (accR g p (o.take (i + 1))),.nilS,.rs 42 0 (refR g p (o.take (i + 1))).length]],0⟩),(42,some ⟨2,zaJ (refR g p (o.take (i + 1))),0⟩)],3000⟩) (fun _=>True) ?_ fun _ _=>?_
  ·refine zaf ?_
   refine zab ⟨72,[(2,.pv (gC g)),(3,.pv (pC p)),(4,.pt 32 0 0),(7,.pt 40 0 0),(9,.I k),(23,ints o),(24,.I o.length),(25,.I i)],
    [(32,some ⟨3,[[.nilS,.nilS,.nilS]],0⟩),(40,some ⟨3,[[ints acc,.nilS,.rs 42 0 R.length]],0⟩),(42,some ⟨2,zaJ R,0⟩)],700⟩ rfl ?_ ?_
   ·simp [h11,← hk]
    exact Le.go [(32,32),(40,40),(42,42)] [] rfl rfl (by simp) (by simp [fcd])
   refine zab ⟨72,[(2,.pv (gC g)),(3,.pv (pC p)),(4,.pt 32 0 0),(7,.pt 40 0 0),(9,.I k),(10,ints W),(23,ints o),(24,.I o.length),(25,.I i)],
    [(32,some ⟨3,[[.nilS,.nilS,.nilS]],0⟩),(40,some ⟨3,[[ints acc,.nilS,.rs 42 0 R.length]],0⟩),(42,some ⟨2,zaJ R,0⟩)],800⟩ rfl ?_ ?_
   ·simp
    refine za1 hwith (by simp) ?_
    simp
    exact Le.go [(32,32),(40,40),(42,42)] [724] rfl rfl (by simp [fcd,zaq]) (by simp [fcd])
   refine zab ⟨72,[(2,.pv (gC g)),(3,.pv (pC p)),(4,.pt 32 0 0),(7,.pt 40 0 0),(9,.I k),(10,ints W),(11,.pv (nC ⟨netN g,A⟩)),(23,ints o),(24,.I o.length),(25,.I i)],
    [(32,some ⟨3,[[.nilS,.nilS,.nilS]],0⟩),(40,some ⟨3,[[ints acc,.nilS,.rs 42 0 R.length]],0⟩),(42,some ⟨2,zaJ R,0⟩)],900⟩ rfl ?_ ?_
   ·simp
    refine zal hnet (by simp) ?_
    simp
    exact Le.go [(32,32),(40,40),(42,42)] [832] rfl rfl (by simp) (by simp [fcd])
   refine zab ⟨72,[(2,.pv (gC g)),(3,.pv (pC p)),(4,.pt 32 0 0),(7,.pt 40 0 0),(9,.I k),(10,ints W),(11,.pv (nC ⟨netN g,A⟩)),(12,.rs 43 0 A.length),(13,.B (@decide (zap g p (zar W)) (Classical.propDecidable _))),(23,ints o),(24,.I o.length),(25,.I i)],
    [(32,some ⟨3,[[.nilS,.nilS,.nilS]],0⟩),(40,some ⟨3,[[ints acc,.nilS,.rs 42 0 R.length]],0⟩),(42,some ⟨2,zaJ R,0⟩),(43,some ⟨1,zah fl,0⟩)],1000⟩ rfl ?_ ?_
   ·simp
    refine za1 hsv (by simp) ?_
    simp
    exact Le.go [(32,32),(40,40),(42,42),(924,43)] [] rfl rfl (by simp) (by simp [fcd])
   refine zaa ?_
   refine zab ⟨72,[(2,.pv (gC g)),(3,.pv (pC p)),(4,.pt 32 0 0),(7,.pt 40 0 0),(9,.I k),(10,ints W),(11,.pv (nC ⟨netN g,A⟩)),(12,.rs 43 0 A.length),(44,.B (@decide (zap g p (zar W)) (Classical.propDecidable _))),(23,ints o),(24,.I o.length),(25,.I i)],
    [(32,some ⟨3,[[.nilS,.nilS,.nilS]],0⟩),(40,some ⟨3,[[ints acc,.nilS,.rs 42 0 R.length]],0⟩),(42,some ⟨2,zaJ R,0⟩),(43,some ⟨1,zah fl,0⟩)],1100⟩ rfl ?_ ?_
   ·simp
    exact Le.go [(32,32),(40,40),(42,42),(43,43)] [] rfl rfl (by simp) (by simp [fcd])
   refine zad _ rfl (fun h15=>?_) fun h15=>?_
   ·have h15' : zap g p (zar W):=@of_decide_eq_true _ (Classical.propDecidable _) h15
    have hy:=hyes h15'
    have hry:=hryes h15'
    refine zab ⟨72,[(2,.pv (gC g)),(3,.pv (pC p)),(4,.pt 32 0 0),(7,.pt 40 0 0),(23,ints o),(24,.I o.length),(25,.I i)],
     [(32,some ⟨3,[[.nilS,.nilS,.nilS]],0⟩),(40,some ⟨3,[[ints W,.nilS,.rs 42 0 R.length]],0⟩),(42,some ⟨2,zaJ R,0⟩)],1200⟩ rfl ?_ ?_
    ·simp [za7]
     exact Le.go [(32,32),(40,40),(42,42)] [] rfl rfl (by simp) (by simp [fcd])
    refine zan ?_
    refine hit ?_
    exact ⟨(),trivial,Le.go [(32,32),(40,40),(42,42)] [] rfl rfl (by simp) (by simp [hy,hry,fcd])⟩
   ·have h15' : ¬ zap g p (zar W):=@of_decide_eq_false _ (Classical.propDecidable _) h15
    have hn':=hno h15'
    have hrn:=hrno h15'
    have htR : ∀ h : Int × List Int → List AV,List.take R.length (List.map h R) = List.map h R:=fun h=>List.take_of_length_le (by simp)
    refine zae ?_
    refine zbS rfl ?_
    simp
    refine zby (i:=43) rfl (by simp [fcd]) hreach (by simp) (by simp) ?_
    simp [htR,za7]
    exact ⟨by omega,by omega,rfl,Le.go [(32,32),(40,40),(1164,42)] [1140] rfl rfl (by simp) (by simp [hn',hrn,fcd,zaq])⟩
  refine zav rfl ?_
  simp [hw1]
  exact ⟨i + 1,by omega,by omega,Le.go [(32,32),(40,40),(42,42)] [] rfl rfl (by simp [hw1]) (by simp [fcd])⟩
 simp at h11
 obtain rfl : i = o.length:=by omega
 rw [List.take_length] at hacc hR
 rw [← hacc] at hlast hnl hlf
 have hl1 : ((acc.length : Nat) : Int) = acc.length:=rfl
 obtain ⟨A,hA⟩ : ∃ A,A = netA g p (zar acc):=⟨_,rfl⟩
 rw [← hA] at hnl hlast hlf
 have htf : ∀ h : Int → List AV,List.take A.length (List.map h f) = List.map h f:=fun h=>List.take_of_length_le (by simp; omega)
 refine zan ?_
 refine hit ?_
 refine zaw ⟨72,[(4,.pt 32 0 0),(7,.pt 40 0 0)],
   [(32,some ⟨3,[[.nilS,.nilS,.nilS]],0⟩),(40,some ⟨3,[[ints acc,ints f,.vs 2 false (zaJ R)]],0⟩)],1200⟩ rfl ?_ ?_
 ·simp
  refine zal hnl (by simp) ?_
  simp
  refine za1 hlast (by simp) ?_
  simp [za7]
  exact ⟨rfl,Le.go [(32,32),(40,40)] [42,664] rfl rfl (by simp) (by simp [fcd,zaq,htf,hlf])⟩
 refine zab ⟨72,[(4,.pt 32 0 0),(5,.I 0)],[(32,some ⟨3,[[ints acc,ints f,.vs 2 false (zaJ R)]],0⟩)],1400⟩ rfl ?_ ?_
 ·simp [za7]
  exact Le.go [(32,32)] [] rfl rfl (by simp) (by simp [fcd])
 refine zag ?_
 rw [← hacc,← hR]
 exact ⟨.inr rfl,zam.out [] [32] rfl (by simp) (by simp) (by simp) (by simp)⟩
section
variable {P : Program} {np id : Nat} {h : Nat → Option Ent} {K : AV → List Nat → List (Nat × Option Ent) → Prop} {f : FuncId} {first capt args args' : List AV} {res : AV}
end
theorem zsb (L : List Int) (hl : L.length ≤ 400) : ∃ (g : Gr) (b : Nat),(GrOk g ∧ 2 ≤ g.size ∧ g.size ≤ 9 ∧ b ≤ L.length) ∧ zaj Tryz.prog zbF [.pt 0 0 0] [dice L 0] (eG g) [some (dice L b)] :=
 have h:=znv L 0 (Nat.zero_le _)
 ⟨_,_,⟨h.ok,h.lo,h.hi,h.at_⟩,zrS L 0 hl (Nat.zero_le _)⟩
variable {g : Gr} {p : Pol}
def zet (g : Gr) (p : Pol) (ks : List Int) : Prop:=Rise ks 0 (g.size - 1) ∧ (∀ k ∈ ks,0 ≤ dist (zai g p.lv) p.seeds k) ∧ zap g p ks
theorem Rise.pair {l : List Int} {lo hi : Int} (h : Rise l lo hi) : l.Pairwise (· < ·):=by
 have hlt : ∀ (j i : Nat) (hj : j < l.length) (hij : i < j),l[i] < l[j]:=by
  intro j
  induction j with
  | zero=>intro i _ hij; omega
  | succ j ih =>
    intro i hj hij
    have h1:=(h (j + 1) hj).2.2 (by omega)
    simp only [Nat.add_sub_cancel] at h1
    rcases Nat.lt_or_ge i j with h2 | h2
    ·have:=ih i (by omega) h2
     omega
    ·have : i = j:=by omega
     subst this
     exact h1
 exact List.pairwise_iff_getElem.2 fun i j hi hj hij=>hlt j i hj hij
theorem zcO (acc f : List Int) (R : List (Int × List Int)) (k : Int) (hl : acc.length ≤ 140737488355328) : zaj Tryz.prog zbR [eAcc acc f R,.I k] [] (.B (decide (k ∈ acc))) []:=by
 refine zjg.acalls (Nat.le_of_ble_eq_true rfl) (Nat.le_of_ble_eq_true rfl) (Nat.zero_le _) ?_
 show awp _ 0 _ _ ⟨9,[(0,eAcc acc f R),(1,.I k)],[],16⟩
 refine zab ⟨9,[(1,.I k),(2,.pv [ints acc,ints f,.vs 2 false (zaJ R)])],[],100⟩ rfl ?_ ?_
 ·simp
  exact Le.go [] [16] rfl rfl (by simp) (by simp)
 refine zab ⟨9,[(4,.B (decide (k ∈ acc)))],[],200⟩ rfl ?_ ?_
 ·simp
  refine zal (zcM acc k hl) (by simp) ?_
  simp
  exact Le.go [] [] rfl rfl (by simp) (by simp)
 refine zag ?_
 exact ⟨.inr rfl,zam.one (by simp)⟩
theorem zgg (C : List Int) (k : Int) (h0 : 0 ≤ k) (h1 : k < C.length) : zaj Tryz.prog zb0 [.I k,.pv [ints C]] [] (.B (decide (C.getD k.toNat 0 = 0))) []:=by
 refine zhy.acalls (Nat.le_of_ble_eq_true rfl) (Nat.le_of_ble_eq_true rfl) (Nat.zero_le _) ?_
 show awp _ 0 _ _ ⟨9,[(0,.I k),(1,.pv [ints C])],[],16⟩
 have hk : k.toNat < C.length:=by omega
 have hget : C[k.toNat]? = some (C.getD k.toNat 0):=by rw [List.getD_eq_getElem?_getD,List.getElem?_eq_getElem hk,Option.getD_some]
 obtain ⟨v,hv⟩ : ∃ v,v = C.getD k.toNat 0:=⟨_,rfl⟩
 rw [← hv] at hget ⊢
 refine rx (s:=?s1) [0,1] [] [] rfl ?o1 ?q1
 case o1=>simp; rfl
 refine zab ⟨9,[(3,.B (decide (v = 0)))],[],200⟩ rfl ?_ ?_
 ·have hv' : C[k.toNat] = v:=by rw [List.getElem?_eq_getElem hk] at hget; exact Option.some.inj hget
  simp [hget,hk,h0,hv']
  exact Le.go [] [] rfl rfl (by simp <;> exact wkB (by rw [Bool.eq_iff_iff]; simp)) (by simp)
 refine zag ?_
 exact ⟨.inr rfl,zam.one (by simp)⟩
set_option maxRecDepth 100000 in
set_option maxHeartbeats 1000000 in
open Classical in
theorem zeT (g : Gr) (p : Pol) (ks : List Int) (hg : GrOk g) (hp : zaZ g.size p) (hs : p.seeds.length ≤ 64) (hl : ks.length ≤ 1099511627776) :
  zaj Tryz.prog zc1 [eG g,eP p,ints ks] [] (.B (decide (zet g p ks))) []:=by
 refine zjE.acalls (Nat.le_of_ble_eq_true rfl) (Nat.le_of_ble_eq_true rfl) (Nat.le_refl _) ?_
 show awp _ 0 _ _ ⟨39,[(0,eG g),(1,eP p),(2,ints ks)],[],16⟩
 have hsz:=hg.1.1
 have hsz2:=hg.1.2.1
 have hel:=hg.edges_le
 have hgl:=hg.gone_le
 have hchk:=zbV g p (by omega) (by omega) (by omega) (by have:=hp.2.2.2.1; omega)
 rw [if_pos hg,if_pos hp] at hchk
 have hris:=zbP ks 0 (g.size - 1) (by omega)
 have hall:=zfn g p hg (by omega)
 have hcl : (zaD g p).length = g.size.toNat:=zbx
 have hcr:=fun (k : Int) (h0 : 0 ≤ k)=>zfG (g:=g) hp h0
 have hcn:=zfb (g:=g) hp
 obtain ⟨C,hC⟩ : ∃ C,C = zaD g p:=⟨_,rfl⟩
 rw [← hC] at hall hcl hcr hcn
 rw [← hcl] at hall
 have hw : IntKind.i64.wrap (g.size - 1) = g.size - 1:=w64 (by omega) (by omega)
 refine zab ⟨39,[(2,ints ks),(3,.pv (gC g)),(4,.pv (pC p))],[],100⟩ rfl ?_ ?_
 ·simp
  exact Le.go [] [16,24] rfl rfl (by simp) (by simp)
 refine zaa ?_
 refine zab ⟨39,[(2,ints ks),(3,.pv (gC g)),(4,.pv (pC p)),(21,.B (decide (¬ Rise ks 0 (g.size - 1))))],[],300⟩ rfl ?_ ?_
 ·simp
  refine zal hchk (by simp) ?_
  simp [hw]
  refine zal hris (by simp) ?_
  simp
  exact Le.go [] [] rfl rfl (by simp) (by simp)
 refine zad _ rfl (fun h3=>?_) fun h3=>?_
 ·rw [decide_eq_true_eq] at h3
  have hno : ¬ zet g p ks:=fun h=>h3 h.1
  rw [decide_eq_false hno]
  refine rx (s:=?s4) [6] [] [] rfl ?o4 ?q4
  case o4=>simp; rfl
  refine zag ?_
  exact ⟨.inr rfl,zam.one (by simp)⟩
 rw [decide_eq_false_iff_not,Decidable.not_not] at h3
 have hr:=zeb h3
 have hkn:=h3.nodup.1
 have hkl : ks.length ≤ 64:=by
  have:=zbk (a:=ks) (b:=(List.range 64).map Int.ofNat) hkn fun x hx=>by
   have:=hr x hx
   exact List.mem_map.2 ⟨x.toNat,List.mem_range.2 (by omega),by simp; omega⟩
  simpa using this
 have hcf:=zeV zb0 [.pv [ints C]] (fun k=>decide (C.getD k.toNat 0 = 0)) ks hl (fun ρ sn h k=>by simp) fun e he=>zgg C e (hr e he).1 (by have:=hr e he; omega)
 have hany : (ks.any fun k=>decide (C.getD k.toNat 0 = 0)) = true ↔ ¬ ∀ k ∈ ks,0 ≤ dist (zai g p.lv) p.seeds k:=by
  rw [List.any_eq_true]
  constructor
  ·rintro ⟨k,hk,h⟩ hall
   have h1:=(hcr k (hr k hk).1).2 ⟨(hr k hk).2,hall k hk⟩
   have h2 : C.getD k.toNat 0 = 0:=by simpa using h
   omega
  ·intro h
   obtain ⟨k,hk⟩:=Classical.not_forall.1 h
   obtain ⟨h1,h2⟩:=Classical.not_imp.1 hk
   refine ⟨k,h1,?_⟩
   have h4 : ¬ 0 < C.getD k.toNat 0:=fun h5=>h2 ((hcr k (hr k h1).1).1 h5).2
   have h5 : 0 ≤ C.getD k.toNat 0:=by
    rw [List.getD_eq_getElem?_getD]
    cases hh : C[k.toNat]? with
    | none=>simp
    | some v=>exact hcn v (List.mem_of_getElem? hh)
   simp only [decide_eq_true_eq]
   omega
 obtain ⟨b,hb⟩ : ∃ b,b = ks.any fun k=>decide (C.getD k.toNat 0 = 0):=⟨_,rfl⟩
 rw [← hb] at hcf hany
 refine zae ?_
 refine zab ⟨39,[(2,ints ks),(3,.pv (gC g)),(4,.pv (pC p)),(7,.pv [ints C])],[],400⟩ rfl ?_ ?_
 ·simp
  refine za1 hall (by simp) ?_
  simp
  exact Le.go [] [316,324] rfl rfl (by simp [fcd,zaq]) (by simp)
 refine zaa ?_
 refine zab ⟨39,[(2,ints ks),(3,.pv (gC g)),(4,.pv (pC p)),(27,.B b)],[],500⟩ rfl ?_ ?_
 ·simp
  refine zal hcf (by simp) ?_
  simp
  exact Le.go [] [] rfl rfl (by simp) (by simp)
 refine zad _ rfl (fun h7=>?_) fun h7=>?_
 ·have hno : ¬ zet g p ks:=fun h=>hany.1 h7 h.2.1
  rw [decide_eq_false hno]
  refine rx (s:=?s8) [6] [] [] rfl ?o8 ?q8
  case o8=>simp; rfl
  refine zag ?_
  exact ⟨.inr rfl,zam.one (by simp)⟩
 have h7' : ∀ k ∈ ks,0 ≤ dist (zai g p.lv) p.seeds k:=Decidable.byContradiction fun h=>by
  have:=hany.2 h
  rw [show b = false from h7] at this
  cases this
 have hks : zar ks = ks:=zei (zdj ks) h3.pair fun x=>by
  rw [zb8]
  exact ⟨fun h=>h.1,fun h=>⟨h,by have:=hr x h; omega⟩⟩
 have hnet:=zbv g p ks hg hp hkn hr hs
 rw [hks] at hnet
 have hnv:=zd3 hg hp hr hs hkl
 obtain ⟨fl,hfl,hsv⟩:=zfW _ _ (ks.length : Nat) hnv
 have hcs : decide (valF (netA g p ks) fl = (ks.length : Nat)) = decide (zet g p ks):=by
  rw [decide_eq_decide]
  have hmf:=zgd hfl.1 hfl.2
  unfold zet zap
  rw [hmf]
  exact ⟨fun h=>⟨h3,h7',h⟩,fun h=>h.2.2⟩
 rw [hcs] at hsv
 obtain ⟨A,hA⟩ : ∃ A,A = netA g p ks:=⟨_,rfl⟩
 rw [← hA] at hnet hsv
 refine zae ?_
 refine zab ⟨39,[(9,.B (decide (zet g p ks)))],[],700⟩ rfl ?_ ?_
 ·simp
  refine zal hnet (by simp) ?_
  simp
  refine za1 hsv (by simp) ?_
  simp
  exact Le.go [] [] rfl rfl (by simp) (by simp)
 refine zab ⟨39,[(6,.B (decide (zet g p ks)))],[],800⟩ rfl ?_ ?_
 ·simp
  exact Le.go [] [] rfl rfl (by simp) (by simp)
 refine zag ?_
 exact ⟨.inr rfl,zam.one (by simp)⟩
def za9 : List Int → List Int → List Int → Bool
 | [],a,r=>a.isEmpty && r.isEmpty
 | x :: o,a,r=>if a.head? = some x then za9 o a.tail r else if r.head? = some x then za9 o a r.tail else false
def zbt : Nat → List Int → List Int → List Int → List Nat
 | _,[],_,_=>[]
 | c,x :: o,a,r=>if a.head? = some x then zbt (c + 1) o a.tail r else if r.head? = some x then c :: zbt c o a r.tail else []
theorem zg9 : ∀ {o a r : List Int},za9 o a r = true → a.Sublist o ∧ r.Sublist o
 | [],a,r,h=>by
   simp [za9] at h
   rw [h.1,h.2]
   exact ⟨List.nil_sublist _,List.nil_sublist _⟩
 | x :: o,a,r,h=>by
   simp only [za9] at h
   split at h
   ·rename_i h1
    obtain ⟨h2,h3⟩:=zg9 h
    cases a with
    | nil=>cases h1
    | cons y a =>
      have : y = x:=by simpa using h1
      subst this
      exact ⟨h2.cons_cons _,h3.cons _⟩
   ·split at h
    ·rename_i h1
     obtain ⟨h2,h3⟩:=zg9 h
     cases r with
     | nil=>cases h1
     | cons y r =>
       have : y = x:=by simpa using h1
       subst this
       exact ⟨h2.cons _,h3.cons_cons _⟩
    ·cases h
theorem zha : ∀ {o a r : List Int},za9 o a r = true → ∀ x ∈ o,x ∈ a ∨ x ∈ r
 | [],a,r,_,x,hx=>by simp at hx
 | x :: o,a,r,h,y,hy=>by
   simp only [za9] at h
   split at h
   ·rename_i h1
    cases a with
    | nil=>cases h1
    | cons z a =>
      have : z = x:=by simpa using h1
      subst this
      rcases List.mem_cons.1 hy with rfl | hy
      ·exact .inl (by simp)
      ·rcases zha h y hy with h2 | h2
       ·exact .inl (List.mem_cons_of_mem _ h2)
       ·exact .inr h2
   ·split at h
    ·rename_i h1
     cases r with
     | nil=>cases h1
     | cons z r =>
       have : z = x:=by simpa using h1
       subst this
       rcases List.mem_cons.1 hy with rfl | hy
       ·exact .inr (by simp)
       ·rcases zha h y hy with h2 | h2
        ·exact .inl h2
        ·exact .inr (List.mem_cons_of_mem _ h2)
    ·cases h
theorem zgF : ∀ {o a r : List Int},za9 o a r = true → o.length = a.length + r.length
 | [],a,r,h=>by
   simp [za9] at h
   rw [h.1,h.2]
   rfl
 | x :: o,a,r,h=>by
   simp only [za9] at h
   split at h
   ·rename_i h1
    cases a with
    | nil=>cases h1
    | cons z a =>
      have:=zgF h
      simp at this ⊢
      omega
   ·split at h
    ·rename_i h1
     cases r with
     | nil=>cases h1
     | cons z r =>
       have:=zgF h
       simp at this ⊢
       omega
    ·cases h
theorem zfE : ∀ {o a r : List Int} {c : Nat},za9 o a r = true → (zbt c o a r).length = r.length
 | [],a,r,c,h=>by
   simp [za9] at h
   rw [h.2]
   rfl
 | x :: o,a,r,c,h=>by
   simp only [za9] at h
   simp only [zbt]
   split at h
   ·rename_i h1
    rw [if_pos h1]
    exact zfE h
   ·rename_i h1
    rw [if_neg h1]
    split at h
    ·rename_i h2
     rw [if_pos h2,List.length_cons,zfE h]
     cases r with
     | nil=>cases h2
     | cons y r=>rfl
    ·cases h
theorem zgv : ∀ {o a r : List Int} {c m : Nat},m ∈ zbt c o a r → c ≤ m ∧ m ≤ c + a.length
 | [],a,r,c,m,h=>by simp [zbt] at h
 | x :: o,a,r,c,m,h=>by
   simp only [zbt] at h
   split at h
   ·rename_i h1
    have:=zgv h
    cases a with
    | nil=>cases h1
    | cons y a=>simp at this ⊢; omega
   ·split at h
    ·rcases List.mem_cons.1 h with rfl | h
     ·omega
     ·exact zgv h
    ·simp at h
theorem zjx : ∀ {o a r : List Int} {k : Int},za9 o a r = true → k ∉ o → za9 (o ++ [k]) (a ++ [k]) r = true
 | [],a,r,k,h,_=>by
   simp [za9] at h
   rw [h.1,h.2]
   simp [za9]
 | x :: o,a,r,k,h,hk=>by
   have hkx : k ≠ x:=fun e=>hk (by simp [e])
   have hko : k ∉ o:=fun e=>hk (List.mem_cons_of_mem _ e)
   simp only [za9] at h
   simp only [List.cons_append,za9]
   split at h
   ·rename_i h1
    cases a with
    | nil=>cases h1
    | cons y a =>
      have : y = x:=by simpa using h1
      subst this
      simpa using zjx h hko
   ·rename_i h1
    split at h
    ·rename_i h2
     have h3 : (a ++ [k]).head? ≠ some x:=by
      cases a with
      | nil=>simpa using hkx
      | cons y a=>simpa using h1
     rw [if_neg h3,if_pos h2]
     exact zjx h hko
    ·cases h
theorem ziq : ∀ {o a r : List Int} {k : Int},za9 o a r = true → k ∉ o → za9 (o ++ [k]) a (r ++ [k]) = true
 | [],a,r,k,h,_=>by
   simp [za9] at h
   rw [h.1,h.2]
   simp [za9]
 | x :: o,a,r,k,h,hk=>by
   have hkx : k ≠ x:=fun e=>hk (by simp [e])
   have hko : k ∉ o:=fun e=>hk (List.mem_cons_of_mem _ e)
   simp only [za9] at h
   simp only [List.cons_append,za9]
   split at h
   ·rename_i h1
    rw [if_pos h1]
    exact ziq h hko
   ·rename_i h1
    rw [if_neg h1]
    split at h
    ·rename_i h2
     cases r with
     | nil=>cases h2
     | cons y r =>
       have : y = x:=by simpa using h2
       subst this
       simpa using ziq h hko
    ·cases h
def zh3 (g : Gr) (p : Pol) (b : List Int) (r : Int × List Int) : Prop:=zev ⟨netN g,netA g p (zar (b ++ [r.1]))⟩ r.2 b.length
def zeB (g : Gr) (p : Pol) : List Int → List Int → List Int → List (Int × List Int) → Prop
 | _,[],_,_=>True
 | b,x :: o,a,R=>if a.head? = some x then zeB g p (b ++ [x]) o a.tail R else match R with
   | []=>True
   | r :: R=>zh3 g p b r ∧ zeB g p b o a R
def za6 (R : List (Int × List Int)) : List Int:=R.map (·.1)
theorem zi7 {g : Gr} {p : Pol} : ∀ {o b a : List Int} {R : List (Int × List Int)},za9 o a (za6 R) = true →
  (zeB g p b o a R ↔ ∀ i (h : i < R.length),zh3 g p (b ++ a.take ((zbt b.length o a (za6 R)).getD i 0 - b.length)) R[i])
 | [],b,a,R,h=>by
   simp [za9,za6] at h
   obtain ⟨_,rfl⟩:=h
   simp [zeB]
 | x :: o,b,a,R,h=>by
   simp only [za9] at h
   simp only [zeB,zbt]
   split at h
   ·rename_i h1
    rw [if_pos h1,if_pos h1]
    have ih:=zi7 (g:=g) (p:=p) (b:=b ++ [x]) h
    rw [List.length_append,List.length_singleton] at ih
    rw [ih]
    cases a with
    | nil=>cases h1
    | cons y a =>
      have : y = x:=by simpa using h1
      subst this
      simp only [List.tail_cons] at h ih ⊢
      have key : ∀ i (hi : i < R.length),b ++ [y] ++ a.take ((zbt (b.length + 1) o a (za6 R)).getD i 0 - (b.length + 1)) = b ++ (y :: a).take ((zbt (b.length + 1) o a (za6 R)).getD i 0 - b.length):=fun i hi=>by
       have hl : i < (zbt (b.length + 1) o a (za6 R)).length:=by
        rw [zfE h,za6,List.length_map]
        exact hi
       have hm:=zgv (List.getElem_mem hl)
       have e : (zbt (b.length + 1) o a (za6 R)).getD i 0 = (zbt (b.length + 1) o a (za6 R))[i]:=by rw [List.getD_eq_getElem?_getD,List.getElem?_eq_getElem hl,Option.getD_some]
       rw [e]
       obtain ⟨q,hq⟩ : ∃ q,(zbt (b.length + 1) o a (za6 R))[i] = b.length + 1 + q:=⟨_,(Nat.add_sub_cancel' hm.1).symm⟩
       rw [hq,show b.length + 1 + q - (b.length + 1) = q by omega,show b.length + 1 + q - b.length = q + 1 by omega,List.take_succ_cons,List.append_assoc]
       rfl
      constructor
      ·intro h2 i hi
       rw [← key i hi]
       exact h2 i hi
      ·intro h2 i hi
       have:=h2 i hi
       rw [← key i hi] at this
       exact this
   ·rename_i h1
    rw [if_neg h1,if_neg h1]
    split at h
    ·rename_i h2
     cases R with
     | nil=>cases h2
     | cons r R =>
       rw [if_pos h2]
       have ih:=zi7 (g:=g) (p:=p) (b:=b) (R:=R) h
       simp only
       rw [ih]
       constructor
       ·rintro ⟨h3,h4⟩ i hi
        cases i with
        | zero=>simpa using h3
        | succ i=>exact h4 i (by simpa using hi)
       ·intro h3
        refine ⟨by
         have h4:=h3 0 (Nat.zero_lt_succ _)
         simp only [List.getD_cons_zero,Nat.sub_self,List.take_zero,List.append_nil] at h4
         exact h4,fun i hi=>h3 (i + 1) (by simpa using hi)⟩
    ·cases h
open Classical in
noncomputable def zom (g : Gr) (p : Pol) (acc flow : List Int) (R : List (Int × List Int)) : Int :=
 if za9 (ordL (zai g p.lv) p.seeds) acc (za6 R) = true then
  if zaB (netN g) (netA g p (zar acc)) flow ∧ valF (netA g p (zar acc)) flow = acc.length then
   if zeB g p [] (ordL (zai g p.lv) p.seeds) acc R then 0 else 18
  else 17
 else 1
theorem zjQ {l : List Int} {i : Nat} (h : i < l.length) : (l.drop i).head? = some l[i]:=by rw [List.head?_drop,List.getElem?_eq_getElem h]
theorem zf0 {l : List Int} {i : Nat} (h : ¬ i < l.length) : (l.drop i).head? = none:=by rw [List.head?_drop,List.getElem?_eq_none (by omega)]
structure PtSt where
 n : Nat
 i : Nat
 k : Nat
 L : List Int
set_option maxRecDepth 100000 in
set_option maxHeartbeats 4000000 in
theorem zjm (o acc f : List Int) (R : List (Int × List Int)) (hol : o.length ≤ 100) (ha : acc.length ≤ 1000) (hR : R.length ≤ 1000) :
  ∃ L : List Int,(za9 o acc (za6 R) = true → L = (zbt 0 o acc (za6 R)).map fun (n : Nat)=>(n : Int)) ∧ zaj Tryz.prog zea [ints o,eAcc acc f R] [] (.tup [ints L,.B (za9 o acc (za6 R))]) []:=by
 refine zjW.acallsX (args:=[ints o,eAcc acc f R]) (hs:=[]) (fun L=>.tup [ints L,.B (za9 o acc (za6 R))]) (fun _=>[]) (fun L : List Int=>za9 o acc (za6 R) = true → L = (zbt 0 o acc (za6 R)).map fun (n : Nat)=>(n : Int)) (Nat.le_of_ble_eq_true rfl) (Nat.le_of_ble_eq_true rfl) (fun _=>Nat.le_refl _) ?_
 show awp _ 0 _ _ ⟨70,[(0,ints o),(1,eAcc acc f R)],[],16⟩
 have hkl : (za6 R).length = R.length:=by simp [za6]
 obtain ⟨b,hb⟩ : ∃ b,b = za9 o acc (za6 R):=⟨_,rfl⟩
 rw [← hb]
 refine zab ⟨70,[(0,ints o),(3,.pv [ints acc,ints f,.vs 2 false (zaJ R)])],[],40⟩ rfl ?_ ?_
 ·simp
  exact Le.go [] [16] rfl rfl (by simp) (by simp)
 refine zab ⟨70,[(0,ints o),(3,.pv [ints acc,ints f,.vs 2 false (zaJ R)]),(6,.rs 50 0 0)],[(50,some ⟨1,[],0⟩)],100⟩ rfl ?_ ?_
 ·simp
  exact Le.lst [] [] [(50,1)] rfl (by simp) (by simp) (by simp) (by simp) (by simp) (by simp) (by simp) (by simp [Up]) (by simp)
 refine zab ⟨70,[(0,ints o),(3,.pv [ints acc,ints f,.vs 2 false (zaJ R)]),(6,.rs 50 0 0),(7,.I 0),(8,.I 0)],[(50,some ⟨1,[],0⟩)],200⟩ rfl ?_ ?_
 ·simp
  exact Le.go [(50,50)] [] rfl rfl (by simp) (by simp)
 refine zaa ?_
 refine zab ⟨70,[(3,.pv [ints acc,ints f,.vs 2 false (zaJ R)]),(6,.rs 50 0 0),(7,.I 0),(8,.I 0),(11,ints o),(12,.I o.length),(13,.I 0)],[(50,some ⟨1,[],0⟩)],300⟩ rfl ?_ ?_
 ·simp
  exact Le.go [(50,50)] [] rfl rfl (by simp) (by simp)
 refine zaf ?_
 refine zao (ι:=PtSt) (fun s=>⟨70,[(3,.pv [ints acc,ints f,.vs 2 false (zaJ R)]),(6,.rs 50 0 s.L.length),(7,.I s.i),(8,.I s.k),(11,ints o),(12,.I o.length),(13,.I s.n)],[(50,some ⟨1,zah s.L,0⟩)],300⟩)
  (fun s=>s.n ≤ o.length ∧ s.i ≤ acc.length ∧ s.k ≤ R.length ∧ s.L.length ≤ s.n ∧ b = za9 (o.drop s.n) (acc.drop s.i) ((za6 R).drop s.k) ∧ s.L ++ (zbt s.i (o.drop s.n) (acc.drop s.i) ((za6 R).drop s.k)).map (fun (n : Nat)=>(n : Int)) = (zbt 0 o acc (za6 R)).map (fun (n : Nat)=>(n : Int)))
  (fun s=>o.length - s.n) ⟨0,0,0,[]⟩ ⟨Nat.zero_le _,Nat.zero_le _,Nat.zero_le _,Nat.le_refl _,by simpa using hb,by simp⟩ (Le.go [(50,50)] [] rfl rfl (by simp) (by simp)) ?_
 rintro ⟨n,i,k,L⟩ ⟨hn,hi,hk,hL,hp,hah⟩
 simp only at hn hi hk hL hp hah
 refine zab ⟨70,[(3,.pv [ints acc,ints f,.vs 2 false (zaJ R)]),(6,.rs 50 0 L.length),(7,.I i),(8,.I k),(11,ints o),(12,.I o.length),(13,.I n),(14,.B (decide (n < o.length)))],[(50,some ⟨1,zah L,0⟩)],400⟩ rfl ?_ ?_
 ·simp
  exact Le.go [(50,50)] [] rfl rfl (by simp) (by simp [fcd])
 refine zaa ?_
 refine zad _ rfl (fun h6=>?_) fun h6=>?_
 ·simp at h6
  have hw1 : IntKind.i64.wrap ((n : Int) + 1) = (n : Int) + 1:=w64 (by omega) (by omega)
  have hw2 : IntKind.i64.wrap ((i : Int) + 1) = (i : Int) + 1:=w64 (by omega) (by omega)
  have hw3 : IntKind.i64.wrap ((k : Int) + 1) = (k : Int) + 1:=w64 (by omega) (by omega)
  obtain ⟨x,hx⟩ : ∃ x,x = o[n]:=⟨_,rfl⟩
  have hod : o.drop n = x :: o.drop (n + 1):=by rw [List.drop_eq_getElem_cons h6,hx]
  rw [hod] at hp hah
  simp only [za9,zbt,List.tail_drop] at hp hah
  refine zae ?_
  refine zaa ?_
  refine zaf ?_
  refine zab ⟨70,[(3,.pv [ints acc,ints f,.vs 2 false (zaJ R)]),(6,.rs 50 0 L.length),(7,.I i),(8,.I k),(10,.I x),(11,ints o),(12,.I o.length),(13,.I n)],[(50,some ⟨1,zah L,0⟩)],500⟩ rfl ?_ ?_
  ·simp [h6,← hx]
   exact Le.go [(50,50)] [] rfl rfl (by simp) (by simp [fcd])
  refine zaf ?_
  refine zab ⟨70,[(3,.pv [ints acc,ints f,.vs 2 false (zaJ R)]),(6,.rs 50 0 L.length),(7,.I i),(8,.I k),(10,.I x),(11,ints o),(12,.I o.length),(13,.I n),(17,.B (decide ((acc.drop i).head? = some x)))],[(50,some ⟨1,zah L,0⟩)],700⟩ rfl ?_ ?_
  ·by_cases hia : i < acc.length
   ·have hh:=zjQ hia
    simp [hia]
    exact Le.go [(50,50)] [] rfl rfl (by simp <;> exact wkB (by rw [Bool.eq_iff_iff]; simp [hia])) (by simp [fcd])
   ·have hh:=zf0 hia
    have hai : acc.length ≤ i:=by omega
    simp [hia]
    exact Le.go [(50,50)] [] rfl rfl (by simp [hia]) (by simp [fcd])
  refine zad _ rfl (fun h9=>?_) fun h9=>?_
  ·rw [decide_eq_true_eq] at h9
   rw [if_pos h9] at hp hah
   have hia : i < acc.length:=Decidable.byContradiction fun h=>by rw [zf0 h] at h9; cases h9
   refine zav rfl ?_
   simp
   refine zav rfl ?_
   simp
   exact ⟨⟨n + 1,i + 1,k,L⟩,⟨by simp only; omega,by simp only; omega,hk,by simp only; omega,hp,hah⟩,by simp only; omega,Le.go [(50,50)] [] rfl rfl (by simp [hw1,hw2]) (by simp [fcd])⟩
  rw [decide_eq_false_iff_not] at h9
  rw [if_neg h9] at hp hah
  refine zab ⟨70,[(3,.pv [ints acc,ints f,.vs 2 false (zaJ R)]),(6,.rs 50 0 L.length),(7,.I i),(8,.I k),(11,ints o),(12,.I o.length),(13,.I n),(34,.B (decide (((za6 R).drop k).head? = some x)))],[(50,some ⟨1,zah L,0⟩)],900⟩ rfl ?_ ?_
  ·by_cases hkR : k < R.length
   ·have hh : ((za6 R).drop k).head? = some R[k].1:=by rw [List.head?_drop,za6,List.getElem?_map,List.getElem?_eq_getElem hkR]; rfl
    have hh2 : (za6 R)[k]? = some R[k].1:=by rw [← List.head?_drop]; exact hh
    simp [hkR]
    exact Le.go [(50,50)] [] rfl rfl (by simp [hh2] <;> exact wkB (by rw [Bool.eq_iff_iff]; simp)) (by simp [fcd])
   ·have hh : ((za6 R).drop k).head? = none:=by rw [List.head?_drop,List.getElem?_eq_none (by omega)]
    have hh2 : (za6 R)[k]? = none:=by rw [← List.head?_drop]; exact hh
    simp [hkR]
    exact Le.go [(50,50)] [] rfl rfl (by simp [hh2,hkR]) (by simp [fcd])
  refine zad _ rfl (fun h11=>?_) fun h11=>?_
  ·rw [decide_eq_true_eq] at h11
   rw [if_pos h11] at hp hah
   have hkR : k < R.length:=Decidable.byContradiction fun h=>by rw [List.head?_drop,List.getElem?_eq_none (by omega)] at h11; cases h11
   refine zab ⟨70,[(3,.pv [ints acc,ints f,.vs 2 false (zaJ R)]),(6,.rs 50 0 L.length),(7,.I i),(8,.I (k + 1 : Nat)),(11,ints o),(12,.I o.length),(13,.I n)],[(50,some ⟨1,zah L,0⟩)],1000⟩ rfl ?_ ?_
   ·simp
    exact Le.go [(50,50)] [] rfl rfl (by simp [hw3]) (by simp [fcd])
   have htL : ∀ h : Int → List AV,List.take L.length (List.map h L) = List.map h L:=fun h=>List.take_of_length_le (by simp)
   refine zav rfl ?_
   simp [htL]
   refine ⟨by omega,by omega,?_⟩
   refine zav rfl ?_
   simp
   exact ⟨⟨n + 1,i,k + 1,L ++ [(i : Int)]⟩,⟨by simp only; omega,hi,hkR,by simp; omega,hp,by simpa using hah⟩,by simp only; omega,Le.go [(1024,50)] [] rfl rfl (by simp [hw1]) (by simp [fcd])⟩
  rw [decide_eq_false_iff_not] at h11
  rw [if_neg h11] at hp
  subst hp
  refine zab ⟨70,[(4,ints []),(5,.B false)],[],1000⟩ rfl ?_ ?_
  ·simp
   exact Le.go [] [] rfl rfl (by simp; exact Wk.nil _ _) (by simp)
  refine zag ?_
  exact zjM.mk (.inr rfl) [] (fun h=>by cases h) (zam.out [] [] rfl (by simp) (by simp) (by simp; exact .refl _) (by simp))
 simp at h6
 obtain rfl : n = o.length:=by omega
 rw [List.drop_length] at hp hah
 have hp2 : b = (decide (i = acc.length) && decide (k = R.length)):=by
  rw [hp]
  simp only [za9]
  rw [Bool.eq_iff_iff]
  simp [List.isEmpty_iff]
  omega
 refine zan ?_
 refine hit ?_
 have htL : ∀ h : Int → List AV,List.take L.length (List.map h L) = List.map h L:=fun h=>List.take_of_length_le (by simp)
 refine zaw ⟨70,[(4,ints L),(5,.B b)],[],1000⟩ rfl ?_ ?_
 ·by_cases hia : i = acc.length
  ·simp [hia]
   exact ⟨rfl,Le.go [] [50] rfl rfl (by simp [hp2,hia,fcd,htL] <;> exact wkB (by rw [Bool.eq_iff_iff]; simp; omega)) (by simp)⟩
  ·have hia2 : ¬ (i : Int) = acc.length:=by omega
   have hia3 : ((i : Int) == (acc.length : Int)) = false:=by simpa using hia2
   simp [hia3]
   exact ⟨rfl,Le.go [] [50] rfl rfl (by simp [hp2,hia,fcd,htL]) (by simp)⟩
 refine zag ?_
 exact zjM.mk (.inr rfl) L (fun _=>by simpa [zbt] using hah) (zam.out [] [] rfl (by simp) (by simp) (by simp) (by simp))
theorem zpm {o a r : List Int} (hn : o.Nodup) (h : za9 o a r = true) : o.Perm (a ++ r) :=
 zbU hn (fun x hx=>List.mem_append.2 (zha h x hx)) (by rw [zgF h,List.length_append]; exact Nat.le_refl _)
theorem zkT {g : Gr} (hg : GrOk g) (p : Pol) : (ordL (zai g p.lv) p.seeds).length ≤ 64:=by
 have hsz:=hg.1.1
 have hsz2:=hg.1.2.1
 have hr : ∀ x ∈ ordL (zai g p.lv) p.seeds,0 ≤ x ∧ x < g.size:=fun x hx=>by have h:=zcN hx; exact h
 have:=zbk (b:=(List.range g.size.toNat).map fun i : Nat=>(i : Int)) (zbu (zai g p.lv) p.seeds) fun x hx=>by
  have:=hr x hx
  exact List.mem_map.2 ⟨x.toNat,List.mem_range.2 (by omega),by omega⟩
 rw [List.length_map,List.length_range] at this
 omega
set_option maxRecDepth 100000 in
set_option maxHeartbeats 4000000 in
open Classical in
theorem zje (g : Gr) (p : Pol) (acc f : List Int) (R : List (Int × List Int)) (hg : GrOk g) (hp : zaZ g.size p) (hs : p.seeds.length ≤ 64) (hN : g.size < 20) (ha : acc.length ≤ 1000) (hR : R.length ≤ 1000) (hf : f.length ≤ 1099511627776) (hsd : ∀ r ∈ R,r.2.length ≤ 140737488355328) :
  zaj Tryz.prog zey [eG g,eP p,eAcc acc f R] [] (.I (zom g p acc f R)) []:=by
 have hsz:=hg.1.1
 have hsz2:=hg.1.2.1
 have hel:=hg.edges_le
 have hgl:=hg.gone_le
 have hchk:=zbV g p (by omega) (by omega) (by omega) (by have:=hp.2.2.2.1; omega)
 rw [if_pos hg,if_pos hp] at hchk
 have hord:=zfj g p hg hN (by omega)
 have hol:=zkT hg p
 unfold zom
 obtain ⟨o,ho⟩ : ∃ o,o = ordL (zai g p.lv) p.seeds:=⟨_,rfl⟩
 have hor : ∀ k ∈ o,0 ≤ k ∧ k < g.size:=fun k hk=>by rw [ho] at hk; have h:=zcN hk; exact h
 have hon : o.Nodup:=by rw [ho]; exact zbu _ _
 rw [← ho] at hord hol ⊢
 obtain ⟨L,hL,hpart⟩:=zjm o acc f R (by omega) ha hR
 refine zlB.acalls (Nat.le_of_ble_eq_true rfl) (Nat.le_of_ble_eq_true rfl) (Nat.le_refl _) ?_
 show awp _ 0 _ _ ⟨80,[(0,eG g),(1,eP p),(2,eAcc acc f R)],[],16⟩
 refine zab ⟨80,[(3,.pv (gC g)),(4,.pv (pC p)),(5,.pv [ints acc,ints f,.vs 2 false (zaJ R)])],[],60⟩ rfl ?_ ?_
 ·simp
  exact Le.go [] [16,24,32] rfl rfl (by simp) (by simp)
 refine zaa ?_
 refine rx (s:=?s2) [3,4,5,7] [] [] rfl ?o2 ?q2
 case o2=>simp; refine zal hchk (by simp) ?_; simp; rfl
 refine rx (s:=?s3) [3,4,5,18] [] [] rfl ?o3 ?q3
 case o3=>simp; rfl
 refine zad _ rfl (fun h=>by cases h) fun _=>?_
 refine zae ?_
 refine zaw ⟨80,[(3,.pv (gC g)),(4,.pv (pC p)),(5,.pv [ints acc,ints f,.vs 2 false (zaJ R)]),(8,ints L),(9,.B (za9 o acc (za6 R)))],[],300⟩ rfl ?_ ?_
 ·simp
  refine za1 hord (by simp) ?_
  simp
  refine zp8 [124] (by simp) hpart (by simp [fcd,zaq]) ?_
  simp
  exact ⟨rfl,Le.go [] [] rfl rfl (by simp) (by simp)⟩
 refine zaa ?_
 refine zab ⟨80,[(3,.pv (gC g)),(4,.pv (pC p)),(5,.pv [ints acc,ints f,.vs 2 false (zaJ R)]),(8,ints L),(29,.B (!za9 o acc (za6 R)))],[],400⟩ rfl ?_ ?_
 ·simp
  exact Le.go [] [] rfl rfl (by simp) (by simp)
 refine zad _ rfl (fun h8=>?_) fun h8=>?_
 ·have h8' : ¬ za9 o acc (za6 R) = true:=by simpa using h8
  rw [if_neg h8']
  refine rx (s:=?s9) [6] [] [] rfl ?o9 ?q9
  case o9=>simp; rfl
  refine zag ?_
  exact ⟨.inr rfl,zam.one (by simp)⟩
 have h8' : za9 o acc (za6 R) = true:=by simpa using h8
 rw [if_pos h8']
 have hL:=hL h8'
 have hsub:=zg9 h8'
 have hperm:=(zpm hon h8').nodup_iff.1 hon
 have hkl : (za6 R).length = R.length:=by simp [za6]
 have hrk : ∀ k ∈ za6 R,0 ≤ k ∧ k < g.size:=fun k hk=>hor k (hsub.2.subset hk)
 have hak : ∀ k ∈ acc,0 ≤ k ∧ k < g.size:=fun k hk=>hor k (hsub.1.subset hk)
 have han : acc.Nodup:=(List.nodup_append.1 hperm).1
 have hnet:=zbv g p acc hg hp han hak hs
 have hnv : ∀ a : List Int,(∀ x ∈ a,0 ≤ x ∧ x < g.size) → za4 ⟨netN g,netA g p (zar a)⟩:=fun a h=>zd3 hg hp (zeb (zbE h)) hs (zbw a)
 have hval:=zgS (f:=f) (hnv acc hak) hf
 have hvv:=zgq (f:=f) (hnv acc hak) hf
 have hcut:=zi7 (g:=g) (p:=p) (b:=[]) h8'
 obtain ⟨A,hA⟩ : ∃ A,A = netA g p (zar acc):=⟨_,rfl⟩
 rw [← hA] at hnet hval hvv
 rw [← hA]
 refine zae ?_
 refine zaa ?_
 refine zab ⟨80,[(3,.pv (gC g)),(4,.pv (pC p)),(5,.pv [ints acc,ints f,.vs 2 false (zaJ R)]),(8,ints L),(10,.pv (nC ⟨netN g,A⟩))],[],500⟩ rfl ?_ ?_
 ·simp
  refine zal hnet (by simp) ?_
  simp
  exact Le.go [] [440] rfl rfl (by simp) (by simp)
 refine zaw ⟨80,[(3,.pv (gC g)),(4,.pv (pC p)),(5,.pv [ints acc,ints f,.vs 2 false (zaJ R)]),(8,ints L),(49,.B (!decide (zaB (netN g) A f ∧ valF A f = acc.length)))],[],700⟩ rfl ?_ ?_
 ·by_cases hfo : zaB (netN g) A f
  ·rw [decide_eq_true hfo] at hval
   rw [if_pos hfo] at hvv
   simp
   refine zal hval (by simp) ?_
   simp
   refine zal hvv (by simp) ?_
   simp
   exact ⟨rfl,Le.go [] [] rfl rfl (by simp [hfo] <;> exact wkB (by rw [Bool.eq_iff_iff]; simp)) (by simp)⟩
  ·rw [decide_eq_false hfo] at hval
   simp
   refine zal hval (by simp) ?_
   simp
   exact ⟨rfl,Le.go [] [] rfl rfl (by simp [hfo]) (by simp)⟩
 refine zad _ rfl (fun h12=>?_) fun h12=>?_
 ·have h12' : ¬ (zaB (netN g) A f ∧ valF A f = acc.length):=fun h=>by rw [decide_eq_true h] at h12; cases h12
  rw [if_neg h12']
  refine rx (s:=?s13) [6] [] [] rfl ?o13 ?q13
  case o13=>simp; rfl
  refine zag ?_
  exact ⟨.inr rfl,zam.one (by simp)⟩
 have h12' : zaB (netN g) A f ∧ valF A f = acc.length:=by simpa using h12
 rw [if_pos h12']
 refine zae ?_
 refine zaa ?_
 refine rx (s:=?s14) [3,4,5,8,51,52,53] [] [] rfl ?o14 ?q14
 case o14=>simp; rfl
 refine zaf ?_
 refine zao (ι:=Nat) (fun i=>⟨80,[(3,.pv (gC g)),(4,.pv (pC p)),(5,.pv [ints acc,ints f,.vs 2 false (zaJ R)]),(8,ints L),(51,.vs 2 false (zaJ R)),(52,.I R.length),(53,.I i)],[],800⟩)
  (fun i=>i ≤ R.length ∧ ∀ j (h : j < R.length),j < i → zh3 g p ([] ++ acc.take ((zbt 0 o acc (za6 R)).getD j 0 - 0)) R[j]) (fun i=>R.length - i) 0 ⟨Nat.zero_le _,fun j _ h=>absurd h (Nat.not_lt_zero _)⟩ (Le.go [] [] rfl rfl (by simp) (by simp)) ?_
 rintro i ⟨hi,hpre⟩
 refine rx (s:=?s15) [3,4,5,8,51,52,53,54] [] [] rfl ?o15 ?q15
 case o15=>simp; rfl
 refine zaa ?_
 refine zad _ rfl (fun h16=>?_) fun h16=>?_
 ·simp at h16
  have hw1 : IntKind.i64.wrap ((i : Int) + 1) = (i : Int) + 1:=w64 (by omega) (by omega)
  have hail : i < (zbt 0 o acc (za6 R)).length:=by rw [zfE h8',hkl]; exact h16
  have hage:=zgv (List.getElem_mem hail)
  have hgd : (zbt 0 o acc (za6 R)).getD i 0 = (zbt 0 o acc (za6 R))[i]:=by rw [List.getD_eq_getElem?_getD,List.getElem?_eq_getElem hail,Option.getD_some]
  obtain ⟨m,hm⟩ : ∃ m,m = (zbt 0 o acc (za6 R))[i]:=⟨_,rfl⟩
  rw [← hm] at hage hgd
  have hLi : L[i]? = some (m : Int):=by rw [hL,List.getElem?_map,List.getElem?_eq_getElem hail,← hm]; rfl
  have hiL : i < L.length:=(List.getElem?_eq_some_iff.1 hLi).1
  have hLi' : L[i] = (m : Int):=by rw [List.getElem?_eq_getElem hiL] at hLi; exact Option.some.inj hLi
  have hgoal : zh3 g p ([] ++ acc.take ((zbt 0 o acc (za6 R)).getD i 0 - 0)) R[i] ↔ zh3 g p (acc.take m) R[i]:=by rw [hgd,Nat.sub_zero,List.nil_append]
  have hsdi:=hsd _ (List.getElem_mem h16)
  obtain ⟨r,hr⟩ : ∃ r,r = R[i]:=⟨_,rfl⟩
  have hrm : r.1 ∈ za6 R:=by rw [hr]; exact List.mem_map.2 ⟨_,List.getElem_mem h16,rfl⟩
  rw [← hr] at hgoal hsdi
  have htl : (acc.take m).length = m:=by rw [List.length_take]; omega
  have hks : ∀ x ∈ acc.take m ++ [r.1],0 ≤ x ∧ x < g.size:=fun x hx=>by
   rcases List.mem_append.1 hx with h | h
   ·exact hak x (List.mem_of_mem_take h)
   ·rw [List.mem_singleton] at h; subst h; exact hrk _ hrm
  have hkn : (acc.take m ++ [r.1]).Nodup:=List.nodup_append.2 ⟨han.sublist (List.take_sublist _ _),by simp,fun a ha b hb=>by
   rw [List.mem_singleton] at hb
   subst hb
   exact (List.nodup_append.1 hperm).2.2 a (List.mem_of_mem_take ha) _ hrm⟩
  have hwith:=zf1 (acc.take m) r.1 (by omega)
  have hnet2:=zbv g p (acc.take m ++ [r.1]) hg hp hkn hks hs
  have hprv:=zk1 ⟨netN g,netA g p (zar (acc.take m ++ [r.1]))⟩ r.2 m (by have:=(hnv _ hks).2.2.1; simp only at this ⊢; omega) hsdi
  have hpd : decide (zev ⟨netN g,netA g p (zar (acc.take m ++ [r.1]))⟩ r.2 m) = decide (zh3 g p (acc.take m) r):=by
   unfold zh3
   rw [htl]
  rw [hpd] at hprv
  rw [htl] at hwith
  obtain ⟨W,hW⟩ : ∃ W,W = acc.take m ++ [r.1]:=⟨_,rfl⟩
  have hWl : W.length = m + 1:=by rw [hW,List.length_append,htl]; rfl
  rw [← hW] at hwith hnet2 hprv
  rw [← hWl] at hwith
  obtain ⟨A2,hA2⟩ : ∃ A2,A2 = netA g p (zar W):=⟨_,rfl⟩
  rw [← hA2] at hnet2 hprv
  have hw2 : IntKind.i64.wrap ((W.length : Int) - 1) = (m : Int):=by rw [hWl,w64 (by omega) (by omega)]; omega
  have hma : m ≤ acc.length:=by omega
  refine zae ?_
  refine zaa ?_
  refine zaf ?_
  refine zab ⟨80,[(3,.pv (gC g)),(4,.pv (pC p)),(5,.pv [ints acc,ints f,.vs 2 false (zaJ R)]),(8,ints L),(11,.I i),(12,.pv [.I r.1,ints r.2]),(51,.vs 2 false (zaJ R)),(52,.I R.length),(53,.I i)],[],1000⟩ rfl ?_ ?_
  ·simp [h16,← hr]
   exact Le.go [] [832] rfl rfl (by simp) (by simp)
  refine zaw ⟨80,[(3,.pv (gC g)),(4,.pv (pC p)),(5,.pv [ints acc,ints f,.vs 2 false (zaJ R)]),(8,ints L),(12,.pv [.I r.1,ints r.2]),(13,ints W),(51,.vs 2 false (zaJ R)),(52,.I R.length),(53,.I i)],[],1200⟩ rfl ?_ ?_
  ·simp [hiL,hLi',hma]
   refine za1 hwith (by simp [List.map_take]) ?_
   simp
   exact ⟨rfl,Le.go [] [1072] rfl rfl (by simp [fcd,zaq]) (by simp)⟩
  refine zaw ⟨80,[(3,.pv (gC g)),(4,.pv (pC p)),(5,.pv [ints acc,ints f,.vs 2 false (zaJ R)]),(8,ints L),(51,.vs 2 false (zaJ R)),(52,.I R.length),(53,.I i),(78,.B (!decide (zh3 g p (acc.take m) r)))],[],1400⟩ rfl ?_ ?_
  ·simp
   refine zal hnet2 (by simp) ?_
   simp [hw2]
   refine zal hprv (by simp) ?_
   simp
   exact ⟨rfl,Le.go [] [] rfl rfl (by simp) (by simp)⟩
  refine zad _ rfl (fun h20=>?_) fun h20=>?_
  ·have h20' : ¬ zh3 g p (acc.take m) r:=by simpa using h20
   have hno : ¬ zeB g p [] o acc R:=fun h=>h20' (hgoal.1 (by rw [hr]; exact hcut.1 h i h16))
   rw [if_neg hno]
   refine rx (s:=?s21) [6] [] [] rfl ?o21 ?q21
   case o21=>simp; rfl
   refine zag ?_
   exact ⟨.inr rfl,zam.one (by simp)⟩
  have h20' : zh3 g p (acc.take m) r:=by simpa using h20
  refine zae ?_
  refine zav rfl ?_
  simp
  refine ⟨i + 1,⟨h16,fun j hj hji=>?_⟩,by omega,Le.go [] [] rfl rfl (by simp [hw1]) (by simp)⟩
  rcases Nat.lt_succ_iff_lt_or_eq.1 hji with h | h
  ·exact hpre j hj h
  ·subst h
   have h5:=hgoal.2 h20'
   rw [hr] at h5
   exact h5
 simp at h16
 obtain rfl : i = R.length:=by omega
 have hyes : zeB g p [] o acc R:=hcut.2 fun j hj=>hpre j hj hj
 rw [if_pos hyes]
 refine zan ?_
 refine hit ?_
 refine rx (s:=?s22) [6] [] [] rfl ?o22 ?q22
 case o22=>simp; rfl
 refine zag ?_
 exact ⟨.inr rfl,zam.one (by simp)⟩
variable {N : Nat} {A : List Ed} {f : List Int}
set_option maxRecDepth 100000
theorem zky {N : Nat} {A : List Ed} (hn : za4 ⟨N,A⟩) : zcn ⟨N,A⟩ (zdf N A) ∧ cutV A (zdf N A) = maxF N A:=by
 have hno:=zfC hn
 obtain ⟨f,hf,hm⟩:=zeJ hno
 obtain ⟨D,b,hb,hc⟩:=Bfs.grow hno N [0] _ (Bfs.start (f:=f) (by have:=hno.two; omega)) (by omega)
 have h1:=znp hno hf hm hb
 have hmf:=zgd hf hm
 have he : inD D N = zdf N A:=zor hno hf hm hb.tree hb.mem0 h1 hc
 have hgr:=(zii hno hf hb.mem0 h1 hc).1
 have hmD : ∀ x,x ∈ inD D N ↔ x ∈ D:=fun x=>by
  rw [zre]
  exact ⟨fun h=>h.2,fun h=>⟨hb.rng x h,h⟩⟩
 rw [← he]
 refine ⟨⟨hn,zfh (zrq D N) fun k hk=>by have:=(zre.1 hk).1; simp only; omega,(hmD 0).2 hb.mem0,fun h=>h1 ((hmD 1).1 h)⟩,?_⟩
 rw [zmv,hmf,hgr]
 congr 1
 funext x
 exact decide_eq_decide.2 (hmD x)
section
variable {g : Gr} {p : Pol}
theorem ziC : ∀ {o b a : List Int} {R : List (Int × List Int)} {k : Int},za9 o a (za6 R) = true → k ∉ o → zeB g p b o a R → zeB g p b (o ++ [k]) (a ++ [k]) R
 | [],b,a,R,k,h,_,_=>by
   simp [za9,za6] at h
   obtain ⟨rfl,rfl⟩:=h
   simp [zeB]
 | x :: o,b,a,R,k,h,hk,hc=>by
   have hkx : k ≠ x:=fun e=>hk (by simp [e])
   have hko : k ∉ o:=fun e=>hk (List.mem_cons_of_mem _ e)
   simp only [za9] at h
   simp only [zeB] at hc
   simp only [List.cons_append,zeB]
   split at h
   ·rename_i h1
    rw [if_pos h1] at hc
    cases a with
    | nil=>cases h1
    | cons y a =>
      have : y = x:=by simpa using h1
      subst this
      simpa using ziC h hko hc
   ·rename_i h1
    rw [if_neg h1] at hc
    have h3 : (a ++ [k]).head? ≠ some x:=by
     cases a with
     | nil=>simpa using hkx
     | cons y a=>simpa using h1
    rw [if_neg h3]
    split at h
    ·cases R with
     | nil=>trivial
     | cons r R=>exact ⟨hc.1,ziC h hko hc.2⟩
    ·cases h
theorem ziN : ∀ {o b a : List Int} {R : List (Int × List Int)} {r : Int × List Int},za9 o a (za6 R) = true → r.1 ∉ o → zh3 g p (b ++ a) r → zeB g p b o a R → zeB g p b (o ++ [r.1]) a (R ++ [r])
 | [],b,a,R,r,h,_,hr,_=>by
   simp [za9,za6] at h
   obtain ⟨rfl,rfl⟩:=h
   rw [List.append_nil] at hr
   simp [zeB,hr]
 | x :: o,b,a,R,r,h,hk,hr,hc=>by
   have hko : r.1 ∉ o:=fun e=>hk (List.mem_cons_of_mem _ e)
   simp only [za9] at h
   simp only [zeB] at hc
   simp only [List.cons_append,zeB]
   split at h
   ·rename_i h1
    rw [if_pos h1] at hc
    rw [if_pos h1]
    cases a with
    | nil=>cases h1
    | cons y a =>
      have : y = x:=by simpa using h1
      subst this
      exact ziN h hko (by simpa using hr) hc
   ·rename_i h1
    rw [if_neg h1] at hc
    rw [if_neg h1]
    split at h
    ·rename_i h2
     cases R with
     | nil=>cases h2
     | cons q R=>exact ⟨hc.1,ziN h hko hr hc.2⟩
    ·cases h
theorem zpf (hg : GrOk g) (hp : zaZ g.size p) {a : List Int} (h : ∀ x ∈ a,x ∈ ordL (zai g p.lv) p.seeds) : zaX g p a:=by
 refine ⟨fun x hx=>?_,fun x hx=>?_⟩
 ·have h2:=zcN (h x hx)
  exact h2
 ·have h2:=(zio (hg.level p.lv)).1 (h x hx)
  exact (zfG hp h2.1.1).2 ⟨h2.1.2,h2.2⟩
theorem zaX.join {a : List Int} (h : zaX g p a) : zaX g p (zar a):=h.sub fun _ hx=>(zb8.1 hx).1
theorem zjt (hg : GrOk g) (hp : zaZ g.size p) (hs : p.seeds.length ≤ 64) : ∀ (n : Nat) (o : List Int),o.length = n → o.Nodup → zaX g p o →
  zap g p (zar (accR g p o)) ∧ za9 o (accR g p o) (za6 (refR g p o)) = true ∧ zeB g p [] o (accR g p o) (refR g p o)
 | 0,o,h,_,_=>by
   obtain rfl:=List.eq_nil_of_length_eq_zero h
   exact ⟨zap.nil hg hp,rfl,trivial⟩
 | n + 1,o,h,hon,hok=>by
   have hne : o ≠ []:=fun e=>by rw [e] at h; cases h
   obtain ⟨q,hq⟩ : ∃ q,q = o.dropLast:=⟨_,rfl⟩
   obtain ⟨k,hk⟩ : ∃ k,k = o.getLast hne:=⟨_,rfl⟩
   have ho : o = q ++ [k]:=by rw [hq,hk]; exact (List.dropLast_concat_getLast hne).symm
   have hql : q.length = n:=by rw [hq,List.length_dropLast,h]; rfl
   rw [ho] at hon hok ⊢
   have hqn : q.Nodup:=(List.nodup_append.1 hon).1
   have hkq : k ∉ q:=fun hm=>(List.nodup_append.1 hon).2.2 k hm k (by simp) rfl
   have hqok : zaX g p q:=hok.sub fun x hx=>List.mem_append_left _ hx
   obtain ⟨ih1,ih2,ih3⟩:=zjt hg hp hs n q hql hqn hqok
   by_cases hc : zap g p (zar (accR g p q ++ [k]))
   ·rw [zb2 hc,zdo hc]
    exact ⟨hc,zjx ih2 hkq,ziC ih2 hkq ih3⟩
   ·rw [zfw hc,zeO hc]
    have hsz2:=hg.1.2.1
    have hrng : ∀ x ∈ accR g p q ++ [k],0 ≤ x ∧ x < g.size:=fun x hx=>hok.rng x (by
     rcases List.mem_append.1 hx with h2 | h2
     ·exact List.mem_append_left _ (zcz h2)
     ·exact List.mem_append_right _ h2)
    have hnd : (accR g p q ++ [k]).Nodup:=List.nodup_append.2 ⟨hqn.sublist (zdm _ _ rfl),by simp,fun a ha b hb=>by
     rw [List.mem_singleton] at hb
     subst hb
     rintro rfl
     exact hkq (zcz ha)⟩
    have hjl:=zfM hnd fun x hx=>by have:=hrng x hx; omega
    have hnv:=zd3 hg hp (zeb (zbE hrng)) hs (zbw (accR g p q ++ [k]))
    have hside:=zky hnv
    have hfew:=zfK (p:=p) (ks:=zar (accR g p q ++ [k])) hg hp (zeb (zbE hrng))
    have hcut : zh3 g p (accR g p q) (k,zdf (netN g) (netA g p (zar (accR g p q ++ [k])))):=by
     refine ⟨hside.1,?_⟩
     simp only
     rw [hside.2]
     have : maxF (netN g) (netA g p (zar (accR g p q ++ [k]))) ≠ (zar (accR g p q ++ [k])).length:=hc
     rw [hjl,List.length_append,List.length_singleton] at this hfew
     omega
    refine ⟨ih1,?_,?_⟩
    ·have:=ziq (r:=za6 (refR g p q)) ih2 hkq
     simpa [za6] using this
    ·exact ziN (r:=(k,zdf (netN g) (netA g p (zar (accR g p q ++ [k]))))) ih2 hkq (by rw [List.nil_append]; exact hcut) ih3
theorem zdt (hg : GrOk g) (hp : zaZ g.size p) : zaX g p (ordL (zai g p.lv) p.seeds):=zpf hg hp fun _ h=>h
theorem zme (hg : GrOk g) (hp : zaZ g.size p) (hs : p.seeds.length ≤ 64) {f : List Int} (hf : zmT g p (zar (accR g p (ordL (zai g p.lv) p.seeds))) f) :
  zom g p (accR g p (ordL (zai g p.lv) p.seeds)) f (refR g p (ordL (zai g p.lv) p.seeds)) = 0:=by
 have hon:=zbu (zai g p.lv) p.seeds
 obtain ⟨h1,h2,h3⟩:=zjt hg hp hs _ _ rfl hon (zdt hg hp)
 have hsz2:=hg.1.2.1
 have hjl:=zfM (hon.sublist (zdm (g:=g) (p:=p) _ _ rfl)) fun x hx=>by
  have:=(zdt hg hp).rng x (zcz hx)
  omega
 unfold zom
 rw [if_pos h2,if_pos ⟨hf.ok,by rw [hf.val,← hjl]; exact h1⟩,if_pos h3]
end
def gF : Gr:=⟨3,[⟨0,1,1⟩,⟨0,2,1⟩],[]⟩
def pF : Pol:=⟨[0],[2,1],1⟩
theorem zj8 : GrOk gF:=by
 refine ⟨⟨by decide +revert,by decide +revert,by decide +revert,fun i h=>by simp [gF] at h⟩,fun i h=>?_⟩
 have : i = 0 ∨ i = 1:=by simp [gF] at h; omega
 rcases this with rfl | rfl
 ·exact ⟨by unfold Fits; simp [gF],by decide +revert,by decide +revert,fun h=>by cases h⟩
 ·exact ⟨by unfold Fits; simp [gF],by decide +revert,by decide +revert,fun h=>by decide +revert⟩
theorem zlC : zaZ gF.size pF:=by
 refine ⟨by decide +revert,fun i h=>?_,by decide +revert,by decide +revert,by decide +revert,by decide +revert,fun i h=>?_⟩
 ·obtain rfl : i = 0:=by simp [pF] at h; omega
  exact ⟨by decide +revert,by decide +revert,fun h=>by cases h⟩
 ·have : i = 0 ∨ i = 1:=by simp [pF] at h; omega
  rcases this with rfl | rfl
  ·exact ⟨by decide +revert,by decide +revert,fun h=>by cases h⟩
  ·exact ⟨by decide +revert,by decide +revert,fun h=>by decide +revert⟩
theorem zoA : ordL (zai gF pF.lv) pF.seeds = [0,1,2]:=by decide
theorem zqc : ∀ {ks : List Int},(∀ x ∈ ks,x = 0 ∨ x = 1 ∨ x = 2) → ∀ x ∈ ks,0 ≤ x ∧ x < gF.size:=fun h x hx=>by
 have : gF.size = 3:=rfl
 rcases h x hx with rfl | rfl | rfl <;> omega
theorem zqC {ks f : List Int} {A : List Ed} (hk : ∀ x ∈ ks,x = 0 ∨ x = 1 ∨ x = 2) (hA : netA gF pF ks = A) (hf : zaB 8 A f) (hv : valF A f = ks.length) : zap gF pF ks:=by
 have hr:=zqc hk
 have h1:=zfK (p:=pF) zj8 zlC hr
 have h2:=zp7 (zdJ zj8 zlC hr) (f:=f) (by rw [hA]; exact hf)
 rw [hA,hv] at h2
 rw [hA] at h1
 unfold zap
 rw [hA]
 have h3 : netN gF = 8:=rfl
 rw [h3] at h1 h2 ⊢
 omega
theorem zsw {N : Nat} {A : List Ed} {f : List Int} (h : (decide (f.length = A.length) && ((List.range A.length).all fun i=>decide (0 ≤ f.getD i 0 ∧ f.getD i 0 ≤ (arcD A i).v)) && ((List.range N).all fun x=>decide (x < 2 ∨ exF A f x = 0))) = true) : zaB N A f:=by
 simp only [Bool.and_eq_true,decide_eq_true_eq,List.all_eq_true,List.mem_range] at h
 exact zfJ.2 ⟨h.1.1,fun i hi=>h.1.2 i hi,fun x h1 h2=>(h.2 x h2).resolve_left (by omega)⟩
theorem zsr : zap gF pF [0]:=zqC (f:=[1,0,0,0,1,0,0]) (by simp) rfl (zsw (by decide)) (by decide)
theorem zp4 : zap gF pF [0,1]:=zqC (f:=[2,1,0,0,1,1,1,0]) (by simp) rfl (zsw (by decide)) (by decide)
theorem ztO : zap gF pF [0,2]:=zqC (f:=[2,1,0,0,1,1,0,1]) (by simp) rfl (zsw (by decide)) (by decide)
theorem zlm : ¬ zap gF pF [0,1,2]:=fun h=>by
 have h1:=zkL (zdJ zj8 zlC (zqc (ks:=[0,1,2]) (by simp))) (S:=fun x=>decide (x = 0)) (by decide) (by decide)
 have h2 : maxF (netN gF) (netA gF pF [0,1,2]) = 3:=h
 rw [h2] at h1
 revert h1
 decide
theorem ztF : accR gF pF [0,1,2] = [0,1]:=by
 have h0 : accR gF pF [0] = [0]:=zb2 (o:=[]) (k:=0) zsr
 have h1 : accR gF pF [0,1] = [0,1]:=by
  have h:=zb2 (g:=gF) (p:=pF) (o:=[0]) (k:=1) (by rw [h0]; exact zp4)
  rw [h0] at h
  exact h
 have h:=zfw (g:=gF) (p:=pF) (o:=[0,1]) (k:=2) (by rw [h1]; exact zlm)
 rw [h1] at h
 exact h
theorem ztf : ∃ side,refR gF pF [0,1,2] = [(2,side)]:=by
 have h0 : accR gF pF [0] = [0]:=zb2 (o:=[]) (k:=0) zsr
 have h1 : accR gF pF [0,1] = [0,1]:=by
  have h:=zb2 (g:=gF) (p:=pF) (o:=[0]) (k:=1) (by rw [h0]; exact zp4)
  rw [h0] at h
  exact h
 have r0 : refR gF pF [0] = []:=zdo (o:=[]) (k:=0) zsr
 have r1 : refR gF pF [0,1] = []:=by
  have h:=zdo (g:=gF) (p:=pF) (o:=[0]) (k:=1) (by rw [h0]; exact zp4)
  rw [r0] at h
  exact h
 have h:=zeO (g:=gF) (p:=pF) (o:=[0,1]) (k:=2) (by rw [h1]; exact zlm)
 rw [r1] at h
 exact ⟨_,h⟩
theorem zmx (g : Gr) (p : Pol) : ∀ (n : Nat) (o : List Int),o.length = n → ∀ r ∈ refR g p o,r.2.length ≤ netN g
 | 0,o,h,r,hr=>by
   obtain rfl:=List.eq_nil_of_length_eq_zero h
   cases hr
 | n + 1,o,h,r,hr=>by
   have hne : o ≠ []:=fun e=>by rw [e] at h; cases h
   rw [← List.dropLast_concat_getLast hne] at hr
   have ih:=zmx g p n o.dropLast (by rw [List.length_dropLast,h]; rfl)
   by_cases hc : zap g p (zar (accR g p o.dropLast ++ [o.getLast hne]))
   ·rw [zdo hc] at hr; exact ih r hr
   ·rw [zeO hc] at hr
    rcases List.mem_append.1 hr with h2 | h2
    ·exact ih r h2
    ·rw [List.mem_singleton] at h2
     rw [h2]
     exact zix _ _
noncomputable abbrev accG (g : Gr) (p : Pol) : List Int:=accR g p (ordL (zai g p.lv) p.seeds)
noncomputable abbrev refG (g : Gr) (p : Pol) : List (Int × List Int):=refR g p (ordL (zai g p.lv) p.seeds)
theorem zob {g : Gr} (hg : GrOk g) (p : Pol) : (accG g p).length ≤ 64:=Nat.le_trans (zoe _) (zkT hg p)
theorem zop {g : Gr} (hg : GrOk g) (p : Pol) : (refG g p).length ≤ 64:=Nat.le_trans (zkA _ _ _ _ rfl) (zkT hg p)
theorem zqe {g : Gr} (hg : GrOk g) (p : Pol) : ∀ r ∈ refG g p,r.2.length ≤ 130:=fun r hr=>by
 have h1:=zmx g p _ _ rfl r hr
 have h2:=zfD hg
 have h3:=hg.1.2.1
 omega
theorem zqu {g : Gr} {p : Pol} {ks f : List Int} (hg : GrOk g) (hp : zaZ g.size p) (hr : ∀ x ∈ ks,0 ≤ x ∧ x < g.size) (hs : p.seeds.length ≤ 64) (hl : ks.length ≤ 64) (hf : zmT g p ks f) : f.length ≤ 1200:=by
 have h1:=zd3 hg hp hr hs hl
 have h2:=hf.ok.fit.len
 have h3:=h1.2.2.1
 simp only at h3
 omega
theorem zru {g : Gr} (p : Pol) : ∀ x ∈ accG g p,0 ≤ x ∧ x < g.size:=fun x hx=>by
 have h:=zcN (zcz hx)
 exact h
theorem ztc : zaj Tryz.prog zhd [] [] (.tup [eG gF,eP pF]) []:=by
 refine zpz.acalls (Nat.le_of_ble_eq_true rfl) (Nat.le_of_ble_eq_true rfl) (Nat.le_refl _) ?_
 show awp _ 0 _ _ ⟨9,[],[],16⟩
 refine rx (s:=?s1) [0,1] [16,24] [] rfl ?o1 ?q1
 case o1=>simp; rfl
 refine zab ⟨9,[(0,.pt 16 0 0),(1,.pt 24 0 0)],[(16,some ⟨3,[[.I 3,eEs [⟨0,1,1⟩,⟨0,2,1⟩],.nilS]],0⟩),(24,some ⟨3,[[ints [0],ints [2,1],.I 1]],0⟩)],300⟩ rfl ?_ ?_
 ·simp
  exact Le.go [(16,16),(24,24)] [48,64,72] rfl rfl (by simp) (by simp)
 refine zag ?_
 exact ⟨.inr rfl,zam.out [] [16,24] rfl (by simp) (by simp) (wkT2 (wkA3 (.refl _) (.refl _) (.nil _ _)) (wkA3 (.refl _) (.refl _) (.refl _))) (by simp)⟩
set_option maxRecDepth 100000 in
set_option maxHeartbeats 4000000 in
open Classical in
theorem zfI : zaj Tryz.prog zcq [] [] (.B true) []:=by
 obtain ⟨f,hf,hrun⟩:=zfv gF pF zj8 zlC (by decide) (by decide)
 have hchk:=zme zj8 zlC (by decide) hf
 have hcheck:=fun (R : List (Int × List Int)) (h1 : R.length ≤ 1000) (h2 : ∀ r ∈ R,r.2.length ≤ 140737488355328)=>zje gF pF [0,1] f R zj8 zlC (by decide) (by decide) (by decide) h1 (by have:=zqu zj8 zlC (zeb (zbE (zru pF))) (by decide) (zbw _) hf; omega) h2
 have hrs:=zqe zj8 pF
 unfold refG at hrs
 rw [zoA,ztF] at hrun hchk hf
 rw [zoA] at hrs
 obtain ⟨side,hside⟩:=ztf
 rw [hside] at hrun hchk hrs
 have hcheck:=hcheck [(2,side)] (by simp) (fun r hr=>by have:=hrs r hr; omega)
 rw [hchk] at hcheck
 have ha1:=zcO [0,1] f [(2,side)] 1 (by decide)
 have ha2:=zcO [0,1] f [(2,side)] 2 (by decide)
 rw [show decide ((1 : Int) ∈ [(0 : Int),1]) = true by decide] at ha1
 rw [show decide ((2 : Int) ∈ [(0 : Int),1]) = false by decide] at ha2
 have hs1:=zeT gF pF [0,2] zj8 zlC (by decide) (by decide)
 have hs2:=zeT gF pF [0,1,2] zj8 zlC (by decide) (by decide)
 have hy1 : zet gF pF [0,2]:=⟨zfh (by decide) (zqc (by simp)),by decide,ztO⟩
 have hn1 : ¬ zet gF pF [0,1,2]:=fun h=>zlm h.2.2
 rw [decide_eq_true hy1] at hs1
 rw [decide_eq_false hn1] at hs2
 refine zmY.acalls (Nat.le_of_ble_eq_true rfl) (Nat.le_of_ble_eq_true rfl) (Nat.le_refl _) ?_
 show awp _ 0 _ _ ⟨73,[],[],16⟩
 refine rx (s:=?s1) [] [] [] rfl ?o1 ?q1
 case o1=>simp; rfl
 refine zab ⟨73,[(1,.pv (gC gF)),(2,.pv (pC pF))],[],200⟩ rfl ?_ ?_
 ·simp
  refine zal ztc (by simp) ?_
  simp
  exact Le.go [] [56,64] rfl rfl (by simp) (by simp)
 refine zab ⟨73,[(1,.pv (gC gF)),(2,.pv (pC pF)),(3,.pv [ints [0,1],ints f,.vs 2 false (zaJ [(2,side)])]),(4,.I 0)],[],400⟩ rfl ?_ ?_
 ·simp
  refine zal hrun (by simp) ?_
  simp
  exact Le.go [] [248] rfl rfl (by simp; exact .refl _) (by simp)
 refine zab ⟨73,[(0,.B true)],[],2000⟩ rfl ?_ ?_
 ·simp
  refine zal hcheck (by simp) ?_
  simp
  refine zal ha1 (by simp) ?_
  simp
  refine zal ha2 (by simp) ?_
  simp
  refine zhO [784] hs1 (by simp) (.sc _) ?_
  simp
  refine zhO [832] hs2 (by simp) (.sc _) ?_
  simp
  exact Le.go [] [] rfl rfl (by simp) (by simp)
 refine zag ?_
 exact ⟨.inr rfl,zam.one (by simp)⟩
variable {g : Gr} {p : Pol}
theorem zqR (hg : GrOk g) (hp : zaZ g.size p) {a b : List Int} (ha : zaX g p a) (h : a.Perm b) : maxF (netN g) (netA g p a) = maxF (netN g) (netA g p b):=by
 have hb : zaX g p b:=ha.sub fun x hx=>h.mem_iff.2 hx
 obtain ⟨X,x0,x1,hx,_⟩:=zih (zdJ (ks:=a) hg hp ha.rng)
 obtain ⟨Y,y0,y1,hy,_⟩:=zih (zdJ (ks:=b) hg hp hb.rng)
 have h1:=zkL (zdJ (ks:=b) hg hp hb.rng) x0 x1
 have h2:=zkL (zdJ (ks:=a) hg hp ha.rng) y0 y1
 rw [zcP x1 ha.reach] at hx
 rw [zcP y1 hb.reach] at hy
 rw [zcP x1 hb.reach,← zht X h] at h1
 rw [zcP y1 ha.reach,zht Y h] at h2
 omega
theorem h64 (hg : GrOk g) {a : List Int} (h : ∀ x ∈ a,0 ≤ x ∧ x < g.size) : ∀ x ∈ a,0 ≤ x ∧ x < 64:=fun x hx=>by
 have:=h x hx
 have:=hg.1.2.1
 omega
theorem zrW {o : List Int} (hn : o.Nodup) {i : Nat} (h : i < o.length) : o[i] ∈ accR g p o ↔ zap g p (zar (accR g p (o.take i) ++ [o[i]])):=zij hn h
theorem zkM (hg : GrOk g) (hp : zaZ g.size p) (hs : p.seeds.length ≤ 64) : (accR g p (ordL (zai g p.lv) p.seeds)).length + (refR g p (ordL (zai g p.lv) p.seeds)).length = (ordL (zai g p.lv) p.seeds).length:=by
 have h:=zgF (zjt hg hp hs _ _ rfl (zbu (zai g p.lv) p.seeds) (zdt hg hp)).2.1
 rw [h,za6,List.length_map]
variable {g : Gr} {p : Pol}
def zdc (g : Gr) (p : Pol) : List Int:=p.seeds.filter fun k=>!g.gone.contains k
theorem zqz (w : Int → Int) (hw : ∀ x,0 ≤ w x) : ∀ {s a : List Int},s.Nodup → (∀ x ∈ s,x ∈ a) → (s.map w).sum ≤ (a.map w).sum
 | [],a,_,_=>by
   have : ∀ a : List Int,0 ≤ (a.map w).sum:=fun a=>by
    induction a with
    | nil=>exact Int.le_refl _
    | cons x a ih=>simp only [List.map_cons,List.sum_cons]; have:=hw x; omega
   exact this a
 | x :: s,a,hn,h=>by
   rw [List.nodup_cons] at hn
   have h1:=List.perm_cons_erase (h x (List.mem_cons_self ..))
   have ih:=zqz w hw (s:=s) (a:=a.erase x) hn.2 fun y hy=>(List.mem_erase_of_ne (by rintro rfl; exact hn.1 hy)).2 (h y (List.mem_cons_of_mem _ hy))
   have h2 : (a.map w).sum = ((x :: a.erase x).map w).sum:=by
    have hp : ∀ {a b : List Int},a.Perm b → (a.map w).sum = (b.map w).sum:=fun h=>by
     induction h with
     | nil=>rfl
     | cons x _ ih=>simp only [List.map_cons,List.sum_cons,ih]
     | swap x y l=>simp only [List.map_cons,List.sum_cons]; omega
     | trans _ _ i1 i2=>exact i1.trans i2
    exact hp h1
   rw [h2]
   simp only [List.map_cons,List.sum_cons]
   omega
theorem zhk {α : Type} {w : α → Int} : ∀ {l : List α},(∀ x ∈ l,0 ≤ w x) → 0 ≤ (l.map w).sum
 | [],_=>Int.le_refl _
 | x :: l,h=>by
   have:=zhk (l:=l) fun y hy=>h y (List.mem_cons_of_mem _ hy)
   have:=h x (List.mem_cons_self ..)
   simp only [List.map_cons,List.sum_cons]
   omega
theorem zpi (hp : zaZ g.size p) (S : Int → Bool) (h0 : S 0 = true) : ((p.seeds.filter fun x=>decide (0 < (zaD g p).getD x.toNat 0)).map fun x=>if S (2 + 2 * x) = false then (zaD g p).getD x.toNat 0 else 0).sum ≤ zpS g p S:=by
 unfold zpS
 simp only [zik,netA,zaT,List.map_append,List.sum_append,List.map_map,List.filter_nil,List.map_nil,List.sum_nil]
 have h1 : 0 ≤ (((List.range (zaD g p).length).filter fun i=>decide (0 < (zaD g p).getD i 0)).map ((fun e : Ed=>if S e.f = true ∧ S e.t = false then e.v else 0) ∘ fun i : Nat=>(⟨2 + 2 * (i : Int),3 + 2 * (i : Int),(zaD g p).getD i 0 - 1⟩ : Ed))).sum:=zhk fun i hi=>by
  have : 0 < (zaD g p).getD i 0:=by simpa using (List.mem_filter.1 hi).2
  simp only [Function.comp]
  split <;> omega
 have h2 : 0 ≤ (((zai g p.lv).edges.filter fun e=>decide (0 < (zaD g p).getD e.f.toNat 0)).map ((fun e : Ed=>if S e.f = true ∧ S e.t = false then e.v else 0) ∘ fun e : Ed=>(⟨3 + 2 * e.f,2 + 2 * e.t,64⟩ : Ed))).sum:=zhk fun e _=>by
  simp only [Function.comp]
  split <;> omega
 have h3 : ((p.seeds.filter fun x=>decide (0 < (zaD g p).getD x.toNat 0)).map ((fun e : Ed=>if S e.f = true ∧ S e.t = false then e.v else 0) ∘ fun x : Int=>(⟨0,2 + 2 * x,(zaD g p).getD x.toNat 0⟩ : Ed))) = (p.seeds.filter fun x=>decide (0 < (zaD g p).getD x.toNat 0)).map fun x=>if S (2 + 2 * x) = false then (zaD g p).getD x.toNat 0 else 0:=by
  refine List.map_congr_left fun x _=>?_
  simp only [Function.comp,h0,true_and]
 rw [h3]
 omega
theorem zqO (hg : GrOk g) (hp : zaZ g.size p) {ks : List Int} (hn : ks.Nodup) (hs : ∀ k ∈ ks,k ∈ p.seeds) (hk : zaX g p ks) : zap g p ks:=by
 rw [zcj hg hp hk]
 intro S h0 h1
 have hb:=zpi (g:=g) hp S h0
 have hcn:=zfb (g:=g) hp
 have hc0 : ∀ x : Int,0 ≤ (zaD g p).getD x.toNat 0:=fun x=>by
  rw [List.getD_eq_getElem?_getD]
  cases hh : (zaD g p)[x.toNat]? with
  | none=>simp
  | some v=>exact hcn v (List.mem_of_getElem? hh)
 have h2:=zqz (fun x=>if S (2 + 2 * x) = false then (zaD g p).getD x.toNat 0 else 0) (fun x=>by have:=hc0 x; split <;> omega) hn (a:=p.seeds.filter fun x=>decide (0 < (zaD g p).getD x.toNat 0)) fun x hx=>List.mem_filter.2 ⟨hs x hx,decide_eq_true (hk.reach x hx)⟩
 have h3 : (ks.length : Int) ≤ (ks.map fun x=>if S (2 + 2 * x) = false then (zaD g p).getD x.toNat 0 else 0).sum + zeq S ks:=by
  have key : ∀ l : List Int,(∀ x ∈ l,zq2 g p x) → (l.length : Int) ≤ (l.map fun x=>if S (2 + 2 * x) = false then (zaD g p).getD x.toNat 0 else 0).sum + zeq S l:=by
   intro l
   induction l with
   | nil=>intro _; exact Int.le_refl _
   | cons x l ih =>
     intro h
     have ih:=ih fun y hy=>h y (List.mem_cons_of_mem _ hy)
     have hx : 0 < (zaD g p).getD x.toNat 0:=h x (List.mem_cons_self ..)
     have hs : zeq S (x :: l) = (if S (2 + 2 * x) = true then 1 else 0) + zeq S l:=by
      unfold zeq
      rfl
     rw [hs]
     simp only [List.map_cons,List.sum_cons,List.length_cons]
     cases hS : S (2 + 2 * x)
     ·rw [if_pos rfl,if_neg (by simp)]
      omega
     ·rw [if_neg (by simp),if_pos rfl]
      omega
  exact key ks hk.reach
 omega
theorem zn6 (g : Gr) (S : List Int) : ∀ n,0 < n → ∃ l,ordN g S n = ordN g S 1 ++ l
 | 1,_=>⟨[],(List.append_nil _).symm⟩
 | n + 2,_=>by
   obtain ⟨l,hl⟩:=zn6 g S (n + 1) (by omega)
   exact ⟨l ++ za2 g.size.toNat fun k=>decide (dist g S k = ((n + 1 : Nat) : Int)),by rw [ordN,hl,List.append_assoc]⟩
theorem zqP (hg : GrOk g) (hp : zaZ g.size p) : ∃ l,ordL (zai g p.lv) p.seeds = zdc g p ++ l:=by
 by_cases hn : 0 < g.size.toNat
 ·obtain ⟨l,hl⟩:=zn6 (zai g p.lv) p.seeds g.size.toNat hn
  refine ⟨l,?_⟩
  have h1 : ordN (zai g p.lv) p.seeds 1 = zdc g p:=by
   refine zei ?_ ?_ fun x=>?_
   ·exact zgm g.size.toNat _
   ·exact (hp.2.1.pair).filter _
   ·rw [zgP]
    have h2 : (0 ≤ dist (zai g p.lv) p.seeds x ∧ dist (zai g p.lv) p.seeds x < (1 : Nat)) ↔ zc4 g p.seeds x = true:=by
     rw [show zc4 g p.seeds x = zc4 (zai g p.lv) p.seeds x from rfl,← zpZ (hg.level p.lv)]
     omega
    rw [h2]
    unfold zc4 zdc
    rw [List.mem_filter]
    simp only [Bool.and_eq_true,List.contains_iff_mem]
    constructor
    ·exact fun h=>h.2
    ·intro h
     have h3:=hp.2.1.nodup.2 x h.1
     exact ⟨⟨by omega,by show x < g.size.toNat; omega⟩,h⟩
  rw [← h1]
  exact hl
 ·have h0 : g.size.toNat = 0:=by omega
  refine ⟨[],?_⟩
  have h1 : zdc g p = []:=by
   unfold zdc
   rw [List.filter_eq_nil_iff]
   intro x hx
   have h3:=hp.2.1.nodup.2 x hx
   omega
  rw [h1]
  show ordN _ _ (g.size.toNat) = _
  rw [h0]
  rfl
theorem zql {o : List Int} (h : ∀ n,n < o.length → zap g p (zar (o.take (n + 1)))) : ∀ n,n ≤ o.length → accR g p (o.take n) = o.take n
 | 0,_=>rfl
 | n + 1,hn=>by
   have ih:=zql h n (by omega)
   rw [List.take_succ_eq_append_getElem (by omega)]
   have h1:=h n (by omega)
   rw [List.take_succ_eq_append_getElem (by omega)] at h1
   rw [zb2 (by rw [ih]; exact h1),ih]
theorem zqL (hg : GrOk g) (hp : zaZ g.size p) : ∃ l,accR g p (ordL (zai g p.lv) p.seeds) = zdc g p ++ l:=by
 obtain ⟨l,hl⟩:=zqP hg hp
 have hon:=zbu (zai g p.lv) p.seeds
 have hok:=zdt hg hp
 rw [hl] at hon hok
 have hsn:=(List.nodup_append.1 hon).1
 have hsk : zaX g p (zdc g p):=hok.sub fun x hx=>List.mem_append_left _ hx
 have h1 : accR g p (zdc g p) = zdc g p:=by
  have:=zql (g:=g) (p:=p) (o:=zdc g p) (fun n hn=>by
   have hk : zaX g p ((zdc g p).take (n + 1)):=hsk.sub fun x hx=>List.mem_of_mem_take hx
   have hnn : ((zdc g p).take (n + 1)).Nodup:=hsn.sublist (List.take_sublist _ _)
   refine (zqO hg hp hnn (fun k hk2=>(List.mem_filter.1 (List.mem_of_mem_take hk2)).1) hk).perm hg hp hk (zfm hnn (h64 hg hk.rng))) _ (Nat.le_refl _)
  rwa [List.take_length] at this
 obtain ⟨l2,hl2,_⟩:=zlz (g:=g) (p:=p) l (zdc g p)
 exact ⟨l2,by rw [hl,hl2,h1]⟩
theorem zqw (hg : GrOk g) (hp : zaZ g.size p) (hs : p.seeds.length ≤ 64) {k : Int} (hk : 0 ≤ k ∧ k < g.size) : (k ∈ accR g p (ordL (zai g p.lv) p.seeds) ∨ ∃ r ∈ refR g p (ordL (zai g p.lv) p.seeds),r.1 = k) ↔ 0 ≤ dist (zai g p.lv) p.seeds k:=by
 have h:=(zjt hg hp hs _ _ rfl (zbu (zai g p.lv) p.seeds) (zdt hg hp)).2.1
 have hsub:=zg9 h
 have hm : k ∈ ordL (zai g p.lv) p.seeds ↔ 0 ≤ dist (zai g p.lv) p.seeds k:=by
  rw [zio (hg.level p.lv)]
  exact ⟨fun h=>h.2,fun h=>⟨hk,h⟩⟩
 rw [← hm]
 constructor
 ·rintro (h1 | ⟨r,h1,rfl⟩)
  ·exact hsub.1.subset h1
  ·exact hsub.2.subset (List.mem_map.2 ⟨r,h1,rfl⟩)
 ·intro h1
  rcases zha h k h1 with h2 | h2
  ·exact .inl h2
  ·obtain ⟨r,h3,h4⟩:=List.mem_map.1 h2
   exact .inr ⟨r,h3,h4⟩
def upS (g : Gr) (p : Pol) (i : Nat) : Nat:=((p.seeds.take i).filter fun k=>!g.gone.contains k).length
theorem zrM {g : Gr} {p : Pol} {i : Nat} (h : i < p.seeds.length) (hc : g.gone.contains p.seeds[i] = true) : upS g p (i + 1) = upS g p i:=by
 unfold upS
 rw [List.take_succ_eq_append_getElem h,List.filter_append]
 simp only [List.filter_cons,hc]
 simp
theorem zs9 {g : Gr} {p : Pol} {i : Nat} (h : i < p.seeds.length) (hc : g.gone.contains p.seeds[i] = false) : upS g p (i + 1) = upS g p i + 1:=by
 unfold upS
 rw [List.take_succ_eq_append_getElem h,List.filter_append]
 simp only [List.filter_cons,hc]
 simp
theorem ztm {g : Gr} {p : Pol} (i : Nat) : upS g p i ≤ p.seeds.length :=
 Nat.le_trans (List.length_filter_le ..) (List.length_take_le' ..)
theorem zs7 {g : Gr} {p : Pol} {i : Nat} (h : i < p.seeds.length) (hc : g.gone.contains p.seeds[i] = false) {l acc : List Int} (ha : acc = zdc g p ++ l) : ∃ hn : upS g p i < acc.length,acc[upS g p i] = p.seeds[i]:=by
 have h1 : zdc g p = (p.seeds.take i).filter (fun k=>!g.gone.contains k) ++ p.seeds[i] :: (p.seeds.drop (i + 1)).filter (fun k=>!g.gone.contains k):=by
  have h2 : p.seeds = p.seeds.take i ++ p.seeds[i] :: p.seeds.drop (i + 1):=by
   rw [← List.drop_eq_getElem_cons h,List.take_append_drop]
  unfold zdc
  conv=>lhs; rw [h2,List.filter_append,List.filter_cons]
  rw [if_pos (by rw [hc]; rfl)]
 have h3 : acc[upS g p i]? = some p.seeds[i]:=by
  unfold upS
  rw [ha,h1,List.append_assoc,List.getElem?_append_right (Nat.le_refl _)]
  rw [Nat.sub_self]
  rfl
 obtain ⟨hn,h4⟩:=List.getElem?_eq_some_iff.1 h3
 exact ⟨hn,h4⟩
set_option maxRecDepth 100000 in
set_option maxHeartbeats 4000000 in
open Classical in
theorem zfT (L : List Int) : zaj Tryz.prog zd0 [ints L] [] (.B true) []:=by
 refine zgX.acalls (Nat.le_of_ble_eq_true rfl) (Nat.le_of_ble_eq_true rfl) (Nat.le_refl _) ?_
 show awp _ 0 _ _ ⟨112,[(0,ints L)],[],16⟩
 have hlight:=zov L
 refine rx (s:=?s1) [0] [] [] rfl ?o1 ?q1
 case o1=>simp; rfl
 refine zaa ?_
 refine zab ⟨112,[(0,ints L),(16,.B (!decide (L.length ≤ 400)))],[],100⟩ rfl ?_ ?_
 ·simp
  refine zal hlight (by simp) ?_
  simp
  exact Le.go [] [] rfl rfl (by simp <;> exact wkB (by rw [Bool.eq_iff_iff]; simp)) (by simp)
 refine zad _ rfl (fun h3=>?_) fun h3=>?_
 ·refine rx (s:=?s4) [2] [] [] rfl ?o4 ?q4
  case o4=>simp; refine zal zfI (by simp) ?_; simp; rfl
  refine zag ?_
  exact ⟨.inr rfl,zam.one (by simp)⟩
 have h3 : L.length ≤ 400:=by simpa using h3
 obtain ⟨g,b1,⟨hg,hg2,hg9,hb1⟩,hcg⟩:=zsb L h3
 obtain ⟨⟨p,b2⟩,⟨hp1,hp2,hp3,hb2⟩,hcp⟩:=znZ L b1 g h3 hb1 (by omega) (by omega)
 simp only at hp1 hp2 hp3 hb2 hcp
 have hel:=hg.edges_le
 have hgl:=hg.gone_le
 refine zae ?_
 refine zab ⟨112,[(3,.pt 20 0 0)],[(20,some (dice L 0))],200⟩ rfl ?_ ?_
 ·simp
  refine za1 (zqq L) (by simp) ?_
  simp
  exact Le.go [(108,20)] [] rfl rfl (by simp) (by simp)
 refine zab ⟨112,[(3,.pt 20 0 0),(4,.pv (gC g))],[(20,some (dice L b1))],300⟩ rfl ?_ ?_
 ·simp
  refine zby (i:=20) rfl (e':=dice L 0) (by simp) hcg (by simp) (by simp) ?_
  simp
  exact Le.go [(20,20)] [216] rfl rfl (by simp) (by simp)
 refine zab ⟨112,[(3,.pt 20 0 0),(4,.pv (gC g)),(5,.pv (pC p))],[(20,some (dice L b2))],400⟩ rfl ?_ ?_
 ·simp
  refine zby (i:=20) rfl (e':=dice L b1) (by simp) hcp (by simp) (by simp) ?_
  simp
  exact Le.go [(20,20)] [324] rfl rfl (by simp) (by simp)
 obtain ⟨fl,hfl,hrun⟩:=zfv g p hg hp1 (by omega) (by omega)
 have hal:=zob hg p
 have hrl:=zop hg p
 have hseeds:=zqL hg hp1
 have hnamed:=fun k=>zqw (p:=p) hg hp1 (by omega) (k:=k)
 have hlev:=zc3 g p.lv (by omega) (by omega)
 have hall:=zd1 (zai g p.lv) p.seeds (hg.level p.lv) (by omega)
 have hDl : (zbe (zai g p.lv) p.seeds).length = g.size.toNat:=by simp [zbe,zai]
 have hDg : ∀ k : Nat,k < g.size.toNat → (zbe (zai g p.lv) p.seeds).getD k 0 = dist (zai g p.lv) p.seeds k:=fun k hk=>zmk (g:=zai g p.lv) hk
 rw [show (zai g p.lv).size = g.size from rfl,← hDl] at hall
 simp only [accG,refG] at hal hrl
 obtain ⟨acc,hacc⟩ : ∃ acc,acc = accR g p (ordL (zai g p.lv) p.seeds):=⟨_,rfl⟩
 obtain ⟨R,hR⟩ : ∃ R,R = refR g p (ordL (zai g p.lv) p.seeds):=⟨_,rfl⟩
 obtain ⟨D,hD⟩ : ∃ D,D = zbe (zai g p.lv) p.seeds:=⟨_,rfl⟩
 rw [← hD] at hall hDl
 simp only [← hD] at hDg
 rw [← hacc,← hR] at hrun
 rw [← hacc] at hal hseeds
 rw [← hR] at hrl
 simp only [← hacc,← hR] at hnamed
 obtain ⟨l2,hl2⟩:=hseeds
 have hacc1:=fun k=>zcO acc fl R k (by omega)
 have hsz:=hg.1.1
 have hsz2:=hg.1.2.1
 have hhas:=fun k=>zf2 g.gone k (by omega)
 have hDc : ∀ k : Nat,k < g.size.toNat → ∃ h : k < D.length,D[k] = dist (zai g p.lv) p.seeds k:=fun k hk=>⟨by omega,by
  have:=hDg k hk
  rwa [List.getD_eq_getElem?_getD,List.getElem?_eq_getElem (by omega : k < D.length)] at this⟩
 have hDt : ∀ h : Int → List AV,List.take D.length (List.map h D) = List.map h D:=fun h=>List.take_of_length_le (by simp)
 refine zab ⟨112,[(4,.pv (gC g)),(5,.pv (pC p)),(6,.pv [ints acc,ints fl,.vs 2 false (zaJ R)]),(7,.I 0)],[],500⟩ rfl ?_ ?_
 ·simp
  refine zal hrun (by simp) ?_
  simp
  exact Le.go [] [448] rfl rfl (by simp) (by simp)
 refine zab ⟨112,[(4,.pv (gC g)),(5,.pv (pC p)),(6,.pv [ints acc,ints fl,.vs 2 false (zaJ R)]),(7,.I 0),(8,.I 0)],[],600⟩ rfl ?_ ?_
 ·simp
  exact Le.go [] [] rfl rfl (by simp) (by simp)
 refine zaa ?_
 refine zab ⟨112,[(4,.pv (gC g)),(5,.pv (pC p)),(6,.pv [ints acc,ints fl,.vs 2 false (zaJ R)]),(7,.I 0),(8,.I 0),(9,.I 0)],[],700⟩ rfl ?_ ?_
 ·simp
  exact Le.go [] [] rfl rfl (by simp) (by simp)
 refine zaf ?_
 refine zao (ι:=Nat) (fun i=>⟨112,[(4,.pv (gC g)),(5,.pv (pC p)),(6,.pv [ints acc,ints fl,.vs 2 false (zaJ R)]),(7,.I 0),(8,.I (upS g p i)),(9,.I i)],[],900⟩) (fun i=>i ≤ p.seeds.length) (fun i=>p.seeds.length - i) 0 (Nat.zero_le _) (Le.go [] [] rfl rfl (by simp [upS]) (by simp)) ?_
 intro i hi
 refine zaa ?_
 refine zab ⟨112,[(4,.pv (gC g)),(5,.pv (pC p)),(6,.pv [ints acc,ints fl,.vs 2 false (zaJ R)]),(7,.I 0),(8,.I (upS g p i)),(9,.I i),(35,.B (decide (i < p.seeds.length)))],[],1000⟩ rfl ?_ ?_
 ·simp
  exact Le.go [] [] rfl rfl (by simp) (by simp)
 refine zad _ rfl (fun h13=>?_) fun h13=>?_
 ·simp at h13
  have hw1 : IntKind.i64.wrap ((i : Int) + 1) = (i : Int) + 1:=w64 (by omega) (by omega)
  have hup:=ztm (g:=g) (p:=p) i
  have hw2 : IntKind.i64.wrap ((upS g p i : Int) + 1) = (upS g p i : Int) + 1:=w64 (by omega) (by omega)
  refine zae ?_
  refine zaI (ι:=Unit) (fun _=>⟨112,[(4,.pv (gC g)),(5,.pv (pC p)),(6,.pv [ints acc,ints fl,.vs 2 false (zaJ R)]),(7,.I 0),(8,.I (upS g p (i + 1))),(9,.I i)],[],2000⟩) (fun _=>True) ?_ fun _ _=>?_
  ·refine zaf ?_
   have hh:=hhas p.seeds[i]
   refine zaa ?_
   refine zaw ⟨112,[(4,.pv (gC g)),(5,.pv (pC p)),(6,.pv [ints acc,ints fl,.vs 2 false (zaJ R)]),(7,.I 0),(8,.I (upS g p i)),(9,.I i),(45,.B (g.gone.contains p.seeds[i]))],[],1100⟩ rfl ?_ ?_
   ·simp [h13]
    refine zal hh (by simp) ?_
    simp
    exact ⟨rfl,Le.go [] [] rfl rfl (by simp) (by simp)⟩
   refine zad _ rfl (fun h20=>?_) fun h20=>?_
   ·refine zan ?_
    refine hit ?_
    exact ⟨(),trivial,Le.go [] [] rfl rfl (by simp [zrM h13 h20]) (by simp)⟩
   ·refine zae ?_
    obtain ⟨hn,hat⟩:=zs7 h13 h20 hl2
    have hs:=zs9 h13 h20
    refine zaa ?_
    refine zaw ⟨112,[(4,.pv (gC g)),(5,.pv (pC p)),(6,.pv [ints acc,ints fl,.vs 2 false (zaJ R)]),(7,.I 0),(8,.I (upS g p i)),(9,.I i),(63,.B false)],[],1400⟩ rfl ?_ ?_
    ·obtain ⟨u,hu⟩ : ∃ u,u = upS g p i:=⟨_,rfl⟩
     simp only [← hu] at hn hat ⊢
     have hle : ¬ acc.length ≤ u:=by omega
     simp [h13,hn,hat,hle]
     exact ⟨rfl,Le.go [] [] rfl rfl (by simp) (by simp)⟩
    refine zad _ rfl (fun h=>by cases h) fun _=>?_
    refine zae ?_
    refine zav rfl ?_
    simp
    exact Le.go [] [] rfl rfl (by simp [hw2,hs]) (by simp)
  refine zav rfl ?_
  simp
  exact ⟨i + 1,by omega,by omega,Le.go [] [] rfl rfl (by simp [hw1]) (by simp)⟩
 refine zan ?_
 refine hit ?_
 refine zaw ⟨112,[(4,.pv (gC g)),(5,.pv (pC p)),(6,.pv [ints acc,ints fl,.vs 2 false (zaJ R)]),(7,.I 0),(10,ints D)],[],1200⟩ rfl ?_ ?_
 ·simp
  refine zal hlev (by simp) ?_
  simp
  refine za1 hall (by simp) ?_
  simp
  exact ⟨rfl,Le.go [] [1048] rfl rfl (by simp [fcd,hDt]) (by simp)⟩
 refine zaa ?_
 refine zab ⟨112,[(4,.pv (gC g)),(5,.pv (pC p)),(6,.pv [ints acc,ints fl,.vs 2 false (zaJ R)]),(7,.I 0),(10,ints D),(11,.I 0)],[],1300⟩ rfl ?_ ?_
 ·simp
  exact Le.go [] [] rfl rfl (by simp) (by simp)
 refine zaf ?_
 refine zao (ι:=Nat) (fun k=>⟨112,[(4,.pv (gC g)),(5,.pv (pC p)),(6,.pv [ints acc,ints fl,.vs 2 false (zaJ R)]),(7,.I 0),(10,ints D),(11,.I k)],[],1400⟩) (fun k=>k ≤ g.size.toNat) (fun k=>g.size.toNat - k) 0 (Nat.zero_le _) (Le.go [] [] rfl rfl (by simp) (by simp)) ?_
 intro k hk
 refine zaa ?_
 refine zab ⟨112,[(4,.pv (gC g)),(5,.pv (pC p)),(6,.pv [ints acc,ints fl,.vs 2 false (zaJ R)]),(7,.I 0),(10,ints D),(11,.I k),(76,.B (decide (k < g.size.toNat)))],[],1500⟩ rfl ?_ ?_
 ·simp
  exact Le.go [] [] rfl rfl (by simp <;> exact wkB (by rw [Bool.eq_iff_iff]; simp <;> omega)) (by simp)
 refine zad _ rfl (fun h13=>?_) fun h13=>?_
 ·simp at h13
  have hw1 : IntKind.i64.wrap ((k : Int) + 1) = (k : Int) + 1:=w64 (by omega) (by omega)
  obtain ⟨hDk,hDv⟩:=hDc k (by omega)
  have hnk:=hnamed k (by omega)
  obtain ⟨N,hN⟩ : ∃ N : Nat → Bool,∀ j,N j = decide ((k : Int) ∈ acc ∨ ∃ r ∈ R.take j,r.1 = (k : Int)):=⟨_,fun _=>rfl⟩
  have hN0 : N 0 = decide ((k : Int) ∈ acc):=by simp [hN]
  have hNe : N R.length = decide (0 ≤ dist (zai g p.lv) p.seeds k):=by rw [hN,List.take_length,decide_eq_decide]; exact hnk
  have hNs : ∀ (j : Nat) (h14 : j < R.length),N (j + 1) = (N j || decide (R[j].1 = (k : Int))):=fun j h14=>by
   rw [hN,hN,List.take_succ_eq_append_getElem h14,Bool.eq_iff_iff]
   simp only [decide_eq_true_eq,Bool.or_eq_true,List.mem_append,List.mem_singleton]
   constructor
   ·rintro (h | ⟨r,h | h,h1⟩)
    ·exact .inl (.inl h)
    ·exact .inl (.inr ⟨r,h,h1⟩)
    ·exact .inr (h ▸ h1)
   ·rintro ((h | ⟨r,h,h1⟩) | h)
    ·exact .inl h
    ·exact .inr ⟨r,.inl h,h1⟩
    ·exact .inr ⟨_,.inr rfl,h⟩
  refine zae ?_
  refine zaI (ι:=Unit) (fun _=>⟨112,[(4,.pv (gC g)),(5,.pv (pC p)),(6,.pv [ints acc,ints fl,.vs 2 false (zaJ R)]),(7,.I 0),(10,ints D),(11,.I k)],[],3000⟩) (fun _=>True) ?_ fun _ _=>?_
  ·refine zaf ?_
   refine zab ⟨112,[(4,.pv (gC g)),(5,.pv (pC p)),(6,.pv [ints acc,ints fl,.vs 2 false (zaJ R)]),(7,.I 0),(10,ints D),(11,.I k),(12,.B (decide ((k : Int) ∈ acc)))],[],1600⟩ rfl ?_ ?_
   ·simp
    refine zal (hacc1 k) (by simp) ?_
    simp
    exact Le.go [] [] rfl rfl (by simp) (by simp)
   refine zaa ?_
   refine zab ⟨112,[(4,.pv (gC g)),(5,.pv (pC p)),(6,.pv [ints acc,ints fl,.vs 2 false (zaJ R)]),(7,.I 0),(10,ints D),(11,.I k),(12,.B (decide ((k : Int) ∈ acc))),(13,.I 0)],[],1700⟩ rfl ?_ ?_
   ·simp
    exact Le.go [] [] rfl rfl (by simp) (by simp)
   refine zaf ?_
   refine zao (ι:=Nat) (fun j=>⟨112,[(4,.pv (gC g)),(5,.pv (pC p)),(6,.pv [ints acc,ints fl,.vs 2 false (zaJ R)]),(7,.I 0),(10,ints D),(11,.I k),(12,.B (N j)),(13,.I j)],[],1800⟩) (fun j=>j ≤ R.length) (fun j=>R.length - j) 0 (Nat.zero_le _) (Le.go [] [] rfl rfl (by simp [hN0]) (by simp)) ?_
   intro j hj
   refine zaa ?_
   refine zab ⟨112,[(4,.pv (gC g)),(5,.pv (pC p)),(6,.pv [ints acc,ints fl,.vs 2 false (zaJ R)]),(7,.I 0),(10,ints D),(11,.I k),(12,.B (N j)),(13,.I j),(86,.B (decide (j < R.length)))],[],1900⟩ rfl ?_ ?_
   ·simp
    exact Le.go [] [] rfl rfl (by simp [zaJ]) (by simp)
   refine zad _ rfl (fun h14=>?_) fun h14=>?_
   ·simp at h14
    have hw2 : IntKind.i64.wrap ((j : Int) + 1) = (j : Int) + 1:=w64 (by omega) (by omega)
    have hab:=hNs j h14
    obtain ⟨a,hae⟩ : ∃ a : Bool,a = N j:=⟨_,rfl⟩
    rw [← hae] at hab ⊢
    refine zae ?_
    refine zaI (ι:=Unit) (fun _=>⟨112,[(4,.pv (gC g)),(5,.pv (pC p)),(6,.pv [ints acc,ints fl,.vs 2 false (zaJ R)]),(7,.I 0),(10,ints D),(11,.I k),(12,.B (N (j + 1))),(13,.I j)],[],2200⟩) (fun _=>True) ?_ fun _ _=>?_
    ·refine zaf ?_
     refine zav rfl ?_
     cases a <;> simp [h14,zaJ]
     ·exact Le.go [] [] rfl rfl (by simp [hab] <;> exact wkB (by rw [Bool.eq_iff_iff]; simp)) (by simp)
     ·exact Le.go [] [] rfl rfl (by simp [hab]) (by simp)
    refine zav rfl ?_
    simp
    exact ⟨j + 1,by omega,by omega,Le.go [] [] rfl rfl (by simp [hw2]) (by simp)⟩
   simp at h14
   obtain rfl : j = R.length:=by omega
   rw [hNe]
   refine zan ?_
   refine hit ?_
   refine zab ⟨112,[(4,.pv (gC g)),(5,.pv (pC p)),(6,.pv [ints acc,ints fl,.vs 2 false (zaJ R)]),(7,.I 0),(10,ints D),(11,.I k),(106,.B false)],[],2100⟩ rfl ?_ ?_
   ·simp [hDk,hDv]
    exact Le.go [] [] rfl rfl (by simp) (by simp)
   refine zad _ rfl (fun h=>by cases h) fun _=>?_
   refine zae ?_
   exact ⟨(),trivial,Le.go [] [] rfl rfl (by simp) (by simp)⟩
  refine zav rfl ?_
  simp
  exact ⟨k + 1,by omega,by omega,Le.go [] [] rfl rfl (by simp [hw1]) (by simp)⟩
 refine zan ?_
 refine hit ?_
 refine zab ⟨112,[(2,.B true)],[],1600⟩ rfl ?_ ?_
 ·simp
  refine zal zfI (by simp) ?_
  simp
  exact Le.go [] [] rfl rfl (by simp) (by simp)
 refine zag ?_
 exact ⟨.inr rfl,zam.one (by simp)⟩
end Go.Proofs.YteiabadhhhckfaaGreat
