/- Texts of this claim,merged. -/
import Derived.Test.YteiabadhhhckfaaGreatRh15
import Derived.Test.YteiabadhhhckfaaGreatRh14
import Derived.Test.YteiabadhhhckfaaGreatRh9
import Derived.Test.YteiabadhhhckfaaGreatRh6
set_option linter.unusedSimpArgs false
set_option linter.unusedVariables false
set_option linter.unusedSectionVars false
namespace Go.Proofs.YteiabadhhhckfaaGreat
open Go
open Classical in
noncomputable def chkE (g : Gr) (p : Pol) : Int:=if GrOk g then if za8 g.size p then 0 else 15 else 14
theorem zjx {g : Gr} {p : Pol} : chkE g p = 0 ↔ GrOk g ∧ za8 g.size p:=by
 unfold chkE
 by_cases h1 : GrOk g
 ·by_cases h2 : za8 g.size p
  ·simp [h1,h2]
  ·simp [h1,h2]
 ·simp [h1]
theorem zir (g : Gr) (p : Pol) (hl : g.edges.length ≤ 140737488355328) (hl2 : g.gone.length ≤ 140737488355328) (hs : p.seeds.length ≤ 140737488355328) (ht : p.table.length ≤ 140737488355328) :
  zai Tryz.prog zbj [eG g,eP p] [] (.I (chkE g p)) []:=zbD g p hl hl2 hs ht
theorem zjK (g : Gr) (p : Pol) (hl : g.edges.length ≤ 140737488355328) (hl2 : g.gone.length ≤ 140737488355328) (hs : p.seeds.length ≤ 140737488355328) (ht : p.table.length ≤ 140737488355328) :
  zai Tryz.prog zbX [eG g,eP p] [] (.I (chkE g p)) []:=zdg g p hl hl2 hs ht
variable {g : Gr} {p : Pol}
theorem zkB (he : chkE g p ≠ 0) (hl : g.edges.length ≤ 140737488355328) (hl2 : g.gone.length ≤ 140737488355328) (hs : p.seeds.length ≤ 140737488355328) (ht : p.table.length ≤ 140737488355328) :
  zai Tryz.prog zcr [eG g,eP p] [] (.tup [eAcc [] [] [],.I (chkE g p)]) []:=by
 refine zjJ.acalls (nbz rfl) (nbz rfl) (Nat.zero_le _) ?_
 show awp _ 0 _ _ ⟨72,[(0,eG g),(1,eP p)],[],16⟩
 have hchk:=zir g p hl hl2 hs ht
 obtain ⟨e,hed⟩ : ∃ e,e = chkE g p:=⟨_,rfl⟩
 rw [← hed] at he hchk ⊢
 have he' : (e != 0) = true:=by simp [he]
 refine zab ⟨72,[(2,.pv (gC g)),(3,.pv (pC p)),(4,.pt 32 0 0)],[(32,some ⟨3,[[.nilS,.nilS,.nilS]],0⟩)],100⟩ rfl ?_ ?_
 ·simp
  exact LeH [(32,32)] [16,24]
 refine zaa ?_
 refine zab ⟨72,[(2,.pv (gC g)),(3,.pv (pC p)),(4,.pt 32 0 0),(6,.I e)],[(32,some ⟨3,[[.nilS,.nilS,.nilS]],0⟩)],200⟩ rfl ?_ ?_
 ·simp
  refine zak hchk (by simp) ?_
  simp
  exact LeH [(32,32)] []
 refine zab ⟨72,[(4,.pt 32 0 0),(6,.I e),(18,.B true)],[(32,some ⟨3,[[.nilS,.nilS,.nilS]],0⟩)],300⟩ rfl ?_ ?_
 ·simp
  exact Le.go [(32,32)] [] rfl rfl (by simp [he']) (by simp)
 refine zac _ rfl (fun _=>?_) fun h=>by cases h
 refine zab ⟨72,[(4,.pt 32 0 0),(5,.I e)],[(32,some ⟨3,[[.nilS,.nilS,.nilS]],0⟩)],400⟩ rfl ?_ ?_
 ·simp [zaE]
  exact LeH [(32,32)] []
 refine zah ?_
 exact ⟨.inr rfl,zam.out [] [] rfl (by simp) (by simp) (by simp; exact wkT2 (wkA3 (.nil _ _) (.nil _ _) (.nil _ _)) (.refl _)) (by simp)⟩
theorem zmJ (he : chkE g p ≠ 0) (hl : g.edges.length ≤ 140737488355328) (hl2 : g.gone.length ≤ 140737488355328) (hs : p.seeds.length ≤ 140737488355328) (ht : p.table.length ≤ 140737488355328) :
  zai Tryz.prog zb4 [eG g,eP p] [] (.tup [eAcc [] [] [],.I (chkE g p)]) []:=by
 refine zlt.acalls (nbz rfl) (nbz rfl) (Nat.zero_le _) ?_
 show awp _ 0 _ _ ⟨84,[(0,eG g),(1,eP p)],[],16⟩
 have hchk:=zjK g p hl hl2 hs ht
 obtain ⟨e,hed⟩ : ∃ e,e = chkE g p:=⟨_,rfl⟩
 rw [← hed] at he hchk ⊢
 have he' : (e != 0) = true:=by simp [he]
 refine zab ⟨84,[(2,.pv (gC g)),(3,.pv (pC p)),(4,.pt 32 0 0)],[(32,some ⟨3,[[.nilS,.nilS,.nilS]],0⟩)],100⟩ rfl ?_ ?_
 ·simp
  exact LeH [(32,32)] [16,24]
 refine zaa ?_
 refine zab ⟨84,[(2,.pv (gC g)),(3,.pv (pC p)),(4,.pt 32 0 0),(6,.I e)],[(32,some ⟨3,[[.nilS,.nilS,.nilS]],0⟩)],200⟩ rfl ?_ ?_
 ·simp
  refine zak hchk (by simp) ?_
  simp
  exact LeH [(32,32)] []
 refine zab ⟨84,[(4,.pt 32 0 0),(6,.I e),(21,.B true)],[(32,some ⟨3,[[.nilS,.nilS,.nilS]],0⟩)],300⟩ rfl ?_ ?_
 ·simp
  exact Le.go [(32,32)] [] rfl rfl (by simp [he']) (by simp)
 refine zac _ rfl (fun _=>?_) fun h=>by cases h
 refine zab ⟨84,[(4,.pt 32 0 0),(5,.I e)],[(32,some ⟨3,[[.nilS,.nilS,.nilS]],0⟩)],400⟩ rfl ?_ ?_
 ·simp [zaE]
  exact LeH [(32,32)] []
 refine zah ?_
 exact ⟨.inr rfl,zam.out [] [] rfl (by simp) (by simp) (by simp; exact wkT2 (wkA3 (.nil _ _) (.nil _ _) (.nil _ _)) (.refl _)) (by simp)⟩
theorem zew {l : List Int} {i : Nat} (h : i < l.length) : (l.drop i).head? = some l[i]:=by rw [List.head?_drop,List.getElem?_eq_getElem h]
theorem zcg {l : List Int} {i : Nat} (h : ¬ i < l.length) : (l.drop i).head? = none:=by rw [List.head?_drop,List.getElem?_eq_none (by omega)]
structure PtSt where
 n : Nat
 i : Nat
 k : Nat
 L : List Int
set_option maxRecDepth 100000 in
set_option maxHeartbeats 4000000 in
theorem zjI (o acc f : List Int) (R : List (Int × List Int)) (hol : o.length ≤ 100) (ha : acc.length ≤ 1000) (hR : R.length ≤ 1000) :
  ∃ L : List Int,(zaV o acc (zaM R) = true → L = (zbE 0 o acc (zaM R)).map fun (n : Nat)=>(n : Int)) ∧ zai Tryz.prog zeu [ints o,eAcc acc f R] [] (.tup [ints L,.B (zaV o acc (zaM R))]) []:=by
 refine zkV.acallsX (args:=[ints o,eAcc acc f R]) (hs:=[]) (fun L=>.tup [ints L,.B (zaV o acc (zaM R))]) (fun _=>[]) (fun L : List Int=>zaV o acc (zaM R) = true → L = (zbE 0 o acc (zaM R)).map fun (n : Nat)=>(n : Int)) (nbz rfl) (nbz rfl) (fun _=>Nat.le_refl _) ?_
 show awp _ 0 _ _ ⟨70,[(0,ints o),(1,eAcc acc f R)],[],16⟩
 have hkl : (zaM R).length = R.length:=by simp [zaM]
 obtain ⟨b,hb⟩ : ∃ b,b = zaV o acc (zaM R):=⟨_,rfl⟩
 rw [← hb]
 refine zab ⟨70,[(0,ints o),(3,.pv [ints acc,ints f,.vs 2 false (zaq R)])],[],40⟩ rfl ?_ ?_
 ·simp
  exact LeH [] [16]
 refine zab ⟨70,[(0,ints o),(3,.pv [ints acc,ints f,.vs 2 false (zaq R)]),(6,.rs 50 0 0)],[(50,some ⟨1,[],0⟩)],100⟩ rfl ?_ ?_
 ·simp
  exact Le.lst [] [] [(50,1)] rfl (by simp) (by simp) (by simp) (by simp) (by simp) (by simp) (by simp) (by simp [Up]) (by simp)
 refine zab ⟨70,[(0,ints o),(3,.pv [ints acc,ints f,.vs 2 false (zaq R)]),(6,.rs 50 0 0),(7,.I 0),(8,.I 0)],[(50,some ⟨1,[],0⟩)],200⟩ rfl ?_ ?_
 ·simp
  exact LeH [(50,50)] []
 refine zaa ?_
 refine zab ⟨70,[(3,.pv [ints acc,ints f,.vs 2 false (zaq R)]),(6,.rs 50 0 0),(7,.I 0),(8,.I 0),(11,ints o),(12,.I o.length),(13,.I 0)],[(50,some ⟨1,[],0⟩)],300⟩ rfl ?_ ?_
 ·simp
  exact LeH [(50,50)] []
 refine zaf ?_
 refine zap (ι:=PtSt) (fun s=>⟨70,[(3,.pv [ints acc,ints f,.vs 2 false (zaq R)]),(6,.rs 50 0 s.L.length),(7,.I s.i),(8,.I s.k),(11,ints o),(12,.I o.length),(13,.I s.n)],[(50,some ⟨1,zag s.L,0⟩)],300⟩)
  (fun s=>s.n ≤ o.length ∧ s.i ≤ acc.length ∧ s.k ≤ R.length ∧ s.L.length ≤ s.n ∧ b = zaV (o.drop s.n) (acc.drop s.i) ((zaM R).drop s.k) ∧ s.L ++ (zbE s.i (o.drop s.n) (acc.drop s.i) ((zaM R).drop s.k)).map (fun (n : Nat)=>(n : Int)) = (zbE 0 o acc (zaM R)).map (fun (n : Nat)=>(n : Int)))
  (fun s=>o.length - s.n) ⟨0,0,0,[]⟩ ⟨Nat.zero_le _,Nat.zero_le _,Nat.zero_le _,Nat.le_refl _,by simpa using hb,by simp⟩ (LeH [(50,50)] []) ?_
 rintro ⟨n,i,k,L⟩ ⟨hn,hi,hk,hL,hp,hah⟩
 simp only at hn hi hk hL hp hah
 refine zab ⟨70,[(3,.pv [ints acc,ints f,.vs 2 false (zaq R)]),(6,.rs 50 0 L.length),(7,.I i),(8,.I k),(11,ints o),(12,.I o.length),(13,.I n),(14,.B (decide (n < o.length)))],[(50,some ⟨1,zag L,0⟩)],400⟩ rfl ?_ ?_
 ·simp
  exact LeI [(50,50)] []
 refine zaa ?_
 refine zac _ rfl (fun h6=>?_) fun h6=>?_
 ·simp at h6
  have hw1 : IntKind.i64.wrap ((n : Int) + 1) = (n : Int) + 1:=w64 (by omega) (by omega)
  have hw2 : IntKind.i64.wrap ((i : Int) + 1) = (i : Int) + 1:=w64 (by omega) (by omega)
  have hw3 : IntKind.i64.wrap ((k : Int) + 1) = (k : Int) + 1:=w64 (by omega) (by omega)
  obtain ⟨x,hx⟩ : ∃ x,x = o[n]:=⟨_,rfl⟩
  have hod : o.drop n = x :: o.drop (n + 1):=by rw [List.drop_eq_getElem_cons h6,hx]
  rw [hod] at hp hah
  simp only [zaV,zbE,List.tail_drop] at hp hah
  refine zad ?_
  refine zaa ?_
  refine zaf ?_
  refine zab ⟨70,[(3,.pv [ints acc,ints f,.vs 2 false (zaq R)]),(6,.rs 50 0 L.length),(7,.I i),(8,.I k),(10,.I x),(11,ints o),(12,.I o.length),(13,.I n)],[(50,some ⟨1,zag L,0⟩)],500⟩ rfl ?_ ?_
  ·simp [h6,← hx]
   exact LeI [(50,50)] []
  refine zaf ?_
  refine zab ⟨70,[(3,.pv [ints acc,ints f,.vs 2 false (zaq R)]),(6,.rs 50 0 L.length),(7,.I i),(8,.I k),(10,.I x),(11,ints o),(12,.I o.length),(13,.I n),(17,.B (decide ((acc.drop i).head? = some x)))],[(50,some ⟨1,zag L,0⟩)],700⟩ rfl ?_ ?_
  ·by_cases hia : i < acc.length
   ·have hh:=zew hia
    simp [hia]
    exact Le.go [(50,50)] [] rfl rfl (by simp <;> exact wkB (by rw [Bool.eq_iff_iff]; simp [hia])) (by simp [fcd])
   ·have hh:=zcg hia
    have hai : acc.length ≤ i:=by omega
    simp [hia]
    exact Le.go [(50,50)] [] rfl rfl (by simp [hia]) (by simp [fcd])
  refine zac _ rfl (fun h9=>?_) fun h9=>?_
  ·rw [decide_eq_true_eq] at h9
   rw [if_pos h9] at hp hah
   have hia : i < acc.length:=Decidable.byContradiction fun h=>by rw [zcg h] at h9; cases h9
   refine zau rfl ?_
   simp
   refine zau rfl ?_
   simp
   exact ⟨⟨n + 1,i + 1,k,L⟩,⟨by simp only; omega,by simp only; omega,hk,by simp only; omega,hp,hah⟩,by simp only; omega,Le.go [(50,50)] [] rfl rfl (by simp [hw1,hw2]) (by simp [fcd])⟩
  rw [decide_eq_false_iff_not] at h9
  rw [if_neg h9] at hp hah
  refine zab ⟨70,[(3,.pv [ints acc,ints f,.vs 2 false (zaq R)]),(6,.rs 50 0 L.length),(7,.I i),(8,.I k),(11,ints o),(12,.I o.length),(13,.I n),(34,.B (decide (((zaM R).drop k).head? = some x)))],[(50,some ⟨1,zag L,0⟩)],900⟩ rfl ?_ ?_
  ·by_cases hkR : k < R.length
   ·have hh : ((zaM R).drop k).head? = some R[k].1:=by rw [List.head?_drop,zaM,List.getElem?_map,List.getElem?_eq_getElem hkR]; rfl
    have hh2 : (zaM R)[k]? = some R[k].1:=by rw [← List.head?_drop]; exact hh
    simp [hkR]
    exact Le.go [(50,50)] [] rfl rfl (by simp [hh2] <;> exact wkB (by rw [Bool.eq_iff_iff]; simp)) (by simp [fcd])
   ·have hh : ((zaM R).drop k).head? = none:=by rw [List.head?_drop,List.getElem?_eq_none (by omega)]
    have hh2 : (zaM R)[k]? = none:=by rw [← List.head?_drop]; exact hh
    simp [hkR]
    exact Le.go [(50,50)] [] rfl rfl (by simp [hh2,hkR]) (by simp [fcd])
  refine zac _ rfl (fun h11=>?_) fun h11=>?_
  ·rw [decide_eq_true_eq] at h11
   rw [if_pos h11] at hp hah
   have hkR : k < R.length:=Decidable.byContradiction fun h=>by rw [List.head?_drop,List.getElem?_eq_none (by omega)] at h11; cases h11
   refine zab ⟨70,[(3,.pv [ints acc,ints f,.vs 2 false (zaq R)]),(6,.rs 50 0 L.length),(7,.I i),(8,.I (k + 1 : Nat)),(11,ints o),(12,.I o.length),(13,.I n)],[(50,some ⟨1,zag L,0⟩)],1000⟩ rfl ?_ ?_
   ·simp
    exact Le.go [(50,50)] [] rfl rfl (by simp [hw3]) (by simp [fcd])
   have htL : ∀ h : Int → List AV,List.take L.length (List.map h L) = List.map h L:=fun h=>List.take_of_length_le (by simp)
   refine zau rfl ?_
   simp [htL]
   refine ⟨by omega,by omega,?_⟩
   refine zau rfl ?_
   simp
   exact ⟨⟨n + 1,i,k + 1,L ++ [(i : Int)]⟩,⟨by simp only; omega,hi,hkR,by simp; omega,hp,by simpa using hah⟩,by simp only; omega,Le.go [(1024,50)] [] rfl rfl (by simp [hw1]) (by simp [fcd])⟩
  rw [decide_eq_false_iff_not] at h11
  rw [if_neg h11] at hp
  subst hp
  refine zab ⟨70,[(4,ints []),(5,.B false)],[],1000⟩ rfl ?_ ?_
  ·simp
   exact Le.go [] [] rfl rfl (by simp; exact Wk.nil _ _) (by simp)
  refine zah ?_
  exact zhI.mk (.inr rfl) [] (fun h=>by cases h) (zam.out [] [] rfl (by simp) (by simp) (by simp; exact .refl _) (by simp))
 simp at h6
 obtain rfl : n = o.length:=by omega
 rw [List.drop_length] at hp hah
 have hp2 : b = (decide (i = acc.length) && decide (k = R.length)):=by
  rw [hp]
  simp only [zaV]
  rw [Bool.eq_iff_iff]
  simp [List.isEmpty_iff]
  omega
 refine zan ?_
 refine hit ?_
 have htL : ∀ h : Int → List AV,List.take L.length (List.map h L) = List.map h L:=fun h=>List.take_of_length_le (by simp)
 refine zar ⟨70,[(4,ints L),(5,.B b)],[],1000⟩ rfl ?_ ?_
 ·by_cases hia : i = acc.length
  ·simp [hia]
   exact ⟨rfl,Le.go [] [50] rfl rfl (by simp [hp2,hia,fcd,htL] <;> exact wkB (by rw [Bool.eq_iff_iff]; simp; omega)) (by simp)⟩
  ·have hia2 : ¬ (i : Int) = acc.length:=by omega
   have hia3 : ((i : Int) == (acc.length : Int)) = false:=by simpa using hia2
   simp [hia3]
   exact ⟨rfl,Le.go [] [50] rfl rfl (by simp [hp2,hia,fcd,htL]) (by simp)⟩
 refine zah ?_
 exact zhI.mk (.inr rfl) L (fun _=>by simpa [zbE] using hah) (zam.out [] [] rfl (by simp) (by simp) (by simp) (by simp))
theorem zlc {o a r : List Int} (hn : o.Nodup) (h : zaV o a r = true) : o.Perm (a ++ r) :=
 zb7 hn (fun x hx=>List.mem_append.2 (zjp h x hx)) (by rw [zjh h,List.length_append]; exact Nat.le_refl _)
theorem zmc {g : Gr} (hg : GrOk g) (p : Pol) : (ordL (zal g p.lv) p.seeds).length ≤ 64:=by
 have hsz:=hg.1.1
 have hsz2:=hg.1.2.1
 have hr : ∀ x ∈ ordL (zal g p.lv) p.seeds,0 ≤ x ∧ x < g.size:=fun x hx=>by have h:=zbB hx; exact h
 have:=za6 (b:=(List.range g.size.toNat).map fun i : Nat=>(i : Int)) (zbe (zal g p.lv) p.seeds) fun x hx=>by
  have:=hr x hx
  exact List.mem_map.2 ⟨x.toNat,List.mem_range.2 (by omega),by omega⟩
 rw [List.length_map,List.length_range] at this
 omega
set_option maxRecDepth 100000 in
set_option maxHeartbeats 4000000 in
open Classical in
theorem zfk (g : Gr) (p : Pol) (acc f : List Int) (R : List (Int × List Int)) (hg : GrOk g) (hp : za8 g.size p) (hs : p.seeds.length ≤ 64) (hN : g.size < 20) (ha : acc.length ≤ 1000) (hR : R.length ≤ 1000) (hf : f.length ≤ 1099511627776) (hsd : ∀ r ∈ R,r.2.length ≤ 9223372036854775807) :
  zai Tryz.prog za5 [eG g,eP p,eAcc acc f R] [] (.I (zhr g p acc f R)) []:=by
 have hsz:=hg.1.1
 have hsz2:=hg.1.2.1
 have hel:=hg.edges_le
 have hgl:=hg.gone_le
 have hchk:=zbD g p (by omega) (by omega) (by omega) (by have:=hp.2.2.2.1; omega)
 rw [if_pos hg,if_pos hp] at hchk
 have hord:=zfR g p hg hN (by omega)
 have hol:=zmc hg p
 unfold zhr
 obtain ⟨o,ho⟩ : ∃ o,o = ordL (zal g p.lv) p.seeds:=⟨_,rfl⟩
 have hor : ∀ k ∈ o,0 ≤ k ∧ k < g.size:=fun k hk=>by rw [ho] at hk; have h:=zbB hk; exact h
 have hon : o.Nodup:=by rw [ho]; exact zbe _ _
 rw [← ho] at hord hol ⊢
 obtain ⟨L,hL,hpart⟩:=zjI o acc f R (by omega) ha hR
 refine zg9.acalls (nbz rfl) (nbz rfl) (Nat.le_refl _) ?_
 show awp _ 0 _ _ ⟨80,[(0,eG g),(1,eP p),(2,eAcc acc f R)],[],16⟩
 refine zab ⟨80,[(3,.pv (gC g)),(4,.pv (pC p)),(5,.pv [ints acc,ints f,.vs 2 false (zaq R)])],[],60⟩ rfl ?_ ?_
 ·simp
  exact LeH [] [16,24,32]
 refine zaa ?_
 refine rx (s:=?s2) [3,4,5,7] [] [] rfl ?o2 ?q2
 case o2=>simp; refine zak hchk (by simp) ?_; simp; rfl
 refine rx (s:=?s3) [3,4,5,18] [] [] rfl ?o3 ?q3
 case o3=>simp; rfl
 refine zac _ rfl (fun h=>by cases h) fun _=>?_
 refine zad ?_
 refine zar ⟨80,[(3,.pv (gC g)),(4,.pv (pC p)),(5,.pv [ints acc,ints f,.vs 2 false (zaq R)]),(8,ints L),(9,.B (zaV o acc (zaM R)))],[],300⟩ rfl ?_ ?_
 ·simp
  refine zaU hord (by simp) ?_
  simp
  refine zrz [124] (by simp) hpart (by simp [fcd,zaj]) ?_
  simp
  exact ⟨rfl,LeH [] []⟩
 refine zaa ?_
 refine zab ⟨80,[(3,.pv (gC g)),(4,.pv (pC p)),(5,.pv [ints acc,ints f,.vs 2 false (zaq R)]),(8,ints L),(29,.B (!zaV o acc (zaM R)))],[],400⟩ rfl ?_ ?_
 ·simp
  exact LeH [] []
 refine zac _ rfl (fun h8=>?_) fun h8=>?_
 ·have h8' : ¬ zaV o acc (zaM R) = true:=by simpa using h8
  rw [if_neg h8']
  refine rx (s:=?s9) [6] [] [] rfl ?o9 ?q9
  case o9=>simp; rfl
  refine zah ?_
  exact ⟨.inr rfl,zam.one (by simp)⟩
 have h8' : zaV o acc (zaM R) = true:=by simpa using h8
 rw [if_pos h8']
 have hL:=hL h8'
 have hsub:=zfK h8'
 have hperm:=(zlc hon h8').nodup_iff.1 hon
 have hkl : (zaM R).length = R.length:=by simp [zaM]
 have hrk : ∀ k ∈ zaM R,0 ≤ k ∧ k < g.size:=fun k hk=>hor k (hsub.2.subset hk)
 have hak : ∀ k ∈ acc,0 ≤ k ∧ k < g.size:=fun k hk=>hor k (hsub.1.subset hk)
 have han : acc.Nodup:=(List.nodup_append.1 hperm).1
 have hnet:=zbA g p acc hg hp han hak hs
 have hnv : ∀ a : List Int,(∀ x ∈ a,0 ≤ x ∧ x < g.size) → zaX ⟨netN g,netA g p (zav a)⟩:=fun a h=>zdC hg hp (zdr (zbO h)) hs (zbh a)
 have hval:=zhp (f:=f) (hnv acc hak) hf
 have hvv:=zhf (f:=f) (hnv acc hak) hf
 have hcut:=zjW (g:=g) (p:=p) (b:=[]) h8'
 obtain ⟨A,hA⟩ : ∃ A,A = netA g p (zav acc):=⟨_,rfl⟩
 rw [← hA] at hnet hval hvv
 rw [← hA]
 refine zad ?_
 refine zaa ?_
 refine zab ⟨80,[(3,.pv (gC g)),(4,.pv (pC p)),(5,.pv [ints acc,ints f,.vs 2 false (zaq R)]),(8,ints L),(10,.pv (nC ⟨netN g,A⟩))],[],500⟩ rfl ?_ ?_
 ·simp
  refine zak hnet (by simp) ?_
  simp
  exact LeH [] [440]
 refine zar ⟨80,[(3,.pv (gC g)),(4,.pv (pC p)),(5,.pv [ints acc,ints f,.vs 2 false (zaq R)]),(8,ints L),(49,.B (!decide (zay (netN g) A f ∧ valF A f = acc.length)))],[],700⟩ rfl ?_ ?_
 ·by_cases hfo : zay (netN g) A f
  ·rw [decide_eq_true hfo] at hval
   rw [if_pos hfo] at hvv
   simp
   refine zak hval (by simp) ?_
   simp
   refine zak hvv (by simp) ?_
   simp
   exact ⟨rfl,Le.go [] [] rfl rfl (by simp [hfo] <;> exact wkB (by rw [Bool.eq_iff_iff]; simp)) (by simp)⟩
  ·rw [decide_eq_false hfo] at hval
   simp
   refine zak hval (by simp) ?_
   simp
   exact ⟨rfl,Le.go [] [] rfl rfl (by simp [hfo]) (by simp)⟩
 refine zac _ rfl (fun h12=>?_) fun h12=>?_
 ·have h12' : ¬ (zay (netN g) A f ∧ valF A f = acc.length):=fun h=>by rw [decide_eq_true h] at h12; cases h12
  rw [if_neg h12']
  refine rx (s:=?s13) [6] [] [] rfl ?o13 ?q13
  case o13=>simp; rfl
  refine zah ?_
  exact ⟨.inr rfl,zam.one (by simp)⟩
 have h12' : zay (netN g) A f ∧ valF A f = acc.length:=by simpa using h12
 rw [if_pos h12']
 refine zad ?_
 refine zaa ?_
 refine rx (s:=?s14) [3,4,5,8,51,52,53] [] [] rfl ?o14 ?q14
 case o14=>simp; rfl
 refine zaf ?_
 refine zap (ι:=Nat) (fun i=>⟨80,[(3,.pv (gC g)),(4,.pv (pC p)),(5,.pv [ints acc,ints f,.vs 2 false (zaq R)]),(8,ints L),(51,.vs 2 false (zaq R)),(52,.I R.length),(53,.I i)],[],800⟩)
  (fun i=>i ≤ R.length ∧ ∀ j (h : j < R.length),j < i → zfM g p ([] ++ acc.take ((zbE 0 o acc (zaM R)).getD j 0 - 0)) R[j]) (fun i=>R.length - i) 0 ⟨Nat.zero_le _,fun j _ h=>absurd h (Nat.not_lt_zero _)⟩ (LeH [] []) ?_
 rintro i ⟨hi,hpre⟩
 refine rx (s:=?s15) [3,4,5,8,51,52,53,54] [] [] rfl ?o15 ?q15
 case o15=>simp; rfl
 refine zaa ?_
 refine zac _ rfl (fun h16=>?_) fun h16=>?_
 ·simp at h16
  have hw1 : IntKind.i64.wrap ((i : Int) + 1) = (i : Int) + 1:=w64 (by omega) (by omega)
  have hail : i < (zbE 0 o acc (zaM R)).length:=by rw [zgf h8',hkl]; exact h16
  have hage:=zhl (List.getElem_mem hail)
  have hgd : (zbE 0 o acc (zaM R)).getD i 0 = (zbE 0 o acc (zaM R))[i]:=by rw [List.getD_eq_getElem?_getD,List.getElem?_eq_getElem hail,Option.getD_some]
  obtain ⟨m,hm⟩ : ∃ m,m = (zbE 0 o acc (zaM R))[i]:=⟨_,rfl⟩
  rw [← hm] at hage hgd
  have hLi : L[i]? = some (m : Int):=by rw [hL,List.getElem?_map,List.getElem?_eq_getElem hail,← hm]; rfl
  have hiL : i < L.length:=(List.getElem?_eq_some_iff.1 hLi).1
  have hLi' : L[i] = (m : Int):=by rw [List.getElem?_eq_getElem hiL] at hLi; exact Option.some.inj hLi
  have hgoal : zfM g p ([] ++ acc.take ((zbE 0 o acc (zaM R)).getD i 0 - 0)) R[i] ↔ zfM g p (acc.take m) R[i]:=by rw [hgd,Nat.sub_zero,List.nil_append]
  have hsdi:=hsd _ (List.getElem_mem h16)
  obtain ⟨r,hr⟩ : ∃ r,r = R[i]:=⟨_,rfl⟩
  have hrm : r.1 ∈ zaM R:=by rw [hr]; exact List.mem_map.2 ⟨_,List.getElem_mem h16,rfl⟩
  rw [← hr] at hgoal hsdi
  have htl : (acc.take m).length = m:=by rw [List.length_take]; omega
  have hks : ∀ x ∈ acc.take m ++ [r.1],0 ≤ x ∧ x < g.size:=fun x hx=>by
   rcases List.mem_append.1 hx with h | h
   ·exact hak x (List.mem_of_mem_take h)
   ·rw [List.mem_singleton] at h; subst h; exact hrk _ hrm
  have hkn : (acc.take m ++ [r.1]).Nodup:=List.nodup_append.2 ⟨han.sublist (List.take_sublist _ _),by simp,fun a ha b hb=>by
   rw [List.mem_singleton] at hb
   subst hb
   exact (List.nodup_append.1 hperm).2.2 a (List.mem_of_mem_take ha) _ hrm⟩
  have hwith:=zgr (acc.take m) r.1 (by omega)
  have hnet2:=zbA g p (acc.take m ++ [r.1]) hg hp hkn hks hs
  have hprv:=zkv ⟨netN g,netA g p (zav (acc.take m ++ [r.1]))⟩ r.2 m (by have:=(hnv _ hks).2.2.1; simp only at this ⊢; omega) hsdi
  have hpd : decide (zcL ⟨netN g,netA g p (zav (acc.take m ++ [r.1]))⟩ r.2 m) = decide (zfM g p (acc.take m) r):=by
   unfold zfM
   rw [htl]
  rw [hpd] at hprv
  rw [htl] at hwith
  obtain ⟨W,hW⟩ : ∃ W,W = acc.take m ++ [r.1]:=⟨_,rfl⟩
  have hWl : W.length = m + 1:=by rw [hW,List.length_append,htl]; rfl
  rw [← hW] at hwith hnet2 hprv
  rw [← hWl] at hwith
  obtain ⟨A2,hA2⟩ : ∃ A2,A2 = netA g p (zav W):=⟨_,rfl⟩
  rw [← hA2] at hnet2 hprv
  have hw2 : IntKind.i64.wrap ((W.length : Int) - 1) = (m : Int):=by rw [hWl,w64 (by omega) (by omega)]; omega
  have hma : m ≤ acc.length:=by omega
  refine zad ?_
  refine zaa ?_
  refine zaf ?_
  refine zab ⟨80,[(3,.pv (gC g)),(4,.pv (pC p)),(5,.pv [ints acc,ints f,.vs 2 false (zaq R)]),(8,ints L),(11,.I i),(12,.pv [.I r.1,ints r.2]),(51,.vs 2 false (zaq R)),(52,.I R.length),(53,.I i)],[],1000⟩ rfl ?_ ?_
  ·simp [h16,← hr]
   exact LeH [] [832]
  refine zar ⟨80,[(3,.pv (gC g)),(4,.pv (pC p)),(5,.pv [ints acc,ints f,.vs 2 false (zaq R)]),(8,ints L),(12,.pv [.I r.1,ints r.2]),(13,ints W),(51,.vs 2 false (zaq R)),(52,.I R.length),(53,.I i)],[],1200⟩ rfl ?_ ?_
  ·simp [hiL,hLi',hma]
   refine zaU hwith (by simp [List.map_take]) ?_
   simp
   exact ⟨rfl,Le.go [] [1072] rfl rfl (by simp [fcd,zaj]) (by simp)⟩
  refine zar ⟨80,[(3,.pv (gC g)),(4,.pv (pC p)),(5,.pv [ints acc,ints f,.vs 2 false (zaq R)]),(8,ints L),(51,.vs 2 false (zaq R)),(52,.I R.length),(53,.I i),(78,.B (!decide (zfM g p (acc.take m) r)))],[],1400⟩ rfl ?_ ?_
  ·simp
   refine zak hnet2 (by simp) ?_
   simp [hw2]
   refine zak hprv (by simp) ?_
   simp
   exact ⟨rfl,LeH [] []⟩
  refine zac _ rfl (fun h20=>?_) fun h20=>?_
  ·have h20' : ¬ zfM g p (acc.take m) r:=by simpa using h20
   have hno : ¬ zcV g p [] o acc R:=fun h=>h20' (hgoal.1 (by rw [hr]; exact hcut.1 h i h16))
   rw [if_neg hno]
   refine rx (s:=?s21) [6] [] [] rfl ?o21 ?q21
   case o21=>simp; rfl
   refine zah ?_
   exact ⟨.inr rfl,zam.one (by simp)⟩
  have h20' : zfM g p (acc.take m) r:=by simpa using h20
  refine zad ?_
  refine zau rfl ?_
  simp
  refine ⟨i + 1,⟨h16,fun j hj hji=>?_⟩,by omega,Le.go [] [] rfl rfl (by simp [hw1]) (by simp)⟩
  rcases Nat.lt_succ_iff_lt_or_eq.1 hji with h | h
  ·exact hpre j hj h
  ·subst h
   have h5:=hgoal.2 h20'
   rw [hr] at h5
   exact h5
 simp at h16
 obtain rfl : i = R.length:=by omega
 have hyes : zcV g p [] o acc R:=hcut.2 fun j hj=>hpre j hj hj
 rw [if_pos hyes]
 refine zan ?_
 refine hit ?_
 refine rx (s:=?s22) [6] [] [] rfl ?o22 ?q22
 case o22=>simp; rfl
 refine zah ?_
 exact ⟨.inr rfl,zam.one (by simp)⟩
open Classical in
theorem zjA (g : Gr) (p : Pol) (acc f : List Int) (R : List (Int × List Int)) (hg : GrOk g) (hp : za8 g.size p) (hs : p.seeds.length ≤ 64) (hN : g.size < 20) (ha : acc.length ≤ 1000) (hR : R.length ≤ 1000) (hf : f.length ≤ 1099511627776) (hsd : ∀ r ∈ R,r.2.length ≤ 140737488355328) : zai Tryz.prog za5 [eG g,eP p,eAcc acc f R] [] (.I (zhr g p acc f R)) [] :=
 zfk g p acc f R hg hp hs hN ha hR hf (fun r hr=>by have:=hsd r hr; omega)
variable {N : Nat} {A : List Ed} {f : List Int}
theorem zpS (hl : f.length = A.length) (x : Int) : ∀ i,i ≤ A.length → (∀ j (h : j < f.length),j < i → 0 ≤ f[j] ∧ f[j] ≤ 1048576) → -(1048576 * (i : Int)) ≤ netG A f i x ∧ netG A f i x ≤ 1048576 * (i : Int)
 | 0,_,_=>by rw [zfD]; omega
 | i + 1,h,hb=>by
   have ih:=zpS hl x i (by omega) fun j h1 h2=>hb j h1 (by omega)
   have h2:=hb i (by omega) (by omega)
   rw [zfH (by omega) (by omega)]
   split <;> split <;> omega
set_option maxRecDepth 100000 in
set_option maxHeartbeats 4000000 in
open Classical in
theorem zgo (hn : zaX ⟨N,A⟩) (hfl0 : f.length ≤ 1099511627776) : zai Tryz.prog zdq [eN ⟨N,A⟩,ints f] [] (.B (decide (zay N A f))) []:=by
 refine zis.acalls (nbz rfl) (nbz rfl) (Nat.le_refl _) ?_
 show awp _ 0 _ _ ⟨87,[(0,eN ⟨N,A⟩),(1,ints f)],[],16⟩
 have hchk:=zc9 ⟨N,A⟩ (by have:=hn.2.2.1; simp only at this ⊢; omega)
 rw [if_pos hn] at hchk
 obtain ⟨hn0,hn1,hal,hav⟩:=hn
 simp only at hn0 hn1 hal hav
 refine rx (s:=?s1) [1,2] [] [16] rfl ?o1 ?q1
 case o1=>simp; rfl
 refine zaa ?_
 refine zab ⟨87,[(1,ints f),(2,.pv (nC ⟨N,A⟩)),(18,.B (!decide (f.length = A.length)))],[],120⟩ rfl ?_ ?_
 ·simp
  refine zak hchk (by simp) ?_
  simp
  exact Le.snap [] rfl rfl (by simp <;> exact wkB (by rw [Bool.eq_iff_iff]; simp <;> omega))
 refine zac _ rfl (fun h3=>?_) fun h3=>?_
 ·have h3' : ¬ f.length = A.length:=by simpa using h3
  have hno : ¬ zay N A f:=fun h=>h3' (zcx.1 h).1
  refine rx (s:=?s3) [4] [] [] rfl ?o3 ?q3
  case o3=>simp; rfl
  refine zah ?_
  exact ⟨.inr rfl,zam.one (by simp [hno])⟩
 have hfl : f.length = A.length:=by simpa using h3
 refine zad ?_
 refine zab ⟨87,[(1,ints f),(2,.pv (nC ⟨N,A⟩)),(5,.rs 136 0 N)],[(136,some ⟨1,zag (rowR N (netG A f 0)),0⟩)],144⟩ rfl ?_ ?_
 ·simp
  refine ⟨by omega,by omega,?_⟩
  have : rowR N (netG A f 0) = List.replicate N 0:=by
   unfold rowR
   simp only [zfD]
   simp [List.map_const']
  rw [this]
  exact LeH [(136,136)] []
 refine zaa ?_
 refine zab ⟨87,[(1,ints f),(2,.pv (nC ⟨N,A⟩)),(5,.rs 136 0 N),(6,.I 0)],[(136,some ⟨1,zag (rowR N (netG A f 0)),0⟩)],160⟩ rfl ?_ ?_
 ·simp
  exact LeI [(136,136)] []
 refine zaf ?_
 refine zap (ι:=Nat) (fun i=>⟨87,[(1,ints f),(2,.pv (nC ⟨N,A⟩)),(5,.rs 136 0 N),(6,.I i)],[(136,some ⟨1,zag (rowR N (netG A f i)),0⟩)],160⟩) (fun i=>i ≤ A.length ∧ ∀ k,k < i → zkz A f k) (fun i=>A.length - i) 0 ⟨Nat.zero_le _,fun k h=>absurd h (Nat.not_lt_zero _)⟩ (LeI [(136,136)] []) ?_
 rintro i ⟨hi,hp⟩
 have hfb : ∀ j (h : j < f.length),j < i → 0 ≤ f[j] ∧ f[j] ≤ 1048576:=fun j hj hji=>by
  have h1:=hp j hji
  unfold zkz at h1
  have e1 : f.getD j 0 = f[j]:=by rw [List.getD_eq_getElem?_getD,List.getElem?_eq_getElem hj,Option.getD_some]
  have e2 : arcD A j = A[j]'(by omega):=by unfold arcD; rw [List.getD_eq_getElem?_getD,List.getElem?_eq_getElem (by omega),Option.getD_some]
  rw [e1,e2] at h1
  have h2:=(hav _ (List.getElem_mem (show j < A.length by omega))).2.2.2.2.2.2.2.2
  omega
 have hbd:=fun x=>zpS hfl x i hi hfb
 refine zaa ?_
 refine zab ⟨87,[(1,ints f),(2,.pv (nC ⟨N,A⟩)),(5,.rs 136 0 N),(6,.I i),(25,.B (decide (i < f.length)))],[(136,some ⟨1,zag (rowR N (netG A f i)),0⟩)],192⟩ rfl ?_ ?_
 ·simp
  exact LeI [(136,136)] []
 refine zac _ rfl (fun h8=>?_) fun h8=>?_
 ·simp at h8
  have hiA : i < A.length:=by omega
  have hw1 : IntKind.i64.wrap ((i : Int) + 1) = (i : Int) + 1:=w64 (by omega) (by omega)
  have heo:=hav _ (List.getElem_mem hiA)
  have hsucc:=zfH hiA h8
  have hbe:=hbd
  obtain ⟨e,he⟩ : ∃ e,e = A[i]:=⟨_,rfl⟩
  obtain ⟨w,hw⟩ : ∃ w,w = f[i]:=⟨_,rfl⟩
  rw [← he,← hw] at hsucc
  rw [← he] at heo
  obtain ⟨e1,e2,e3,e4,e5,e6,e7,e8,b3⟩:=heo
  have hfa : zkz A f i ↔ 0 ≤ w ∧ w ≤ e.v:=by
   unfold zkz arcD
   rw [List.getD_eq_getElem?_getD,List.getElem?_eq_getElem h8,Option.getD_some,List.getD_eq_getElem?_getD,List.getElem?_eq_getElem hiA,Option.getD_some,he,hw]
  have hg1 : A[i]? = some e:=by rw [List.getElem?_eq_getElem hiA,he]
  have hg2 : f[i]? = some w:=by rw [List.getElem?_eq_getElem h8,hw]
  have h2N : e.f < (N : Int) ∧ e.t < (N : Int):=by omega
  have h1:=hbe e.f
  have h2:=hbe e.t
  have hr1:=zcS (N:=N) (g:=netG A f i) (x:=e.f) e1 (by omega)
  have hs1:=zga (N:=N) (g:=netG A f i) (x:=e.f) (v:=netG A f i e.f - w) e1 (by omega)
  obtain ⟨g1,hg1d⟩ : ∃ g1 : Int → Int,g1 = fun y=>if y = e.f then netG A f i e.f - w else netG A f i y:=⟨_,rfl⟩
  rw [← hg1d] at hs1
  have hg1t : g1 e.t = netG A f i e.t:=by rw [hg1d]; exact if_neg fun h=>e5 h.symm
  have hr2:=zcS (N:=N) (g:=g1) (x:=e.t) e3 (by omega)
  rw [hg1t] at hr2
  have hs2:=zga (N:=N) (g:=g1) (x:=e.t) (v:=netG A f i e.t + w) e3 (by omega)
  have hend : (rowR N fun y=>if y = e.t then netG A f i e.t + w else g1 y) = rowR N (netG A f (i + 1)):=zgg fun x=>by
   rw [hsucc,hg1d]
   simp only
   by_cases h3 : x = e.t
   ·rw [h3,if_pos rfl,if_pos rfl,if_neg e5]
    omega
   ·by_cases h4 : x = e.f
    ·rw [if_neg h3,if_pos h4,if_neg fun h=>h3 h.symm,if_pos h4.symm,h4]
     omega
    ·rw [if_neg h3,if_neg h4,if_neg fun h=>h3 h.symm,if_neg fun h=>h4 h.symm]
     omega
  rw [hend] at hs2
  refine zad ?_
  refine zaI (ι:=Unit) (fun _=>⟨87,[(1,ints f),(2,.pv (nC ⟨N,A⟩)),(5,.rs 136 0 N),(6,.I i)],[(136,some ⟨1,zag (rowR N (netG A f (i + 1))),0⟩)],1000⟩) (fun _=>zkz A f i) ?_ fun _ hfit=>?_
  ·refine zaf ?_
   refine zaa ?_
   refine zar ⟨87,[(1,ints f),(2,.pv (nC ⟨N,A⟩)),(5,.rs 136 0 N),(6,.I i),(45,.B (!decide (0 ≤ w ∧ w ≤ e.v)))],[(136,some ⟨1,zag (rowR N (netG A f i)),0⟩)],500⟩ rfl ?_ ?_
   ·simp [hg1,hg2,hiA,h8,← he,← hw]
    refine zbU (fun hb=>?_) (fun hb=>?_) <;> (try rw [hb]) <;> (try simp at hb) <;> simp [hb,hg1,hg2,hiA,h8,← he,← hw]
    ·exact ⟨rfl,Le.go [(136,136)] [] rfl rfl (by simp <;> exact wkB (by rw [Bool.eq_iff_iff]; simp <;> omega)) (by simp [fcd])⟩
    ·exact ⟨rfl,Le.go [(136,136)] [] rfl rfl (by simp <;> exact wkB (by rw [Bool.eq_iff_iff]; simp <;> omega)) (by simp [fcd])⟩
   refine zac _ rfl (fun h45=>?_) fun h45=>?_
   ·have h45' : ¬ (0 ≤ w ∧ w ≤ e.v):=fun h=>by rw [decide_eq_true h] at h45; cases h45
    have hno : ¬ zay N A f:=fun h=>h45' (hfa.1 ((zcx.1 h).2.1 i hiA))
    refine rx (s:=?s46) [4] [] [] rfl ?o46 ?q46
    case o46=>simp; rfl
    refine zah ?_
    exact ⟨.inr rfl,zam.one (by simp [hno])⟩
   have h45' : 0 ≤ w ∧ w ≤ e.v:=Decidable.byContradiction fun h=>by rw [decide_eq_false h] at h45; cases h45
   obtain ⟨b1,b2⟩:=h45'
   have hwx : IntKind.i64.wrap (netG A f i e.f - w) = netG A f i e.f - w:=w64 (by omega) (by omega)
   have hwy : IntKind.i64.wrap (netG A f i e.t + w) = netG A f i e.t + w:=w64 (by omega) (by omega)
   refine zad ?_
   refine zar ⟨87,[(1,ints f),(2,.pv (nC ⟨N,A⟩)),(5,.rs 136 0 N),(6,.I i)],[(136,some ⟨1,zag (rowR N g1),0⟩)],700⟩ rfl ?_ ?_
   ·simp [hg1,hg2,hiA,h8,← he,← hw,hr1,e1,h2N,hwx,zaE]
    exact ⟨rfl,Le.go [(136,136)] [] rfl rfl (by simp) (by simp [fcd,← hs1])⟩
   refine za4 rfl ?_
   simp [hg1,hg2,hiA,h8,← he,← hw,hr2,e3,h2N,hwy,zaE]
   exact ⟨rfl,hfa.2 ⟨b1,b2⟩,Le.go [(136,136)] [] rfl rfl (by simp) (by simp [fcd,← hs2])⟩
  refine zae (s:=?s20) rfl ?o20 ?q20
  case o20=>simp; rfl
  exact ⟨i + 1,⟨by omega,fun k hk=>by
   rcases Nat.lt_succ_iff_lt_or_eq.1 hk with h | h
   ·exact hp k h
   ·rw [h]; exact hfit⟩,by omega,Le.go [(136,136)] [] rfl rfl (by simp [hw1]) (by simp [fcd])⟩
 simp at h8
 obtain rfl : i = A.length:=by omega
 refine zan ?_
 refine hit ?_
 refine zaa ?_
 refine zab ⟨87,[(2,.pv (nC ⟨N,A⟩)),(5,.rs 136 0 N),(7,.I 2)],[(136,some ⟨1,zag (rowR N (netG A f A.length)),0⟩)],200⟩ rfl ?_ ?_
 ·simp
  exact LeI [(136,136)] []
 refine zaf ?_
 refine zap (ι:=Nat) (fun k=>⟨87,[(2,.pv (nC ⟨N,A⟩)),(5,.rs 136 0 N),(7,.I k)],[(136,some ⟨1,zag (rowR N (netG A f A.length)),0⟩)],200⟩) (fun k=>(2 ≤ k ∧ k ≤ N) ∧ ∀ x : Nat,2 ≤ x → x < k → exF A f x = 0) (fun k=>N - k) 2 ⟨by omega,fun x h1 h2=>by omega⟩ (LeI [(136,136)] []) ?_
 rintro k ⟨⟨hk1,hk2⟩,hz⟩
 refine zaa ?_
 refine zab ⟨87,[(2,.pv (nC ⟨N,A⟩)),(5,.rs 136 0 N),(7,.I k),(79,.B (decide (k < N)))],[(136,some ⟨1,zag (rowR N (netG A f A.length)),0⟩)],300⟩ rfl ?_ ?_
 ·simp
  exact LeI [(136,136)] []
 refine zac _ rfl (fun h15=>?_) fun h15=>?_
 ·simp at h15
  have hr:=zcS (N:=N) (g:=netG A f A.length) (x:=(k : Int)) (by omega) (by omega)
  have hng:=zl5 hfl (k : Int)
  obtain ⟨z,hzd⟩ : ∃ z,z = netG A f A.length k:=⟨_,rfl⟩
  rw [← hzd] at hr hng
  simp only [Int.toNat_natCast] at hr
  have hw1 : IntKind.i64.wrap ((k : Int) + 1) = (k : Int) + 1:=w64 (by omega) (by omega)
  refine zad ?_
  refine zaa ?_
  refine zaf ?_
  refine zab ⟨87,[(2,.pv (nC ⟨N,A⟩)),(5,.rs 136 0 N),(7,.I k),(86,.B (!decide (z = 0)))],[(136,some ⟨1,zag (rowR N (netG A f A.length)),0⟩)],400⟩ rfl ?_ ?_
  ·simp [hr,h15]
   exact Le.go [(136,136)] [] rfl rfl (by simp <;> exact wkB (by rw [Bool.eq_iff_iff]; simp)) (by simp [fcd])
  refine zac _ rfl (fun h86=>?_) fun h86=>?_
  ·have h86' : ¬ z = 0:=by simpa using h86
   have hno : ¬ zay N A f:=fun h=>h86' (by rw [hng,(zcx.1 h).2.2 k hk1 h15]; rfl)
   refine rx (s:=?s87) [4] [] [] rfl ?o87 ?q87
   case o87=>simp; rfl
   refine zah ?_
   exact ⟨.inr rfl,zam.one (by simp [hno])⟩
  have h86' : z = 0:=by simpa using h86
  refine zad ?_
  refine zae (s:=?s21) rfl ?o21 ?q21
  case o21=>simp; rfl
  exact ⟨k + 1,⟨by omega,fun x h1 h2=>by
   rcases Nat.lt_succ_iff_lt_or_eq.1 h2 with h | h
   ·exact hz x h1 h
   ·subst h; omega⟩,by omega,Le.go [(136,136)] [] rfl rfl (by simp [hw1]) (by simp [fcd])⟩
 simp at h15
 have hyes : zay N A f:=zcx.2 ⟨hfl,hp,fun x h1 h2=>hz x h1 (by omega)⟩
 refine zan ?_
 refine hit ?_
 refine zab ⟨87,[(4,.B true)],[],400⟩ rfl ?_ ?_
 ·simp
  exact LeH [] []
 refine zah ?_
 exact ⟨.inr rfl,zam.one (by simp [hyes])⟩
set_option maxRecDepth 100000 in
open Classical in
theorem zkL (hn : zaX ⟨N,A⟩) (hfl0 : f.length ≤ 1099511627776) : zai Tryz.prog zdn [eN ⟨N,A⟩,ints f] [] (.I (if zay N A f then valF A f else 0)) []:=by
 by_cases hf : zay N A f
 ·rw [if_pos hf]
  exact zfl hn hf
 rw [if_neg hf]
 have hchk:=zgo hn hfl0
 rw [decide_eq_false hf] at hchk
 refine zil.acalls (nbz rfl) (nbz rfl) (Nat.le_refl _) ?_
 show awp _ 0 _ _ ⟨31,[(0,eN ⟨N,A⟩),(1,ints f)],[],16⟩
 refine rx (s:=?s1) [1,2] [] [16] rfl ?o1 ?q1
 case o1=>simp; rfl
 refine zaa ?_
 refine rx (s:=?s2) [1,2,10] [] [] rfl ?o2 ?q2
 case o2=>simp; refine zak hchk (by simp) ?_; simp; rfl
 refine zac _ rfl (fun h=>?_) fun h=>by cases h
 refine rx (s:=?s3) [4] [] [] rfl ?o3 ?q3
 case o3=>simp; rfl
 refine zah ?_
 exact ⟨.inr rfl,zam.one (by simp)⟩
set_option maxRecDepth 100000
def ziL : AFun:=⟨65,[(4,none)],
 (.seq
 (.reg false [
  ⟨(some 3),(.box 3),[(.t 1)],none⟩,
  ⟨(some 4),.mv,[(.c (.bool false))],none⟩] [])
 (.seq
 (.reg false [
  ⟨(some 5),.mv,[(.c (.int .i64 0))],none⟩,
  ⟨(some 6),.mv,[(.c (.int .i64 0))],none⟩] [])
 (.seq
 (.seq
 (.reg false [
  ⟨(some 7),.mv,[(.c (.int .i64 0))],none⟩] [])
 (.block 0
 (.loop
 (.seq
 (.seq
 (.reg false [
  ⟨(some 8),.mv,[(.t 7)],none⟩,
  ⟨(some 9),.mv,[(.t 0)],none⟩,
  ⟨(some 10),.len,[(.t 9)],none⟩,
  ⟨(some 11),(.bin .lss),[(.t 8),(.t 10)],none⟩] [])
 (.cond (.t 11)
  .skip
  (.exit 0)))
 (.seq
 (.block 1
 (.seq
 (.reg true [
  ⟨(some 14),.mv,[(.t 5)],none⟩,
  ⟨(some 15),(.fad 0),[(.t 3)],none⟩,
  ⟨(some 16),(.ld false 1),[(.t 15)],none⟩,
  ⟨(some 17),.len,[(.t 16)],none⟩,
  ⟨(some 18),(.bin .lss),[(.t 14),(.t 17)],none⟩,
  ⟨(some 19),.mv,[(.t 18)],none⟩,
  ⟨(some 20),(.fad 0),[(.t 3)],(some (19,true))⟩,
  ⟨(some 21),(.ld false 1),[(.t 20)],(some (19,true))⟩,
  ⟨(some 22),.mv,[(.t 5)],(some (19,true))⟩,
  ⟨(some 23),(.iad 1),[(.t 21),(.t 22)],(some (19,true))⟩,
  ⟨(some 24),(.ld false 1),[(.t 23)],(some (19,true))⟩,
  ⟨(some 25),.mv,[(.t 0)],(some (19,true))⟩,
  ⟨(some 26),.mv,[(.t 7)],(some (19,true))⟩,
  ⟨(some 27),(.iad 1),[(.t 25),(.t 26)],(some (19,true))⟩,
  ⟨(some 28),(.ld false 1),[(.t 27)],(some (19,true))⟩,
  ⟨(some 29),(.bin .eql),[(.t 24),(.t 28)],(some (19,true))⟩,
  ⟨(some 30),.pick,[(.t 19),(.t 29),(.c (.bool false))],none⟩] [[],[],[1],[2],[0,3],[4],[5],[6,5],[5],[7,8,5],[9,5],[5],[5],[11,12,5],[13,5],[10,14,5],[5,15]])
 (.cond (.t 30)
  (.reg false [
   ⟨(some 31),.mv,[(.t 5)],none⟩,
   ⟨(some 32),(.bin .add),[(.t 31),(.c (.int .i64 1))],none⟩,
   ⟨(some 5),.mv,[(.t 32)],none⟩] [])
  (.seq
  (.reg true [
   ⟨(some 33),.mv,[(.t 6)],none⟩,
   ⟨(some 34),(.fad 2),[(.t 3)],none⟩,
   ⟨(some 35),(.ld false 1),[(.t 34)],none⟩,
   ⟨(some 36),.len,[(.t 35)],none⟩,
   ⟨(some 37),(.bin .lss),[(.t 33),(.t 36)],none⟩,
   ⟨(some 38),.mv,[(.t 37)],none⟩,
   ⟨(some 39),(.fad 2),[(.t 3)],(some (38,true))⟩,
   ⟨(some 40),(.ld false 1),[(.t 39)],(some (38,true))⟩,
   ⟨(some 41),.mv,[(.t 6)],(some (38,true))⟩,
   ⟨(some 42),(.iad 2),[(.t 40),(.t 41)],(some (38,true))⟩,
   ⟨(some 43),(.fad 0),[(.t 42)],(some (38,true))⟩,
   ⟨(some 44),(.ld false 1),[(.t 43)],(some (38,true))⟩,
   ⟨(some 45),.mv,[(.t 0)],(some (38,true))⟩,
   ⟨(some 46),.mv,[(.t 7)],(some (38,true))⟩,
   ⟨(some 47),(.iad 1),[(.t 45),(.t 46)],(some (38,true))⟩,
   ⟨(some 48),(.ld false 1),[(.t 47)],(some (38,true))⟩,
   ⟨(some 49),(.bin .eql),[(.t 44),(.t 48)],(some (38,true))⟩,
   ⟨(some 50),.pick,[(.t 38),(.t 49),(.c (.bool false))],none⟩] [[],[],[1],[2],[0,3],[4],[5],[6,5],[5],[7,8,5],[9,5],[10,5],[5],[5],[12,13,5],[14,5],[11,15,5],[5,16]])
  (.cond (.t 50)
   (.reg false [
    ⟨(some 51),.mv,[(.t 6)],none⟩,
    ⟨(some 52),(.bin .add),[(.t 51),(.c (.int .i64 1))],none⟩,
    ⟨(some 6),.mv,[(.t 52)],none⟩] [])
   (.seq
   (.reg false [
    ⟨(some 4),.mv,[(.c (.bool false))],none⟩] [])
   .ret))))))
 (.reg false [
  ⟨(some 12),.mv,[(.t 7)],none⟩,
  ⟨(some 13),(.bin .add),[(.t 12),(.c (.int .i64 1))],none⟩,
  ⟨(some 7),.mv,[(.t 13)],none⟩] []))))))
 (.seq
 (.reg false [
  ⟨(some 53),.mv,[(.t 5)],none⟩,
  ⟨(some 54),(.fad 0),[(.t 3)],none⟩,
  ⟨(some 55),(.ld false 1),[(.t 54)],none⟩,
  ⟨(some 56),.len,[(.t 55)],none⟩,
  ⟨(some 57),(.bin .eql),[(.t 53),(.t 56)],none⟩,
  ⟨(some 58),.mv,[(.t 57)],none⟩,
  ⟨(some 59),.mv,[(.t 6)],(some (58,true))⟩,
  ⟨(some 60),(.fad 2),[(.t 3)],(some (58,true))⟩,
  ⟨(some 61),(.ld false 1),[(.t 60)],(some (58,true))⟩,
  ⟨(some 62),.len,[(.t 61)],(some (58,true))⟩,
  ⟨(some 63),(.bin .eql),[(.t 59),(.t 62)],(some (58,true))⟩,
  ⟨(some 64),.pick,[(.t 58),(.t 63),(.c (.bool false))],none⟩,
  ⟨(some 4),.mv,[(.t 64)],none⟩] [])
 .ret))))⟩
theorem ziz : Src Tryz.prog zdw ziL:=mkS Tryz.f90
structure PnSt where
 n : Nat
 i : Nat
 k : Nat
set_option maxRecDepth 100000 in
set_option maxHeartbeats 4000000 in
theorem zg7 (o acc f : List Int) (R : List (Int × List Int)) (hol : o.length ≤ 100) (ha : acc.length ≤ 1000) (hR : R.length ≤ 1000) : zai Tryz.prog zdw [ints o,eAcc acc f R] [] (.B (zaV o acc (zaM R))) []:=by
 refine ziz.acalls (nbz rfl) (nbz rfl) (Nat.le_refl _) ?_
 show awp _ 0 _ _ ⟨65,[(0,ints o),(1,eAcc acc f R)],[],16⟩
 have hkl : (zaM R).length = R.length:=by simp [zaM]
 obtain ⟨b,hb⟩ : ∃ b,b = zaV o acc (zaM R):=⟨_,rfl⟩
 rw [← hb]
 refine zab ⟨65,[(0,ints o),(3,.pv [ints acc,ints f,.vs 2 false (zaq R)])],[],40⟩ rfl ?_ ?_
 ·simp
  exact LeH [] [16]
 refine rx (s:=?s2) [0,3,5,6] [] [] rfl ?o2 ?q2
 case o2=>simp; rfl
 refine zaa ?_
 refine rx (s:=?s3) [0,3,5,6,7] [] [] rfl ?o3 ?q3
 case o3=>simp; rfl
 refine zaf ?_
 refine zap (ι:=PnSt) (fun s=>⟨65,[(0,ints o),(3,.pv [ints acc,ints f,.vs 2 false (zaq R)]),(5,.I s.i),(6,.I s.k),(7,.I s.n)],[],300⟩)
  (fun s=>s.n ≤ o.length ∧ s.i ≤ acc.length ∧ s.k ≤ R.length ∧ b = zaV (o.drop s.n) (acc.drop s.i) ((zaM R).drop s.k))
  (fun s=>o.length - s.n) ⟨0,0,0⟩ ⟨Nat.zero_le _,Nat.zero_le _,Nat.zero_le _,by simpa using hb⟩ (LeH [] []) ?_
 rintro ⟨n,i,k⟩ ⟨hn,hi,hk,hp⟩
 simp only at hn hi hk hp
 refine zaa ?_
 refine zab ⟨65,[(0,ints o),(3,.pv [ints acc,ints f,.vs 2 false (zaq R)]),(5,.I i),(6,.I k),(7,.I n),(11,.B (decide (n < o.length)))],[],400⟩ rfl ?_ ?_
 ·simp
  exact LeH [] []
 refine zac _ rfl (fun h6=>?_) fun h6=>?_
 ·simp at h6
  have hw1 : IntKind.i64.wrap ((n : Int) + 1) = (n : Int) + 1:=w64 (by omega) (by omega)
  have hw2 : IntKind.i64.wrap ((i : Int) + 1) = (i : Int) + 1:=w64 (by omega) (by omega)
  have hw3 : IntKind.i64.wrap ((k : Int) + 1) = (k : Int) + 1:=w64 (by omega) (by omega)
  obtain ⟨x,hx⟩ : ∃ x,x = o[n]:=⟨_,rfl⟩
  have hod : o.drop n = x :: o.drop (n + 1):=by rw [List.drop_eq_getElem_cons h6,hx]
  rw [hod] at hp
  simp only [zaV,List.tail_drop] at hp
  refine zad ?_
  refine zaa ?_
  refine zaf ?_
  refine zar ⟨65,[(0,ints o),(3,.pv [ints acc,ints f,.vs 2 false (zaq R)]),(5,.I i),(6,.I k),(7,.I n),(30,.B (decide ((acc.drop i).head? = some x)))],[],700⟩ rfl ?_ ?_
  ·by_cases hia : i < acc.length
   ·have hh:=zew hia
    simp [hia,h6,← hx]
    exact ⟨rfl,Le.go [] [] rfl rfl (by simp <;> exact wkB (by rw [Bool.eq_iff_iff]; simp [hia])) (by simp)⟩
   ·have hh:=zcg hia
    have hai : acc.length ≤ i:=by omega
    simp [hia]
    exact ⟨rfl,Le.go [] [] rfl rfl (by simp [hia]) (by simp)⟩
  refine zac _ rfl (fun h9=>?_) fun h9=>?_
  ·rw [decide_eq_true_eq] at h9
   rw [if_pos h9] at hp
   have hia : i < acc.length:=Decidable.byContradiction fun h=>by rw [zcg h] at h9; cases h9
   refine zau rfl ?_
   simp
   refine zau rfl ?_
   simp
   exact ⟨⟨n + 1,i + 1,k⟩,⟨by simp only; omega,by simp only; omega,hk,hp⟩,by simp only; omega,Le.go [] [] rfl rfl (by simp [hw1,hw2]) (by simp)⟩
  rw [decide_eq_false_iff_not] at h9
  rw [if_neg h9] at hp
  refine zar ⟨65,[(0,ints o),(3,.pv [ints acc,ints f,.vs 2 false (zaq R)]),(5,.I i),(6,.I k),(7,.I n),(50,.B (decide (((zaM R).drop k).head? = some x)))],[],900⟩ rfl ?_ ?_
  ·by_cases hkR : k < R.length
   ·have hh2 : (zaM R)[k]? = some R[k].1:=by rw [zaM,List.getElem?_map,List.getElem?_eq_getElem hkR]; rfl
    simp [hkR,h6,← hx]
    exact ⟨rfl,Le.go [] [] rfl rfl (by simp [hh2] <;> exact wkB (by rw [Bool.eq_iff_iff]; simp)) (by simp)⟩
   ·have hh2 : (zaM R)[k]? = none:=List.getElem?_eq_none (by omega)
    simp [hkR]
    exact ⟨rfl,Le.go [] [] rfl rfl (by simp [hh2,hkR]) (by simp)⟩
  refine zac _ rfl (fun h11=>?_) fun h11=>?_
  ·rw [decide_eq_true_eq] at h11
   rw [if_pos h11] at hp
   have hkR : k < R.length:=Decidable.byContradiction fun h=>by rw [List.head?_drop,List.getElem?_eq_none (by omega)] at h11; cases h11
   refine zau rfl ?_
   simp
   refine zau rfl ?_
   simp
   exact ⟨⟨n + 1,i,k + 1⟩,⟨by simp only; omega,hi,hkR,hp⟩,by simp only; omega,Le.go [] [] rfl rfl (by simp [hw1,hw3]) (by simp)⟩
  rw [decide_eq_false_iff_not] at h11
  rw [if_neg h11] at hp
  subst hp
  refine rx (s:=?s10) [4] [] [] rfl ?o10 ?q10
  case o10=>simp; rfl
  refine zah ?_
  exact ⟨.inr rfl,zam.one (by simp)⟩
 simp at h6
 obtain rfl : n = o.length:=by omega
 rw [List.drop_length] at hp
 have hp2 : b = (decide (i = acc.length) && decide (k = R.length)):=by
  rw [hp]
  simp only [zaV]
  rw [Bool.eq_iff_iff]
  simp [List.isEmpty_iff]
  omega
 refine zan ?_
 refine hit ?_
 refine zab ⟨65,[(4,.B b)],[],1000⟩ rfl ?_ ?_
 ·by_cases hia : i = acc.length
  ·simp [hia]
   exact Le.go [] [] rfl rfl (by simp [hp2,hia] <;> exact wkB (by rw [Bool.eq_iff_iff]; simp; omega)) (by simp)
  ·have hia2 : ¬ (i : Int) = acc.length:=by omega
   have hia3 : ((i : Int) == (acc.length : Int)) = false:=by simpa using hia2
   simp [hia3]
   exact Le.go [] [] rfl rfl (by simp [hp2,hia]) (by simp)
 refine zah ?_
 exact ⟨.inr rfl,zam.one (by simp)⟩
theorem zqY {o : List Int} {x : Int} {a r : List Int} (h : zaV (x :: o) a r = true) (hn : (x :: o).Nodup) (hx : x ∈ a) : a.head? = some x:=by
 simp only [zaV] at h
 split at h
 ·assumption
 ·split at h
  ·exact absurd ((zfK h).1.subset hx) (List.nodup_cons.1 hn).1
  ·cases h
set_option maxRecDepth 100000 in
set_option maxHeartbeats 8000000 in
open Classical in
theorem zfO (g : Gr) (p : Pol) (acc f : List Int) (R : List (Int × List Int)) (hg : GrOk g) (hp : za8 g.size p) (hs : p.seeds.length ≤ 64) (ha : acc.length ≤ 1000) (hR : R.length ≤ 1000) (hf : f.length ≤ 1099511627776) (hsd : ∀ r ∈ R,r.2.length ≤ 9223372036854775807) :
  zai Tryz.prog zbd [eG g,eP p,eAcc acc f R] [] (.I (zhr g p acc f R)) []:=by
 have hsz:=hg.1.1
 have hsz2:=hg.1.2.1
 have hel:=hg.edges_le
 have hgl:=hg.gone_le
 have hchk:=zdg g p (by omega) (by omega) (by omega) (by have:=hp.2.2.2.1; omega)
 rw [if_pos hg,if_pos hp] at hchk
 have hlev:=zdd g p.lv (by omega) (by omega)
 have hord:=zgl (g:=zal g p.lv) (S:=p.seeds) (hg.level p.lv) (by omega)
 have hol:=zmc hg p
 unfold zhr
 obtain ⟨o,ho⟩ : ∃ o,o = ordL (zal g p.lv) p.seeds:=⟨_,rfl⟩
 have hor : ∀ k ∈ o,0 ≤ k ∧ k < g.size:=fun k hk=>by rw [ho] at hk; have h:=zbB hk; exact h
 have hon : o.Nodup:=by rw [ho]; exact zbe _ _
 rw [← ho] at hord hol ⊢
 have hpart:=zg7 o acc f R (by omega) ha hR
 have hj0 : zav [] = []:=rfl
 refine zin.acalls (nbz rfl) (nbz rfl) (Nat.le_refl _) ?_
 show awp _ 0 _ _ ⟨114,[(0,eG g),(1,eP p),(2,eAcc acc f R)],[],16⟩
 refine zab ⟨114,[(3,.pv (gC g)),(4,.pv (pC p)),(5,.pv [ints acc,ints f,.vs 2 false (zaq R)])],[],60⟩ rfl ?_ ?_
 ·simp
  exact LeH [] [16,24,32]
 refine zaa ?_
 refine rx (s:=?s2) [3,4,5,7] [] [] rfl ?o2 ?q2
 case o2=>simp; refine zak hchk (by simp) ?_; simp; rfl
 refine rx (s:=?s3) [3,4,5,22] [] [] rfl ?o3 ?q3
 case o3=>simp; rfl
 refine zac _ rfl (fun h=>by cases h) fun _=>?_
 refine zad ?_
 refine zar ⟨114,[(3,.pv (gC g)),(4,.pv (pC p)),(5,.pv [ints acc,ints f,.vs 2 false (zaq R)]),(8,ints o)],[],300⟩ rfl ?_ ?_
 ·simp
  refine zak hlev (by simp) ?_
  simp
  refine zaU hord (by simp) ?_
  simp
  exact ⟨rfl,Le.go [] [156] rfl rfl (by simp [fcd,zaj]) (by simp)⟩
 refine zaa ?_
 refine zab ⟨114,[(3,.pv (gC g)),(4,.pv (pC p)),(5,.pv [ints acc,ints f,.vs 2 false (zaq R)]),(8,ints o),(34,.B (!zaV o acc (zaM R)))],[],400⟩ rfl ?_ ?_
 ·simp
  refine zak hpart (by simp) ?_
  simp
  exact LeH [] []
 refine zac _ rfl (fun h8=>?_) fun h8=>?_
 ·have h8' : ¬ zaV o acc (zaM R) = true:=by simpa using h8
  rw [if_neg h8']
  refine rx (s:=?s9) [6] [] [] rfl ?o9 ?q9
  case o9=>simp; rfl
  refine zah ?_
  exact ⟨.inr rfl,zam.one (by simp)⟩
 have h8' : zaV o acc (zaM R) = true:=by simpa using h8
 rw [if_pos h8']
 have hsub:=zfK h8'
 have hperm:=(zlc hon h8').nodup_iff.1 hon
 have hkl : (zaM R).length = R.length:=by simp [zaM]
 have hrk : ∀ k ∈ zaM R,0 ≤ k ∧ k < g.size:=fun k hk=>hor k (hsub.2.subset hk)
 have hak : ∀ k ∈ acc,0 ≤ k ∧ k < g.size:=fun k hk=>hor k (hsub.1.subset hk)
 have h64 : ∀ a : List Int,(∀ x ∈ a,0 ≤ x ∧ x < g.size) → ∀ x ∈ a,0 ≤ x ∧ x < 64:=fun a h x hx=>by have:=h x hx; omega
 have han : acc.Nodup:=(List.nodup_append.1 hperm).1
 have hjl:=zf5 han (h64 acc hak)
 have hnet:=zdt g p (zav acc) hg hp (zbO hak) hs (zbh acc)
 rw [← ze8 hg,show za0 g p (zaK g p) (zav acc) = netA g p (zav acc) from rfl] at hnet
 have hnv : ∀ a : List Int,(∀ x ∈ a,0 ≤ x ∧ x < g.size) → zaX ⟨netN g,netA g p (zav a)⟩:=fun a h=>zdC hg hp (zdr (zbO h)) hs (zbh a)
 have hval:=zgo (f:=f) (hnv acc hak) hf
 have hvv:=zkL (f:=f) (hnv acc hak) hf
 obtain ⟨A,hA⟩ : ∃ A,A = netA g p (zav acc):=⟨_,rfl⟩
 rw [← hA] at hnet hval hvv
 rw [← hA]
 refine zad ?_
 refine zab ⟨114,[(3,.pv (gC g)),(4,.pv (pC p)),(5,.pv [ints acc,ints f,.vs 2 false (zaq R)]),(8,ints o),(9,.vs 1 false [])],[],500⟩ rfl ?_ ?_
 ·simp
  exact LeH [] []
 refine zaa ?_
 refine zab ⟨114,[(3,.pv (gC g)),(4,.pv (pC p)),(5,.pv [ints acc,ints f,.vs 2 false (zaq R)]),(8,ints o),(9,.vs 1 false []),(10,.I 0)],[],600⟩ rfl ?_ ?_
 ·simp
  exact LeH [] []
 refine zaf ?_
 refine zap (ι:=Nat) (fun i=>⟨114,[(3,.pv (gC g)),(4,.pv (pC p)),(5,.pv [ints acc,ints f,.vs 2 false (zaq R)]),(8,ints o),(9,ints (zav (acc.take i))),(10,.I i)],[],700⟩) (fun i=>i ≤ acc.length) (fun i=>acc.length - i) 0 (Nat.zero_le _) (Le.go [] [] rfl rfl (by simp [hj0]; exact .refl _) (by simp)) ?_
 intro i hi
 refine zaa ?_
 refine zab ⟨114,[(3,.pv (gC g)),(4,.pv (pC p)),(5,.pv [ints acc,ints f,.vs 2 false (zaq R)]),(8,ints o),(9,ints (zav (acc.take i))),(10,.I i),(39,.B (decide (i < acc.length)))],[],800⟩ rfl ?_ ?_
 ·simp
  exact LeH [] []
 refine zac _ rfl (fun h13=>?_) fun h13=>?_
 ·simp at h13
  have hw1 : IntKind.i64.wrap ((i : Int) + 1) = (i : Int) + 1:=w64 (by omega) (by omega)
  have hxr:=hak _ (List.getElem_mem h13)
  have hput:=zpn (zav (acc.take i)) acc[i] (by have:=zbh (acc.take i); omega)
  rw [zjT hxr.1 (by omega),← List.take_succ_eq_append_getElem h13] at hput
  obtain ⟨J,hJ⟩ : ∃ J,J = zav (acc.take (i + 1)):=⟨_,rfl⟩
  rw [← hJ] at hput
  refine zad ?_
  refine zaa ?_
  refine zaf ?_
  refine zau rfl ?_
  simp [h13]
  refine zaU hput (by simp) ?_
  simp
  refine zau rfl ?_
  simp
  exact ⟨i + 1,by omega,by omega,Le.go [] [848] rfl rfl (by simp [hw1,← hJ,fcd,zaj]) (by simp)⟩
 simp at h13
 obtain rfl : i = acc.length:=by omega
 rw [List.take_length]
 refine zan ?_
 refine hit ?_
 refine zab ⟨114,[(3,.pv (gC g)),(4,.pv (pC p)),(5,.pv [ints acc,ints f,.vs 2 false (zaq R)]),(8,ints o),(9,ints (zav acc)),(11,.pv (nC ⟨netN g,A⟩))],[],1000⟩ rfl ?_ ?_
 ·simp
  refine zak hnet (by simp) ?_
  simp
  exact LeH [] [856]
 refine zaa ?_
 refine zab ⟨114,[(3,.pv (gC g)),(4,.pv (pC p)),(5,.pv [ints acc,ints f,.vs 2 false (zaq R)]),(8,ints o),(69,.B (!decide (zay (netN g) A f ∧ valF A f = acc.length)))],[],1200⟩ rfl ?_ ?_
 ·by_cases hfo : zay (netN g) A f
  ·rw [decide_eq_true hfo] at hval
   rw [if_pos hfo] at hvv
   simp
   refine zak hval (by simp) ?_
   simp
   refine zak hvv (by simp) ?_
   simp
   exact Le.go [] [] rfl rfl (by simp [hfo,hjl] <;> exact wkB (by rw [Bool.eq_iff_iff]; simp)) (by simp)
  ·rw [decide_eq_false hfo] at hval
   simp
   refine zak hval (by simp) ?_
   simp
   exact Le.go [] [] rfl rfl (by simp [hfo]) (by simp)
 refine zac _ rfl (fun h12=>?_) fun h12=>?_
 ·have h12' : ¬ (zay (netN g) A f ∧ valF A f = acc.length):=fun h=>by rw [decide_eq_true h] at h12; cases h12
  rw [if_neg h12']
  refine rx (s:=?s13) [6] [] [] rfl ?o13 ?q13
  case o13=>simp; rfl
  refine zah ?_
  exact ⟨.inr rfl,zam.one (by simp)⟩
 have h12' : zay (netN g) A f ∧ valF A f = acc.length:=by simpa using h12
 rw [if_pos h12']
 refine zad ?_
 refine zab ⟨114,[(3,.pv (gC g)),(4,.pv (pC p)),(5,.pv [ints acc,ints f,.vs 2 false (zaq R)]),(8,ints o),(13,.vs 1 false [])],[],1300⟩ rfl ?_ ?_
 ·simp
  exact LeH [] []
 refine zab ⟨114,[(3,.pv (gC g)),(4,.pv (pC p)),(5,.pv [ints acc,ints f,.vs 2 false (zaq R)]),(8,ints o),(13,.vs 1 false []),(14,.I 0)],[],1400⟩ rfl ?_ ?_
 ·simp
  exact LeH [] []
 refine zaa ?_
 refine zab ⟨114,[(3,.pv (gC g)),(4,.pv (pC p)),(5,.pv [ints acc,ints f,.vs 2 false (zaq R)]),(8,ints o),(13,.vs 1 false []),(14,.I 0),(15,.I 0)],[],1500⟩ rfl ?_ ?_
 ·simp
  exact LeH [] []
 refine zaf ?_
 refine zap (ι:=PnSt) (fun s=>⟨114,[(3,.pv (gC g)),(4,.pv (pC p)),(5,.pv [ints acc,ints f,.vs 2 false (zaq R)]),(8,ints o),(13,ints (zav (acc.take s.i))),(14,.I s.k),(15,.I s.n)],[],1600⟩)
  (fun s=>s.n ≤ o.length ∧ s.i ≤ acc.length ∧ s.k ≤ R.length ∧ zaV (o.drop s.n) (acc.drop s.i) ((zaM R).drop s.k) = true ∧ (zcV g p [] o acc R ↔ zcV g p (acc.take s.i) (o.drop s.n) (acc.drop s.i) (R.drop s.k)) ∧ ∀ x ∈ acc.take s.i,x ∈ o.take s.n)
  (fun s=>o.length - s.n) ⟨0,0,0⟩ ⟨Nat.zero_le _,Nat.zero_le _,Nat.zero_le _,by simpa using h8',by simp,by simp⟩ (Le.go [] [] rfl rfl (by simp [hj0]; exact .refl _) (by simp)) ?_
 rintro ⟨n,i,k⟩ ⟨hn,hi,hk,hpp,hcc,hin⟩
 simp only at hn hi hk hpp hcc hin
 refine zaa ?_
 refine zab ⟨114,[(3,.pv (gC g)),(4,.pv (pC p)),(5,.pv [ints acc,ints f,.vs 2 false (zaq R)]),(8,ints o),(13,ints (zav (acc.take i))),(14,.I k),(15,.I n),(73,.B (decide (n < o.length)))],[],1700⟩ rfl ?_ ?_
 ·simp
  exact LeH [] []
 refine zac _ rfl (fun h22=>?_) fun h22=>?_
 ·simp at h22
  have hw1 : IntKind.i64.wrap ((n : Int) + 1) = (n : Int) + 1:=w64 (by omega) (by omega)
  have hw3 : IntKind.i64.wrap ((k : Int) + 1) = (k : Int) + 1:=w64 (by omega) (by omega)
  obtain ⟨x,hx⟩ : ∃ x,x = o[n]:=⟨_,rfl⟩
  have hxr : 0 ≤ x ∧ x < g.size:=by rw [hx]; exact hor _ (List.getElem_mem h22)
  have hod : o.drop n = x :: o.drop (n + 1):=by rw [List.drop_eq_getElem_cons h22,hx]
  have hdn : (x :: o.drop (n + 1)).Nodup:=by rw [← hod]; exact hon.sublist (List.drop_sublist _ _)
  rw [hod] at hpp hcc
  have hhead : x ∈ acc ↔ (acc.drop i).head? = some x:=by
   constructor
   ·intro hm
    rw [← List.take_append_drop i acc] at hm
    rcases List.mem_append.1 hm with h | h
    ·exfalso
     have h2:=hin x h
     obtain ⟨j,hj,hjx⟩:=List.mem_iff_getElem.1 h2
     rw [List.getElem_take] at hjx
     rw [List.length_take] at hj
     exact (List.pairwise_iff_getElem.1 hon) j n (by omega) h22 (by omega) (hjx.trans hx)
    ·exact zqY hpp hdn h
   ·intro h
    exact List.mem_of_mem_drop (List.mem_of_mem_head? h)
  have hhas:=znW acc x (by omega)
  have hput:=zpn (zav (acc.take i)) x (by have:=zbh (acc.take i); omega)
  rw [zjT hxr.1 (by omega)] at hput
  have htn : o.take (n + 1) = o.take n ++ [x]:=by rw [List.take_succ_eq_append_getElem h22,hx]
  have hcd : (acc.contains x) = decide (x ∈ acc):=by rw [Bool.eq_iff_iff]; simp
  rw [hcd] at hhas
  refine zad ?_
  refine zaI (ι:=PnSt) (fun s=>⟨114,[(3,.pv (gC g)),(4,.pv (pC p)),(5,.pv [ints acc,ints f,.vs 2 false (zaq R)]),(8,ints o),(13,ints (zav (acc.take s.i))),(14,.I s.k),(15,.I n)],[],3000⟩)
   (fun s=>s.i ≤ acc.length ∧ s.k ≤ R.length ∧ zaV (o.drop (n + 1)) (acc.drop s.i) ((zaM R).drop s.k) = true ∧ (zcV g p [] o acc R ↔ zcV g p (acc.take s.i) (o.drop (n + 1)) (acc.drop s.i) (R.drop s.k)) ∧ ∀ x ∈ acc.take s.i,x ∈ o.take (n + 1)) ?_ fun s hs'=>?_
  ·refine zaf ?_
   refine zaa ?_
   refine zar ⟨114,[(3,.pv (gC g)),(4,.pv (pC p)),(5,.pv [ints acc,ints f,.vs 2 false (zaq R)]),(8,ints o),(13,ints (zav (acc.take i))),(14,.I k),(15,.I n),(82,.B (decide (x ∈ acc)))],[],1800⟩ rfl ?_ ?_
   ·simp [h22,← hx]
    refine zak hhas (by simp) ?_
    simp
    exact ⟨rfl,LeH [] []⟩
   refine zac _ rfl (fun h24=>?_) fun h24=>?_
   ·have h24':=hhead.1 (of_decide_eq_true h24)
    simp only [zaV,zcV,if_pos h24',List.tail_drop] at hpp hcc
    have hia : i < acc.length:=Decidable.byContradiction fun h=>by rw [zcg h] at h24'; cases h24'
    have hai : acc[i] = x:=by rw [zew hia] at h24'; exact Option.some.inj h24'
    have hti : acc.take (i + 1) = acc.take i ++ [x]:=by rw [List.take_succ_eq_append_getElem hia,hai]
    rw [← hti] at hput hcc
    obtain ⟨J,hJ⟩ : ∃ J,J = zav (acc.take (i + 1)):=⟨_,rfl⟩
    rw [← hJ] at hput
    refine zab ⟨114,[(3,.pv (gC g)),(4,.pv (pC p)),(5,.pv [ints acc,ints f,.vs 2 false (zaq R)]),(8,ints o),(13,ints J),(14,.I k),(15,.I n)],[],1900⟩ rfl ?_ ?_
    ·simp [h22,← hx]
     refine zaU hput (by simp) ?_
     simp
     exact Le.go [] [1840] rfl rfl (by simp [fcd,zaj]) (by simp)
    refine zan ?_
    refine hit ?_
    refine ⟨⟨n,i + 1,k⟩,⟨hia,hk,hpp,hcc,fun y hy=>?_⟩,Le.go [] [] rfl rfl (by simp [hJ]) (by simp)⟩
    simp only [hti] at hy
    rw [htn]
    rcases List.mem_append.1 hy with h | h
    ·exact List.mem_append_left _ (hin y h)
    ·exact List.mem_append_right _ h
   ·have h24' : ¬ (acc.drop i).head? = some x:=fun h=>(of_decide_eq_false h24) (hhead.2 h)
    simp only [zaV,zcV,if_neg h24',List.tail_drop] at hpp hcc
    have hrh : ((zaM R).drop k).head? = some x:=by
     split at hpp
     ·assumption
     ·cases hpp
    rw [if_pos hrh] at hpp
    have hkR : k < R.length:=Decidable.byContradiction fun h=>by rw [List.head?_drop,List.getElem?_eq_none (by omega)] at hrh; cases hrh
    have hrx : R[k].1 = x:=by
     rw [List.head?_drop,zaM,List.getElem?_map,List.getElem?_eq_getElem hkR] at hrh
     exact Option.some.inj hrh
    rw [List.drop_eq_getElem_cons hkR] at hcc
    simp only at hcc
    have hsdk:=hsd _ (List.getElem_mem hkR)
    obtain ⟨r,hr⟩ : ∃ r,r = R[k]:=⟨_,rfl⟩
    rw [← hr] at hcc hsdk hrx
    have hbr : ∀ y ∈ acc.take i,0 ≤ y ∧ y < g.size:=fun y hy=>hak y (List.mem_of_mem_take hy)
    have hbn : (acc.take i).Nodup:=han.sublist (List.take_sublist _ _)
    have hbl:=zf5 hbn (h64 _ hbr)
    have hks : ∀ y ∈ acc.take i ++ [x],0 ≤ y ∧ y < g.size:=fun y hy=>by
     rcases List.mem_append.1 hy with h | h
     ·exact hbr y h
     ·rw [List.mem_singleton] at h; subst h; exact hxr
    have hnet2:=zdt g p (zav (acc.take i ++ [x])) hg hp (zbO hks) hs (zbh _)
    rw [← ze8 hg,show za0 g p (zaK g p) (zav (acc.take i ++ [x])) = netA g p (zav (acc.take i ++ [x])) from rfl] at hnet2
    have hprv:=ziC ⟨netN g,netA g p (zav (acc.take i ++ [x]))⟩ r.2 (zav (acc.take i)).length (by have:=(hnv _ hks).2.2.1; simp only at this ⊢; omega) hsdk
    have hpd : decide (zcL ⟨netN g,netA g p (zav (acc.take i ++ [x]))⟩ r.2 (zav (acc.take i)).length) = decide (zfM g p (acc.take i) r):=by
     unfold zfM
     rw [hrx,hbl]
    rw [hpd] at hprv
    obtain ⟨W,hW⟩ : ∃ W,W = zav (acc.take i ++ [x]):=⟨_,rfl⟩
    obtain ⟨B,hB⟩ : ∃ B,B = zav (acc.take i):=⟨_,rfl⟩
    rw [← hW] at hput hnet2 hprv
    rw [← hB] at hput hprv
    rw [← hB]
    obtain ⟨A2,hA2⟩ : ∃ A2,A2 = netA g p W:=⟨_,rfl⟩
    rw [← hA2] at hnet2 hprv
    refine zad ?_
    refine zar ⟨114,[(3,.pv (gC g)),(4,.pv (pC p)),(5,.pv [ints acc,ints f,.vs 2 false (zaq R)]),(8,ints o),(13,ints B),(14,.I k),(15,.I n),(16,.pv (nC ⟨netN g,A2⟩))],[],2000⟩ rfl ?_ ?_
    ·simp [h22,← hx]
     refine zaU hput (by simp) ?_
     simp
     refine zrz [1856] (by simp) hnet2 (by simp [fcd,zaj]) ?_
     simp
     exact ⟨rfl,LeH [] [1896]⟩
    refine zaa ?_
    refine zar ⟨114,[(3,.pv (gC g)),(4,.pv (pC p)),(5,.pv [ints acc,ints f,.vs 2 false (zaq R)]),(8,ints o),(13,ints B),(14,.I k),(15,.I n),(111,.B (!decide (zfM g p (acc.take i) r)))],[],2200⟩ rfl ?_ ?_
    ·simp [hkR,← hr]
     refine zak hprv (by simp) ?_
     simp
     exact ⟨rfl,LeH [] []⟩
    refine zac _ rfl (fun h28=>?_) fun h28=>?_
    ·have h28' : ¬ zfM g p (acc.take i) r:=by simpa using h28
     have hno : ¬ zcV g p [] o acc R:=fun h=>h28' (hcc.1 h).1
     rw [if_neg hno]
     refine rx (s:=?s29) [6] [] [] rfl ?o29 ?q29
     case o29=>simp; rfl
     refine zah ?_
     exact ⟨.inr rfl,zam.one (by simp)⟩
    have h28' : zfM g p (acc.take i) r:=by simpa using h28
    refine zad ?_
    refine zau rfl ?_
    simp
    refine ⟨⟨n,i,k + 1⟩,⟨hi,hkR,hpp,?_,fun y hy=>by rw [htn]; exact List.mem_append_left _ (hin y hy)⟩,Le.go [] [] rfl rfl (by simp [hw3,hB]) (by simp)⟩
    rw [hcc]
    exact ⟨fun h=>h.2,fun h=>⟨h28',h⟩⟩
  obtain ⟨c1,c2,c3,c4,c5⟩:=hs'
  refine zau rfl ?_
  simp
  exact ⟨⟨n + 1,s.i,s.k⟩,⟨by simp only; omega,c1,c2,c3,c4,c5⟩,by simp only; omega,Le.go [] [] rfl rfl (by simp [hw1]) (by simp)⟩
 simp at h22
 obtain rfl : n = o.length:=by omega
 rw [List.drop_length] at hcc
 have hyes : zcV g p [] o acc R:=hcc.2 (by simp [zcV])
 rw [if_pos hyes]
 refine zan ?_
 refine hit ?_
 refine rx (s:=?s30) [6] [] [] rfl ?o30 ?q30
 case o30=>simp; rfl
 refine zah ?_
 exact ⟨.inr rfl,zam.one (by simp)⟩
open Classical in
theorem zkY (g : Gr) (p : Pol) (acc f : List Int) (R : List (Int × List Int)) (hg : GrOk g) (hp : za8 g.size p) (hs : p.seeds.length ≤ 64) (ha : acc.length ≤ 1000) (hR : R.length ≤ 1000) (hf : f.length ≤ 1099511627776) (hsd : ∀ r ∈ R,r.2.length ≤ 140737488355328) : zai Tryz.prog zbd [eG g,eP p,eAcc acc f R] [] (.I (zhr g p acc f R)) [] :=
 zfO g p acc f R hg hp hs ha hR hf (fun r hr=>by have:=hsd r hr; omega)
set_option maxRecDepth 100000 in
theorem zj2 (R S : List (Int × List Int)) (hR : R.length ≤ 1000) (hS : S.length ≤ 1000) (hr : ∀ r ∈ R,r.2.length ≤ 140737488355328) : zai Tryz.prog zct [.vs 2 false (zaq R),.vs 2 false (zaq S)] [] (.B (decide (R = S))) []:=by
 refine zgK.acalls (nbz rfl) (nbz rfl) (Nat.le_refl _) ?_
 show awp _ 0 _ _ ⟨42,[(0,.vs 2 false (zaq R)),(1,.vs 2 false (zaq S))],[],16⟩
 refine rx (s:=?s1) [0,1] [] [] rfl ?o1 ?q1
 case o1=>simp; rfl
 refine zaa ?_
 refine zab ⟨42,[(0,.vs 2 false (zaq R)),(1,.vs 2 false (zaq S)),(10,.B (!decide (R.length = S.length)))],[],100⟩ rfl ?_ ?_
 ·simp
  exact Le.go [] [] rfl rfl (by simp <;> exact wkB (by rw [Bool.eq_iff_iff]; simp <;> omega)) (by simp)
 refine zac _ rfl (fun h3=>?_) fun h3=>?_
 ·have h3' : ¬ R.length = S.length:=by simpa using h3
  have hno : ¬ R = S:=fun h=>h3' (by rw [h])
  refine rx (s:=?s4) [4] [] [] rfl ?o4 ?q4
  case o4=>simp; rfl
  refine zah ?_
  exact ⟨.inr rfl,zam.one (by simp [hno])⟩
 have h3' : R.length = S.length:=by simpa using h3
 refine zad ?_
 refine zaa ?_
 refine rx (s:=?s5) [0,1,5] [] [] rfl ?o5 ?q5
 case o5=>simp; rfl
 refine zaf ?_
 refine zap (ι:=Nat) (fun i=>⟨42,[(0,.vs 2 false (zaq R)),(1,.vs 2 false (zaq S)),(5,.I i)],[],200⟩) (fun i=>i ≤ R.length ∧ ∀ k (h : k < R.length) (h' : k < S.length),k < i → R[k] = S[k]) (fun i=>R.length - i) 0 ⟨Nat.zero_le _,fun k _ _ h=>absurd h (Nat.not_lt_zero _)⟩ (LeH [] []) ?_
 rintro i ⟨hi,hp⟩
 refine zaa ?_
 refine rx (s:=?s6) [0,1,5,14] [] [] rfl ?o6 ?q6
 case o6=>simp; rfl
 refine zac _ rfl (fun h7=>?_) fun h7=>?_
 ·simp at h7
  have h7S : i < S.length:=by omega
  have hw1 : IntKind.i64.wrap ((i : Int) + 1) = (i : Int) + 1:=w64 (by omega) (by omega)
  have hrl:=hr _ (List.getElem_mem h7)
  obtain ⟨⟨k1,s1⟩,hr1⟩ : ∃ r,r = R[i]:=⟨_,rfl⟩
  obtain ⟨⟨k2,s2⟩,hr2⟩ : ∃ r,r = S[i]:=⟨_,rfl⟩
  rw [← hr1] at hrl
  have hsame:=zkh s1 s2 hrl
  refine zad ?_
  refine zaa ?_
  refine zaf ?_
  refine zar ⟨42,[(0,.vs 2 false (zaq R)),(1,.vs 2 false (zaq S)),(5,.I i),(41,.B (!decide (k1 = k2 ∧ s1 = s2)))],[],600⟩ rfl ?_ ?_
  ·by_cases hk : k1 = k2
   ·subst hk
    simp [h7,h7S,← hr1,← hr2]
    refine zak hsame (by simp) ?_
    simp
    exact ⟨rfl,LeH [] []⟩
   ·have hk2 : (k1 == k2) = false:=by simpa using hk
    simp [h7,h7S,← hr1,← hr2,hk2,bne]
    exact ⟨rfl,Le.go [] [] rfl rfl (by simp [hk]) (by simp)⟩
  refine zac _ rfl (fun h9=>?_) fun h9=>?_
  ·have h9' : ¬ (k1 = k2 ∧ s1 = s2):=fun h=>by rw [decide_eq_true h] at h9; cases h9
   have hno : ¬ R = S:=fun h=>by
    subst h
    rw [← hr1] at hr2
    exact h9' ⟨(congrArg Prod.fst hr2).symm,(congrArg Prod.snd hr2).symm⟩
   refine rx (s:=?s10) [4] [] [] rfl ?o10 ?q10
   case o10=>simp; rfl
   refine zah ?_
   exact ⟨.inr rfl,zam.one (by simp [hno])⟩
  have h9' : k1 = k2 ∧ s1 = s2:=by simpa using h9
  refine zad ?_
  refine zau rfl ?_
  simp
  refine ⟨i + 1,⟨by omega,fun k h h' hki=>?_⟩,by omega,Le.go [] [] rfl rfl (by simp [hw1]) (by simp)⟩
  rcases Nat.lt_succ_iff_lt_or_eq.1 hki with h2 | h2
  ·exact hp k h h' h2
  ·subst h2
   rw [← hr1,← hr2,h9'.1,h9'.2]
 simp at h7
 have hyes : R = S:=List.ext_getElem h3' fun k h1 h2=>hp k h1 h2 (by omega)
 refine zan ?_
 refine hit ?_
 refine rx (s:=?s11) [4] [] [] rfl ?o11 ?q11
 case o11=>simp; rfl
 refine zah ?_
 exact ⟨.inr rfl,zam.one (by simp [hyes])⟩
theorem zsY (a f b f' : List Int) (R S : List (Int × List Int)) (ha : a.length ≤ 140737488355328) (hR : R.length ≤ 1000) (hS : S.length ≤ 1000) (hr : ∀ r ∈ R,r.2.length ≤ 140737488355328) : zai Tryz.prog zfL [eAcc a f R,eAcc b f' S] [] (.B (decide (a = b ∧ R = S))) []:=by
 refine zmY.acalls (nbz rfl) (nbz rfl) (Nat.le_refl _) ?_
 show awp _ 0 _ _ ⟨17,[(0,eAcc a f R),(1,eAcc b f' S)],[],16⟩
 have h1:=zkh a b ha
 have h2:=zj2 R S hR hS hr
 refine zab ⟨17,[(2,.pv [ints a,ints f,.vs 2 false (zaq R)]),(3,.pv [ints b,ints f',.vs 2 false (zaq S)])],[],60⟩ rfl ?_ ?_
 ·simp
  exact LeH [] [16,24]
 refine zab ⟨17,[(4,.B (decide (a = b ∧ R = S)))],[],300⟩ rfl ?_ ?_
 ·by_cases hab : a = b
  ·rw [decide_eq_true hab] at h1
   simp
   refine zak h1 (by simp) ?_
   simp
   refine zak h2 (by simp) ?_
   simp
   exact Le.go [] [] rfl rfl (by simp [hab]) (by simp)
  ·rw [decide_eq_false hab] at h1
   simp
   refine zak h1 (by simp) ?_
   simp
   exact Le.go [] [] rfl rfl (by simp [hab]) (by simp)
 refine zah ?_
 exact ⟨.inr rfl,zam.one (by simp)⟩
theorem znS (g : Gr) (p : Pol) : ∀ (n : Nat) (o : List Int),o.length = n → ∀ r ∈ refR g p o,r.2.length ≤ netN g
 | 0,o,h,r,hr=>by
   obtain rfl:=List.eq_nil_of_length_eq_zero h
   cases hr
 | n + 1,o,h,r,hr=>by
   have hne : o ≠ []:=fun e=>by rw [e] at h; cases h
   rw [← List.dropLast_concat_getLast hne] at hr
   have ih:=znS g p n o.dropLast (by rw [List.length_dropLast,h]; rfl)
   by_cases hc : zas g p (zav (accR g p o.dropLast ++ [o.getLast hne]))
   ·rw [zfc hc] at hr; exact ih r hr
   ·rw [zh2 hc] at hr
    rcases List.mem_append.1 hr with h2 | h2
    ·exact ih r h2
    ·rw [List.mem_singleton] at h2
     rw [h2]
     exact zob _ _
noncomputable abbrev accG (g : Gr) (p : Pol) : List Int:=accR g p (ordL (zal g p.lv) p.seeds)
noncomputable abbrev refG (g : Gr) (p : Pol) : List (Int × List Int):=refR g p (ordL (zal g p.lv) p.seeds)
theorem zth {g : Gr} (hg : GrOk g) (p : Pol) : (accG g p).length ≤ 64:=Nat.le_trans (zi3 _) (zmc hg p)
theorem zsI {g : Gr} (hg : GrOk g) (p : Pol) : (refG g p).length ≤ 64:=Nat.le_trans (zlI _ _ _ _ rfl) (zmc hg p)
theorem znc {g : Gr} (hg : GrOk g) (p : Pol) : ∀ r ∈ refG g p,r.2.length ≤ 130:=fun r hr=>by
 have h1:=znS g p _ _ rfl r hr
 have h2:=ze8 hg
 have h3:=hg.1.2.1
 omega
theorem zod {g : Gr} {p : Pol} {ks f : List Int} (hg : GrOk g) (hp : za8 g.size p) (hr : ∀ x ∈ ks,0 ≤ x ∧ x < g.size) (hs : p.seeds.length ≤ 64) (hl : ks.length ≤ 64) (hf : zhF g p ks f) : f.length ≤ 1200:=by
 have h1:=zdC hg hp hr hs hl
 have h2:=hf.ok.fit.len
 have h3:=h1.2.2.1
 simp only at h3
 omega
theorem zpW {g : Gr} (p : Pol) : ∀ x ∈ accG g p,0 ≤ x ∧ x < g.size:=fun x hx=>by
 have h:=zbB (zdf hx)
 exact h
set_option maxRecDepth 100000 in
theorem zsL (g : Gr) (p : Pol) (f : List Int) (hg : GrOk g) (hp : za8 g.size p) (hs : p.seeds.length ≤ 64) (hf : zhF g p (zav (accG g p)) f) : zai Tryz.prog zej [eG g,eP p,eAcc (accG g p) f (refG g p)] [] (.B true) []:=by
 obtain ⟨⟨R,f'⟩,⟨hR,hf'⟩,hrun⟩:=ztP g p hg hp hs
 have hR:=hR.eq
 simp only at hR hf' hrun
 subst hR
 have hrun : zai Tryz.prog zb4 [eG g,eP p] [] (.tup [eAcc (accG g p) f' (refG g p),.I 0]) []:=hrun
 have hal:=zth hg p
 have hrl:=zsI hg p
 have hrs:=znc hg p
 have hfl:=zod hg hp (zdr (zbO (zpW p))) hs (zbh _) hf
 have hlike:=zsY (accG g p) f (accG g p) f' (refG g p) (refG g p) (by omega) (by omega) (by omega) (fun r hr=>by have:=hrs r hr; omega)
 rw [decide_eq_true ⟨rfl,rfl⟩] at hlike
 have hchk:=zkY g p (accG g p) f (refG g p) hg hp hs (by omega) (by omega) (by omega) (fun r hr=>by have:=hrs r hr; omega)
 rw [show zhr g p (accG g p) f (refG g p) = 0 from ziq hg hp hs hf] at hchk
 obtain ⟨acc,hacc⟩ : ∃ acc,acc = accG g p:=⟨_,rfl⟩
 obtain ⟨R,hR⟩ : ∃ R,R = refG g p:=⟨_,rfl⟩
 rw [← hacc,← hR] at hlike hchk hrun ⊢
 refine znh.acalls (nbz rfl) (nbz rfl) (Nat.le_refl _) ?_
 show awp _ 0 _ _ ⟨25,[(0,eG g),(1,eP p),(2,eAcc acc f R)],[],16⟩
 refine zab ⟨25,[(3,.pv (gC g)),(4,.pv (pC p)),(5,.pv [ints acc,ints f,.vs 2 false (zaq R)])],[],60⟩ rfl ?_ ?_
 ·simp
  exact LeH [] [16,24,32]
 refine zab ⟨25,[(3,.pv (gC g)),(4,.pv (pC p)),(5,.pv [ints acc,ints f,.vs 2 false (zaq R)]),(7,.pv [ints acc,ints f',.vs 2 false (zaq R)])],[],200⟩ rfl ?_ ?_
 ·simp
  refine zak hrun (by simp) ?_
  simp
  exact LeH [] [108]
 refine zab ⟨25,[(6,.B true)],[],300⟩ rfl ?_ ?_
 ·simp
  refine zak hlike (by simp) ?_
  simp
  refine zak hchk (by simp) ?_
  simp
  exact LeH [] []
 refine zah ?_
 exact ⟨.inr rfl,zam.one (by simp)⟩
section
variable {g : Gr} {p : Pol}
theorem ziI (acc f : List Int) (R : List (Int × List Int)) (he : chkE g p ≠ 0) (hl : g.edges.length ≤ 140737488355328) (hl2 : g.gone.length ≤ 140737488355328) (hs : p.seeds.length ≤ 140737488355328) (ht : p.table.length ≤ 140737488355328) :
  zai Tryz.prog za5 [eG g,eP p,eAcc acc f R] [] (.I (chkE g p)) []:=by
 have hchk:=zir g p hl hl2 hs ht
 obtain ⟨e,hed⟩ : ∃ e,e = chkE g p:=⟨_,rfl⟩
 rw [← hed] at he hchk ⊢
 have he' : (e != 0) = true:=by simp [he]
 refine zg9.acalls (nbz rfl) (nbz rfl) (Nat.le_refl _) ?_
 show awp _ 0 _ _ ⟨80,[(0,eG g),(1,eP p),(2,eAcc acc f R)],[],16⟩
 refine zab ⟨80,[(3,.pv (gC g)),(4,.pv (pC p))],[],60⟩ rfl ?_ ?_
 ·simp
  exact LeH [] [16,24,32]
 refine zaa ?_
 refine rx (s:=?s2) [7] [] [] rfl ?o2 ?q2
 case o2=>simp; refine zak hchk (by simp) ?_; simp; rfl
 refine zab ⟨80,[(7,.I e),(18,.B true)],[],300⟩ rfl ?_ ?_
 ·simp
  exact Le.go [] [] rfl rfl (by simp [he']) (by simp)
 refine zac _ rfl (fun _=>?_) fun h=>by cases h
 refine rx (s:=?s5) [6] [] [] rfl ?o5 ?q5
 case o5=>simp; rfl
 refine zah ?_
 exact ⟨.inr rfl,zam.one (by simp)⟩
theorem zjM (acc f : List Int) (R : List (Int × List Int)) (he : chkE g p ≠ 0) (hl : g.edges.length ≤ 140737488355328) (hl2 : g.gone.length ≤ 140737488355328) (hs : p.seeds.length ≤ 140737488355328) (ht : p.table.length ≤ 140737488355328) :
  zai Tryz.prog zbd [eG g,eP p,eAcc acc f R] [] (.I (chkE g p)) []:=by
 have hchk:=zjK g p hl hl2 hs ht
 obtain ⟨e,hed⟩ : ∃ e,e = chkE g p:=⟨_,rfl⟩
 rw [← hed] at he hchk ⊢
 have he' : (e != 0) = true:=by simp [he]
 refine zin.acalls (nbz rfl) (nbz rfl) (Nat.le_refl _) ?_
 show awp _ 0 _ _ ⟨114,[(0,eG g),(1,eP p),(2,eAcc acc f R)],[],16⟩
 refine zab ⟨114,[(3,.pv (gC g)),(4,.pv (pC p))],[],60⟩ rfl ?_ ?_
 ·simp
  exact LeH [] [16,24,32]
 refine zaa ?_
 refine rx (s:=?s2) [7] [] [] rfl ?o2 ?q2
 case o2=>simp; refine zak hchk (by simp) ?_; simp; rfl
 refine zab ⟨114,[(7,.I e),(22,.B true)],[],300⟩ rfl ?_ ?_
 ·simp
  exact Le.go [] [] rfl rfl (by simp [he']) (by simp)
 refine zac _ rfl (fun _=>?_) fun h=>by cases h
 refine rx (s:=?s5) [6] [] [] rfl ?o5 ?q5
 case o5=>simp; rfl
 refine zah ?_
 exact ⟨.inr rfl,zam.one (by simp)⟩
theorem zpK (hg : GrOk g) (hp : za8 g.size p) : (p.seeds.length : Int) ≤ g.size:=by
 have h:=hp.2.1
 have hsz:=hg.1.1
 rcases Nat.eq_zero_or_pos p.seeds.length with h0 | h0
 ·omega
 have h1:=zmP h (p.seeds.length - 1) (by omega)
 have h2:=zdr h (p.seeds[p.seeds.length - 1]'(by omega)) (List.getElem_mem _)
 omega
theorem zeA (acc f : List Int) (R : List (Int × List Int)) (hN : GrOk g → g.size < 20) (hl : g.edges.length ≤ 1000000) (hl2 : g.gone.length ≤ 1000000) (hs : p.seeds.length ≤ 1000000) (ht : p.table.length ≤ 1000000)
  (ha : acc.length ≤ 1000) (hR : R.length ≤ 1000) (hf : f.length ≤ 1099511627776) (hsd : ∀ r ∈ R,r.2.length ≤ 9223372036854775807) :
  ∃ e : Int,zai Tryz.prog za5 [eG g,eP p,eAcc acc f R] [] (.I e) [] ∧ zai Tryz.prog zbd [eG g,eP p,eAcc acc f R] [] (.I e) []:=by
 by_cases he : chkE g p = 0
 ·obtain ⟨hg,hp⟩:=zjx.1 he
  have h1:=zpK hg hp
  have h2:=hN hg
  exact ⟨_,zfk g p acc f R hg hp (by omega) h2 ha hR hf hsd,zfO g p acc f R hg hp (by omega) ha hR hf hsd⟩
 ·exact ⟨_,ziI acc f R he (by omega) (by omega) (by omega) (by omega),zjM acc f R he (by omega) (by omega) (by omega) (by omega)⟩
theorem zr2 (hN : GrOk g → g.size < 20) (hl : g.edges.length ≤ 1000000) (hl2 : g.gone.length ≤ 1000000) (hs : p.seeds.length ≤ 1000000) (ht : p.table.length ≤ 1000000) :
  ∃ (e : Int) (acc f f' : List Int) (R : List (Int × List Int)),zai Tryz.prog zcr [eG g,eP p] [] (.tup [eAcc acc f R,.I e]) [] ∧ zai Tryz.prog zb4 [eG g,eP p] [] (.tup [eAcc acc f' R,.I e]) [] ∧
    (e = 0 → zai Tryz.prog zej [eG g,eP p,eAcc acc f R] [] (.B true) []):=by
 by_cases he : chkE g p = 0
 ·obtain ⟨hg,hp⟩:=zjx.1 he
  have h1:=zpK hg hp
  have h2:=hN hg
  obtain ⟨f,hf,hrun⟩:=zim g p hg hp (by omega) h2
  obtain ⟨⟨R,f'⟩,⟨hR,_⟩,hrun'⟩:=ztP g p hg hp (by omega)
  have hR:=hR.eq
  simp only at hR hrun'
  rw [hR] at hrun'
  exact ⟨0,accG g p,f,f',refG g p,hrun,hrun',fun _=>zsL g p f hg hp (by omega) hf⟩
 ·exact ⟨chkE g p,[],[],[],[],zkB he (by omega) (by omega) (by omega) (by omega),zmJ he (by omega) (by omega) (by omega) (by omega),fun h=>absurd h he⟩
end
theorem zu0 : zai Tryz.prog zih [] [] (.tup [eG gF,eP pF]) []:=by
 refine zqv.acalls (nbz rfl) (nbz rfl) (Nat.le_refl _) ?_
 show awp _ 0 _ _ ⟨9,[],[],16⟩
 refine rx (s:=?s1) [0,1] [16,24] [] rfl ?o1 ?q1
 case o1=>simp; rfl
 refine zab ⟨9,[(0,.pt 16 0 0),(1,.pt 24 0 0)],[(16,some ⟨3,[[.I 3,eEs [⟨0,1,1⟩,⟨0,2,1⟩],.nilS]],0⟩),(24,some ⟨3,[[ints [0],ints [2,1],.I 1]],0⟩)],300⟩ rfl ?_ ?_
 ·simp
  exact LeH [(16,16),(24,24)] [48,64,72]
 refine zah ?_
 exact ⟨.inr rfl,zam.out [] [16,24] rfl (by simp) (by simp) (wkT2 (wkA3 (.refl _) (.refl _) (.nil _ _)) (wkA3 (.refl _) (.refl _) (.refl _))) (by simp)⟩
set_option maxRecDepth 100000 in
set_option maxHeartbeats 4000000 in
open Classical in
theorem zc3 : zai Tryz.prog zbZ [] [] (.B true) []:=by
 obtain ⟨f,hf,hrun⟩:=zim gF pF zkP zlK (by decide) (by decide)
 have hchk:=ziq zkP zlK (by decide) hf
 have hcheck:=fun (R : List (Int × List Int)) (h1 : R.length ≤ 1000) (h2 : ∀ r ∈ R,r.2.length ≤ 140737488355328)=>zjA gF pF [0,1] f R zkP zlK (by decide) (by decide) (by decide) h1 (by have:=zod zkP zlK (zdr (zbO (zpW pF))) (by decide) (zbh _) hf; omega) h2
 have hrs:=znc zkP pF
 unfold refG at hrs
 rw [zpC,zuN] at hrun hchk hf
 rw [zpC] at hrs
 obtain ⟨side,hside⟩:=zuU
 rw [hside] at hrun hchk hrs
 have hcheck:=hcheck [(2,side)] (by simp) (fun r hr=>by have:=hrs r hr; omega)
 rw [hchk] at hcheck
 have ha1:=zeB [0,1] f [(2,side)] 1 (by decide)
 have ha2:=zeB [0,1] f [(2,side)] 2 (by decide)
 rw [show decide ((1 : Int) ∈ [(0 : Int),1]) = true by decide] at ha1
 rw [show decide ((2 : Int) ∈ [(0 : Int),1]) = false by decide] at ha2
 have hs1:=zfp gF pF [0,2] zkP zlK (by decide) (by decide)
 have hs2:=zfp gF pF [0,1,2] zkP zlK (by decide) (by decide)
 have hy1 : zeR gF pF [0,2]:=⟨zef (by decide) (zrB (by simp)),by decide,zuW⟩
 have hn1 : ¬ zeR gF pF [0,1,2]:=fun h=>zmN h.2.2
 rw [decide_eq_true hy1] at hs1
 rw [decide_eq_false hn1] at hs2
 refine zoe.acalls (nbz rfl) (nbz rfl) (Nat.le_refl _) ?_
 show awp _ 0 _ _ ⟨73,[],[],16⟩
 refine rx (s:=?s1) [] [] [] rfl ?o1 ?q1
 case o1=>simp; rfl
 refine zab ⟨73,[(1,.pv (gC gF)),(2,.pv (pC pF))],[],200⟩ rfl ?_ ?_
 ·simp
  refine zak zu0 (by simp) ?_
  simp
  exact LeH [] [56,64]
 refine zab ⟨73,[(1,.pv (gC gF)),(2,.pv (pC pF)),(3,.pv [ints [0,1],ints f,.vs 2 false (zaq [(2,side)])]),(4,.I 0)],[],400⟩ rfl ?_ ?_
 ·simp
  refine zak hrun (by simp) ?_
  simp
  exact Le.go [] [248] rfl rfl (by simp; exact .refl _) (by simp)
 refine zab ⟨73,[(0,.B true)],[],2000⟩ rfl ?_ ?_
 ·simp
  refine zak hcheck (by simp) ?_
  simp
  refine zak ha1 (by simp) ?_
  simp
  refine zak ha2 (by simp) ?_
  simp
  refine zg8 [784] hs1 (by simp) (.sc _) ?_
  simp
  refine zg8 [832] hs2 (by simp) (.sc _) ?_
  simp
  exact LeH [] []
 refine zah ?_
 exact ⟨.inr rfl,zam.one (by simp)⟩
set_option maxRecDepth 100000 in
set_option maxHeartbeats 8000000 in
theorem zfS (L : List Int) (p : Pol) (acc f : List Int) (R : List (Int × List Int)) (hsd : ∀ r ∈ R,r.2.length ≤ 9223372036854775807) : zai Tryz.prog zd0 [ints L,eP p,eAcc acc f R] [] (.B true) []:=by
 refine zgx.acalls (nbz rfl) (nbz rfl) (Nat.le_refl _) ?_
 show awp _ 0 _ _ ⟨133,[(0,ints L),(1,eP p),(2,eAcc acc f R)],[],16⟩
 have hlight:=zpI L
 refine zab ⟨133,[(0,ints L),(4,.pv (pC p)),(5,.pv [ints acc,ints f,.vs 2 false (zaq R)])],[],60⟩ rfl ?_ ?_
 ·simp
  exact LeH [] [16,24]
 refine zaa ?_
 refine zab ⟨133,[(0,ints L),(4,.pv (pC p)),(5,.pv [ints acc,ints f,.vs 2 false (zaq R)]),(51,.B (!decide (L.length ≤ 400 ∧ p.seeds.length ≤ 70 ∧ p.table.length ≤ 20 ∧ acc.length ≤ 70 ∧ f.length ≤ 300 ∧ R.length ≤ 20)))],[],500⟩ rfl ?_ ?_
 ·by_cases h1 : L.length ≤ 400
  ·rw [decide_eq_true h1] at hlight
   simp
   refine zak hlight (by simp) ?_
   simp
   repeat' first
    | (refine zbU (fun hb=>?_) (fun hb=>?_) <;> (try rw [hb]) <;> (try simp at hb) <;> simp [*])
   all_goals exact Le.go [] [] rfl rfl (by simp [h1] <;> exact wkB (by rw [Bool.eq_iff_iff]; simp <;> omega)) (by simp)
  ·rw [decide_eq_false h1] at hlight
   simp
   refine zak hlight (by simp) ?_
   simp
   exact Le.go [] [] rfl rfl (by simp [h1]) (by simp)
 refine zac _ rfl (fun h3=>?_) fun h3=>?_
 ·refine rx (s:=?s4) [6] [] [] rfl ?o4 ?q4
  case o4=>simp; refine zak zc3 (by simp) ?_; simp; rfl
  refine zah ?_
  exact ⟨.inr rfl,zam.one (by simp)⟩
 have h3' : L.length ≤ 400 ∧ p.seeds.length ≤ 70 ∧ p.table.length ≤ 20 ∧ acc.length ≤ 70 ∧ f.length ≤ 300 ∧ R.length ≤ 20:=by simpa using h3
 clear h3
 obtain ⟨h3,hps,hpt,hac,hff,hRR⟩:=h3'
 obtain ⟨g,b1,⟨hg,hg2,hg9,hb1⟩,hcg⟩:=zto L h3
 obtain ⟨⟨q,b2⟩,⟨hq1,hq2,hq3,hb2⟩,hcq⟩:=zp0 L b1 g h3 hb1 (by omega) (by omega)
 simp only at hq1 hq2 hq3 hb2 hcq
 have hel:=hg.edges_le
 have hgl:=hg.gone_le
 have hqt:=hq1.2.2.2.1
 obtain ⟨sz,b3,⟨hb3,hsz⟩,hco⟩:=Of_a L b2 [1,65,-1] h3 hb2 (by simp) (by simp)
 have hodd : GrOk ⟨sz,g.edges,g.gone⟩ → (⟨sz,g.edges,g.gone⟩ : Gr).size < 20:=fun h=>by
  have h1:=h.1.1
  have h2:=h.1.2.1
  simp only at h1 h2 ⊢
  simp only [List.mem_cons,List.not_mem_nil,or_false] at hsz
  omega
 obtain ⟨e1,a1,f1,f1',R1,hr1,hr1',hright⟩:=zr2 (g:=g) (p:=p) (fun _=>by omega) (by omega) (by omega) (by omega) (by omega)
 obtain ⟨e2,a2,f2,f2',R2,hr2,hr2',_⟩:=zr2 (g:=⟨sz,g.edges,g.gone⟩) (p:=q) hodd (by simp only; omega) (by simp only; omega) (by omega) (by omega)
 obtain ⟨c1,hc1,hc1'⟩:=zeA (g:=g) (p:=p) acc f R (fun _=>by omega) (by omega) (by omega) (by omega) (by omega) (by omega) (by omega) (by omega) hsd
 obtain ⟨c2,hc2,hc2'⟩:=zeA (g:=g) (p:=q) acc f R (fun _=>by omega) (by omega) (by omega) (by omega) (by omega) (by omega) (by omega) (by omega) hsd
 have hcopy:=ze2 g (by omega) (by omega)
 refine zad ?_
 refine zab ⟨133,[(4,.pv (pC p)),(5,.pv [ints acc,ints f,.vs 2 false (zaq R)]),(7,.pt 20 0 0)],[(20,some (dice L 0))],600⟩ rfl ?_ ?_
 ·simp
  refine zaU (zq2 L) (by simp) ?_
  simp
  exact LeH [(508,20)] []
 refine zab ⟨133,[(4,.pv (pC p)),(5,.pv [ints acc,ints f,.vs 2 false (zaq R)]),(7,.pt 20 0 0),(8,.pv (gC g))],[(20,some (dice L b1))],700⟩ rfl ?_ ?_
 ·simp
  refine zbm (i:=20) rfl (e':=dice L 0) (by simp) hcg (by simp) (by simp) ?_
  simp
  exact LeH [(20,20)] [616]
 refine zab ⟨133,[(4,.pv (pC p)),(5,.pv [ints acc,ints f,.vs 2 false (zaq R)]),(7,.pt 20 0 0),(8,.pv (gC g)),(9,.pv (pC q))],[(20,some (dice L b2))],800⟩ rfl ?_ ?_
 ·simp
  refine zbm (i:=20) rfl (e':=dice L b1) (by simp) hcq (by simp) (by simp) ?_
  simp
  exact LeH [(20,20)] [724]
 refine zab ⟨133,[(4,.pv (pC p)),(5,.pv [ints acc,ints f,.vs 2 false (zaq R)]),(7,.pt 20 0 0),(8,.pv (gC g)),(9,.pv (pC q)),(10,.pv [ints a1,ints f1,.vs 2 false (zaq R1)]),(11,.I e1)],[(20,some (dice L b2))],900⟩ rfl ?_ ?_
 ·simp
  refine zak hr1 (by simp) ?_
  simp
  exact LeH [(20,20)] [848]
 refine zab ⟨133,[(4,.pv (pC p)),(5,.pv [ints acc,ints f,.vs 2 false (zaq R)]),(7,.pt 20 0 0),(8,.pv (gC g)),(9,.pv (pC q)),(10,.pv [ints a1,ints f1,.vs 2 false (zaq R1)]),(11,.I e1),(13,.I e1)],[(20,some (dice L b2))],1000⟩ rfl ?_ ?_
 ·simp
  refine zak hr1' (by simp) ?_
  simp
  exact LeH [(20,20)] []
 refine zab ⟨133,[(4,.pv (pC p)),(5,.pv [ints acc,ints f,.vs 2 false (zaq R)]),(7,.pt 20 0 0),(8,.pv (gC g)),(9,.pv (pC q)),(10,.pv [ints a1,ints f1,.vs 2 false (zaq R1)]),(11,.I e1),(13,.I e1),(14,.pt 40 0 0)],[(20,some (dice L b2)),(40,some ⟨3,[gC g],0⟩)],1100⟩ rfl ?_ ?_
 ·simp
  refine zpT hcopy (by simp) ?_
  simp [zaE]
  exact Le.go [(20,20),(1016,40)] [1008,1009] rfl rfl (by simp) (by simp [fcd,zaj])
 refine zab ⟨133,[(4,.pv (pC p)),(5,.pv [ints acc,ints f,.vs 2 false (zaq R)]),(8,.pv (gC g)),(9,.pv (pC q)),(10,.pv [ints a1,ints f1,.vs 2 false (zaq R1)]),(11,.I e1),(13,.I e1),(14,.pv (gC ⟨sz,g.edges,g.gone⟩))],[],1200⟩ rfl ?_ ?_
 ·simp
  refine zmd (i:=20) (j:=1108) (by decide) (by decide) rfl rfl (e':=dice L b2) (by simp) hco (by simp) (by simp) ?_
  simp [zaE]
  exact LeH [] [40]
 refine zab ⟨133,[(4,.pv (pC p)),(5,.pv [ints acc,ints f,.vs 2 false (zaq R)]),(8,.pv (gC g)),(9,.pv (pC q)),(10,.pv [ints a1,ints f1,.vs 2 false (zaq R1)]),(11,.I e1),(13,.I e1),(14,.pv (gC ⟨sz,g.edges,g.gone⟩)),(16,.I e2)],[],1300⟩ rfl ?_ ?_
 ·simp
  refine zak hr2 (by simp) ?_
  simp
  exact LeH [] []
 refine zab ⟨133,[(4,.pv (pC p)),(5,.pv [ints acc,ints f,.vs 2 false (zaq R)]),(8,.pv (gC g)),(9,.pv (pC q)),(10,.pv [ints a1,ints f1,.vs 2 false (zaq R1)]),(11,.I e1),(13,.I e1),(16,.I e2),(18,.I e2)],[],1400⟩ rfl ?_ ?_
 ·simp
  refine zak hr2' (by simp) ?_
  simp
  exact LeH [] []
 refine zar ⟨133,[(6,.B true)],[],2000⟩ rfl ?_ ?_
 ·by_cases h0 : e1 = 0
  ·subst h0
   have hright:=hright rfl
   simp
   refine zak zc3 (by simp) ?_
   simp
   refine zak hright (by simp) ?_
   simp
   refine zak hc1 (by simp) ?_
   simp
   refine zak hc1' (by simp) ?_
   simp
   refine zak hc2 (by simp) ?_
   simp
   refine zak hc2' (by simp) ?_
   simp
   exact ⟨rfl,LeH [] []⟩
  ·have h0' : (e1 != 0) = true:=by simp [h0]
   simp
   refine zak zc3 (by simp) ?_
   simp [h0']
   refine zak hc1 (by simp) ?_
   simp
   refine zak hc1' (by simp) ?_
   simp
   refine zak hc2 (by simp) ?_
   simp
   refine zak hc2' (by simp) ?_
   simp
   exact ⟨rfl,LeH [] []⟩
 refine zah ?_
 exact ⟨.inr rfl,zam.one (by simp)⟩
set_option maxRecDepth 100000 in
set_option maxHeartbeats 4000000 in
theorem zkb (acc fl : List Int) (R : List (Int × List Int)) (ha : acc.length ≤ 1000) (hf : fl.length ≤ 2000) (hR : R.length ≤ 1000) (hs : ∀ r ∈ R,r.2.length ≤ 1000) :
  zai Tryz.prog ze1 [eAcc acc fl R] [] (.agg [.rs 0 0 acc.length,.rs 1 0 fl.length,.rs 2 0 R.length]) [some ⟨1,zag acc,0⟩,some ⟨1,zag fl,0⟩,some ⟨2,zaq R,0⟩]:=by
 refine zi5.acalls (nbz rfl) (nbz rfl) (Nat.zero_le _) ?_
 show awp _ 0 _ _ ⟨39,[(0,eAcc acc fl R)],[],16⟩
 refine zab ⟨39,[(1,.pv [ints acc,ints fl,.vs 2 false (zaq R)]),(2,.pt 24 0 0)],[(24,some ⟨3,[[.nilS,.nilS,.nilS]],0⟩)],100⟩ rfl ?_ ?_
 ·simp
  exact LeH [(24,24)] [16]
 refine zar ⟨39,[(1,.pv [ints acc,ints fl,.vs 2 false (zaq R)]),(2,.pt 24 0 0),(3,.pt 40 0 0)],[(24,some ⟨3,[[.nilS,.nilS,.nilS]],0⟩),(40,some ⟨3,[[.rs 41 0 acc.length,.rs 42 0 fl.length,.nilS]],0⟩),(41,some ⟨1,zag acc,0⟩),(42,some ⟨1,zag fl,0⟩)],200⟩ rfl ?_ ?_
 ·simp [zaE]
  exact ⟨by omega,by omega,by omega,by omega,rfl,LeI [(24,24),(156,40),(116,41),(140,42)] []⟩
 refine zaa ?_
 refine zab ⟨39,[(1,.pv [ints acc,ints fl,.vs 2 false (zaq R)]),(2,.pt 24 0 0),(3,.pt 40 0 0),(4,.I 0)],[(24,some ⟨3,[[.nilS,.nilS,.nilS]],0⟩),(40,some ⟨3,[[.rs 41 0 acc.length,.rs 42 0 fl.length,.nilS]],0⟩),(41,some ⟨1,zag acc,0⟩),(42,some ⟨1,zag fl,0⟩)],300⟩ rfl ?_ ?_
 ·simp
  exact LeI [(24,24),(40,40),(41,41),(42,42)] []
 refine zaf ?_
 refine zap (ι:=Nat) (fun i=>⟨39,[(1,.pv [ints acc,ints fl,.vs 2 false (zaq R)]),(2,.pt 24 0 0),(3,.pt 40 0 0),(4,.I i)],[(24,some ⟨3,[[.nilS,.nilS,.nilS]],0⟩),(40,some ⟨3,[[.rs 41 0 acc.length,.rs 42 0 fl.length,.rs 43 0 i]],0⟩),(41,some ⟨1,zag acc,0⟩),(42,some ⟨1,zag fl,0⟩),(43,some ⟨2,zaq (tkL R i),0⟩)],300⟩) (fun i=>i ≤ R.length) (fun i=>R.length - i) 0 (Nat.zero_le _) (Le.lst [(24,24),(40,40),(41,41),(42,42)] [] [(43,2)] rfl (by simp) (by simp) (by simp) (by simp) (by simp) (by simp) (by simp) (by simp [Up]) (by simp [fcd,zpM]; exact ⟨zaF.rfl' (by simp),zaF.row rfl (by omega) (by simp [UpL,Up,Wk.refl]),zaF.rfl' (by simp),zaF.rfl' (by simp)⟩)) ?_
 intro i hi
 have hTl : (tkL R i).length = i:=zh8 hi
 refine zaa ?_
 refine zab ⟨39,[(1,.pv [ints acc,ints fl,.vs 2 false (zaq R)]),(2,.pt 24 0 0),(3,.pt 40 0 0),(4,.I i),(16,.B (decide (i < R.length)))],[(24,some ⟨3,[[.nilS,.nilS,.nilS]],0⟩),(40,some ⟨3,[[.rs 41 0 acc.length,.rs 42 0 fl.length,.rs 43 0 i]],0⟩),(41,some ⟨1,zag acc,0⟩),(42,some ⟨1,zag fl,0⟩),(43,some ⟨2,zaq (tkL R i),0⟩)],400⟩ rfl ?_ ?_
 ·simp
  exact LeI [(24,24),(40,40),(41,41),(42,42),(43,43)] []
 refine zac _ rfl (fun h5=>?_) fun h5=>?_
 ·rw [decide_eq_true_eq] at h5
  have hwi : IntKind.i64.wrap ((i : Int) + 1) = ((i + 1 : Nat) : Int):=by rw [w64 (by omega) (by omega)]; omega
  obtain ⟨r,hr⟩ : ∃ r,r = R[i]:=⟨_,rfl⟩
  have hrl:=hs _ (List.getElem_mem h5)
  have htk:=zl1 h5
  rw [← hr] at hrl htk
  obtain ⟨k,sd⟩:=r
  simp only at hrl
  obtain ⟨T,hT⟩ : ∃ T,T = tkL R i:=⟨_,rfl⟩
  rw [← hT] at hTl htk ⊢
  have htT : ∀ h : Int × List Int → List AV,List.take i (List.map h T) = List.map h T:=fun h=>List.take_of_length_le (by simp; omega)
  refine zad ?_
  refine zaa ?_
  refine zaf ?_
  refine za4 rfl ?_
  simp [h5,← hr,htT,hTl,zaE]
  refine ⟨by omega,by omega,by omega,by omega,rfl,?_⟩
  refine zau rfl ?_
  simp
  exact ⟨i + 1,h5,by omega,Le.go [(24,24),(40,40),(41,41),(42,42),(536,43)] [512] rfl rfl (by simp [hwi]) (by simp [htk,fcd,zaj])⟩
 rw [decide_eq_false_iff_not] at h5
 obtain rfl : i = R.length:=by omega
 rw [zsf]
 refine zan ?_
 refine hit ?_
 refine zab ⟨39,[(2,.pt 24 0 0)],[(24,some ⟨3,[[.rs 41 0 acc.length,.rs 42 0 fl.length,.rs 43 0 R.length]],0⟩),(41,some ⟨1,zag acc,0⟩),(42,some ⟨1,zag fl,0⟩),(43,some ⟨2,zaq R,0⟩)],400⟩ rfl ?_ ?_
 ·simp [zaE]
  exact LeI [(24,24),(41,41),(42,42),(43,43)] []
 refine zah ?_
 exact ⟨.inr rfl,zam.out [41,42,43] [] rfl (by simp) (by simp) (by simp) (by simp [fcd])⟩
structure CpSt where
 i : Nat
 own : Bool
def cpyS (acc fl : List Int) (R : List (Int × List Int)) (i0 : Nat) (k0 : Int) (s0 : List Int) (s : CpSt) : St :=
 if s.own = true then ⟨39,[(1,.pv [ints acc,ints fl,.vs 2 false (zaq R)]),(2,.pt 24 0 0),(3,.pt 40 0 0),(4,.I s.i)],[(24,some ⟨3,[[.nilS,.nilS,.nilS]],0⟩),(40,some ⟨3,[[.rs 41 0 acc.length,.rs 42 0 fl.length,.rs 43 0 s.i]],0⟩),(41,some ⟨1,zag acc,0⟩),(42,some ⟨1,zag fl,0⟩),(43,some ⟨2,zaq (tkL R i0) ++ [AV.I k0,.rs 33 0 s0.length] :: zaq ((tkL R s.i).drop (i0 + 1)),0⟩),(33,some ⟨1,zag s0,0⟩)],300⟩ else ⟨39,[(1,.pv [ints acc,ints fl,.vs 2 false (zaq R)]),(2,.pt 24 0 0),(3,.pt 40 0 0),(4,.I s.i)],[(24,some ⟨3,[[.nilS,.nilS,.nilS]],0⟩),(40,some ⟨3,[[.rs 41 0 acc.length,.rs 42 0 fl.length,.rs 43 0 s.i]],0⟩),(41,some ⟨1,zag acc,0⟩),(42,some ⟨1,zag fl,0⟩),(43,some ⟨2,zaq (tkL R s.i),0⟩)],300⟩
set_option maxRecDepth 100000 in
set_option maxHeartbeats 4000000 in
theorem zlD (acc fl : List Int) (R : List (Int × List Int)) (ha : acc.length ≤ 1000) (hf : fl.length ≤ 2000) (hR : R.length ≤ 1000) (hs : ∀ r ∈ R,r.2.length ≤ 1000) (i0 : Nat) (k0 : Int) (s0 : List Int) (h0 : R[i0]? = some (k0,s0)) :
  zai Tryz.prog ze1 [eAcc acc fl R] [] (.agg [.rs 0 0 acc.length,.rs 1 0 fl.length,.rs 2 0 R.length]) [some ⟨1,zag acc,0⟩,some ⟨1,zag fl,0⟩,some ⟨2,zaq (tkL R i0) ++ [AV.I k0,.rs 3 0 s0.length] :: zaq (R.drop (i0 + 1)),0⟩,some ⟨1,zag s0,0⟩]:=by
 refine zi5.acalls (nbz rfl) (nbz rfl) (Nat.zero_le _) ?_
 show awp _ 0 _ _ ⟨39,[(0,eAcc acc fl R)],[],16⟩
 refine zab ⟨39,[(1,.pv [ints acc,ints fl,.vs 2 false (zaq R)]),(2,.pt 24 0 0)],[(24,some ⟨3,[[.nilS,.nilS,.nilS]],0⟩)],100⟩ rfl ?_ ?_
 ·simp
  exact LeH [(24,24)] [16]
 refine zar ⟨39,[(1,.pv [ints acc,ints fl,.vs 2 false (zaq R)]),(2,.pt 24 0 0),(3,.pt 40 0 0)],[(24,some ⟨3,[[.nilS,.nilS,.nilS]],0⟩),(40,some ⟨3,[[.rs 41 0 acc.length,.rs 42 0 fl.length,.nilS]],0⟩),(41,some ⟨1,zag acc,0⟩),(42,some ⟨1,zag fl,0⟩)],200⟩ rfl ?_ ?_
 ·simp [zaE]
  exact ⟨by omega,by omega,by omega,by omega,rfl,LeI [(24,24),(156,40),(116,41),(140,42)] []⟩
 refine zaa ?_
 refine zab ⟨39,[(1,.pv [ints acc,ints fl,.vs 2 false (zaq R)]),(2,.pt 24 0 0),(3,.pt 40 0 0),(4,.I 0)],[(24,some ⟨3,[[.nilS,.nilS,.nilS]],0⟩),(40,some ⟨3,[[.rs 41 0 acc.length,.rs 42 0 fl.length,.nilS]],0⟩),(41,some ⟨1,zag acc,0⟩),(42,some ⟨1,zag fl,0⟩)],300⟩ rfl ?_ ?_
 ·simp
  exact LeI [(24,24),(40,40),(41,41),(42,42)] []
 refine zaf ?_
 have hi0 : i0 < R.length:=(List.getElem?_eq_some_iff.1 h0).1
 refine zap (ι:=CpSt) (cpyS acc fl R i0 k0 s0) (fun s=>s.i ≤ R.length ∧ (s.own = false → s.i ≤ i0) ∧ (s.own = true → i0 < s.i)) (fun s=>R.length - s.i) ⟨0,false⟩ ⟨Nat.zero_le _,fun _=>Nat.zero_le _,fun h=>(by cases h)⟩ (Le.lst [(24,24),(40,40),(41,41),(42,42)] [] [(43,2)] rfl (by simp) (by simp) (by simp [cpyS]) (by simp [cpyS]) (by simp) (by simp [cpyS]) (by simp) (by simp [cpyS,Up]) (by simp [cpyS,fcd,zpM]; exact ⟨zaF.rfl' (by simp),zaF.row rfl (by omega) (by simp [UpL,Up,Wk.refl]),zaF.rfl' (by simp),zaF.rfl' (by simp)⟩)) ?_
 rintro ⟨i,own⟩ ⟨hi,hnown,hown⟩
 simp only at hi hnown hown
 cases own with
 | false =>
   have hnown:=hnown rfl
   show awp _ 0 _ _ ⟨39,[(1,.pv [ints acc,ints fl,.vs 2 false (zaq R)]),(2,.pt 24 0 0),(3,.pt 40 0 0),(4,.I i)],[(24,some ⟨3,[[.nilS,.nilS,.nilS]],0⟩),(40,some ⟨3,[[.rs 41 0 acc.length,.rs 42 0 fl.length,.rs 43 0 i]],0⟩),(41,some ⟨1,zag acc,0⟩),(42,some ⟨1,zag fl,0⟩),(43,some ⟨2,zaq (tkL R i),0⟩)],300⟩
   have hTl : (tkL R i).length = i:=zh8 hi
   refine zaa ?_
   refine zab ⟨39,[(1,.pv [ints acc,ints fl,.vs 2 false (zaq R)]),(2,.pt 24 0 0),(3,.pt 40 0 0),(4,.I i),(16,.B (decide (i < R.length)))],[(24,some ⟨3,[[.nilS,.nilS,.nilS]],0⟩),(40,some ⟨3,[[.rs 41 0 acc.length,.rs 42 0 fl.length,.rs 43 0 i]],0⟩),(41,some ⟨1,zag acc,0⟩),(42,some ⟨1,zag fl,0⟩),(43,some ⟨2,zaq (tkL R i),0⟩)],400⟩ rfl ?_ ?_
   ·simp
    exact LeI [(24,24),(40,40),(41,41),(42,42),(43,43)] []
   refine zac _ rfl (fun h5=>?_) fun h5=>?_
   ·rw [decide_eq_true_eq] at h5
    have hwi : IntKind.i64.wrap ((i : Int) + 1) = ((i + 1 : Nat) : Int):=by rw [w64 (by omega) (by omega)]; omega
    obtain ⟨r,hr⟩ : ∃ r,r = R[i]:=⟨_,rfl⟩
    have hrl:=hs _ (List.getElem_mem h5)
    have htk:=zl1 h5
    rw [← hr] at hrl htk
    obtain ⟨k,sd⟩:=r
    simp only at hrl
    obtain ⟨T,hT⟩ : ∃ T,T = tkL R i:=⟨_,rfl⟩
    rw [← hT] at hTl htk ⊢
    have htT : ∀ h : Int × List Int → List AV,List.take i (List.map h T) = List.map h T:=fun h=>List.take_of_length_le (by simp; omega)
    refine zad ?_
    refine zaa ?_
    refine zaf ?_
    refine za4 rfl ?_
    simp [h5,← hr,htT,hTl,zaE]
    refine ⟨by omega,by omega,by omega,by omega,rfl,?_⟩
    refine zau rfl ?_
    simp
    by_cases hii : i = i0
    ·subst hii
     have hrr : (k,sd) = (k0,s0):=by rw [List.getElem?_eq_getElem h5,← hr] at h0; exact Option.some.inj h0
     cases hrr
     have hdr : (tkL R (i + 1)).drop (i + 1) = []:=List.drop_eq_nil_of_le (by rw [zh8 h5]; exact Nat.le_refl _)
     refine ⟨⟨i + 1,true⟩,⟨h5,fun h=>(by cases h),fun _=>Nat.lt_succ_self _⟩,by simp only; omega,Le.go [(24,24),(40,40),(41,41),(42,42),(536,43),(512,33)] [] rfl rfl (by simp [cpyS,hwi]) (by simp [cpyS,hdr,← hT,fcd])⟩
    ·exact ⟨⟨i + 1,false⟩,⟨h5,fun _=>by simp only; omega,fun h=>(by cases h)⟩,by simp only; omega,Le.go [(24,24),(40,40),(41,41),(42,42),(536,43)] [512] rfl rfl (by simp [cpyS,hwi]) (by simp [cpyS,htk,fcd,zaj])⟩
   rw [decide_eq_false_iff_not] at h5
   omega
 | true =>
   have hTl : (tkL R i).length = i:=zh8 hi
   have hown:=hown rfl
   show awp _ 0 _ _ ⟨39,[(1,.pv [ints acc,ints fl,.vs 2 false (zaq R)]),(2,.pt 24 0 0),(3,.pt 40 0 0),(4,.I i)],[(24,some ⟨3,[[.nilS,.nilS,.nilS]],0⟩),(40,some ⟨3,[[.rs 41 0 acc.length,.rs 42 0 fl.length,.rs 43 0 i]],0⟩),(41,some ⟨1,zag acc,0⟩),(42,some ⟨1,zag fl,0⟩),(43,some ⟨2,zaq (tkL R i0) ++ [AV.I k0,.rs 33 0 s0.length] :: zaq ((tkL R i).drop (i0 + 1)),0⟩),(33,some ⟨1,zag s0,0⟩)],300⟩
   obtain ⟨B,hB⟩ : ∃ B : List (List AV),B = zaq (tkL R i0) ++ [AV.I k0,.rs 33 0 s0.length] :: zaq ((tkL R i).drop (i0 + 1)):=⟨_,rfl⟩
   have hBl : B.length = i:=by
    rw [hB]
    simp [zh8 (l:=R) (i:=i0) (by omega),hTl]
    omega
   have hBc : ∀ (h : Nat → Option Ent),B.map (List.map (conv [(24,24),(40,40),(41,41),(42,42),(43,43),(33,33)] [] h 4)) = B:=fun h=>by rw [hB]; simp [fcd]
   have hBc2 : ∀ (h : Nat → Option Ent),B.map (List.map (conv [(24,24),(40,40),(41,41),(42,42),(536,43),(33,33)] [512] h 4)) = B:=fun h=>by rw [hB]; simp [fcd]
   rw [← hB]
   refine zaa ?_
   refine zab ⟨39,[(1,.pv [ints acc,ints fl,.vs 2 false (zaq R)]),(2,.pt 24 0 0),(3,.pt 40 0 0),(4,.I i),(16,.B (decide (i < R.length)))],[(24,some ⟨3,[[.nilS,.nilS,.nilS]],0⟩),(40,some ⟨3,[[.rs 41 0 acc.length,.rs 42 0 fl.length,.rs 43 0 i]],0⟩),(41,some ⟨1,zag acc,0⟩),(42,some ⟨1,zag fl,0⟩),(43,some ⟨2,B,0⟩),(33,some ⟨1,zag s0,0⟩)],400⟩ rfl ?_ ?_
   ·simp
    exact Le.go [(24,24),(40,40),(41,41),(42,42),(43,43),(33,33)] [] rfl rfl (by simp) (by simp [hBc,fcd])
   refine zac _ rfl (fun h5=>?_) fun h5=>?_
   ·rw [decide_eq_true_eq] at h5
    have hwi : IntKind.i64.wrap ((i : Int) + 1) = ((i + 1 : Nat) : Int):=by rw [w64 (by omega) (by omega)]; omega
    obtain ⟨r,hr⟩ : ∃ r,r = R[i]:=⟨_,rfl⟩
    have hrl:=hs _ (List.getElem_mem h5)
    have htk:=zl1 h5
    rw [← hr] at hrl htk
    obtain ⟨k,sd⟩:=r
    simp only at hrl
    have hnx : zaq (tkL R i0) ++ [AV.I k0,.rs 33 0 s0.length] :: zaq ((tkL R (i + 1)).drop (i0 + 1)) = B ++ [[AV.I k,ints sd]]:=by
     rw [hB,htk,List.drop_append_of_le_length (by omega)]
     simp
    have htB : List.take i B = B:=List.take_of_length_le (by omega)
    refine zad ?_
    refine zaa ?_
    refine zaf ?_
    refine za4 rfl ?_
    simp [h5,← hr,htB,hBl,zaE]
    refine ⟨by omega,by omega,by omega,by omega,rfl,?_⟩
    refine zau rfl ?_
    simp
    exact ⟨⟨i + 1,true⟩,⟨h5,fun h=>(by cases h),fun _=>by simp only; omega⟩,by simp only; omega,Le.go [(24,24),(40,40),(41,41),(42,42),(536,43),(33,33)] [512] rfl rfl (by simp [cpyS,hwi]) (by simp [cpyS,hBc2,fcd,zaj]; rw [← List.map_drop]; exact hnx.symm)⟩
   rw [decide_eq_false_iff_not] at h5
   obtain rfl : i = R.length:=by omega
   rw [zsf] at hB
   have hBd : ∀ (h : Nat → Option Ent),B.map (List.map (conv [(24,24),(41,41),(42,42),(43,43),(33,33)] [] h 4)) = B:=fun h=>by rw [hB]; simp [fcd]
   refine zan ?_
   refine hit ?_
   refine zab ⟨39,[(2,.pt 24 0 0)],[(24,some ⟨3,[[.rs 41 0 acc.length,.rs 42 0 fl.length,.rs 43 0 R.length]],0⟩),(41,some ⟨1,zag acc,0⟩),(42,some ⟨1,zag fl,0⟩),(43,some ⟨2,B,0⟩),(33,some ⟨1,zag s0,0⟩)],400⟩ rfl ?_ ?_
   ·simp [zaE]
    exact Le.go [(24,24),(41,41),(42,42),(43,43),(33,33)] [] rfl rfl (by simp) (by simp [hBd,fcd])
   refine zah ?_
   exact ⟨.inr rfl,zam.out [41,42,43,33] [] rfl (by simp) (by simp) (by simp) (by simp [hB,fcd])⟩
theorem zqA {a b c a' b' c' : AV} (h1 : Wk a a') (h2 : Wk b b') (h3 : Wk c c') : Wk (.pv [a,b,c]) (.pv [a',b',c']) :=
 .pv _ _ rfl fun i=>match i with | 0=>h1 | 1=>h2 | 2=>h3 | _ + 3=>.refl _
end Go.Proofs.YteiabadhhhckfaaGreat
