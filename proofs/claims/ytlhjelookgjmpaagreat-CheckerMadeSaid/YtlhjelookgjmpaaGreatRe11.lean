/- Texts of this claim,merged. -/
import Derived.Test.YtlhjelookgjmpaaGreatRe10
import Derived.Test.YtlhjelookgjmpaaGreatRe9
import Derived.Test.YtlhjelookgjmpaaGreatRe7
set_option linter.unusedSimpArgs false
set_option linter.unusedVariables false
set_option linter.unusedSectionVars false
namespace Go.Proofs.YtlhjelookgjmpaaGreat
open Go
def dP (g : Gr) (S : List Int) (n i : Nat) (k : Int) : Int:=if 0 ≤ dl g S n k then dl g S n k else if (g.edges.take i).any (fun e=>decide (e.t = k) && decide (dl g S n e.f = n)) = true then (n : Int) + 1 else -1
variable {g : Gr} {S : List Int}
theorem dP_zero (n : Nat) (k : Int) : dP g S n 0 k = dl g S n k:=by
 unfold dP
 have:=dl_range (g:=g) (S:=S) n k
 split
 ·rfl
 ·simp; omega
theorem dP_all (n : Nat) (k : Int) : dP g S n g.edges.length k = dl g S (n + 1) k:=by
 unfold dP
 rw [List.take_of_length_le (Nat.le_refl _),dl]
theorem dP_at (n i : Nat) (k : Int) : dP g S n i k = n ↔ dl g S n k = n:=by
 unfold dP
 have:=dl_range (g:=g) (S:=S) n k
 split
 ·exact Iff.rfl
 ·split <;> omega
theorem dP_succ (n i : Nat) (hi : i < g.edges.length) (k : Int) : dP g S n (i + 1) k = if dl g S n g.edges[i].f = n ∧ dP g S n i g.edges[i].t = -1 ∧ k = g.edges[i].t then (n : Int) + 1 else dP g S n i k:=by
 have hany : ∀ k,(g.edges.take (i + 1)).any (fun e=>decide (e.t = k) && decide (dl g S n e.f = n)) = ((g.edges.take i).any (fun e=>decide (e.t = k) && decide (dl g S n e.f = n)) || (decide (g.edges[i].t = k) && decide (dl g S n g.edges[i].f = n))):=by
  intro k
  rw [← List.take_concat_get hi,List.concat_eq_append,List.any_append]
  simp
 unfold dP
 rw [hany]
 by_cases h1 : dl g S n g.edges[i].f = n
 ·by_cases h2 : k = g.edges[i].t
  ·subst h2
   simp only [h1,decide_true,Bool.and_self,Bool.or_true,if_true,and_true,true_and]
   have:=dl_range (g:=g) (S:=S) n g.edges[i].t
   by_cases h3 : 0 ≤ dl g S n g.edges[i].t
   ·simp only [h3,if_true]
    rw [if_neg (by omega)]
   ·simp only [h3,if_false]
    split <;> simp
  ·have h3 : decide (g.edges[i].t = k) = false:=by simpa using fun h=>h2 h.symm
   simp only [h3,h2,Bool.false_and,Bool.or_false,and_false,if_false]
 ·simp only [h1,decide_false,Bool.and_false,Bool.or_false,false_and,if_false]
def firstL (g : Gr) (S : List Int) (k : Nat) : List Int:=(List.range k).map fun (i : Nat)=>dl g S 0 (i : Int)
def midL (g : Gr) (S : List Int) (n i : Nat) : List Int:=(List.range g.size.toNat).map fun (k : Nat)=>dP g S n i (k : Int)
theorem midL_len (n i : Nat) : (midL g S n i).length = g.size.toNat:=by simp [midL]
theorem midL_first : midL g S 0 0 = firstL g S g.size.toNat:=by unfold midL firstL; simp only [dP_zero]
theorem midL_next (n : Nat) : midL g S n g.edges.length = midL g S (n + 1) 0:=by unfold midL; simp only [dP_all,dP_zero]
theorem midL_last : midL g S g.size.toNat 0 = distL g S:=by unfold midL distL dist; simp only [dP_zero]
theorem midL_get (n i : Nat) {k : Nat} (hk : k < g.size.toNat) : (rowsI (midL g S n i))[k]? = some [AV.I (dP g S n i k)]:=by
 simp [midL,hk]
theorem midL_same (n i : Nat) (hi : i < g.edges.length) (h : ¬ (dl g S n g.edges[i].f = n ∧ dP g S n i g.edges[i].t = -1)) : midL g S n (i + 1) = midL g S n i:=by
 unfold midL
 refine List.map_congr_left fun k _=>?_
 rw [dP_succ n i hi,if_neg]
 rintro ⟨h1,h2,_⟩
 exact h ⟨h1,h2⟩
theorem midL_set (n i : Nat) (hi : i < g.edges.length) {k : Nat} (hk : g.edges[i].t = k) (hkN : k < g.size.toNat) (h1 : dl g S n g.edges[i].f = n) (h2 : dP g S n i g.edges[i].t = -1) : (rowsI (midL g S n i)).set k [AV.I ((n : Int) + 1)] = rowsI (midL g S n (i + 1)):=by
 have e : (midL g S n i).set k ((n : Int) + 1) = midL g S n (i + 1):=by
  apply List.ext_getElem?
  intro j
  by_cases hj : j < g.size.toNat
  ·have e1 : (midL g S n (i + 1))[j]? = some (dP g S n (i + 1) j):=by simp [midL,hj]
   have e2 : (midL g S n i)[j]? = some (dP g S n i j):=by simp [midL,hj]
   rw [List.getElem?_set,e1,e2,dP_succ n i hi,midL_len]
   by_cases hkj : k = j
   ·subst hkj
    rw [if_pos rfl,if_pos hkN,if_pos ⟨h1,h2,hk.symm⟩]
   ·rw [if_neg hkj,if_neg]
    rintro ⟨_,_,h3⟩
    rw [hk] at h3
    omega
  ·rw [List.getElem?_eq_none (by rw [List.length_set,midL_len]; omega),List.getElem?_eq_none (by rw [midL_len]; omega)]
 rw [← e,rowsI,rowsI,List.map_set]
theorem firstL_succ (k : Nat) : firstL g S (k + 1) = firstL g S k ++ [dl g S 0 k]:=by
 unfold firstL
 rw [List.range_succ,List.map_append]
 rfl
theorem Le.l1 {st st' : St} {D : List Int} (i j : Nat) (sn : List Nat) (hsz : st'.sz = st.sz) (hh : st'.h = [(j,some ⟨1,rowsI D,0⟩)]) (hj : j < st'.n) (hs : ∀ k ∈ sn,k ≠ i) (he : st.hp i = some ⟨1,rowsI D,0⟩) (ht : ∀ p ∈ st'.t,Wk (conv [(i,j)] sn st.hp 4 (st.get p.1)) p.2) : Le 0 st st' :=
 ents1 hsz hh hj hs he (by simp [fcd]) (by simp) ht
set_option maxHeartbeats 4000000 in
set_option maxRecDepth 100000 in
theorem ref12_All_ok (g : Gr) (S : List Int) (hg : GrOk g) (hS : S.length ≤ 1099511627776) : ACalls Tryz.prog nref12_All [eG g,ints S] [] (.rs 0 0 g.size.toNat) [some ⟨1,rowsI (distL g S),0⟩]:=by
 refine sref12_All.acalls (Nat.le_of_ble_eq_true rfl) (Nat.le_of_ble_eq_true rfl) (Nat.zero_le _) ?_
 show awp _ 0 _ _ ⟨72,[(0,eG g),(1,ints S)],[],16⟩
 have hsz:=hg.1.1
 have hsz2:=hg.1.2.1
 have h500:=hg.1.2.2.1
 have hgone : g.gone.length ≤ 1000000:=Nat.le_trans hg.gone_le (by omega)
 obtain ⟨N,hN⟩ : ∃ N : Nat,N = g.size.toNat:=⟨_,rfl⟩
 refine awp_regc ⟨72,[(1,ints S),(2,.pv (gC g))],[],32⟩ rfl ?_ ?_
 ·simp
  exact Le.snap [16] rfl rfl (by simp)
 refine awp_seq ?_
 refine awp_run (s:=?s1) rfl ?o1 ?q1
 case o1=>simp; rfl
 refine awp_seq ?_
 refine awp_seq ?_
 refine awp_run (s:=?s2) rfl ?o2 ?q2
 case o2=>simp; rfl
 refine awp_block ?_
 let C : Nat → St:=fun k=>⟨72,[(1,ints S),(2,.pv (gC g)),(5,.rs 16 0 k),(6,.I k)],[(16,some ⟨1,rowsI (firstL g S k),0⟩)],48⟩
 refine awp_loop C (fun k=>k ≤ N) (fun k=>N - k) 0 (Nat.zero_le _) (Le.lst [] [] [(16,1)] rfl (by simp) (by simp) (by simp) (by simp [C]) (by simp) (by simp) (by simp) (by simp [C,Up]) (by simp [C,firstL])) ?_
 intro k hk
 have hCk : C k = ⟨72,[(1,ints S),(2,.pv (gC g)),(5,.rs 16 0 k),(6,.I k)],[(16,some ⟨1,rowsI (firstL g S k),0⟩)],48⟩:=rfl
 rw [hCk]
 refine awp_seq ?_
 refine awp_regc ⟨72,[(1,ints S),(2,.pv (gC g)),(5,.rs 16 0 k),(6,.I k),(13,.B (decide ((k : Int) < g.size)))],[(16,some ⟨1,rowsI (firstL g S k),0⟩)],80⟩ rfl ?_ ?_
 ·simp
  exact Le.keep rfl (Nat.le_refl _) (by simp) (by simp)
 refine awp_cond _ rfl (fun h=>awp_skip ?_) fun h=>awp_exit (hit ?_)
 ·simp only [decide_eq_true_eq] at h
  refine awp_cut (ι:=Unit) (fun _=>⟨72,[(1,ints S),(2,.pv (gC g)),(5,.rs 16 0 (k + 1)),(6,.I k)],[(16,some ⟨1,rowsI (firstL g S (k + 1)),0⟩)],48⟩) (fun _=>True) ?_ fun _ _=>?_
  ·rw [firstL_succ]
   have hAl : (firstL g S k).length = k:=by simp [firstL]
   generalize firstL g S k = A at *
   refine awp_block ?_
   refine awp_regc ⟨72,[(1,ints S),(2,.pv (gC g)),(5,.rs 96 0 (k + 1)),(6,.I k)],[(96,some ⟨1,rowsI A ++ [[.I (-1)]],0⟩)],112⟩ rfl ?_ ?_
   ·simp [List.replicate,hAl]
    refine ⟨by omega,by omega,?_⟩
    have e1 : List.take k (rowsI A) = rowsI A:=List.take_of_length_le (by simp [hAl])
    exact ents1 (i:=96) (sn:=[]) rfl rfl (by simp) (by simp) rfl (by rw [e1]; simp [fcd]) (by simp) (by simp)
   refine awp_regc ⟨72,[(1,ints S),(2,.pv (gC g)),(5,.rs 96 0 (k + 1)),(6,.I k),(28,.B (startK g S k))],[(96,some ⟨1,rowsI A ++ [[.I (-1)]],0⟩)],192⟩ rfl ?_ ?_
   ·simp
    refine callf nref11_Has rfl ?_
    refine call0e (has_ok S k (by omega)) rfl ?_
    simp
    refine gcase (fun hb=>?_) (fun hb=>?_)
    ·simp [hb]
     refine callf nref11_Has rfl ?_
     refine call0e (has_ok g.gone k (by omega)) rfl ?_
     simp [hb]
     exact ents1 (i:=96) (sn:=[]) rfl rfl (by simp) (by simp) rfl (by simp [fcd]) (by simp) (by simp [startK] <;> exact wkB (by simp_all))
    ·simp [hb]
     exact ents1 (i:=96) (sn:=[]) rfl rfl (by simp) (by simp) rfl (by simp [fcd]) (by simp) (by simp [startK] <;> exact wkB (by simp_all))
   refine awp_cond _ rfl (fun h5=>?_) fun h5=>awp_skip ?_
   ·have h0 : dl g S 0 k = 0:=by rw [dl,if_pos h5]
    rw [h0]
    refine awp_reg rfl ?_
    have hset : (rowsI A ++ [[AV.I (-1)]]).set k [AV.I 0] = rowsI A ++ [[AV.I 0]]:=by
     rw [List.set_append,if_neg (by simp [hAl])]
     simp [hAl]
    have hget : (rowsI A ++ [[AV.I (-1)]])[k]? = some [AV.I (-1)]:=by
     rw [List.getElem?_append_right (by simp [hAl])]
     simp [hAl]
    simp [hget,splice,hset]
    refine ⟨by omega,ents1 (i:=96) (sn:=[]) rfl rfl (by simp) (by simp) rfl (by simp [fcd]) (by simp) (by simp)⟩
   ·have h0 : dl g S 0 k = -1:=by rw [dl,if_neg (by simp [h5])]
    rw [h0]
    exact ⟨(),trivial,ents1 (i:=96) (sn:=[]) rfl rfl (by simp) (by simp) rfl (by simp [fcd]) (by simp) (by simp)⟩
  have hwk : IntKind.i64.wrap ((k : Int) + 1) = ((k + 1 : Nat) : Int):=by rw [w64 (by omega) (by omega)]; omega
  refine awp_reg rfl ?_
  simp [hwk]
  exact ⟨k + 1,by omega,by omega,Le.l1 16 16 [] rfl rfl (by simp [C]) (by simp) rfl (by simp [C])⟩
 simp only [decide_eq_false_iff_not] at h
 obtain rfl : k = N:=by omega
 have hf : firstL g S k = midL g S 0 0:=by rw [midL_first,hN]
 rw [hf]
 refine awp_seq ?_
 refine awp_regc ⟨72,[(2,.pv (gC g)),(5,.rs 16 0 k),(7,.I 0)],[(16,some ⟨1,rowsI (midL g S 0 0),0⟩)],88⟩ rfl ?_ ?_
 ·simp
  exact Le.keep rfl (Nat.le_refl _) (by simp) (by simp)
 refine awp_block ?_
 refine awp_loop (ι:=Nat) (fun n=>⟨72,[(2,.pv (gC g)),(5,.rs 16 0 k),(7,.I n)],[(16,some ⟨1,rowsI (midL g S n 0),0⟩)],88⟩) (fun n=>n ≤ k) (fun n=>k - n) 0 (Nat.zero_le _) (Le.refl _ _) ?_
 intro n hn
 refine awp_seq ?_
 refine awp_regc ⟨72,[(2,.pv (gC g)),(5,.rs 16 0 k),(7,.I n),(35,.B (decide ((n : Int) < g.size)))],[(16,some ⟨1,rowsI (midL g S n 0),0⟩)],120⟩ rfl ?_ ?_
 ·simp
  exact Le.keep rfl (Nat.le_refl _) (by simp) (by simp)
 refine awp_cond _ rfl (fun h=>awp_skip ?_) fun h=>awp_exit (hit ?_)
 ·simp only [decide_eq_true_eq] at h
  refine awp_cut (ι:=Unit) (fun _=>⟨72,[(2,.pv (gC g)),(5,.rs 16 0 k),(7,.I n)],[(16,some ⟨1,rowsI (midL g S (n + 1) 0),0⟩)],88⟩) (fun _=>True) ?_ fun _ _=>?_
  ·rw [← midL_next]
   refine awp_block ?_
   refine awp_regc ⟨72,[(2,.pv (gC g)),(5,.rs 16 0 k),(7,.I n),(8,.I 0)],[(16,some ⟨1,rowsI (midL g S n 0),0⟩)],128⟩ rfl ?_ ?_
   ·simp
    exact Le.keep rfl (Nat.le_refl _) (by simp) (by simp)
   refine awp_block ?_
   refine awp_loop (ι:=Nat) (fun i=>⟨72,[(2,.pv (gC g)),(5,.rs 16 0 k),(7,.I n),(8,.I i)],[(16,some ⟨1,rowsI (midL g S n i),0⟩)],128⟩) (fun i=>i ≤ g.edges.length) (fun i=>g.edges.length - i) 0 (Nat.zero_le _) (Le.refl _ _) ?_
   intro i hi
   refine awp_seq ?_
   refine awp_regc ⟨72,[(2,.pv (gC g)),(5,.rs 16 0 k),(7,.I n),(8,.I i),(42,.B (decide (i < g.edges.length)))],[(16,some ⟨1,rowsI (midL g S n i),0⟩)],168⟩ rfl ?_ ?_
   ·simp
    exact Le.keep rfl (Nat.le_refl _) (by simp) (by simp)
   refine awp_cond _ rfl (fun h2=>awp_skip ?_) fun h2=>awp_exit (hit ?_)
   ·simp only [decide_eq_true_eq] at h2
    refine awp_cut (ι:=Unit) (fun _=>⟨72,[(2,.pv (gC g)),(5,.rs 16 0 k),(7,.I n),(8,.I i)],[(16,some ⟨1,rowsI (midL g S n (i + 1)),0⟩)],128⟩) (fun _=>True) ?_ fun _ _=>?_
    ·have hfit:=hg.fits g.edges[i] (List.getElem_mem h2)
     obtain ⟨a,ha⟩ : ∃ a : Nat,g.edges[i].f = a:=⟨g.edges[i].f.toNat,by have:=hfit.1; omega⟩
     obtain ⟨b,hb⟩ : ∃ b : Nat,g.edges[i].t = b:=⟨g.edges[i].t.toNat,by have:=hfit.2.2.1; omega⟩
     have haN : a < g.size.toNat:=by have:=hfit.2.1; omega
     have hbN : b < g.size.toNat:=by have:=hfit.2.2.2.1; omega
     have hga:=midL_get (g:=g) (S:=S) n i haN
     have hgb:=midL_get (g:=g) (S:=S) n i hbN
     have hml : (rowsI (midL g S n i)).length = k:=by rw [rowsI,List.length_map,midL_len,hN]
     have hsame:=midL_same (S:=S) n i h2
     have hset:=midL_set (S:=S) n i h2 hb hbN
     rw [ha] at hsame hset
     rw [hb] at hsame hset
     have hdat:=dP_at (g:=g) (S:=S) n i a
     generalize hD1 : dP g S n i a = va at *
     generalize hD2 : dP g S n i b = vb at *
     generalize hM : rowsI (midL g S n i) = M at *
     have hwn : IntKind.i64.wrap ((n : Int) + 1) = (n : Int) + 1:=w64 (by omega) (by omega)
     refine awp_block ?_
     refine awp_regc ⟨72,[(2,.pv (gC g)),(5,.rs 16 0 k),(7,.I n),(8,.I i),(9,.pv (eC g.edges[i]))],[(16,some ⟨1,M,0⟩)],128⟩ rfl ?_ ?_
     ·simp [h2]
      exact ents1 (i:=16) (sn:=[208]) rfl rfl (by simp) (by simp) rfl (by rw [← hM]; simp [fcd]) (by simp) (by simp)
     refine awp_regc ⟨72,[(2,.pv (gC g)),(5,.rs 16 0 k),(7,.I n),(8,.I i),(9,.pv (eC g.edges[i])),(64,.B (decide (va = n ∧ vb = -1)))],[(16,some ⟨1,M,0⟩)],248⟩ rfl ?_ ?_
     ·simp [ha,hb,hga,hgb,show a < k by omega,show b < k by omega]
      refine gcase (fun hx=>?_) (fun hx=>?_)
      ·simp [hx,ha,hb,hga,hgb,show a < k by omega,show b < k by omega]
       refine Le.keep rfl (Nat.le_refl _) (by simp <;> simp_all <;> rw [Bool.eq_iff_iff] <;> simp) (by simp)
      ·simp [hx]
       refine Le.keep rfl (Nat.le_refl _) (by simp <;> simp_all) (by simp)
     refine awp_cond _ rfl (fun h5=>?_) fun h5=>awp_skip ?_
     ·simp only [decide_eq_true_eq] at h5
      have hs2:=hset (hdat.1 h5.1) h5.2
      refine awp_reg rfl ?_
      simp [ha,hb,hgb,show b < k by omega,splice,hwn,hs2]
      exact Le.l1 16 16 [] rfl rfl (by simp) (by simp) rfl (by simp)
     ·simp only [decide_eq_false_iff_not] at h5
      rw [hsame (fun hq=>h5 ⟨hdat.2 hq.1,hq.2⟩),hM]
      exact ⟨(),trivial,ents1 (i:=16) (sn:=[]) rfl rfl (by simp) (by simp) rfl (by rw [← hM]; simp [fcd]) (by simp) (by simp)⟩
    have hwi : IntKind.i64.wrap ((i : Int) + 1) = ((i + 1 : Nat) : Int):=by rw [w64 (by omega) (by omega)]; omega
    refine awp_reg rfl ?_
    simp [hwi]
    exact ⟨i + 1,by omega,by omega,Le.l1 16 16 [] rfl rfl (by simp) (by simp) rfl (by simp)⟩
   simp only [decide_eq_false_iff_not] at h2
   obtain rfl : i = g.edges.length:=by omega
   exact ⟨(),trivial,Le.l1 16 16 [] rfl rfl (by simp) (by simp) rfl (by simp)⟩
  have hwn : IntKind.i64.wrap ((n : Int) + 1) = ((n + 1 : Nat) : Int):=by rw [w64 (by omega) (by omega)]; omega
  refine awp_reg rfl ?_
  simp [hwn]
  exact ⟨n + 1,by omega,by omega,Le.l1 16 16 [] rfl rfl (by simp) (by simp) rfl (by simp)⟩
 simp only [decide_eq_false_iff_not] at h
 obtain rfl : n = k:=by omega
 rw [hN,midL_last,← hN]
 refine awp_seq ?_
 refine awp_run (s:=?z9) rfl ?p9 ?r9
 case p9=>simp; rfl
 refine awp_ret ?_
 exact ⟨.inr rfl,RetOk.out [16] [] rfl (by simp) (by simp) (by simp) (by simp [fcd])⟩
def insRev (c : Int → Int → Int) : List Int → Int → List Int
 | [],x=>[x]
 | y :: r,x=>if c x y < 0 then y :: insRev c r x else x :: y :: r
def isortRev (c : Int → Int → Int) (M : List Int) : List Int:=M.foldl (insRev c) []
def isort (c : Int → Int → Int) (M : List Int) : List Int:=(isortRev c M).reverse
theorem insRev_perm (c : Int → Int → Int) : ∀ (r : List Int) (x : Int),(insRev c r x).Perm (x :: r)
 | [],x=>.refl _
 | y :: r,x=>by
   unfold insRev
   split
   ·exact ((insRev_perm c r x).cons y).trans (.swap _ _ _)
   ·exact .refl _
theorem isortRev_succ (c : Int → Int → Int) (M : List Int) (k : Nat) (h : k < M.length) : isortRev c (M.take (k + 1)) = insRev c (isortRev c (M.take k)) M[k]:=by
 unfold isortRev
 rw [← List.take_concat_get h,List.concat_eq_append,List.foldl_append]
 rfl
theorem isortRev_perm (c : Int → Int → Int) (M : List Int) : (isortRev c M).Perm M:=by
 have key : ∀ (M acc : List Int),(M.foldl (insRev c) acc).Perm (M ++ acc):=by
  intro M
  induction M with
  | nil=>intro acc; exact .refl _
  | cons x M ih =>
    intro acc
    refine (ih _).trans ?_
    refine ((insRev_perm c acc x).append_left M).trans ?_
    simp only [List.cons_append]
    exact List.perm_middle
 simpa [isortRev] using key M []
theorem isortRev_len (c : Int → Int → Int) (M : List Int) : (isortRev c M).length = M.length:=(isortRev_perm c M).length_eq
theorem isort_one (c : Int → Int → Int) (x : Int) : isortRev c [x] = [x]:=rfl
theorem Le.np1 {st st' : St} {D : List Int} (sn : List Nat) (hsz : st'.sz = st.sz) (hn : 1 ≤ st'.n) (hh : st'.h = [(0,some ⟨1,rowsI D,0⟩)]) (hs : ∀ k ∈ sn,1 ≤ k) (he : st.hp 0 = some ⟨1,rowsI D,0⟩) (ht : ∀ p ∈ st'.t,Wk (conv [(0,0)] sn st.hp 4 (st.get p.1)) p.2) : Le 1 st st' :=
 Le.ents [(0,0)] sn hsz (by simp) (by simp) (by simp; omega) (fun k hk=>⟨hs k hk,by have:=hs k hk; simp; omega⟩) hn ht (fun p hp=>by
  rw [hh] at hp
  simp at hp
  subst hp
  exact ⟨0,_,_,rfl,by simp,he,EntUp.eq (by simp [fcd]) (by simp)⟩)
theorem mid_get {H T : List Int} {y x : Int} {h : Nat} (hh : H.length = h) : (rowsI (H ++ y :: x :: T))[h]? = some [AV.I y] ∧ (rowsI (H ++ y :: x :: T))[h + 1]? = some [AV.I x]:=by
 subst hh
 constructor
 ·rw [List.getElem?_map,List.getElem?_append_right (by omega)]
  simp
 ·rw [List.getElem?_map,List.getElem?_append_right (by omega)]
  simp
theorem mid_set {H T : List Int} {y x : Int} {h : Nat} (hh : H.length = h) : ((rowsI (H ++ y :: x :: T)).set (h + 1) [AV.I y]).set h [AV.I x] = rowsI (H ++ x :: y :: T):=by
 subst hh
 simp [rowsI,List.set_append]
set_option maxHeartbeats 4000000 in
set_option maxRecDepth 100000 in
theorem insertion_ok (f : FuncId) (capt : List AV) (c : Int → Int → Int) (A M B : List Int) (n a b : Nat) (hn : (A ++ M ++ B).length = n) (ha : A.length = a) (hb : a + M.length = b) (hl : n ≤ 1000000) (hs : Still capt)
  (hc : ∀ x ∈ M,∀ y ∈ M,ACalls Tryz.prog f (AV.I x :: AV.I y :: capt) [] (.I (c x y)) []) :
  ACalls Tryz.prog nslices_insertionSortCmpFunc_int [.rs 0 0 n,.I a,.I b,.fn (.func f) [] capt] [⟨1,rowsI (A ++ M ++ B),0⟩] (.tup []) [some ⟨1,rowsI (A ++ isort c M ++ B),0⟩]:=by
 have hs2 : ∀ ρ sn h,capt.map (conv ρ sn h 2) = capt:=fun _ _ _=>hs _ _ _ 1
 have hs3 : ∀ ρ sn h,capt.map (conv ρ sn h 3) = capt:=fun _ _ _=>hs _ _ _ 2
 have hs4 : ∀ ρ sn h,capt.map (conv ρ sn h 4) = capt:=fun _ _ _=>hs _ _ _ 3
 refine sslices_insertionSortCmpFunc_int.acalls (Nat.le_of_ble_eq_true rfl) (Nat.le_of_ble_eq_true rfl) (Nat.le_of_ble_eq_true rfl) ?_
 show awp _ 1 _ _ ⟨53,[(0,.rs 0 0 n),(1,.I a),(2,.I b),(3,.fn (.func f) [] capt)],[(0,some ⟨1,rowsI (A ++ M ++ B),0⟩)],16⟩
 have hlen : a + (M.length + B.length) = n:=by
  simp only [List.length_append] at hn
  omega
 have hbn : b ≤ n:=by omega
 have hwa : IntKind.i64.wrap ((a : Int) + 1) = ((a + 1 : Nat) : Int):=by rw [w64 (by omega) (by omega)]; omega
 let Lk : Nat → List Int:=fun k=>A ++ ((isortRev c (M.take k)).reverse ++ (M.drop k ++ B))
 have hL1 : A ++ M ++ B = Lk 1:=by
  cases M with
  | nil=>simp [Lk,isortRev]
  | cons m M=>simp [Lk,isort_one]
 rw [hL1]
 refine awp_regc ⟨53,[(0,.rs 0 0 n),(1,.I a),(2,.I b),(3,.fn (.func f) [] capt),(8,.I (a + 1 : Nat))],[(0,some ⟨1,rowsI (Lk 1),0⟩)],40⟩ rfl ?_ ?_
 ·simp [hwa]
  exact Le.keep rfl (Nat.le_refl _) (by simp) (by simp)
 refine awp_block ?_
 refine awp_loop (ι:=Nat) (fun k=>⟨53,[(0,.rs 0 0 n),(1,.I a),(2,.I b),(3,.fn (.func f) [] capt),(8,.I (a + k : Nat))],[(0,some ⟨1,rowsI (Lk k),0⟩)],40⟩) (fun k=>1 ≤ k ∧ k ≤ M.length + 1 ∧ (M.length ≤ k → rowsI (Lk k) = rowsI (A ++ isort c M ++ B))) (fun k=>M.length + 1 - k) 1 ?_ (Le.refl _ _) ?_
 ·refine ⟨Nat.le_refl _,by omega,fun h=>?_⟩
  simp only [Lk]
  rw [List.take_of_length_le h,List.drop_eq_nil_of_le h]
  simp [isort]
 rintro k ⟨hk1,hk2,hk3⟩
 refine awp_seq ?_
 refine awp_regc ⟨53,[(0,.rs 0 0 n),(1,.I a),(2,.I b),(3,.fn (.func f) [] capt),(8,.I (a + k : Nat)),(14,.B (decide (k < M.length)))],[(0,some ⟨1,rowsI (Lk k),0⟩)],64⟩ rfl ?_ ?_
 ·simp
  exact Le.keep rfl (Nat.le_refl _) (by simp <;> omega) (by simp)
 refine awp_cond _ rfl (fun h=>awp_skip ?_) fun h=>awp_exit (hit ?_)
 ·simp only [decide_eq_true_eq] at h
  refine awp_cut (ι:=Unit) (fun _=>⟨53,[(0,.rs 0 0 n),(1,.I a),(2,.I b),(3,.fn (.func f) [] capt),(8,.I (a + k : Nat))],[(0,some ⟨1,rowsI (Lk (k + 1)),0⟩)],64⟩) (fun _=>True) ?_ fun _ _=>?_
  ·have hx : M[k] ∈ M:=List.getElem_mem h
   have hdrop : M.drop k = M[k] :: M.drop (k + 1):=List.drop_eq_getElem_cons h
   have hsucc:=isortRev_succ c M k h
   generalize M[k] = x at *
   obtain ⟨D,hD⟩ : ∃ D,D = M.drop (k + 1) ++ B:=⟨_,rfl⟩
   obtain ⟨R,hR⟩ : ∃ R,R = isortRev c (M.take k):=⟨_,rfl⟩
   have hRm : ∀ y ∈ R,y ∈ M:=fun y hy=>by
    rw [hR] at hy
    exact List.mem_of_mem_take ((isortRev_perm c _).mem_iff.1 hy)
   have hRl : R.length = k:=by rw [hR,isortRev_len]; simp; omega
   have hDl : D.length + k + 1 = M.length + B.length:=by rw [hD]; simp; omega
   have hLk : Lk k = A ++ R.reverse ++ x :: D:=by simp only [Lk]; rw [hdrop,← hR,hD]; simp
   have hLk1 : Lk (k + 1) = A ++ (insRev c R x).reverse ++ D:=by simp only [Lk]; rw [hsucc,← hR,hD]; simp
   rw [hLk,hLk1]
   refine awp_block ?_
   refine awp_regc ⟨53,[(0,.rs 0 0 n),(1,.I a),(2,.I b),(3,.fn (.func f) [] capt),(8,.I (a + k : Nat)),(9,.I (a + k : Nat))],[(0,some ⟨1,rowsI (A ++ R.reverse ++ x :: D),0⟩)],80⟩ rfl ?_ ?_
   ·simp
    exact Le.keep rfl (Nat.le_refl _) (by simp) (by simp)
   refine awp_block ?_
   let C : List Int × List Int → St:=fun p=>⟨53,[(0,.rs 0 0 n),(1,.I a),(2,.I b),(3,.fn (.func f) [] capt),(8,.I (a + k : Nat)),(9,.I (a + p.2.length : Nat))],[(0,some ⟨1,rowsI (A ++ p.2.reverse ++ x :: (p.1 ++ D)),0⟩)],80⟩
   refine awp_loop C (fun p : List Int × List Int=>insRev c R x = p.1.reverse ++ insRev c p.2 x ∧ p.1.length + p.2.length = k ∧ ∀ y ∈ p.2,y ∈ M) (fun p : List Int × List Int=>p.2.length) ([],R) ⟨rfl,by simpa using hRl,hRm⟩ ?_ ?_
   ·simp only [C,hRl,List.nil_append]
    exact Le.refl _ _
   rintro ⟨U,V⟩ ⟨hins,hUV,hVm⟩
   simp only at hins hUV hVm
   match V,hins,hUV,hVm with
   | [],hins,hUV,hVm =>
     have hC : C (U,[]) = ⟨53,[(0,.rs 0 0 n),(1,.I a),(2,.I b),(3,.fn (.func f) [] capt),(8,.I (a + k : Nat)),(9,.I a)],[(0,some ⟨1,rowsI (A ++ x :: (U ++ D)),0⟩)],80⟩:=by simp [C]
     rw [hC]
     refine awp_seq ?_
     refine awp_dregc ⟨53,[(0,.rs 0 0 n),(1,.I a),(2,.I b),(3,.fn (.func f) [] capt),(8,.I (a + k : Nat)),(34,.B false)],[(0,some ⟨1,rowsI (A ++ x :: (U ++ D)),0⟩)],216⟩ rfl ?_ ?_
     ·simp
      exact ⟨rfl,Le.keep rfl (Nat.le_refl _) (by simp) (by simp)⟩
     refine awp_cond _ rfl (fun h=>by cases h) fun h=>awp_exit (hit ?_)
     have e : A ++ x :: (U ++ D) = A ++ (insRev c R x).reverse ++ D:=by rw [hins]; simp [insRev]
     rw [← e]
     exact ⟨(),trivial,Le.np1 [] rfl (by simp) rfl (by simp) rfl (by simp [hs2,hs3,hs4])⟩
   | y :: V',hins,hUV,hVm =>
     obtain ⟨H,hH⟩ : ∃ H,H = A ++ V'.reverse:=⟨_,rfl⟩
     obtain ⟨T,hT⟩ : ∃ T,T = U ++ D:=⟨_,rfl⟩
     obtain ⟨q,hq⟩ : ∃ q,q = a + V'.length:=⟨_,rfl⟩
     obtain ⟨j,hj⟩ : ∃ j,j = q + 1:=⟨_,rfl⟩
     have hHl : H.length = q:=by rw [hH,hq]; simp; omega
     have hgl : (H ++ y :: x :: T).length = n:=by
      have e : (H ++ y :: x :: T).length = H.length + (T.length + 2):=by simp
      rw [e,hHl,hT,List.length_append]
      simp at hUV
      omega
     have hg1:=(mid_get (T:=T) (y:=y) (x:=x) hHl).1
     have hg2:=(mid_get (T:=T) (y:=y) (x:=x) hHl).2
     have hset:=mid_set (T:=T) (y:=y) (x:=x) hHl
     rw [← hj] at hg2 hset
     have hC : C (U,y :: V') = ⟨53,[(0,.rs 0 0 n),(1,.I a),(2,.I b),(3,.fn (.func f) [] capt),(8,.I (a + k : Nat)),(9,.I j)],[(0,some ⟨1,rowsI (H ++ y :: x :: T),0⟩)],80⟩:=by
      simp [C,hH,hT,hj,hq,Nat.add_assoc]
     rw [hC]
     have hcy:=hc x hx y (hVm y List.mem_cons_self)
     have hjn : j < n:=by rw [← hgl,hj,← hHl]; simp
     have hwj : IntKind.i64.wrap ((j : Int) - 1) = (q : Int):=by rw [w64 (by omega) (by omega)]; omega
     have hqn : q < n:=by omega
     have haj : a < j:=by omega
     have hRl2 : (rowsI (H ++ y :: x :: T)).length = n:=by rw [rowsI,List.length_map,hgl]
     generalize hX : rowsI (H ++ y :: x :: T) = X at *
     have hflat : ∀ ρ sn h m,X.map (List.map (conv ρ sn h (m + 1))) = X:=fun ρ sn h m=>by rw [← hX]; simp [fcd]
     refine awp_seq ?_
     refine awp_dregc ⟨53,[(0,.rs 0 0 n),(1,.I a),(2,.I b),(3,.fn (.func f) [] capt),(8,.I (a + k : Nat)),(9,.I j),(34,.B (decide (c x y < 0)))],[(0,some ⟨1,X,0⟩)],216⟩ rfl ?_ ?_
     ·simp [haj,hjn,hqn,hg1,hg2,hwj]
      refine call0e hcy ?_ ?_
      ·simp [hs4]
      simp
      exact ⟨rfl,Le.keep rfl (Nat.le_refl _) (by simp) (by simp)⟩
     refine awp_cond _ rfl (fun h5=>awp_skip ?_) fun h5=>awp_exit (hit ?_)
     ·simp only [decide_eq_true_eq] at h5
      have hg3 : (X.set j [AV.I y])[q]? = some [AV.I y]:=by
       rw [List.getElem?_set,if_neg (by omega)]
       exact hg1
      generalize hY : rowsI (H ++ x :: y :: T) = Y at hset
      refine awp_cut (ι:=Unit) (fun _=>⟨53,[(0,.rs 0 0 n),(1,.I a),(2,.I b),(3,.fn (.func f) [] capt),(8,.I (a + k : Nat)),(9,.I j)],[(0,some ⟨1,Y,0⟩)],360⟩) (fun _=>True) ?_ fun _ _=>?_
      ·refine awp_block ?_
       refine awp_drw rfl ?_
       simp [hjn,hqn,hg1,hg2,hg3,hwj,splice]
       exact ⟨rfl,Le.keep rfl (Nat.le_refl _) (by simp) (by simp; exact hset)⟩
      refine awp_reg rfl ?_
      simp [hwj]
      refine ⟨y :: U,V',⟨?_,?_,?_⟩,?_,?_⟩
      ·rw [hins,insRev,if_pos h5]; simp
      ·simp at hUV ⊢; omega
      ·exact fun z hz=>hVm z (List.mem_cons_of_mem _ hz)
      ·simp
      ·have hC2 : C (y :: U,V') = ⟨53,[(0,.rs 0 0 n),(1,.I a),(2,.I b),(3,.fn (.func f) [] capt),(8,.I (a + k : Nat)),(9,.I q)],[(0,some ⟨1,Y,0⟩)],80⟩:=by rw [← hY]; simp [C,hH,hT,hq]
       rw [hC2]
       have hflat2 : ∀ ρ sn h m,Y.map (List.map (conv ρ sn h (m + 1))) = Y:=fun ρ sn h m=>by rw [← hY]; simp [fcd]
       exact Le.ents [(0,0)] [] rfl (by simp) (by simp) (by simp) (by simp) (by simp) (by simp [hs2,hs3,hs4]) fun p hp=>by
        simp at hp
        subst hp
        exact ⟨0,_,_,rfl,by simp,rfl,EntUp.eq (by simp only [convE,hflat2]) (by simp)⟩
     ·simp only [decide_eq_false_iff_not] at h5
      have e : H ++ y :: x :: T = A ++ (insRev c R x).reverse ++ D:=by rw [hins,insRev,if_neg h5,hH,hT]; simp
      rw [← e,hX]
      exact ⟨(),trivial,Le.ents [(0,0)] [] rfl (by simp) (by simp) (by simp) (by simp) (by simp) (by simp [hs2,hs3,hs4]) fun p hp=>by
       simp at hp
       subst hp
       exact ⟨0,_,_,rfl,by simp,rfl,EntUp.eq (by simp only [convE,hflat]) (by simp)⟩⟩
  have hwk : IntKind.i64.wrap (((a + k : Nat) : Int) + 1) = ((a + (k + 1) : Nat) : Int):=by rw [w64 (by omega) (by omega)]; omega
  refine awp_reg rfl ?_
  have hwk' : IntKind.i64.wrap ((a : Int) + (k : Int) + 1) = ((a + (k + 1) : Nat) : Int):=by rw [← hwk]; congr 1
  simp [hwk']
  refine ⟨k + 1,⟨by omega,by omega,fun h2=>?_⟩,by omega,?_⟩
  ·have he : M.length = k + 1:=by omega
   simp only [Lk]
   rw [List.take_of_length_le (by omega),List.drop_eq_nil_of_le (by omega)]
   simp [isort]
  ·exact Le.np1 [] rfl (by simp) rfl (by simp) rfl (by simp [hs2,hs3,hs4])
 simp only [decide_eq_false_iff_not] at h
 rw [hk3 (by omega)]
 exact ⟨.inl rfl,⟨[],rfl,[],[],by simp [List.range,List.range.loop],by simp,by simp,by simp,by simp [List.range,List.range.loop,fcd]⟩⟩
set_option maxRecDepth 100000 in
theorem stable_ok (f : FuncId) (capt : List AV) (c : Int → Int → Int) (l : List Int) (n : Nat) (hn : l.length = n) (hl : n < 20) (hs : Still capt)
  (hc : ∀ x ∈ l,∀ y ∈ l,ACalls Tryz.prog f (AV.I x :: AV.I y :: capt) [] (.I (c x y)) []) :
  ACalls Tryz.prog nslices_stableCmpFunc_int [.rs 0 0 n,.I n,.fn (.func f) [] capt] [⟨1,rowsI l,0⟩] (.tup []) [some ⟨1,rowsI (isort c l),0⟩]:=by
 have hs2 : ∀ ρ sn h,capt.map (conv ρ sn h 2) = capt:=fun _ _ _=>hs _ _ _ 1
 have hs3 : ∀ ρ sn h,capt.map (conv ρ sn h 3) = capt:=fun _ _ _=>hs _ _ _ 2
 have hs4 : ∀ ρ sn h,capt.map (conv ρ sn h 4) = capt:=fun _ _ _=>hs _ _ _ 3
 refine sslices_stableCmpFunc_int.acalls (Nat.le_of_ble_eq_true rfl) (Nat.le_of_ble_eq_true rfl) (Nat.le_of_ble_eq_true rfl) ?_
 show awp _ 1 _ _ ⟨63,[(0,.rs 0 0 n),(1,.I n),(2,.fn (.func f) [] capt)],[(0,some ⟨1,rowsI l,0⟩)],16⟩
 have hins:=insertion_ok f capt c [] l [] n 0 n (by simpa using hn) rfl (by simpa using hn) (by omega) hs hc
 simp only [List.nil_append,List.append_nil] at hins
 refine awp_seq ?_
 refine awp_run (s:=?s1) rfl ?o1 ?q1
 case o1=>simp; rfl
 refine awp_regc ⟨63,[(0,.rs 0 0 n),(1,.I n),(2,.fn (.func f) [] capt),(6,.I 20),(7,.I 0),(8,.I 20)],[(0,some ⟨1,rowsI l,0⟩)],48⟩ rfl ?_ ?_
 ·simp
  exact Le.keep rfl (Nat.le_refl _) (by simp) (by simp)
 refine awp_seq ?_
 refine awp_block ?_
 refine awp_loop (ι:=Unit) (fun _=>⟨63,[(0,.rs 0 0 n),(1,.I n),(2,.fn (.func f) [] capt),(6,.I 20),(7,.I 0),(8,.I 20)],[(0,some ⟨1,rowsI l,0⟩)],48⟩) (fun _=>True) (fun _=>0) () trivial (Le.refl _ _) ?_
 intro _ _
 refine awp_seq ?_
 refine awp_regc ⟨63,[(0,.rs 0 0 n),(1,.I n),(2,.fn (.func f) [] capt),(6,.I 20),(7,.I 0),(8,.I 20),(13,.B false)],[(0,some ⟨1,rowsI l,0⟩)],72⟩ rfl ?_ ?_
 ·simp
  exact Le.keep rfl (Nat.le_refl _) (by simp; omega) (by simp)
 refine awp_cond _ rfl (fun h=>by cases h) fun _=>awp_exit (hit ?_)
 refine awp_regc ⟨63,[(1,.I n),(6,.I 20)],[(0,some ⟨1,rowsI (isort c l),0⟩)],112⟩ rfl ?_ ?_
 ·simp
  refine callM1 (i:=0) rfl (e':=⟨1,rowsI l,0⟩) (by simp [fcd]) hins (by simp) ?_ ?_
  ·simp [hs2,hs3,hs4]
  simp [fcd]
  exact Le.keep rfl (Nat.le_refl _) (by simp) (by simp)
 refine awp_block ?_
 refine awp_loop (ι:=Unit) (fun _=>⟨63,[(1,.I n),(6,.I 20)],[(0,some ⟨1,rowsI (isort c l),0⟩)],112⟩) (fun _=>True) (fun _=>0) () trivial (Le.refl _ _) ?_
 intro _ _
 refine awp_seq ?_
 refine awp_regc ⟨63,[(1,.I n),(6,.I 20),(30,.B false)],[(0,some ⟨1,rowsI (isort c l),0⟩)],136⟩ rfl ?_ ?_
 ·simp
  exact Le.keep rfl (Nat.le_refl _) (by simp; omega) (by simp)
 refine awp_cond _ rfl (fun h=>by cases h) fun _=>awp_exit (hit ?_)
 exact ⟨.inl rfl,⟨[],rfl,[],[],by simp [List.range,List.range.loop],by simp,by simp,by simp,by simp [List.range,List.range.loop,fcd]⟩⟩
theorem SortStable_ok (f : FuncId) (capt : List AV) (c : Int → Int → Int) (l : List Int) (n : Nat) (hn : l.length = n) (hl : n < 20) (hs : Still capt)
  (hc : ∀ x ∈ l,∀ y ∈ l,ACalls Tryz.prog f (AV.I x :: AV.I y :: capt) [] (.I (c x y)) []) :
  ACalls Tryz.prog nslices_SortStableFunc_Lint_int [.rs 0 0 n,.fn (.func f) [] capt] [⟨1,rowsI l,0⟩] (.tup []) [some ⟨1,rowsI (isort c l),0⟩]:=by
 have hs2 : ∀ ρ sn h,capt.map (conv ρ sn h 2) = capt:=fun _ _ _=>hs _ _ _ 1
 have hs3 : ∀ ρ sn h,capt.map (conv ρ sn h 3) = capt:=fun _ _ _=>hs _ _ _ 2
 have hs4 : ∀ ρ sn h,capt.map (conv ρ sn h 4) = capt:=fun _ _ _=>hs _ _ _ 3
 refine sslices_SortStableFunc_Lint_int.acalls (Nat.le_of_ble_eq_true rfl) (Nat.le_of_ble_eq_true rfl) (Nat.le_of_ble_eq_true rfl) ?_
 show awp _ 1 _ _ ⟨9,[(0,.rs 0 0 n),(1,.fn (.func f) [] capt)],[(0,some ⟨1,rowsI l,0⟩)],16⟩
 refine awp_run (s:=?s1) rfl ?o1 ?q1
 case o1 =>
  simp
  refine callM1 (i:=0) rfl (e':=⟨1,rowsI l,0⟩) (by simp [fcd]) (stable_ok f capt c l n hn hl hs hc) (by simp) ?_ ?_
  ·simp [hs2,hs3,hs4]
  simp [fcd]
  rfl
 exact ⟨.inl rfl,⟨[],rfl,[],[],by simp [List.range,List.range.loop],by simp,by simp,by simp,by simp [List.range,List.range.loop,fcd]⟩⟩
theorem Order_c1_ok (D : List Int) (k : Nat) (hk : k < D.length) : ACalls Tryz.prog ndistance_Order_c1 [.I k,.pv [ints D]] [] (.B (decide (0 ≤ D.getD k 0))) []:=by
 refine sdistance_Order_c1.acalls (Nat.le_of_ble_eq_true rfl) (Nat.le_of_ble_eq_true rfl) (Nat.le_refl _) ?_
 show awp _ 0 _ _ ⟨9,[(0,.I k),(1,.pv [ints D])],[],16⟩
 refine awp_seq ?_
 refine awp_run (s:=?s0) rfl ?o0 ?q0
 case o0=>simp; rfl
 refine awp_seq ?_
 refine awp_run (s:=?s1) rfl ?o1 ?q1
 case o1=>simp [hk]; rfl
 refine awp_ret ?_
 exact ⟨.inr rfl,RetOk.one (by simp [hk])⟩
theorem Order_c2_ok (D : List Int) (a b : Nat) (ha : a < D.length) (hb : b < D.length) : ACalls Tryz.prog ndistance_Order_c2 [.I a,.I b,.pv [ints D]] [] (.I (cmpI (D.getD a 0) (D.getD b 0))) []:=by
 refine sdistance_Order_c2.acalls (Nat.le_of_ble_eq_true rfl) (Nat.le_of_ble_eq_true rfl) (Nat.le_refl _) ?_
 show awp _ 0 _ _ ⟨15,[(0,.I a),(1,.I b),(2,.pv [ints D])],[],16⟩
 refine awp_seq ?_
 refine awp_run (s:=?s0) rfl ?o0 ?q0
 case o0=>simp; rfl
 refine awp_seq ?_
 refine awp_drun (s:=?s1) (tr:=?t1) rfl ?o1 ?r1 ?q1
 case o1=>simp [ha,hb]; refine call0e (compare_ok ..) rfl ?_; simp; constructor <;> rfl
 case r1=>rfl
 refine awp_ret ?_
 exact ⟨.inr rfl,RetOk.one (by simp [ha,hb])⟩
variable {g : Gr} {S : List Int}
theorem distL_get {k : Nat} (hk : k < g.size.toNat) : (distL g S).getD k 0 = dist g S k:=by simp [distL,List.getD,hk]
theorem distL_len : (distL g S).length = g.size.toNat:=by simp [distL]
def Lt (g : Gr) (S : List Int) (a b : Int) : Prop:=dist g S a < dist g S b ∨ dist g S a = dist g S b ∧ a < b
def cD (g : Gr) (S : List Int) (a b : Int) : Int:=cmpI (dist g S a) (dist g S b)
def ordN (g : Gr) (S : List Int) : Nat → List Int
 | 0=>[]
 | m + 1=>ordN g S m ++ whereQ g.size.toNat fun k=>decide (dist g S k = m)
def ordL (g : Gr) (S : List Int) : List Int:=ordN g S g.size.toNat
theorem mem_whereQ {n : Nat} {q : Int → Bool} {x : Int} : x ∈ whereQ n q ↔ (0 ≤ x ∧ x < n) ∧ q x = true:=by
 unfold whereQ
 simp only [List.mem_filter,List.mem_map,List.mem_range]
 constructor
 ·rintro ⟨⟨i,hi,rfl⟩,h⟩
  exact ⟨⟨by omega,by omega⟩,h⟩
 ·rintro ⟨⟨h1,h2⟩,h⟩
  exact ⟨⟨x.toNat,by omega,by omega⟩,h⟩
theorem whereQ_pair (n : Nat) (q : Int → Bool) : (whereQ n q).Pairwise (· < ·):=by
 unfold whereQ
 refine List.Pairwise.filter _ ?_
 rw [List.pairwise_map]
 exact List.pairwise_lt_range.imp fun h=>by omega
theorem mem_ordN {m : Nat} {x : Int} : x ∈ ordN g S m ↔ (0 ≤ x ∧ x < g.size.toNat) ∧ 0 ≤ dist g S x ∧ dist g S x < m:=by
 induction m with
 | zero=>simp [ordN] <;> omega
 | succ m ih =>
   rw [ordN,List.mem_append,ih,mem_whereQ]
   simp only [decide_eq_true_eq]
   constructor
   ·rintro (⟨h1,h2,h3⟩ | ⟨h1,h2⟩)
    ·exact ⟨h1,h2,by omega⟩
    ·exact ⟨h1,by omega,by omega⟩
   ·rintro ⟨h1,h2,h3⟩
    by_cases h4 : dist g S x = m
    ·exact .inr ⟨h1,h4⟩
    ·exact .inl ⟨h1,h2,by omega⟩
theorem ordN_pair (m : Nat) : (ordN g S m).Pairwise (Lt g S):=by
 induction m with
 | zero=>exact .nil
 | succ m ih =>
   rw [ordN,List.pairwise_append]
   refine ⟨ih,?_,fun a ha b hb=>?_⟩
   ·refine (whereQ_pair _ _).imp_of_mem fun {a b} ha hb hab=>?_
    have h1:=(mem_whereQ.1 ha).2
    have h2:=(mem_whereQ.1 hb).2
    simp at h1 h2
    exact .inr ⟨by omega,hab⟩
   ·have h1:=mem_ordN.1 ha
    have h2:=(mem_whereQ.1 hb).2
    simp at h2
    exact .inl (by omega)
theorem cD_neg {a b : Int} : cD g S a b < 0 ↔ dist g S a < dist g S b:=by
 simp only [cD,cmpI]
 grind
theorem insRev_pair : ∀ (r : List Int) (x : Int),r.Pairwise (fun a b=>Lt g S b a) → (∀ y ∈ r,y < x) → (insRev (cD g S) r x).Pairwise fun a b=>Lt g S b a
 | [],x,_,_=>by simp [insRev]
 | y :: r,x,hp,hx=>by
   unfold insRev
   rw [List.pairwise_cons] at hp
   split
   ·rename_i h
    rw [cD_neg] at h
    rw [List.pairwise_cons]
    refine ⟨fun z hz=>?_,insRev_pair r x hp.2 fun z hz=>hx z (List.mem_cons_of_mem _ hz)⟩
    have:=(insRev_perm (cD g S) r x).mem_iff.1 hz
    rcases List.mem_cons.1 this with rfl | hz
    ·exact .inl h
    ·exact hp.1 z hz
   ·rename_i h
    rw [cD_neg] at h
    rw [List.pairwise_cons,List.pairwise_cons]
    have hyx:=hx y List.mem_cons_self
    refine ⟨fun z hz=>?_,hp.1,hp.2⟩
    rcases List.mem_cons.1 hz with rfl | hz
    ·unfold Lt; omega
    ·have h1:=hp.1 z hz
     have h2:=hx z (List.mem_cons_of_mem _ hz)
     unfold Lt at *
     omega
theorem isort_pair {l : List Int} (h : l.Pairwise (· < ·)) : (isort (cD g S) l).Pairwise (Lt g S):=by
 have key : ∀ (l acc : List Int),l.Pairwise (· < ·) → acc.Pairwise (fun a b=>Lt g S b a) → (∀ y ∈ acc,∀ x ∈ l,y < x) → (l.foldl (insRev (cD g S)) acc).Pairwise fun a b=>Lt g S b a:=by
  intro l
  induction l with
  | nil=>intro acc _ h _; exact h
  | cons x l ih =>
    intro acc hl hacc hlt
    rw [List.pairwise_cons] at hl
    refine ih _ hl.2 (insRev_pair acc x hacc fun y hy=>hlt y hy x List.mem_cons_self) fun y hy z hz=>?_
    have:=(insRev_perm (cD g S) acc x).mem_iff.1 hy
    rcases List.mem_cons.1 this with rfl | hy
    ·exact hl.1 z hz
    ·exact hlt y hy z (List.mem_cons_of_mem _ hz)
 unfold isort isortRev
 rw [List.pairwise_reverse]
 exact key l [] h .nil (by simp)
theorem sorted_unique {R : Int → Int → Prop} (hR : ∀ a b,R a b → ¬ R b a) : ∀ {l1 l2 : List Int},l1.Pairwise R → l2.Pairwise R → (∀ x,x ∈ l1 ↔ x ∈ l2) → l1 = l2
 | [],[],_,_,_=>rfl
 | [],b :: l2,_,_,h=>absurd ((h b).2 List.mem_cons_self) (by simp)
 | a :: l1,[],_,_,h=>absurd ((h a).1 List.mem_cons_self) (by simp)
 | a :: l1,b :: l2,h1,h2,h=>by
   rw [List.pairwise_cons] at h1 h2
   have hab : a = b:=by
    rcases List.mem_cons.1 ((h a).1 List.mem_cons_self) with e | ha
    ·exact e
    ·rcases List.mem_cons.1 ((h b).2 List.mem_cons_self) with e | hb
     ·exact e.symm
     ·exact absurd (h1.1 b hb) (hR _ _ (h2.1 a ha))
   subst hab
   congr 1
   refine sorted_unique hR h1.2 h2.2 fun x=>?_
   constructor
   ·intro hx
    rcases List.mem_cons.1 ((h x).1 (List.mem_cons_of_mem _ hx)) with rfl | hx2
    ·exact absurd (h1.1 x hx) (fun q=>hR _ _ q q)
    ·exact hx2
   ·intro hx
    rcases List.mem_cons.1 ((h x).2 (List.mem_cons_of_mem _ hx)) with rfl | hx2
    ·exact absurd (h2.1 x hx) (fun q=>hR _ _ q q)
    ·exact hx2
theorem order_eq (hg : GrOk g) : isort (cD g S) (whereQ g.size.toNat fun k=>decide (0 ≤ dist g S k)) = ordL g S:=by
 refine sorted_unique (R:=Lt g S) (fun a b h1 h2=>by unfold Lt at *; omega) (isort_pair (whereQ_pair _ _)) (ordN_pair _) fun x=>?_
 have hp : x ∈ isort (cD g S) (whereQ g.size.toNat fun k=>decide (0 ≤ dist g S k)) ↔ x ∈ whereQ g.size.toNat fun k=>decide (0 ≤ dist g S k):=by
  unfold isort
  rw [List.mem_reverse]
  exact (isortRev_perm _ _).mem_iff
 rw [hp,mem_whereQ]
 have hm:=mem_ordN (g:=g) (S:=S) (m:=g.size.toNat) (x:=x)
 unfold ordL
 rw [hm]
 simp only [decide_eq_true_eq]
 constructor
 ·rintro ⟨h1,h2⟩
  refine ⟨h1,h2,?_⟩
  rcases dist_lt hg (S:=S) (k:=x) ⟨h1.1,by omega⟩ with h | h <;> omega
 ·rintro ⟨h1,h2,_⟩
  exact ⟨h1,h2⟩
section
variable {P : Program} {np id : Nat} {h : Nat → Option Ent} {K : AV → List Nat → List (Nat × Option Ent) → Prop} {f : FuncId} {first capt args args' : List AV} {res : AV}
theorem callN1r (sn : List Nat) {e : Ent} (hc : ACalls P f args' [] res [some e]) (he : (first ++ args ++ capt).map (conv [] sn h 4) = args') (hp : Plain res) (hpe : PlainE e)
  (hk : K (conv (swp [] id) [] (fun _=>none) 4 res) sn [(id,some (convE (swp [] id) [] (fun _=>none) 4 e))]) : aK P np id .call (.fn (.func f) first capt :: args) h K :=
 ⟨[],sn,false,args',[],res,[some e],by simp,by simp,by simp,by rw [List.zipIdx_nil,he]; exact wkL_refl _,rfl,hc,by simp,.inr ⟨hp,fun e' he'=>by simp at he'; subst he'; exact hpe⟩,by simpa [swp] using hk⟩
end
theorem plainI {l : List Int} : PlainE ⟨1,rowsI l,0⟩:=by
 intro row hrow x hx
 simp only [List.mem_map] at hrow
 obtain ⟨y,_,rfl⟩:=hrow
 simp at hx
 subst hx
 exact .sc _
variable {g : Gr} {S : List Int}
set_option maxHeartbeats 1000000 in
set_option maxRecDepth 100000 in
theorem distance_Order_ok (hg : GrOk g) (hN : g.size < 20) (hS : S.length ≤ 1099511627776) : ACalls Tryz.prog ndistance_Order [eG g,ints S] [] (.rs 0 0 (ordL g S).length) [some ⟨1,rowsI (ordL g S),0⟩]:=by
 refine sdistance_Order.acalls (Nat.le_of_ble_eq_true rfl) (Nat.le_of_ble_eq_true rfl) (Nat.zero_le _) ?_
 show awp _ 0 _ _ ⟨18,[(0,eG g),(1,ints S)],[],16⟩
 have hsz:=hg.1.1
 obtain ⟨N,hNe⟩ : ∃ N : Nat,N = g.size.toNat:=⟨_,rfl⟩
 have hall:=distance_All_ok g S hg hS
 have hDl : (distL g S).length = N:=by rw [distL_len,hNe]
 have hDg : ∀ k : Nat,k < N → (distL g S).getD k 0 = dist g S k:=fun k hk=>distL_get (by omega)
 rw [← hNe] at hall
 obtain ⟨D,hD⟩ : ∃ D,D = distL g S:=⟨_,rfl⟩
 rw [← hD] at hall hDl hDg
 obtain ⟨W,hW⟩ : ∃ W,W = whereQ N fun k=>decide (0 ≤ dist g S k):=⟨_,rfl⟩
 have hWl : W.length ≤ N:=by rw [hW]; exact whereQ_le _ _
 have hWm : ∀ x ∈ W,0 ≤ x ∧ x < N:=fun x hx=>by rw [hW] at hx; exact (mem_whereQ.1 hx).1
 have hwhere : ACalls Tryz.prog nlists_Where [.I N,.fn (.func ndistance_Order_c1) [] [.pv [ints D]]] [] (.rs 0 0 W.length) [some ⟨1,rowsI W,0⟩]:=by
  have:=Where_ok ndistance_Order_c1 [.pv [ints D]] (fun k=>decide (0 ≤ dist g S k)) N (by omega) (fun ρ sn h n=>by simp) (fun k hk=>by
   have h1:=Order_c1_ok D k (by omega)
   rw [hDg k (by omega)] at h1
   exact h1)
  simpa [← hW] using this
 have hsort:=SortStable_ok ndistance_Order_c2 [.pv [ints D]] (cD g S) W W.length rfl (by omega) (fun ρ sn h n=>by simp) (fun x hx y hy=>by
  obtain ⟨a,ha⟩ : ∃ a : Nat,x = a:=⟨x.toNat,by have:=hWm x hx; omega⟩
  obtain ⟨b,hb⟩ : ∃ b : Nat,y = b:=⟨y.toNat,by have:=hWm y hy; omega⟩
  have h1:=hWm x hx
  have h2:=hWm y hy
  subst ha hb
  have h3:=Order_c2_ok D a b (by omega) (by omega)
  rw [hDg a (by omega),hDg b (by omega)] at h3
  exact h3)
 have hord : isort (cD g S) W = ordL g S:=by rw [hW,hNe]; exact order_eq hg
 have hol : (ordL g S).length = W.length:=by
  rw [← hord]
  unfold isort
  rw [List.length_reverse,isortRev_len]
 rw [hord] at hsort
 have htk : List.take N (rowsI D) = rowsI D:=List.take_of_length_le (by simp [hDl])
 have hRl : (rowsI D).length = N:=by simp [hDl]
 refine awp_regc ⟨18,[(1,ints S),(2,.pv (gC g))],[],32⟩ rfl ?_ ?_
 ·simp
  exact Le.snap [16] rfl rfl (by simp)
 refine awp_regc ⟨18,[(5,.pv [ints D])],[],72⟩ rfl ?_ ?_
 ·simp
  refine callN1 hall rfl ?_
  simp [fcd]
  exact Le.snap [48,56] rfl rfl (by simp [fcd,← hDl,take_map_len])
 refine awp_regc ⟨18,[(5,.pv [ints D]),(6,.rs 96 0 W.length)],[(96,some ⟨1,rowsI W,0⟩)],112⟩ rfl ?_ ?_
 ·simp [hDl]
  refine callN1 hwhere (by simp) ?_
  simp [fcd]
  exact Le.keep rfl (Nat.le_refl _) (by simp) (by simp)
 rw [hol]
 refine awp_regc ⟨18,[(6,.rs 96 0 W.length)],[(96,some ⟨1,rowsI (ordL g S),0⟩)],136⟩ rfl ?_ ?_
 ·simp
  refine callM1 (i:=96) rfl (e':=⟨1,rowsI W,0⟩) (by simp [fcd]) hsort (by simp) (by simp) ?_
  simp [fcd]
  exact Le.keep rfl (Nat.le_refl _) (by simp) (by simp)
 refine awp_seq ?_
 refine awp_run (s:=?s1) rfl ?o1 ?q1
 case o1=>simp; rfl
 refine awp_ret ?_
 exact ⟨.inr rfl,RetOk.out [96] [] rfl (by simp) (by simp) (by simp) (by simp [fcd])⟩
set_option maxHeartbeats 1000000 in
set_option maxRecDepth 100000 in
theorem ref12_Order_ok (hg : GrOk g) (hS : S.length ≤ 1099511627776) : ACalls Tryz.prog nref12_Order [eG g,ints S] [] (.rs 0 0 (ordL g S).length) [some ⟨1,rowsI (ordL g S),0⟩]:=by
 refine sref12_Order.acalls (Nat.le_of_ble_eq_true rfl) (Nat.le_of_ble_eq_true rfl) (Nat.zero_le _) ?_
 show awp _ 0 _ _ ⟨35,[(0,eG g),(1,ints S)],[],16⟩
 have hsz:=hg.1.1
 have hsz2:=hg.1.2.1
 obtain ⟨N,hNe⟩ : ∃ N : Nat,N = g.size.toNat:=⟨_,rfl⟩
 have hall:=ref12_All_ok g S hg hS
 have hDl : (distL g S).length = N:=by rw [distL_len,hNe]
 have hDg : ∀ k : Nat,k < N → (rowsI (distL g S))[k]? = some [AV.I (dist g S k)]:=fun k hk=>by simp [distL,show k < g.size.toNat by omega]
 rw [← hNe] at hall
 obtain ⟨D,hD⟩ : ∃ D,D = distL g S:=⟨_,rfl⟩
 rw [← hD] at hall hDl hDg
 refine awp_regc ⟨35,[(1,ints S),(2,.pv (gC g))],[],32⟩ rfl ?_ ?_
 ·simp
  exact Le.snap [16] rfl rfl (by simp)
 refine awp_regc ⟨35,[(2,.pv (gC g)),(5,ints D)],[],64⟩ rfl ?_ ?_
 ·simp
  refine callN1 hall rfl ?_
  simp [fcd]
  exact Le.snap [48] rfl rfl (by simp [fcd,← hDl,take_map_len])
 refine awp_seq ?_
 refine awp_run (s:=?s1) rfl ?o1 ?q1
 case o1=>simp; rfl
 refine awp_seq ?_
 refine awp_seq ?_
 refine awp_run (s:=?s2) rfl ?o2 ?q2
 case o2=>simp; rfl
 refine awp_block ?_
 have hcount : ∀ n k : Nat,n ≤ N → k ≤ N → (ordN g S n ++ whereQ k fun x=>decide (dist g S x = n)).length ≤ 100000:=by
  intro n k hn hk
  have h1 : ∀ m : Nat,m ≤ 64 → (ordN g S m).length ≤ m * 64:=by
   intro m
   induction m with
   | zero=>intro _; simp [ordN]
   | succ m ih =>
     intro hm
     rw [ordN,List.length_append]
     have:=ih (by omega)
     have:=whereQ_le g.size.toNat fun k=>decide (dist g S k = m)
     omega
  have:=h1 n (by omega)
  have:=whereQ_le k fun x=>decide (dist g S x = n)
  rw [List.length_append]
  omega
 let T : Nat → Nat → List Int:=fun n k=>ordN g S n ++ whereQ k fun x=>decide (dist g S x = n)
 have hT0 : ∀ n,T n 0 = ordN g S n:=fun n=>by simp [T,whereQ]
 have hTN : ∀ n,T n N = ordN g S (n + 1):=fun n=>by simp only [T]; rw [hNe]; rfl
 let C : Nat → St:=fun n=>⟨35,[(2,.pv (gC g)),(5,ints D),(6,.rs 16 0 (ordN g S n).length),(7,.I n)],[(16,some ⟨1,rowsI (ordN g S n),0⟩)],80⟩
 refine awp_loop C (fun n=>n ≤ N) (fun n=>N - n) 0 (Nat.zero_le _) (Le.lst [] [] [(16,1)] rfl (by simp) (by simp) (by simp) (by simp [C]) (by simp) (by simp) (by simp) (by simp [C,Up,ordN]) (by simp [C,ordN])) ?_
 intro n hn
 have hCn : C n = ⟨35,[(2,.pv (gC g)),(5,ints D),(6,.rs 16 0 (ordN g S n).length),(7,.I n)],[(16,some ⟨1,rowsI (ordN g S n),0⟩)],80⟩:=rfl
 rw [hCn]
 refine awp_seq ?_
 refine awp_regc ⟨35,[(2,.pv (gC g)),(5,ints D),(6,.rs 16 0 (ordN g S n).length),(7,.I n),(15,.B (decide ((n : Int) < g.size)))],[(16,some ⟨1,rowsI (ordN g S n),0⟩)],112⟩ rfl ?_ ?_
 ·simp
  exact Le.keep rfl (Nat.le_refl _) (by simp) (by simp)
 refine awp_cond _ rfl (fun h=>awp_skip ?_) fun h=>awp_exit (hit ?_)
 ·simp only [decide_eq_true_eq] at h
  refine awp_cut (ι:=Unit) (fun _=>⟨35,[(2,.pv (gC g)),(5,ints D),(6,.rs 16 0 (ordN g S (n + 1)).length),(7,.I n)],[(16,some ⟨1,rowsI (ordN g S (n + 1)),0⟩)],80⟩) (fun _=>True) ?_ fun _ _=>?_
  ·rw [← hT0 n,← hTN n]
   refine awp_block ?_
   refine awp_regc ⟨35,[(2,.pv (gC g)),(5,ints D),(6,.rs 16 0 (T n 0).length),(7,.I n),(8,.I 0)],[(16,some ⟨1,rowsI (T n 0),0⟩)],120⟩ rfl ?_ ?_
   ·simp
    exact Le.keep rfl (Nat.le_refl _) (by simp) (by simp)
   refine awp_block ?_
   refine awp_loop (ι:=Nat) (fun k=>⟨35,[(2,.pv (gC g)),(5,ints D),(6,.rs 16 0 (T n k).length),(7,.I n),(8,.I k)],[(16,some ⟨1,rowsI (T n k),0⟩)],120⟩) (fun k=>k ≤ N) (fun k=>N - k) 0 (Nat.zero_le _) (Le.refl _ _) ?_
   intro k hk
   have hTl:=hcount n k (by omega) hk
   have hTs : T n (k + 1) = T n k ++ if dist g S k = n then [(k : Int)] else []:=by
    simp only [T]
    rw [whereQ_succ,List.append_assoc]
    congr 2
    by_cases hq : dist g S k = n <;> simp [hq]
   have hTe : T n k = ordN g S n ++ whereQ k fun x=>decide (dist g S x = n):=rfl
   rw [← hTe] at hTl
   refine awp_seq ?_
   refine awp_regc ⟨35,[(2,.pv (gC g)),(5,ints D),(6,.rs 16 0 (T n k).length),(7,.I n),(8,.I k),(21,.B (decide ((k : Int) < g.size)))],[(16,some ⟨1,rowsI (T n k),0⟩)],152⟩ rfl ?_ ?_
   ·simp
    exact Le.keep rfl (Nat.le_refl _) (by simp) (by simp)
   refine awp_cond _ rfl (fun h2=>awp_skip ?_) fun h2=>awp_exit (hit ?_)
   ·simp only [decide_eq_true_eq] at h2
    have hkN : k < N:=by omega
    have hget:=hDg k hkN
    refine awp_cut (ι:=Unit) (fun _=>⟨35,[(2,.pv (gC g)),(5,ints D),(6,.rs 16 0 (T n (k + 1)).length),(7,.I n),(8,.I k)],[(16,some ⟨1,rowsI (T n (k + 1)),0⟩)],120⟩) (fun _=>True) ?_ fun _ _=>?_
    ·rw [hTs]
     generalize T n k = A at *
     refine awp_block ?_
     refine awp_regc ⟨35,[(2,.pv (gC g)),(5,ints D),(6,.rs 16 0 A.length),(7,.I n),(8,.I k),(29,.B (decide (dist g S k = n)))],[(16,some ⟨1,rowsI A,0⟩)],200⟩ rfl ?_ ?_
     ·simp only [o_cons,List.map_cons,List.map_nil]
      simp
      have hget2 : D[k]? = some (dist g S k):=by
       have:=hget
       rw [rowsI,List.getElem?_map] at this
       cases hq : D[k]? with
       | none=>rw [hq] at this; simp at this
       | some v=>rw [hq] at this; simp at this; rw [this]
      simp [hget2]
      exact Le.keep rfl (Nat.le_refl _) (by simp <;> rw [Bool.eq_iff_iff] <;> simp) (by simp)
     refine awp_cond _ rfl (fun h5=>?_) fun h5=>awp_skip ?_
     ·simp only [decide_eq_true_eq] at h5
      rw [if_pos h5]
      refine awp_reg rfl ?_
      simp [List.replicate]
      refine ⟨by omega,by omega,ents1 (i:=224) (sn:=[]) rfl rfl (by simp) (by simp) rfl (by simp [fcd,take_map_len]) (by simp) (by simp)⟩
     ·simp only [decide_eq_false_iff_not] at h5
      rw [if_neg h5,List.append_nil]
      exact ⟨(),trivial,Le.l1 16 16 [] rfl rfl (by simp) (by simp) rfl (by simp)⟩
    have hwk : IntKind.i64.wrap ((k : Int) + 1) = ((k + 1 : Nat) : Int):=by rw [w64 (by omega) (by omega)]; omega
    refine awp_reg rfl ?_
    simp [hwk]
    exact ⟨k + 1,by omega,by omega,Le.l1 16 16 [] rfl rfl (by simp) (by simp) rfl (by simp)⟩
   simp only [decide_eq_false_iff_not] at h2
   obtain rfl : k = N:=by omega
   exact ⟨(),trivial,Le.l1 16 16 [] rfl rfl (by simp) (by simp) rfl (by simp)⟩
  have hwn : IntKind.i64.wrap ((n : Int) + 1) = ((n + 1 : Nat) : Int):=by rw [w64 (by omega) (by omega)]; omega
  refine awp_reg rfl ?_
  simp [hwn]
  exact ⟨n + 1,by omega,by omega,Le.l1 16 16 [] rfl rfl (by simp [C]) (by simp) rfl (by simp [C])⟩
 simp only [decide_eq_false_iff_not] at h
 obtain rfl : n = N:=by omega
 have hfin : ordN g S n = ordL g S:=by rw [hNe]; rfl
 rw [hfin]
 refine awp_seq ?_
 refine awp_run (s:=?z9) rfl ?p9 ?r9
 case p9=>simp; rfl
 refine awp_ret ?_
 exact ⟨.inr rfl,RetOk.out [16] [] rfl (by simp) (by simp) (by simp) (by simp [fcd])⟩
def endsE (e : Ed) : Int × Int:=(e.f,e.t)
theorem uniq_of_nodup {A : List Ed} (h : (A.map endsE).Nodup) {i j : Nat} (hi : i < A.length) (hj : j < A.length) (h1 : (arcD A i).f = (arcD A j).f) (h2 : (arcD A i).t = (arcD A j).t) : i = j:=by
 have hg : ∀ k (hk : k < A.length),(A.map endsE)[k]'(by simpa using hk) = endsE (arcD A k):=fun k hk=>by
  rw [List.getElem_map]
  unfold arcD
  rw [List.getD_eq_getElem?_getD,List.getElem?_eq_getElem hk,Option.getD_some]
 have he : endsE (arcD A i) = endsE (arcD A j):=by unfold endsE; rw [h1,h2]
 rcases Nat.lt_trichotomy i j with hlt | heq | hgt
 ·exact absurd ((hg i hi).trans (he.trans (hg j hj).symm)) (List.pairwise_iff_getElem.1 h i j (by simpa using hi) (by simpa using hj) hlt)
 ·exact heq
 ·exact absurd ((hg j hj).trans (he.symm.trans (hg i hi).symm)) (List.pairwise_iff_getElem.1 h j i (by simpa using hj) (by simpa using hi) hgt)
theorem nodup_map_of {α β : Type} {φ : α → β} {l : List α} (h : l.Nodup) (hi : ∀ a ∈ l,∀ b ∈ l,φ a = φ b → a = b) : (l.map φ).Nodup:=by
 rw [List.Nodup,List.pairwise_map]
 exact List.Pairwise.imp_of_mem (fun {a b} ha hb hab he=>hab (hi a ha b hb he)) h
theorem netArcs_net {g : Gr} {p : Pol} {c sinks seeds' : List Int} {E : Int → Int → Prop} (hE : ∀ e ∈ (levelG g p.lv).edges,0 < c.getD e.f.toNat 0 → E e.f e.t) (hS : ∀ x ∈ p.seeds,0 < c.getD x.toNat 0 → x ∈ seeds') (hs : p.seeds.Nodup) (hs0 : ∀ x ∈ p.seeds,0 ≤ x) (hk : sinks.Nodup) (hk0 : ∀ x ∈ sinks,0 ≤ x) (he : ((levelG g p.lv).edges.map endsE).Nodup) (he0 : ∀ e ∈ (levelG g p.lv).edges,0 ≤ e.f ∧ 0 ≤ e.t) :
  KeyNet (netArcs g p c sinks) E seeds' sinks fun x=>c.getD x.toNat 0:=by
 refine ⟨fun i hi=>?_,fun i j hi hj=>uniq_of_nodup ?_ hi hj⟩
 ·have hm:=arcD_mem hi
  revert hm
  generalize arcD (netArcs g p c sinks) i = a
  intro hm
  unfold netArcs at hm
  rcases List.mem_append.1 hm with hm | hm
  ·rcases List.mem_append.1 hm with hm | hm
   ·rcases List.mem_append.1 hm with hm | hm
    ·obtain ⟨x,hx,rfl⟩:=List.mem_map.1 hm
     have hx:=List.mem_filter.1 hx
     exact .inl ⟨x,hS x hx.1 (by simpa using hx.2),hs0 x hx.1,rfl⟩
    ·obtain ⟨x,hx,rfl⟩:=List.mem_map.1 hm
     exact .inr (.inl ⟨x,Int.natCast_nonneg _,by simp⟩)
   ·obtain ⟨x,hx,rfl⟩:=List.mem_map.1 hm
    have hx:=(List.mem_filter.1 hx).1
    exact .inr (.inr (.inl ⟨x,hx,hk0 x hx,rfl⟩))
  ·obtain ⟨e,hx,rfl⟩:=List.mem_map.1 hm
   have hx:=List.mem_filter.1 hx
   have h0:=he0 e hx.1
   exact .inr (.inr (.inr ⟨e.f,e.t,h0.1,h0.2,hE e hx.1 (by simpa using hx.2),rfl⟩))
 ·unfold netArcs
  simp only [List.map_append,List.map_map]
  refine List.nodup_append.2 ⟨List.nodup_append.2 ⟨List.nodup_append.2 ⟨?_,?_,?_⟩,?_,?_⟩,?_,?_⟩
  ·exact nodup_map_of (hs.filter _) fun a _ b _ h=>by simp [endsE] at h; omega
  ·exact nodup_map_of (List.nodup_range.filter _) fun a _ b _ h=>by simp [endsE] at h; omega
  ·intro a ha b hb
   obtain ⟨x,hx,rfl⟩:=List.mem_map.1 ha
   obtain ⟨y,hy,rfl⟩:=List.mem_map.1 hb
   intro h
   simp [endsE] at h
   omega
  ·exact nodup_map_of (hk.filter _) fun a _ b _ h=>by simp [endsE] at h; omega
  ·intro a ha b hb
   obtain ⟨y,hy,rfl⟩:=List.mem_map.1 hb
   have hy0:=hk0 y (List.mem_filter.1 hy).1
   rcases List.mem_append.1 ha with ha | ha
   ·obtain ⟨x,hx,rfl⟩:=List.mem_map.1 ha
    intro h
    simp [endsE] at h
    omega
   ·obtain ⟨x,hx,rfl⟩:=List.mem_map.1 ha
    intro h
    simp [endsE] at h
    omega
  ·have h1 : ((levelG g p.lv).edges.filter fun e=>decide (0 < c.getD e.f.toNat 0)).Pairwise fun a b=>endsE a ≠ endsE b:=by
    rw [List.Nodup,List.pairwise_map] at he
    exact he.filter _
   rw [List.Nodup,List.pairwise_map]
   refine h1.imp fun {a b} hab h=>hab ?_
   simp [endsE] at h
   unfold endsE
   rw [show a.f = b.f by omega,show a.t = b.t by omega]
  ·intro a ha b hb
   obtain ⟨e,hy,rfl⟩:=List.mem_map.1 hb
   have hy0:=he0 e (List.mem_filter.1 hy).1
   rcases List.mem_append.1 ha with ha | ha
   ·rcases List.mem_append.1 ha with ha | ha
    ·obtain ⟨x,hx,rfl⟩:=List.mem_map.1 ha
     intro h
     simp [endsE] at h
     omega
    ·obtain ⟨x,hx,rfl⟩:=List.mem_map.1 ha
     intro h
     simp [endsE] at h
     omega
   ·obtain ⟨x,hx,rfl⟩:=List.mem_map.1 ha
    intro h
    simp [endsE] at h
    omega
structure Expl where
 key : Int
 acc : Bool
 before : List Int
 paths : List (List Int)
 side : List Int
theorem ordL_nodup (g : Gr) (S : List Int) : (ordL g S).Nodup:=by
 refine (ordN_pair (g:=g) (S:=S) g.size.toNat).imp fun {a b} h e=>?_
 subst e
 unfold Lt at h
 omega
theorem ordL_range {g : Gr} {S : List Int} {k : Int} (h : k ∈ ordL g S) : 0 ≤ k ∧ k < g.size:=by
 have:=mem_ordN.1 h
 omega
open Classical in
noncomputable def checkC (g : Gr) (p : Pol) (x : Expl) : Int :=
 let order:=ordL (levelG g p.lv) p.seeds
 let c:=capsL g p
 if x.key ∉ order then 11
 else if ¬ BeforeP order x.before x.key ∨ (x.acc = true ∧ x.side ≠ []) ∨ (x.acc = false ∧ x.paths ≠ []) then 1
 else if x.acc = true then (if ServesC g p.lv p.seeds order c x.paths (x.before ++ [x.key]) then 0 else 52)
 else if ProvesP ⟨2 + 2 * g.size,netArcs g p c (srt (x.before ++ [x.key]))⟩ x.side x.before.length then 0 else 52
open Classical in
noncomputable def checkR (g : Gr) (p : Pol) (x : Expl) : Int :=
 let order:=ordL (levelG g p.lv) p.seeds
 let c:=capsL g p
 if x.key ∉ order then 11
 else if ¬ BeforeP order x.before x.key ∨ (x.acc = true ∧ x.side ≠ []) ∨ (x.acc = false ∧ x.paths ≠ []) then 1
 else if x.acc = true then (if ServesR g p.lv p.seeds order c x.paths (x.before ++ [x.key]) then 0 else 52)
 else if ProvesP ⟨2 + 2 * g.size,netArcs g p c (joinL (x.before ++ [x.key]))⟩ x.side x.before.length then 0 else 52
theorem check_same {g : Gr} (hs : g.size ≤ 64) (p : Pol) (x : Expl) : checkC g p x = checkR g p x:=by
 unfold checkC checkR
 simp only
 have hno:=ordL_nodup (levelG g p.lv) p.seeds
 have hra : ∀ k ∈ ordL (levelG g p.lv) p.seeds,0 ≤ k ∧ k < 64:=fun k hk=>by
  have:=ordL_range hk
  have h2 : (levelG g p.lv).size = g.size:=rfl
  omega
 generalize ordL (levelG g p.lv) p.seeds = o at *
 by_cases h1 : x.key ∈ o
 ·by_cases h2 : ¬ BeforeP o x.before x.key ∨ (x.acc = true ∧ x.side ≠ []) ∨ (x.acc = false ∧ x.paths ≠ [])
  ·rw [if_neg (not_not_intro h1),if_pos h2,if_neg (not_not_intro h1),if_pos h2]
  ·rw [if_neg (not_not_intro h1),if_neg h2,if_neg (not_not_intro h1),if_neg h2]
   have h3 : BeforeP o x.before x.key:=Classical.byContradiction fun h=>h2 (.inl h)
   have h4:=h3.nodup hno
   have h5 : ∀ k ∈ x.before ++ [x.key],0 ≤ k ∧ k < 64:=fun k hk=>by
    rcases List.mem_append.1 hk with hk | hk
    ·exact hra k ((List.takeWhile_sublist _).subset (h3.subset hk))
    ·rw [List.mem_singleton] at hk
     rw [hk]
     exact hra _ h1
   rw [srt_join h4 h5]
   by_cases ha : x.acc = true
   ·rw [if_pos ha,if_pos ha]
    by_cases hc : ServesC g p.lv p.seeds o (capsL g p) x.paths (x.before ++ [x.key])
    ·rw [if_pos hc,if_pos ((serves_iff h4).1 hc)]
    ·rw [if_neg hc,if_neg fun h=>hc ((serves_iff h4).2 h)]
   ·rw [if_neg ha,if_neg ha]
 ·rw [if_pos h1,if_pos h1]
theorem capsL_get {g : Gr} {p : Pol} {k : Int} (h0 : 0 ≤ k) (h1 : k < g.size) : (capsL g p).getD k.toNat 0 = capOf p (dist (levelG g p.lv) p.seeds k):=by
 unfold capsL distL
 have h2 : k.toNat < (levelG g p.lv).size.toNat:=by show k.toNat < g.size.toNat; omega
 rw [List.getD_eq_getElem?_getD,List.getElem?_map,List.getElem?_map,List.getElem?_range h2]
 simp only [Option.map_some,Option.getD_some]
 rw [show ((k.toNat : Nat) : Int) = k by omega]
theorem capsL_out {g : Gr} {p : Pol} {k : Int} (h1 : g.size ≤ k) : (capsL g p).getD k.toNat 0 = 0:=by
 unfold capsL distL
 have h2 : ¬ k.toNat < (levelG g p.lv).size.toNat:=by show ¬ k.toNat < g.size.toNat; omega
 rw [List.getD_eq_getElem?_getD,List.getElem?_eq_none (by simp; omega)]
 rfl
theorem capsL_nonneg {g : Gr} {p : Pol} {n : Int} (hp : PolOk n p) : ∀ x ∈ capsL g p,0 ≤ x:=fun x hx=>by
 unfold capsL at hx
 obtain ⟨d,_,rfl⟩:=List.mem_map.1 hx
 exact (capOf_bound hp d).1
theorem caps_reach {g : Gr} {p : Pol} {n : Int} (hp : PolOk n p) {k : Int} (h0 : 0 ≤ k) : 0 < (capsL g p).getD k.toNat 0 ↔ k < g.size ∧ 0 ≤ dist (levelG g p.lv) p.seeds k:=by
 by_cases h1 : k < g.size
 ·rw [capsL_get h0 h1,capOf_pos hp]
  exact ⟨fun h=>⟨h1,h⟩,fun h=>h.2⟩
 ·rw [capsL_out (by omega)]
  constructor
  ·intro h; omega
  ·intro h; exact absurd h.1 h1
theorem GrOk.level {g : Gr} (h : GrOk g) (v : Int) : GrOk (levelG g v):=by
 refine ⟨⟨h.1.1,h.1.2.1,Nat.le_trans (List.length_filter_le _ _) h.1.2.2.1,h.1.2.2.2⟩,fun i hi=>?_⟩
 have hm : (levelG g v).edges[i] ∈ g.edges:=(List.mem_filter.1 (List.getElem_mem hi)).1
 obtain ⟨j,hj,hje⟩:=List.mem_iff_getElem.1 hm
 have h1:=h.2 j hj
 rw [hje] at h1
 refine ⟨h1.1,h1.2.1,h1.2.2.1,fun h0=>?_⟩
 rw [cmpE_lt]
 have hp : (levelG g v).edges.Pairwise Bef:=h.pair.filter _
 exact List.pairwise_iff_getElem.1 hp (i - 1) i (by omega) hi (by omega)
theorem mem_ordL {g : Gr} (h : GrOk g) {S : List Int} {k : Int} : k ∈ ordL g S ↔ Key g k ∧ 0 ≤ dist g S k:=by
 unfold ordL
 rw [mem_ordN]
 constructor
 ·rintro ⟨⟨h1,h2⟩,h3,_⟩
  exact ⟨⟨h1,by omega⟩,h3⟩
 ·rintro ⟨h1,h2⟩
  have h3:=dist_lt (S:=S) h h1
  have h4:=h1.1
  have h5:=h1.2
  exact ⟨⟨h4,by omega⟩,h2,by omega⟩
theorem level_ends {g : Gr} (h : GrOk g) (v : Int) : ((levelG g v).edges.map endsE).Nodup ∧ ∀ e ∈ (levelG g v).edges,0 ≤ e.f ∧ e.f < g.size ∧ 0 ≤ e.t ∧ e.t < g.size:=by
 have hl:=h.level v
 refine ⟨?_,fun e he=>?_⟩
 ·rw [List.Nodup,List.pairwise_map]
  refine hl.pair.imp fun {a b} hab he=>?_
  unfold Bef at hab
  unfold endsE at he
  simp at he
  omega
 ·obtain ⟨i,hi,rfl⟩:=List.mem_iff_getElem.1 he
  have h1:=(hl.2 i hi).1
  have h2 : (levelG g v).size = g.size:=rfl
  unfold Fits at h1
  omega
theorem Rise.nodup {l : List Int} {lo hi : Int} (h : Rise l lo hi) : l.Nodup ∧ ∀ x ∈ l,lo ≤ x ∧ x ≤ hi:=by
 have hlt : ∀ (j i : Nat) (hj : j < l.length) (hij : i < j),l[i] < l[j]:=by
  intro j
  induction j with
  | zero=>intro i _ hij; omega
  | succ j ih =>
    intro i hj hij
    have h1:=(h (j + 1) hj).2.2 (by omega)
    simp only [Nat.add_sub_cancel] at h1
    rcases Nat.lt_or_ge i j with h2 | h2
    ·have:=ih i (by omega) h2
     omega
    ·have : i = j:=by omega
     subst this
     exact h1
 refine ⟨List.pairwise_iff_getElem.2 fun i j hi hj hij he=>?_,fun x hx=>?_⟩
 ·have:=hlt j i hj hij
  omega
 ·obtain ⟨i,hi,rfl⟩:=List.mem_iff_getElem.1 hx
  have:=h i hi
  exact ⟨this.1,this.2.1⟩
theorem ways_checked {g : Gr} {p : Pol} {sinks ends f : List Int} {W : List (List Nat)} (hg : GrOk g) (hp : PolOk g.size p) (hk : sinks.Nodup) (hk0 : ∀ x ∈ sinks,0 ≤ x) (hpe : ends.Perm sinks)
  (hf : Fit2 (netArcs g p (capsL g p) sinks) f) (hw : ∀ w ∈ W,WayA (netArcs g p (capsL g p) sinks) 0 w 1 ∧ (metA (netArcs g p (capsL g p) sinks) w).Nodup)
  (hs : ∀ i,i < (netArcs g p (capsL g p) sinks).length → (sumN (List.count i) W : Int) ≤ f.getD i 0) (hl : W.length = sinks.length) :
  ServesR g p.lv p.seeds (ordL (levelG g p.lv) p.seeds) (capsL g p) (W.map (keysA (netArcs g p (capsL g p) sinks))) ends:=by
 have hgl:=hg.level p.lv
 have hse:=hp.2.1.nodup
 have hle:=level_ends hg p.lv
 have hmo : ∀ k,0 ≤ k → 0 < (capsL g p).getD k.toNat 0 → k ∈ ordL (levelG g p.lv) p.seeds:=fun k h0 hc=>by
  have h1:=(caps_reach hp h0).1 hc
  exact (mem_ordL hgl).2 ⟨⟨h0,h1.1⟩,h1.2⟩
 have hnet : KeyNet (netArcs g p (capsL g p) sinks) (fun x y=>EdgeAt g p.lv x y ∧ y ∈ ordL (levelG g p.lv) p.seeds) (p.seeds.filter fun x=>decide (x ∈ ordL (levelG g p.lv) p.seeds)) sinks fun x=>(capsL g p).getD x.toNat 0:=by
  refine netArcs_net (fun e he hc=>?_) (fun x hx hc=>?_) hse.1 (fun x hx=>(hse.2 x hx).1) hk hk0 hle.1 fun e he=>⟨(hle.2 e he).1,(hle.2 e he).2.2.1⟩
  ·have h0:=hle.2 e he
   have h1:=(caps_reach hp h0.1).1 hc
   have h2:=dist_edge hgl he h1.2
   refine ⟨?_,(mem_ordL hgl).2 ⟨⟨h0.2.2.1,h0.2.2.2⟩,h2.1⟩⟩
   unfold levelG at he
   have h3:=List.mem_filter.1 he
   refine ⟨e,h3.1,rfl,rfl,?_⟩
   have:=h3.2
   simp at this
   omega
  ·exact List.mem_filter.2 ⟨hx,by simpa using hmo x (hse.2 x hx).1 hc⟩
 obtain ⟨q1,q2,q3,q4⟩:=ways_serve hnet hf hw hs (capsL_nonneg hp)
 refine ⟨by rw [List.length_map,hl,hpe.length_eq],hpe.nodup_iff.2 hk,fun w hwW=>?_,fun k hkl=>hpe.mem_iff.2 (q3 k hkl),q2,q1⟩
 obtain ⟨⟨k,hk1,hk2⟩,h2,h3⟩:=q4 w hwW
 have hk3:=List.mem_filter.1 hk2
 have hk4 : k ∈ ordL (levelG g p.lv) p.seeds:=by simpa using hk3.2
 refine ⟨⟨k,hk1,hk3.1⟩,fun x hx=>?_,h2,fun i hi=>(h3 i hi).1⟩
 obtain ⟨i,hi,rfl⟩:=List.mem_iff_getElem.1 hx
 cases i with
 | zero =>
   rw [List.head?_eq_getElem?,List.getElem?_eq_getElem hi] at hk1
   rw [Option.some.inj hk1]
   exact hk4
 | succ i=>exact (h3 i hi).2
theorem GrOk.edges_le {g : Gr} (h : GrOk g) : g.edges.length ≤ 500:=h.1.2.2.1
theorem capsL_len {g : Gr} {p : Pol} : (capsL g p).length = g.size.toNat:=by simp [capsL,distL,levelG]
def capMid (g : Gr) (p : Pol) (k : Nat) : List Int:=(capsL g p).take k ++ (distL (levelG g p.lv) p.seeds).drop k
theorem capMid_len {g : Gr} {p : Pol} (k : Nat) (hk : k ≤ g.size.toNat) : (capMid g p k).length = g.size.toNat:=by simp [capMid,capsL_len,distL,levelG]; omega
theorem capMid_zero {g : Gr} {p : Pol} : capMid g p 0 = distL (levelG g p.lv) p.seeds:=by simp [capMid]
theorem capMid_all {g : Gr} {p : Pol} : capMid g p g.size.toNat = capsL g p:=by
 unfold capMid
 rw [List.take_of_length_le (by rw [capsL_len]; exact Nat.le_refl _),List.drop_eq_nil_of_le (by simp [distL,levelG])]
 simp
theorem capMid_get {g : Gr} {p : Pol} {k : Nat} (hk : k < g.size.toNat) : (capMid g p k)[k]? = some (dist (levelG g p.lv) p.seeds k):=by
 unfold capMid
 rw [List.getElem?_append_right (by simp [capsL_len]; omega)]
 simp [capsL_len,Nat.min_eq_left (Nat.le_of_lt hk),distL,levelG,hk]
theorem capMid_set {g : Gr} {p : Pol} {k : Nat} (hk : k < g.size.toNat) : (rowsI (capMid g p k)).set k [AV.I (capOf p (dist (levelG g p.lv) p.seeds k))] = rowsI (capMid g p (k + 1)):=by
 rw [show [AV.I (capOf p (dist (levelG g p.lv) p.seeds k))] = (fun n : Int=>[AV.I n]) (capOf p (dist (levelG g p.lv) p.seeds k)) from rfl]
 show (List.map (fun n : Int=>[AV.I n]) (capMid g p k)).set k _ = List.map (fun n : Int=>[AV.I n]) _
 rw [← List.map_set]
 congr 1
 have hc : k < (capsL g p).length:=by rw [capsL_len]; exact hk
 have hd : k < (distL (levelG g p.lv) p.seeds).length:=by simp [distL,levelG,hk]
 unfold capMid
 rw [List.set_append,if_neg (by simp [capsL_len]; omega)]
 rw [show k - ((capsL g p).take k).length = 0 by simp [capsL_len]; omega]
 rw [List.drop_eq_getElem_cons hd,List.set_cons_zero,List.take_succ_eq_append_getElem hc,List.append_assoc]
 congr 2
 simp [capsL,distL]
set_option maxRecDepth 100000 in
theorem capacity_All_ok (g : Gr) (p : Pol) (hg : GrOk g) (hs : p.seeds.length ≤ 1099511627776) : ACalls Tryz.prog ncapacity_All [eG g,eP p] [] (.rs 0 0 g.size.toNat) [some ⟨1,rowsI (capsL g p),0⟩]:=by
 refine scapacity_All.acalls (Nat.le_of_ble_eq_true rfl) (Nat.le_of_ble_eq_true rfl) (Nat.zero_le _) ?_
 show awp _ 0 _ _ ⟨30,[(0,eG g),(1,eP p)],[],16⟩
 have hsz:=hg.1.1
 have hsz2:=hg.1.2.1
 have hel:=hg.edges_le
 have hgl:=hg.gone_le
 have hall:=distance_All_ok (levelG g p.lv) p.seeds (hg.level p.lv) hs
 have hsl : (levelG g p.lv).size = g.size:=rfl
 rw [hsl,← capMid_zero] at hall
 obtain ⟨N,hNe⟩ : ∃ N : Nat,N = g.size.toNat:=⟨_,rfl⟩
 rw [← hNe] at hall
 have hml : ∀ k,k ≤ N → (rowsI (capMid g p k)).length = N:=fun k hk=>by rw [List.length_map,capMid_len k (by omega),hNe]
 have hmg : ∀ (k : Nat) (h : k < (capMid g p k).length),k < N → (capMid g p k)[k] = dist (levelG g p.lv) p.seeds k:=fun k h hk=>by
  have:=capMid_get (g:=g) (p:=p) (k:=k) (by omega)
  rw [List.getElem?_eq_getElem h] at this
  exact Option.some.inj this
 have hml2 : ∀ k,k ≤ N → (capMid g p k).length = N:=fun k hk=>by rw [capMid_len k (by omega),hNe]
 have hms : ∀ k : Nat,k < N → (rowsI (capMid g p k)).set k [AV.I (capOf p (dist (levelG g p.lv) p.seeds k))] = rowsI (capMid g p (k + 1)):=fun k hk=>capMid_set (by omega)
 refine rx (s:=?s1) [2,3] [] [16,24] rfl ?o1 ?q1
 case o1=>simp; rfl
 refine awp_dregc ⟨30,[(3,.pv (pC p)),(5,.rs 88 0 N)],[(88,some ⟨1,rowsI (capMid g p 0),0⟩)],104⟩ rfl ?_ ?_
 ·simp
  refine call0e (graph_Level_ok g p.lv (by omega) (by omega)) (by simp) ?_
  simp
  refine callN1 hall rfl ?_
  simp [fcd]
  exact ⟨rfl,Le.keep rfl (Nat.le_refl _) (by simp) (by simp)⟩
 refine awp_seq ?_
 refine rk (s:=?s3) [3,5,15,16,17] [88] rfl ?o3 ?q3
 case o3=>simp; rfl
 refine awp_block ?_
 refine awp_loop (ι:=Nat) (fun i=>⟨30,[(3,.pv (pC p)),(5,.rs 88 0 N),(15,.rs 88 0 N),(16,.I N),(17,.I i)],[(88,some ⟨1,rowsI (capMid g p i),0⟩)],128⟩) (fun i=>i ≤ N) (fun i=>N - i) 0 (by simp) (Le.keep rfl (Nat.le_refl _) (by simp) (by simp)) ?_
 intro i hi
 refine rk (s:=?s5) [3,5,15,16,17,18] [88] rfl ?o5 ?q5
 case o5=>simp; rfl
 refine awp_seq ?_
 refine awp_cond _ rfl (fun h6=>?_) fun h6=>?_
 ·simp at h6
  have hw : IntKind.i64.wrap ((i : Int) + 1) = (i : Int) + 1:=w64 (by omega) (by omega)
  refine awp_skip ?_
  refine awp_seq ?_
  refine awp_block ?_
  refine rk (s:=?s7) [3,5,6,7,15,16,17] [88] rfl ?o7 ?q7
  case o7=>simp [h6,hml2,hmg,hi]; rfl
  refine awp_run (s:=?s8) rfl ?o8 ?q8
  case o8 =>
   simp
   refine call0e (capacity_Of_ok p (dist (levelG g p.lv) p.seeds i)) (by simp) ?_
   simp [h6,hml2,hi,hms]
   rfl
  refine awp_run (s:=?s9) rfl ?o9 ?q9
  case o9=>simp [hw]; rfl
  exact ⟨i + 1,by omega,by omega,Le.go [(88,88)] [] rfl rfl (by simp) (by simp [fcd])⟩
 simp at h6
 obtain rfl : i = N:=by omega
 refine awp_exit ?_
 refine hit ?_
 refine rk (s:=?s10) [4] [88] rfl ?o10 ?q10
 case o10=>simp; rfl
 refine awp_ret ?_
 refine ⟨.inr rfl,RetOk.out [88] [] rfl (by simp) (by simp) (by simp [hNe]) (by simp [fcd,hNe,capMid_all])⟩
theorem capsL_take_succ {g : Gr} {p : Pol} {k : Nat} (hk : k < g.size.toNat) : (capsL g p).take (k + 1) = (capsL g p).take k ++ [capOf p (dist (levelG g p.lv) p.seeds k)]:=by
 rw [List.take_succ_eq_append_getElem (by rw [capsL_len]; exact hk)]
 simp [capsL,distL]
set_option maxRecDepth 100000 in
theorem ref13_All_ok (g : Gr) (p : Pol) (hg : GrOk g) (hs : p.seeds.length ≤ 1099511627776) : ACalls Tryz.prog nref13_All [eG g,eP p] [] (.rs 0 0 g.size.toNat) [some ⟨1,rowsI (capsL g p),0⟩]:=by
 refine sref13_All.acalls (Nat.le_of_ble_eq_true rfl) (Nat.le_of_ble_eq_true rfl) (Nat.zero_le _) ?_
 show awp _ 0 _ _ ⟨31,[(0,eG g),(1,eP p)],[],16⟩
 have hsz:=hg.1.1
 have hsz2:=hg.1.2.1
 have hel:=hg.edges_le
 have hgl:=hg.gone_le
 have hall:=ref12_All_ok (levelG g p.lv) p.seeds (hg.level p.lv) hs
 have hsl : (levelG g p.lv).size = g.size:=rfl
 rw [hsl] at hall
 obtain ⟨N,hNe⟩ : ∃ N : Nat,N = g.size.toNat:=⟨_,rfl⟩
 have hDl : (distL (levelG g p.lv) p.seeds).length = N:=by simp [distL,levelG,hNe]
 have hDg : ∀ (k : Nat) (h : k < (distL (levelG g p.lv) p.seeds).length),(distL (levelG g p.lv) p.seeds)[k] = dist (levelG g p.lv) p.seeds k:=fun k h=>by simp [distL]
 rw [← hNe] at hall
 obtain ⟨D,hD⟩ : ∃ D,D = distL (levelG g p.lv) p.seeds:=⟨_,rfl⟩
 rw [← hD] at hall hDl
 simp only [← hD] at hDg
 have hcl : (capsL g p).length = N:=by rw [capsL_len,hNe]
 obtain ⟨C,hC0,hCs,hCl,hCN⟩ : ∃ C : Nat → List Int,C 0 = [] ∧ (∀ k : Nat,k < N → C (k + 1) = C k ++ [capOf p (dist (levelG g p.lv) p.seeds k)]) ∧ (∀ k,k ≤ N → (C k).length = k) ∧ C N = capsL g p :=
  ⟨fun k=>(capsL g p).take k,by simp,fun k hk=>capsL_take_succ (by omega),fun k hk=>by simp [hcl,hk],by simp [← hcl]⟩
 refine rx (s:=?s1) [2,3] [] [16,24] rfl ?o1 ?q1
 case o1=>simp; rfl
 refine awp_dregc ⟨31,[(3,.pv (pC p)),(5,ints D)],[],104⟩ rfl ?_ ?_
 ·simp
  refine call0e (ref11_Level_ok g p.lv (by omega) (by omega)) (by simp) ?_
  simp
  refine callN1 hall rfl ?_
  simp [fcd]
  exact ⟨rfl,Le.snap [88] rfl rfl (by simp [fcd,← hDl,take_map_len])⟩
 refine rx (s:=?s3) [3,5,6] [] [] rfl ?o3 ?q3
 case o3=>simp; rfl
 refine awp_seq ?_
 refine rx (s:=?s4) [3,5,6,7] [] [] rfl ?o4 ?q4
 case o4=>simp; rfl
 refine awp_block ?_
 refine awp_loop (ι:=Nat) (fun i=>⟨31,[(3,.pv (pC p)),(5,ints D),(6,.rs 16 0 i),(7,.I i)],[(16,some ⟨1,rowsI (C i),0⟩)],120⟩) (fun i=>i ≤ N) (fun i=>N - i) 0 (by simp) (Le.lst [] [] [(16,1)] rfl (by simp) (by simp) (by simp) (by simp) (by simp) (by simp) (by simp) (by simp [Up]) (by simp [hC0])) ?_
 intro i hi
 have hCi:=hCl i hi
 have hti : ∀ f : Int → List AV,List.take i (List.map f (C i)) = List.map f (C i):=fun f=>List.take_of_length_le (by simp [hCi])
 refine awp_seq ?_
 refine rk (s:=?s5) [3,5,6,7,18] [16] rfl ?o5 ?q5
 case o5=>simp [hDl]; rfl
 refine awp_cond _ rfl (fun h6=>?_) fun h6=>?_
 ·simp at h6
  have hw : IntKind.i64.wrap ((i : Int) + 1) = (i : Int) + 1:=w64 (by omega) (by omega)
  refine awp_skip ?_
  refine awp_seq ?_
  refine awp_block ?_
  refine awp_drw rfl ?_
  simp [h6,hDl,hDg]
  refine call0e (ref13_Of_ok p (dist (levelG g p.lv) p.seeds i)) (by simp) ?_
  simp [hCi]
  refine ⟨by omega,by omega,rfl,?_⟩
  refine awp_reg rfl ?_
  simp [hw]
  exact ⟨i + 1,by omega,by omega,Le.go [(216,16)] [] rfl rfl (by simp) (by simp [fcd,hCs i h6,hti])⟩
 simp at h6
 obtain rfl : i = N:=by omega
 refine awp_exit ?_
 refine hit ?_
 refine rk (s:=?s7) [4] [16] rfl ?o7 ?q7
 case o7=>simp; rfl
 refine awp_ret ?_
 exact ⟨.inr rfl,RetOk.out [16] [] rfl (by simp) (by simp) (by simp [hNe]) (by simp [fcd,hCN])⟩
def Diff (l : List Int) (n : Int) : Prop:=l.Nodup ∧ ∀ k ∈ l,0 ≤ k ∧ k < n
def DiffAt (l : List Int) (n : Int) (i : Nat) : Prop:=∀ h : i < l.length,(0 ≤ l[i] ∧ l[i] < n) ∧ l[i] ∉ l.take i
theorem diff_iff {l : List Int} {n : Int} : Diff l n ↔ ∀ i,DiffAt l n i:=by
 unfold Diff DiffAt
 constructor
 ·rintro ⟨h1,h2⟩ i h
  refine ⟨h2 _ (List.getElem_mem h),fun hm=>?_⟩
  obtain ⟨j,hj,e⟩:=List.getElem_of_mem hm
  rw [List.getElem_take] at e
  have hj' : j < i:=by rw [List.length_take] at hj; omega
  exact (List.pairwise_iff_getElem.1 h1) j i (by omega) h hj' e
 ·intro h
  refine ⟨?_,fun k hk=>?_⟩
  ·refine List.pairwise_iff_getElem.2 fun i j hi hj hij e=>?_
   refine (h j hj).2 ?_
   rw [← e]
   exact List.mem_take_iff_getElem.2 ⟨i,by omega,rfl⟩
  ·obtain ⟨i,hi,rfl⟩:=List.getElem_of_mem hk
   exact (h i hi).1
open Classical in
theorem checker_different_ok (l : List Int) (n : Int) (hl : l.length ≤ 140737488355328) : ACalls Tryz.prog nchecker_different [ints l,.I n] [] (.B (decide (Diff l n))) []:=by
 refine schecker_different.acalls (Nat.le_of_ble_eq_true rfl) (Nat.le_of_ble_eq_true rfl) (Nat.le_refl _) ?_
 show awp _ 0 _ _ ⟨29,[(0,ints l),(1,.I n)],[],16⟩
 refine rx (s:=?s1) [0,1] [] [] rfl ?o1 ?q1
 case o1=>simp; rfl
 refine awp_seq ?_
 refine rx (s:=?s2) [0,1,7,8,9] [] [] rfl ?o2 ?q2
 case o2=>simp; rfl
 refine awp_block ?_
 refine awp_loop (ι:=Nat) (fun i=>⟨29,[(0,ints l),(1,.I n),(7,ints l),(8,.I l.length),(9,.I i)],[],48⟩) (fun i=>i ≤ l.length ∧ ∀ k,k < i → DiffAt l n k) (fun i=>l.length - i) 0 (by simp) (Le.go [] [] rfl rfl (by simp) (by simp)) ?_
 rintro i ⟨hi,hp⟩
 refine rx (s:=?s3) [0,1,7,8,9,10] [] [] rfl ?o3 ?q3
 case o3=>simp; rfl
 refine awp_seq ?_
 refine awp_cond _ rfl (fun h4=>?_) fun h4=>?_
 ·simp at h4
  have hw : IntKind.i64.wrap ((i : Int) + 1) = (i : Int) + 1:=w64 (by omega) (by omega)
  have htl : (l.take i).length ≤ 140737488355328:=by rw [List.length_take]; omega
  have hc:=contains_ok (l.take i) l[i] htl
  refine awp_skip ?_
  refine awp_seq ?_
  refine awp_block ?_
  refine rx (s:=?s5) [0,1,5,6,7,8,9] [] [] rfl ?o5 ?q5
  case o5=>simp [h4]; rfl
  refine awp_regc ⟨29,[(0,ints l),(1,.I n),(7,ints l),(8,.I l.length),(9,.I i),(27,.B (decide (¬ DiffAt l n i)))],[],208⟩ rfl ?_ ?_
  ·simp
   repeat' first
    | (refine callf nslices_Contains_Lint_int rfl ?_; refine call0e hc (by simp) ?_; simp)
    | (refine gcase (fun hb=>?_) (fun hb=>?_) <;> (try rw [hb]) <;> (try simp at hb) <;> simp [hb,hi])
   all_goals exact Le.snap [] rfl rfl (by simp; exact wkB (by (try simp at *); grind [DiffAt]))
  refine awp_cond _ rfl (fun h7=>?_) fun h7=>?_
  ·refine rx (s:=?s8) [4] [] [] rfl ?o8 ?q8
   case o8=>simp; rfl
   refine awp_ret ?_
   have hn : ¬ Diff l n:=fun h=>by simp at h7; exact h7 (diff_iff.1 h i)
   exact ⟨.inr rfl,RetOk.one (by simp [hn])⟩
  simp at h7
  refine awp_skip ?_
  refine awp_reg rfl ?_
  simp [hw]
  refine ⟨i + 1,⟨h4,fun k hk=>?_⟩,by omega,Le.go [] [] rfl rfl (by simp) (by simp)⟩
  rcases Nat.lt_succ_iff_lt_or_eq.1 hk with h | rfl
  ·exact hp k h
  ·exact h7
 simp at h4
 have hy : Diff l n:=diff_iff.2 fun k hk=>hp k (by omega) hk
 refine awp_exit ?_
 refine hit ?_
 refine rx (s:=?s9) [4] [] [] rfl ?o9 ?q9
 case o9=>simp; rfl
 refine awp_ret ?_
 exact ⟨.inr rfl,RetOk.one (by simp [hy])⟩
abbrev xC (g : Gr) (seeds caps order : List Int) : List AV:=[.I g.size,eEs g.edges,ints g.gone,ints seeds,ints caps,ints order]
abbrev eEng (g : Gr) (seeds caps order : List Int) : AV:=.agg (xC g seeds caps order)
abbrev engP (g : Gr) (p : Pol) : AV:=eEng (levelG g p.lv) p.seeds (capsL g p) (ordL (levelG g p.lv) p.seeds)
set_option maxRecDepth 100000 in
theorem checker_of_ok (g : Gr) (p : Pol) (hg : GrOk g) (hN : g.size < 20) (hs : p.seeds.length ≤ 1099511627776) : ACalls Tryz.prog nchecker_of [eG g,eP p] [] (engP g p) []:=by
 refine schecker_of.acalls (Nat.le_of_ble_eq_true rfl) (Nat.le_of_ble_eq_true rfl) (Nat.zero_le _) ?_
 show awp _ 0 _ _ ⟨21,[(0,eG g),(1,eP p)],[],16⟩
 have hel:=hg.edges_le
 have hgl:=hg.gone_le
 have hcap:=capacity_All_ok g p hg hs
 have hord:=distance_Order_ok (g:=levelG g p.lv) (S:=p.seeds) (hg.level p.lv) hN hs
 have hcl : (capsL g p).length = g.size.toNat:=capsL_len
 rw [← hcl] at hcap
 obtain ⟨G,hG⟩ : ∃ G,G = levelG g p.lv:=⟨_,rfl⟩
 obtain ⟨O,hO⟩ : ∃ O,O = ordL (levelG g p.lv) p.seeds:=⟨_,rfl⟩
 obtain ⟨C,hC⟩ : ∃ C,C = capsL g p:=⟨_,rfl⟩
 show awp _ 0 _ (fun e st=>(e = .normal ∨ e = .ret) ∧ RetOk _ 0 st (eEng (levelG g p.lv) p.seeds (capsL g p) (ordL (levelG g p.lv) p.seeds)) []) _
 have hlev:=graph_Level_ok g p.lv (by omega) (by omega)
 rw [← hC] at hcap
 rw [← hO,← hG] at hord
 rw [← hG] at hlev
 rw [← hO,← hG,← hC]
 refine awp_regc ⟨21,[(2,.pv (gC g)),(3,.pv (pC p)),(4,.pt 32 0 0)],[(32,some ⟨6,[[.I 0,.nilS,.nilS,.nilS,.nilS,.nilS]],0⟩)],40⟩ rfl ?_ ?_
 ·simp
  exact Le.go [(32,32)] [16,24] rfl rfl (by simp) (by simp)
 refine awp_regc ⟨21,[(2,.pv (gC g)),(3,.pv (pC p)),(4,.pt 32 0 0),(5,.pv (gC G))],[(32,some ⟨6,[[.I 0,.nilS,.nilS,.nilS,.nilS,.nilS]],0⟩)],88⟩ rfl ?_ ?_
 ·simp
  refine call0e hlev (by simp) ?_
  simp
  exact Le.go [(32,32)] [72] rfl rfl (by simp) (by simp)
 refine awp_dregc ⟨21,[(4,.pt 32 0 0)],[(32,some ⟨6,[[.I G.size,eEs G.edges,ints G.gone,ints p.seeds,.rs 128 0 C.length,.rs 160 0 O.length]],0⟩),(128,some ⟨1,rowsI C,0⟩),(160,some ⟨1,rowsI O,0⟩)],184⟩ rfl ?_ ?_
 ·simp
  refine callN1 hcap rfl ?_
  simp [fcd]
  refine callN1 hord rfl ?_
  simp [fcd]
  exact ⟨rfl,Le.keep rfl (Nat.le_refl _) (by simp) (by simp)⟩
 refine awp_ret ?_
 exact ⟨.inr rfl,RetOk.out [] [128,160] rfl (by simp) (by simp) (by simp [fcd,take_map_len]) (by simp)⟩
theorem take_msort {β : Type} (f : Int → β) (l : List Int) (r : Int → Int → Bool) : List.take l.length (List.map f (l.mergeSort r)) = List.map f (l.mergeSort r):=List.take_of_length_le (by simp [List.length_mergeSort])
def WalkAt (g : Gr) (order w : List Int) (i : Nat) : Prop:=∀ h : i < w.length,(w[i] ∈ order ∧ w[i] ∉ w.take i) ∧ (0 < i → w[i] ∈ outs g.edges w[i - 1])
def WalkC (g : Gr) (seeds order w : List Int) : Prop:=(∃ k,w.head? = some k ∧ k ∈ seeds) ∧ ∀ i,WalkAt g order w i
theorem nodup_take {w : List Int} : w.Nodup ↔ ∀ i (h : i < w.length),w[i] ∉ w.take i:=by
 constructor
 ·intro h1 i h hm
  obtain ⟨j,hj,e⟩:=List.getElem_of_mem hm
  rw [List.getElem_take] at e
  have hj' : j < i:=by rw [List.length_take] at hj; omega
  exact (List.pairwise_iff_getElem.1 h1) j i (by omega) h hj' e
 ·intro h
  refine List.pairwise_iff_getElem.2 fun i j hi hj hij e=>?_
  refine h j hj ?_
  rw [← e]
  exact List.mem_take_iff_getElem.2 ⟨i,by omega,rfl⟩
theorem walkC_iff {g : Gr} {lv : Int} {seeds order w : List Int} : WalkC (levelG g lv) seeds order w ↔ WalkP g lv seeds order w:=by
 unfold WalkC WalkP WalkAt
 rw [nodup_take]
 simp only [mem_outs_level]
 constructor
 ·rintro ⟨h0,h⟩
  refine ⟨h0,fun k hk=>?_,fun i hi=>(h i hi).1.2,fun i hi=>(h (i + 1) hi).2 (Nat.succ_pos _)⟩
  obtain ⟨i,hi,rfl⟩:=List.getElem_of_mem hk
  exact (h i hi).1.1
 ·rintro ⟨h0,h1,h2,h3⟩
  refine ⟨h0,fun i hi=>⟨⟨h1 _ (List.getElem_mem hi),h2 i hi⟩,fun hp=>?_⟩⟩
  obtain ⟨j,rfl⟩ : ∃ j,i = j + 1:=⟨i - 1,by omega⟩
  exact h3 j hi
open Classical in
theorem engine_walks_ok (g : Gr) (seeds caps order w : List Int) (hg : g.edges.length ≤ 1099511627776) (hs : seeds.length ≤ 140737488355328) (ho : order.length ≤ 140737488355328) (hw : w.length ≤ 140737488355328) :
  ACalls Tryz.prog nchecker_engine_walks [eEng g seeds caps order,ints w] [] (.B (decide (WalkC g seeds order w))) []:=by
 refine schecker_engine_walks.acalls (Nat.le_of_ble_eq_true rfl) (Nat.le_of_ble_eq_true rfl) (Nat.le_refl _) ?_
 show awp _ 0 _ _ ⟨53,[(0,eEng g seeds caps order),(1,ints w)],[],16⟩
 refine rx (s:=?s1) [1,2] [] [16] rfl ?o1 ?q1
 case o1=>simp; rfl
 refine awp_seq ?_
 refine rx (s:=?s2) [1,2,7,8,9] [] [] rfl ?o2 ?q2
 case o2=>simp; rfl
 refine awp_block ?_
 refine awp_loop (ι:=Nat) (fun i=>⟨53,[(1,ints w),(2,.pv (xC g seeds caps order)),(7,ints w),(8,.I w.length),(9,.I i)],[],56⟩) (fun i=>i ≤ w.length ∧ ∀ k,k < i → WalkAt g order w k) (fun i=>w.length - i) 0 (by simp) (Le.go [] [] rfl rfl (by simp) (by simp)) ?_
 rintro i ⟨hi,hp⟩
 refine rx (s:=?s3) [1,2,7,8,9,10] [] [] rfl ?o3 ?q3
 case o3=>simp; rfl
 refine awp_seq ?_
 refine awp_cond _ rfl (fun h4=>?_) fun h4=>?_
 ·simp at h4
  have hw1 : IntKind.i64.wrap ((i : Int) + 1) = (i : Int) + 1:=w64 (by omega) (by omega)
  have hwp : 0 < i → IntKind.i64.wrap ((i : Int) - 1) = ((i - 1 : Nat) : Int):=fun h=>by rw [w64 (by omega) (by omega)]; omega
  have h4' : i - 1 < w.length:=by omega
  have htl : (w.take i).length ≤ 140737488355328:=by rw [List.length_take]; omega
  have hc:=contains_ok (w.take i) w[i] htl
  have hol : (outs g.edges w[i - 1]).length ≤ g.edges.length:=List.length_filterMap_le ..
  have hc2:=contains_ok (sorted (outs g.edges w[i - 1])) w[i] (by rw [sorted_len]; omega)
  refine awp_skip ?_
  refine awp_seq ?_
  refine awp_block ?_
  refine rx (s:=?s5) [1,2,5,6,7,8,9] [] [] rfl ?o5 ?q5
  case o5=>simp [h4]; rfl
  refine awp_seq ?_
  refine awp_regc ⟨53,[(1,ints w),(2,.pv (xC g seeds caps order)),(5,.I i),(6,.I w[i]),(7,ints w),(8,.I w.length),(9,.I i),(25,.B (decide (¬ (w[i] ∈ order ∧ w[i] ∉ w.take i))))],[],200⟩ rfl ?_ ?_
  ·simp
   have hco:=contains_ok order w[i] ho
   refine call0e hco (by simp) ?_
   simp
   refine gcase (fun hb=>?_) (fun hb=>?_) <;> (try rw [hb]) <;> (try simp at hb) <;> simp [hb,hi]
   ·exact Le.snap [] rfl rfl (by simp <;> exact wkB (by (try simp at *); grind))
   ·refine call0e hc (by simp) ?_
    simp
    exact Le.snap [] rfl rfl (by simp <;> exact wkB (by (try simp at *); grind))
  refine awp_cond _ rfl (fun h7=>?_) fun h7=>?_
  ·refine rx (s:=?s8) [4] [] [] rfl ?o8 ?q8
   case o8=>simp; rfl
   refine awp_ret ?_
   have hn : ¬ WalkC g seeds order w:=fun h=>by simp at h7; rcases h7 with h7 | h7; exact h7 (h.2 i h4).1.1; exact (h.2 i h4).1.2 h7
   exact ⟨.inr rfl,RetOk.one (by simp [hn])⟩
  simp at h7
  refine awp_skip ?_
  refine awp_dregc ⟨53,[(1,ints w),(2,.pv (xC g seeds caps order)),(7,ints w),(8,.I w.length),(9,.I i),(40,.B (decide (¬ (0 < i → w[i] ∈ outs g.edges w[i - 1]))))],[],320⟩ rfl ?_ ?_
  ·simp
   refine gcase (fun hb=>?_) (fun hb=>?_) <;> (try rw [hb]) <;> (try simp at hb) <;> simp [hb,h4',hwp]
   ·refine callN1 (graph_Out_ok ⟨g.size,g.edges,g.gone⟩ w[i - 1] hg) (by simp) ?_
    simp [fcd]
    refine call0s [280] hc2 (by simp [take_msort]) (.sc _) ?_
    simp
    exact ⟨rfl,Le.snap [] rfl rfl (by simp <;> exact wkB (by (try simp at *); grind))⟩
   ·exact ⟨rfl,Le.snap [] rfl rfl (by simp <;> exact wkB (by (try simp at *); grind))⟩
  refine awp_cond _ rfl (fun h10=>?_) fun h10=>?_
  ·refine rx (s:=?s11) [4] [] [] rfl ?o11 ?q11
   case o11=>simp; rfl
   refine awp_ret ?_
   have hn : ¬ WalkC g seeds order w:=fun h=>by simp at h10; exact h10.2 ((h.2 i h4).2 h10.1)
   exact ⟨.inr rfl,RetOk.one (by simp [hn])⟩
  simp at h10
  refine awp_skip ?_
  refine awp_reg rfl ?_
  simp [hw1]
  refine ⟨i + 1,⟨h4,fun k hk=>?_⟩,by omega,Le.go [] [] rfl rfl (by simp) (by simp)⟩
  rcases Nat.lt_succ_iff_lt_or_eq.1 hk with h | rfl
  ·exact hp k h
  ·intro h
   exact ⟨h7,h10⟩
 simp at h4
 refine awp_exit ?_
 refine hit ?_
 refine awp_dregc ⟨53,[(4,.B (decide (WalkC g seeds order w)))],[],160⟩ rfl ?_ ?_
 ·simp
  have hall : ∀ i,WalkAt g order w i:=fun k hk=>hp k (by omega) hk
  cases w with
  | nil =>
    simp
    refine ⟨rfl,Le.snap [] rfl rfl (by simp [WalkC])⟩
  | cons a w =>
    simp
    refine callf nslices_Contains_Lint_int rfl ?_
    refine call0e (contains_ok seeds a hs) (by simp) ?_
    simp
    refine ⟨rfl,Le.snap [] rfl rfl (by simp [WalkC,hall])⟩
 refine awp_ret ?_
 exact ⟨.inr rfl,RetOk.one (by simp)⟩
end Go.Proofs.YtlhjelookgjmpaaGreat
namespace Go.Proofs.YtlhjelookgjmpaaGreat
open Go Go.RowKit Go.Shelf Go.Maps Go.Sort
theorem arr2 {vs : Array Value} (h : vs.size = 2) : vs = #[vs.getD 0 undef,vs.getD 1 undef]:=by
 apply Array.ext
 ·simpa using h
 ·intro i h1 h2
  have : i = 0 ∨ i = 1:=by simp at h2; omega
  rcases this with rfl | rfl <;> simp [Array.getD,h1] <;> intro h3 <;> omega
theorem encZ_one (x : Int) : (encZ x : Value) = .int .i64 x:=rfl
theorem AppendSeq_ok (l : List Int) (hl : l.length ≤ 1099511627776) : ACalls Tryz.prog nslices_AppendSeq_Lint_int [.nilS,.fn (.func nslices_Values_Lint_int_c1) [] [.pv [ints l]]] [] (.rs 0 0 l.length) [some ⟨1,rowsI l,0⟩]:=by
 refine ⟨⟨_,_,Tryz.func124,rfl,by decide⟩,by simp,fun T M w vs htok hhs hdom hrep=>?_⟩
 obtain ⟨hsz,hr⟩:=hrep
 have hr0:=hr 0 (by simp)
 have hr1:=hr 1 (by simp)
 simp only [List.getD_cons_zero,List.getD_cons_succ] at hr0 hr1
 rw [arr2 hsz]
 generalize vs.getD 0 undef = v0 at hr0
 generalize vs.getD 1 undef = v1 at hr1
 cases hr0
 cases hr1 with
 | fn _ _ _ _ us ws hx hy h h' =>
 have hus : us = #[]:=by simpa using hx
 subst hus
 have hws:=arr1 (vs:=ws) hy
 have hc0:=h' 0 (by simp)
 simp only [List.getD_cons_zero] at hc0
 rw [hws]
 generalize ws.getD 0 undef = u at hc0
 cases hc0 with
 | pv _ _ Bs B0 cells ty fz c hb ht hcc ho hh =>
 have hB:=hcc 0 (by simp)
 have hv:=hh 0 (by simp)
 simp only [List.getD_cons_zero,Nat.add_zero] at hB hv
 have hBl : Bs < w.heap.size:=(Array.getElem?_eq_some_iff.1 hb).1
 generalize c 0 = sv at hB hv
 cases hv with
 | vs _ _ _ _ a cap cc hf hle hw hbb h1 hcv =>
 have hlen : (l.map fun n=>[AV.I n]).length = l.length:=by simp
 rw [hlen] at hB
 have hcell : ∃ b off,(l ≠ [] → a = some ⟨b,off,none⟩ ∧ b < w.heap.size) ∧ ∀ j (h : j < l.length),w.cell? ⟨b,off + j,none⟩ = some (.int .i64 l[j]):=by
  by_cases h0 : l = []
  ·exact ⟨0,0,fun h=>absurd h0 h,fun j hj=>by subst h0; simp at hj⟩
  ·obtain ⟨b,off,cs,ty',fz',ha,hwb,_,hrow⟩:=hbb (by simpa using h0)
   refine ⟨b,off,fun _=>⟨ha,(Array.getElem?_eq_some_iff.1 hwb).1⟩,fun j hj=>?_⟩
   have h2:=hrow j 0 (by simpa using hj) (by decide)
   have h3:=hcv j 0 (by simpa using hj) (by decide)
   have e : ((l.map fun n=>[AV.I n]).getD j []).getD 0 .dead = .I l[j]:=by simp [List.getD,hj]
   rw [e] at h3
   have h4:=rep_sc h3 rfl
   rw [h4] at h2
   simp only [World.cell?,hwb]
   simpa using h2
 obtain ⟨b,off,hab,hcs⟩:=hcell
 rw [← callsIn_wide (n:=2)]
 refine (appendSeqV_in Fence.wide 2 trivial trivial rfl (by omega) Bs B0 b off cap a l (fun h=>(hab h).1) hl w ?_ hBl (fun h=>(hab h).2) hcs).mono ?_
 ·simp only [World.cell?,hb]
  exact hB
 rintro e w' ⟨v,rfl,⟨_,hown⟩,hbel⟩
 have hpr : Pres T w T w':=⟨fun _=>Nat.le_refl _,fun b' cs' ty' fz' h=>⟨cs',fz',by rw [hbel.block b' (Array.getElem?_eq_some_iff.1 h).1]; exact h,rfl,fun _ _=>rfl⟩⟩
 have hT0 : ∀ b',w.heap.size ≤ b' → T b' = 0:=fun b' hb'=>by
  rcases Nat.eq_zero_or_pos (T b') with e | e
  ·exact e
  ·obtain ⟨cells,ty,fz,h1,_⟩:=htok b' e
   have:=(Array.getElem?_eq_some_iff.1 h1).1
   omega
 have htok' : TOk T w':=fun b' hb'=>by
  obtain ⟨cells,ty,fz,h1,h2⟩:=htok b' hb'
  exact ⟨cells,ty,fz,by rw [hbel.block b' (Array.getElem?_eq_some_iff.1 h1).1]; exact h1,h2⟩
 have fin : ∀ g : GE,(∀ b,g.blk = some b → w.heap.size ≤ b) → EntOk T w' (fun k=>if k = 0 then some g else none) ⟨1,rowsI l,0⟩ g → Rep T w' (fun k=>if k = 0 then some g else none) (.rs 0 0 l.length) v →
   ∃ v' T' M',Ending.returned v = .returned v' ∧ Rep T' w' M' (.rs 0 0 l.length) v' ∧ HsOk T' w' M' (hpOut [some ⟨1,rowsI l,0⟩]) ∧ After 0 T M w T' M' w':=by
  intro g hg ent hv
  refine ⟨v,T,_,rfl,hv,?_,⟨htok',fun _ _ _=>rfl,fun k hk=>absurd hk (Nat.not_lt_zero k),hbel.os,hbel.tape,hbel.output,hbel.size,fun b' hb' _=>hbel.block b' hb',hpr,fun k g1 b1 _ h1 h2=>?_⟩⟩
  ·rw [show ([some ⟨1,rowsI l,0⟩] : List (Option Ent)) = List.map some [⟨1,rowsI l,0⟩] from rfl,hpOut_some]
   have z : ∀ id e,hpOf [(⟨1,rowsI l,0⟩ : Ent)] id = some e → id = 0 ∧ e = ⟨1,rowsI l,0⟩:=by
    intro id e he
    cases id with
    | zero=>simp [hpOf] at he; exact ⟨rfl,he.symm⟩
    | succ k=>simp [hpOf] at he
   refine ⟨fun id e he=>?_,fun id id' e e' _ _ _ h1 h2 _ _ _ _=>by rw [(z _ _ h1).1,(z _ _ h2).1]⟩
   obtain ⟨rfl,rfl⟩:=z _ _ he
   exact ⟨g,rfl,ent⟩
  ·by_cases hk : k = 0
   ·subst hk
    simp at h1
    subst h1
    exact .inr (hg b1 h2)
   ·simp [hk] at h1
 have hwide : ∀ row ∈ rowsI l,row.length = 1:=by intro row hr; simp at hr; obtain ⟨x,_,rfl⟩:=hr; rfl
 rcases hown with ⟨rfl,h0⟩ | ⟨g,cp,cur,rfl,hg,hgw,hle2,hcm,hcsz,htk⟩
 ·have h0' : l = []:=List.length_eq_zero_iff.1 h0
  subst h0'
  exact fin ⟨none,0,1⟩ (by simp) ⟨rfl,Nat.zero_le _,fun _=>hwide,(fun _=>rfl),(fun hz=>absurd hz (Nat.succ_ne_zero 0)),fun _ b' hb'=>by cases hb'⟩ (.rs _ _ _ _ _ _ _ rfl (Nat.succ_ne_zero 0) (Nat.le_refl _) (fun _=>⟨rfl,rfl⟩) fun b' hb'=>by cases hb')
 ·refine fin ⟨some g,0,1⟩ (fun b' hb'=>by cases hb'; exact hg) ⟨rfl,Nat.zero_le _,fun _=>hwide,(fun hn=>by cases hn),(fun hz=>absurd hz (Nat.succ_ne_zero 0)),fun _ b' hb'=>?_⟩ (.rs _ _ _ _ cp _ _ rfl (Nat.succ_ne_zero 0) hle2 (fun hn=>by cases hn) fun b' hb'=>?_)
  ·obtain rfl:=Option.some.inj hb'
   refine ⟨cur,3,hgw,by rw [hT0 g hg]; exact Nat.zero_le _,by simp; omega,fun i j hi hj=>?_⟩
   have hi' : i < l.length:=by simpa using hi
   obtain rfl : j = 0:=by simpa using hj
   refine ⟨.int .i64 l[i],?_,rfl,?_⟩
   ·have : (cur.toList.take (l.length * 1))[i]? = (l.map encZ)[i]?:=by rw [htk]
    rw [List.getElem?_take,if_pos (by omega)] at this
    simpa [hi',encZ_one] using this
   ·have e : ((rowsI l).getD i []).getD 0 .dead = .I l[i]:=by simp [List.getD,hi']
    rw [e]
    exact .sc _ _ rfl
  ·obtain rfl:=Option.some.inj hb'
   exact ⟨.inr (by simp),cur,3,(0,0),hgw,by simp; omega⟩
section
variable {P : Program} {np id : Nat} {h : Nat → Option Ent} {K : AV → List Nat → List (Nat × Option Ent) → Prop} {f : FuncId} {first capt args args' : List AV} {res : AV}
theorem call0k (sn : List Nat) (hnp : ∀ i ∈ sn,np ≤ i) (hc : ACalls P f args' [] res []) (hw : (first ++ args ++ capt).map (conv [] sn h 4) = args')
  (hk : K (conv (((List.range 8).map (id + ·)).zipIdx.map fun (a,b)=>(b,a)) [] (fun _=>none) 4 res) sn (sn.filterMap fun i=>(h i).map fun e=>(i,some { e with ro:=e.rows.length }))) : aK P np id .call (.fn (.func f) first capt :: args) h K :=
 ⟨[],sn,true,args',[],res,[],by simp,by simp,fun _=>hnp,by rw [List.zipIdx_nil,hw]; exact wkL_refl _,rfl,hc,by simp,.inl rfl,by simpa using hk⟩
end
abbrev seqF (l : List Int) : AV:=.fn (.func nslices_Values_Lint_int_c1) [] [.pv [ints l]]
theorem Values_ok (l : List Int) : ACalls Tryz.prog nslices_Values_Lint_int [ints l] [] (seqF l) []:=by
 refine sslices_Values_Lint_int.acalls (Nat.le_of_ble_eq_true rfl) (Nat.le_of_ble_eq_true rfl) (Nat.le_refl _) ?_
 show awp _ 0 _ _ ⟨4,[(0,ints l)],[],16⟩
 refine rk (s:=?s1) [1] [16] rfl ?o1 ?q1
 case o1=>simp; rfl
 refine rk (s:=?s2) [2] [16] rfl ?o2 ?q2
 case o2=>simp; rfl
 refine awp_ret ?_
 exact ⟨.inr rfl,RetOk.out [] [16] rfl (by simp) (by simp) (by simp) (by simp)⟩
theorem Collect_ok (l : List Int) (hl : l.length ≤ 1099511627776) : ACalls Tryz.prog nslices_Collect_int [seqF l] [] (.rs 0 0 l.length) [some ⟨1,rowsI l,0⟩]:=by
 refine sslices_Collect_int.acalls (Nat.le_of_ble_eq_true rfl) (Nat.le_of_ble_eq_true rfl) (Nat.zero_le _) ?_
 show awp _ 0 _ _ ⟨5,[(0,seqF l)],[],16⟩
 refine rk (s:=?s1) [0] [] rfl ?o1 ?q1
 case o1=>simp; rfl
 refine rk (s:=?s2) [2] [32] rfl ?o2 ?q2
 case o2 =>
  simp
  refine callN1 (AppendSeq_ok l hl) (by simp) ?_
  simp [fcd]
  rfl
 refine awp_ret ?_
 exact ⟨.inr rfl,RetOk.out [32] [] rfl (by simp) (by simp) (by simp) (by simp [fcd])⟩
theorem Sorted_ok (l : List Int) (hl : l.length ≤ 1099511627776) : ACalls Tryz.prog nslices_Sorted_int [seqF l] [] (.rs 0 0 l.length) [some ⟨1,rowsI (sorted l),0⟩]:=by
 refine sslices_Sorted_int.acalls (Nat.le_of_ble_eq_true rfl) (Nat.le_of_ble_eq_true rfl) (Nat.zero_le _) ?_
 show awp _ 0 _ _ ⟨9,[(0,seqF l)],[],16⟩
 refine rk (s:=?s1) [0] [] rfl ?o1 ?q1
 case o1=>simp; rfl
 refine rk (s:=?s2) [3] [32] rfl ?o2 ?q2
 case o2 =>
  simp
  refine callN1 (Collect_ok l hl) (by simp) ?_
  simp [fcd]
  rfl
 refine rk (s:=?s3) [3] [32] rfl ?o3 ?q3
 case o3 =>
  simp
  refine callM1 (i:=32) rfl (e':=⟨1,iRows l,0⟩) (by simp [fcd,iRows]) (sort_ok l (by omega)) (by simp) (by simp) ?_
  simp [fcd,iRows]
  rfl
 refine rk (s:=?s4) [2] [32] rfl ?o4 ?q4
 case o4=>simp; rfl
 refine awp_ret ?_
 exact ⟨.inr rfl,RetOk.out [32] [] rfl (by simp) (by simp) (by simp) (by simp [fcd])⟩
abbrev pathsV (P : List (List Int)) : AV:=.vs 1 false (P.map fun w=>[ints w])
def cnt (f : Int → Int) : List AV:=(List.range 64).map fun (k : Nat)=>AV.I (f (k : Int))
theorem cnt_len (f : Int → Int) : (cnt f).length = 64:=by simp [cnt]
theorem cnt_zero : cnt (fun _=>0) = List.replicate 64 (AV.I 0):=by simp [cnt,List.map_const']
theorem cnt_drop (f : Int → Int) {k : Nat} (hk : k < 64) : (cnt f).drop k = AV.I (f k) :: (cnt f).drop (k + 1):=by
 rw [List.drop_eq_getElem_cons (by rw [cnt_len]; exact hk)]
 simp [cnt]
theorem cnt_splice (f : Int → Int) {k : Nat} (hk : k < 64) (v : Int) : splice (cnt f) k [AV.I v] = cnt fun j=>if j = k then v else f j:=by
 apply List.ext_getElem?
 intro i
 unfold splice
 rcases Nat.lt_trichotomy i k with h | h | h
 ·rw [List.append_assoc,List.getElem?_append_left (by simp [cnt_len]; omega),List.getElem?_take,if_pos h]
  simp [cnt,show i < 64 by omega,show ¬ ((i : Int) = k) by omega]
 ·subst h
  rw [List.append_assoc,List.getElem?_append_right (by simp [cnt_len]; omega),List.getElem?_append_left (by simp [cnt_len]; omega)]
  simp [cnt,cnt_len,hk,Nat.min_eq_left (Nat.le_of_lt hk)]
 ·rw [List.getElem?_append_right (by simp [cnt_len]; omega)]
  by_cases h2 : i < 64
  ·simp [cnt,cnt_len,h2,Nat.min_eq_left (Nat.le_of_lt hk),show ¬ ((i : Int) = k) by omega]
   rw [List.getElem?_range (by omega)]
   simp
   congr 1
   omega
  ·simp [cnt,cnt_len,Nat.min_eq_left (Nat.le_of_lt hk)]
   rw [List.getElem?_eq_none (by simp; omega),List.getElem?_eq_none (by simp; omega)]
   rfl
theorem cnt_set (f : Int → Int) {k : Nat} (hk : k < 64) (v : Int) : List.take k (cnt f) ++ AV.I v :: List.drop (k + 1) (cnt f) = cnt fun j=>if j = k then v else f j:=by
 have:=cnt_splice f hk v
 simpa [splice] using this
@[simp] theorem conv_cnt {ρ : List (Nat × Nat)} {sn : List Nat} {h : Nat → Option Ent} {f : Int → Int} : (cnt f).map (conv ρ sn h 4) = cnt f:=by
 unfold cnt
 rw [List.map_map]
 rfl
@[simp] theorem entUp_cnt {nl : List (Nat × Nat)} {f : Int → Int} : EntUp nl ⟨64,[cnt f],0⟩ ⟨64,[cnt f],0⟩:=EntUp.rfl' (Nat.zero_le _)
theorem begC_succ (P : List (List Int)) (i : Nat) (h : i < P.length) (k : Int) : begC (P.take (i + 1)) k = begC (P.take i) k + if P[i].head? = some k then 1 else 0:=by
 unfold begC
 rw [List.take_succ_eq_append_getElem h,List.countP_append]
 simp [List.countP_cons]
theorem useC_succ (P : List (List Int)) (i : Nat) (h : i < P.length) (k : Int) : useC (P.take (i + 1)) k = useC (P.take i) k + P[i].dropLast.count k:=by
 unfold useC
 rw [List.take_succ_eq_append_getElem h,List.flatMap_append,List.count_append]
 simp
theorem begC_len (P : List (List Int)) (k : Int) : begC P k ≤ P.length:=List.countP_le_length
theorem useC_len {P : List (List Int)} {m : Nat} (h : ∀ w ∈ P,w.length ≤ m) (k : Int) : useC P k ≤ m * P.length:=by
 unfold useC
 refine Nat.le_trans List.count_le_length ?_
 induction P with
 | nil=>simp
 | cons w P ih =>
   rw [List.flatMap_cons,List.length_append,List.length_cons,Nat.mul_add,Nat.mul_one]
   have h1:=ih fun x hx=>h x (List.mem_cons_of_mem _ hx)
   have h2:=h w (List.mem_cons_self ..)
   rw [List.length_dropLast]
   omega
theorem count_take_succ (l : List Int) (j : Nat) (h : j < l.length) (k : Int) : (l.take (j + 1)).count k = (l.take j).count k + if l[j] = k then 1 else 0:=by
 rw [List.take_succ_eq_append_getElem h,List.count_append]
 simp [List.count_cons]
theorem lasts_succ (P : List (List Int)) (i : Nat) (h : i < P.length) (hne : P[i] ≠ []) : lasts (P.take (i + 1)) = lasts (P.take i) ++ [P[i].getLast hne]:=by
 unfold lasts
 rw [List.take_succ_eq_append_getElem h,List.filterMap_append]
 simp [List.getLast?_eq_some_getLast hne]
end Go.Proofs.YtlhjelookgjmpaaGreat
