/- Texts of this claim,merged. -/
import Derived.Test.YtfdbhehkkobfgaaRt9
import Derived.Test.YtfdbhehkkobfgaaRt7
import Derived.Test.YtfdbhehkkobfgaaRt8
set_option linter.unusedSimpArgs false
set_option linter.unusedVariables false
set_option linter.unusedSectionVars false
namespace Go.Proofs.Ytfdbhehkkobfgaa
open Go
def dP (g : Gr) (S : List Int) (n i : Nat) (k : Int) : Int:=if 0 ≤ dl g S n k then dl g S n k else if (g.edges.take i).any (fun e=>decide (e.t = k) && decide (dl g S n e.f = n)) = true then (n : Int) + 1 else -1
variable {g : Gr} {S : List Int}
theorem zl4 (n : Nat) (k : Int) : dP g S n 0 k = dl g S n k:=by
 unfold dP
 have:=zba (g:=g) (S:=S) n k
 split
 ·rfl
 ·simp; omega
theorem ztf (n : Nat) (k : Int) : dP g S n g.edges.length k = dl g S (n + 1) k:=by
 unfold dP
 rw [List.take_of_length_le (Nat.le_refl _),dl]
theorem zur (n i : Nat) (k : Int) : dP g S n i k = n ↔ dl g S n k = n:=by
 unfold dP
 have:=zba (g:=g) (S:=S) n k
 split
 ·exact Iff.rfl
 ·split <;> omega
theorem zpw (n i : Nat) (hi : i < g.edges.length) (k : Int) : dP g S n (i + 1) k = if dl g S n g.edges[i].f = n ∧ dP g S n i g.edges[i].t = -1 ∧ k = g.edges[i].t then (n : Int) + 1 else dP g S n i k:=by
 have hany : ∀ k,(g.edges.take (i + 1)).any (fun e=>decide (e.t = k) && decide (dl g S n e.f = n)) = ((g.edges.take i).any (fun e=>decide (e.t = k) && decide (dl g S n e.f = n)) || (decide (g.edges[i].t = k) && decide (dl g S n g.edges[i].f = n))):=by
  intro k
  rw [← List.take_concat_get hi,List.concat_eq_append,List.any_append]
  simp
 unfold dP
 rw [hany]
 by_cases h1 : dl g S n g.edges[i].f = n
 ·by_cases h2 : k = g.edges[i].t
  ·subst h2
   simp only [h1,decide_true,Bool.and_self,Bool.or_true,if_true,and_true,true_and]
   have:=zba (g:=g) (S:=S) n g.edges[i].t
   by_cases h3 : 0 ≤ dl g S n g.edges[i].t
   ·simp only [h3,if_true]
    rw [if_neg (by omega)]
   ·simp only [h3,if_false]
    split <;> simp
  ·have h3 : decide (g.edges[i].t = k) = false:=by simpa using fun h=>h2 h.symm
   simp only [h3,h2,Bool.false_and,Bool.or_false,and_false,if_false]
 ·simp only [h1,decide_false,Bool.and_false,Bool.or_false,false_and,if_false]
def zdk (g : Gr) (S : List Int) (k : Nat) : List Int:=(List.range k).map fun (i : Nat)=>dl g S 0 (i : Int)
def midL (g : Gr) (S : List Int) (n i : Nat) : List Int:=(List.range g.size.toNat).map fun (k : Nat)=>dP g S n i (k : Int)
theorem zgS (n i : Nat) : (midL g S n i).length = g.size.toNat:=by simp [midL]
theorem znS : midL g S 0 0 = zdk g S g.size.toNat:=by unfold midL zdk; simp only [zl4]
theorem zn7 (n : Nat) : midL g S n g.edges.length = midL g S (n + 1) 0:=by unfold midL; simp only [ztf,zl4]
theorem zpG : midL g S g.size.toNat 0 = zce g S:=by unfold midL zce dist; simp only [zl4]
theorem zmL (n i : Nat) {k : Nat} (hk : k < g.size.toNat) : (zai (midL g S n i))[k]? = some [AV.I (dP g S n i k)]:=by
 simp [midL,hk]
theorem zoe (n i : Nat) (hi : i < g.edges.length) (h : ¬ (dl g S n g.edges[i].f = n ∧ dP g S n i g.edges[i].t = -1)) : midL g S n (i + 1) = midL g S n i:=by
 unfold midL
 refine List.map_congr_left fun k _=>?_
 rw [zpw n i hi,if_neg]
 rintro ⟨h1,h2,_⟩
 exact h ⟨h1,h2⟩
theorem zp0 (n i : Nat) (hi : i < g.edges.length) {k : Nat} (hk : g.edges[i].t = k) (hkN : k < g.size.toNat) (h1 : dl g S n g.edges[i].f = n) (h2 : dP g S n i g.edges[i].t = -1) : (zai (midL g S n i)).set k [AV.I ((n : Int) + 1)] = zai (midL g S n (i + 1)):=by
 have e : (midL g S n i).set k ((n : Int) + 1) = midL g S n (i + 1):=by
  apply List.ext_getElem?
  intro j
  by_cases hj : j < g.size.toNat
  ·have e1 : (midL g S n (i + 1))[j]? = some (dP g S n (i + 1) j):=by simp [midL,hj]
   have e2 : (midL g S n i)[j]? = some (dP g S n i j):=by simp [midL,hj]
   rw [List.getElem?_set,e1,e2,zpw n i hi,zgS]
   by_cases hkj : k = j
   ·subst hkj
    rw [if_pos rfl,if_pos hkN,if_pos ⟨h1,h2,hk.symm⟩]
   ·rw [if_neg hkj,if_neg]
    rintro ⟨_,_,h3⟩
    rw [hk] at h3
    omega
  ·rw [List.getElem?_eq_none (by rw [List.length_set,zgS]; omega),List.getElem?_eq_none (by rw [zgS]; omega)]
 rw [← e,zai,zai,List.map_set]
theorem zlu (k : Nat) : zdk g S (k + 1) = zdk g S k ++ [dl g S 0 k]:=by
 unfold zdk
 rw [List.range_succ,List.map_append]
 rfl
theorem Le.l1 {st st' : St} {D : List Int} (i j : Nat) (sn : List Nat) (hsz : st'.sz = st.sz) (hh : st'.h = [(j,some ⟨1,zai D,0⟩)]) (hj : j < st'.n) (hs : ∀ k ∈ sn,k ≠ i) (he : st.hp i = some ⟨1,zai D,0⟩) (ht : ∀ p ∈ st'.t,Wk (conv [(i,j)] sn st.hp 4 (st.get p.1)) p.2) : Le 0 st st' :=
 zfZ hsz hh hj hs he (by simp [fcd]) (by simp) ht
set_option maxHeartbeats 4000000 in
set_option maxRecDepth 100000 in
theorem zeO (g : Gr) (S : List Int) (hg : GrOk g) (hS : S.length ≤ 1099511627776) : zaj Try.prog zdz [eG g,ints S] [] (.rs 0 0 g.size.toNat) [some ⟨1,zai (zce g S),0⟩]:=by
 refine znn.acalls (nbz rfl) (nbz rfl) (Nat.zero_le _) ?_
 show awp _ 0 _ _ ⟨72,[(0,eG g),(1,ints S)],[],16⟩
 have hsz:=hg.1.1
 have hsz2:=hg.1.2.1
 have h500:=hg.1.2.2.1
 have hgone : g.gone.length ≤ 1000000:=Nat.le_trans hg.gone_le (by omega)
 obtain ⟨N,hN⟩ : ∃ N : Nat,N = g.size.toNat:=⟨_,rfl⟩
 refine zab ⟨72,[(1,ints S),(2,.pv (gC g))],[],32⟩ rfl ?_ ?_
 ·simp
  exact Le.snap [16] rfl rfl (by simp)
 refine zaa ?_
 refine zac (s:=?s1) rfl ?o1 ?q1
 case o1=>simp; rfl
 refine zaa ?_
 refine zaa ?_
 refine zac (s:=?s2) rfl ?o2 ?q2
 case o2=>simp; rfl
 refine zaf ?_
 let C : Nat → St:=fun k=>⟨72,[(1,ints S),(2,.pv (gC g)),(5,.rs 16 0 k),(6,.I k)],[(16,some ⟨1,zai (zdk g S k),0⟩)],48⟩
 refine zap C (fun k=>k ≤ N) (fun k=>N - k) 0 (Nat.zero_le _) (Le.lst [] [] [(16,1)] rfl (by simp) (by simp) (by simp) (by simp [C]) (by simp) (by simp) (by simp) (by simp [C,Up]) (by simp [C,zdk])) ?_
 intro k hk
 have hCk : C k = ⟨72,[(1,ints S),(2,.pv (gC g)),(5,.rs 16 0 k),(6,.I k)],[(16,some ⟨1,zai (zdk g S k),0⟩)],48⟩:=rfl
 rw [hCk]
 refine zaa ?_
 refine zab ⟨72,[(1,ints S),(2,.pv (gC g)),(5,.rs 16 0 k),(6,.I k),(13,.B (decide ((k : Int) < g.size)))],[(16,some ⟨1,zai (zdk g S k),0⟩)],80⟩ rfl ?_ ?_
 ·simp
  exact Le.keep rfl (Nat.le_refl _) (by simp) (by simp)
 refine zad _ rfl (fun h=>zae ?_) fun h=>zal (hit ?_)
 ·simp only [decide_eq_true_eq] at h
  refine zaw (ι:=Unit) (fun _=>⟨72,[(1,ints S),(2,.pv (gC g)),(5,.rs 16 0 (k + 1)),(6,.I k)],[(16,some ⟨1,zai (zdk g S (k + 1)),0⟩)],48⟩) (fun _=>True) ?_ fun _ _=>?_
  ·rw [zlu]
   have hAl : (zdk g S k).length = k:=by simp [zdk]
   generalize zdk g S k = A at *
   refine zaf ?_
   refine zab ⟨72,[(1,ints S),(2,.pv (gC g)),(5,.rs 96 0 (k + 1)),(6,.I k)],[(96,some ⟨1,zai A ++ [[.I (-1)]],0⟩)],112⟩ rfl ?_ ?_
   ·simp [List.replicate,hAl]
    refine ⟨by omega,by omega,?_⟩
    have e1 : List.take k (zai A) = zai A:=List.take_of_length_le (by simp [hAl])
    exact zfZ (i:=96) (sn:=[]) rfl rfl (by simp) (by simp) rfl (by rw [e1]; simp [fcd]) (by simp) (by simp)
   refine zab ⟨72,[(1,ints S),(2,.pv (gC g)),(5,.rs 96 0 (k + 1)),(6,.I k),(28,.B (zbS g S k))],[(96,some ⟨1,zai A ++ [[.I (-1)]],0⟩)],192⟩ rfl ?_ ?_
   ·simp
    refine zdE zaS rfl ?_
    refine zan (zh0 S k (by omega)) rfl ?_
    simp
    refine zeS (fun hb=>?_) (fun hb=>?_)
    ·simp [hb]
     refine zdE zaS rfl ?_
     refine zan (zh0 g.gone k (by omega)) rfl ?_
     simp [hb]
     exact zfZ (i:=96) (sn:=[]) rfl rfl (by simp) (by simp) rfl (by simp [fcd]) (by simp) (by simp [zbS] <;> exact wkB (by simp_all))
    ·simp [hb]
     exact zfZ (i:=96) (sn:=[]) rfl rfl (by simp) (by simp) rfl (by simp [fcd]) (by simp) (by simp [zbS] <;> exact wkB (by simp_all))
   refine zad _ rfl (fun h5=>?_) fun h5=>zae ?_
   ·have h0 : dl g S 0 k = 0:=by rw [dl,if_pos h5]
    rw [h0]
    refine zaC rfl ?_
    have hset : (zai A ++ [[AV.I (-1)]]).set k [AV.I 0] = zai A ++ [[AV.I 0]]:=by
     rw [List.set_append,if_neg (by simp [hAl])]
     simp [hAl]
    have hget : (zai A ++ [[AV.I (-1)]])[k]? = some [AV.I (-1)]:=by
     rw [List.getElem?_append_right (by simp [hAl])]
     simp [hAl]
    simp [hget,zbJ,hset]
    refine ⟨by omega,zfZ (i:=96) (sn:=[]) rfl rfl (by simp) (by simp) rfl (by simp [fcd]) (by simp) (by simp)⟩
   ·have h0 : dl g S 0 k = -1:=by rw [dl,if_neg (by simp [h5])]
    rw [h0]
    exact ⟨(),trivial,zfZ (i:=96) (sn:=[]) rfl rfl (by simp) (by simp) rfl (by simp [fcd]) (by simp) (by simp)⟩
  have hwk : IntKind.i64.wrap ((k : Int) + 1) = ((k + 1 : Nat) : Int):=by rw [w64 (by omega) (by omega)]; omega
  refine zaC rfl ?_
  simp [hwk]
  exact ⟨k + 1,by omega,by omega,Le.l1 16 16 [] rfl rfl (by simp [C]) (by simp) rfl (by simp [C])⟩
 simp only [decide_eq_false_iff_not] at h
 obtain rfl : k = N:=by omega
 have hf : zdk g S k = midL g S 0 0:=by rw [znS,hN]
 rw [hf]
 refine zaa ?_
 refine zab ⟨72,[(2,.pv (gC g)),(5,.rs 16 0 k),(7,.I 0)],[(16,some ⟨1,zai (midL g S 0 0),0⟩)],88⟩ rfl ?_ ?_
 ·simp
  exact Le.keep rfl (Nat.le_refl _) (by simp) (by simp)
 refine zaf ?_
 refine zap (ι:=Nat) (fun n=>⟨72,[(2,.pv (gC g)),(5,.rs 16 0 k),(7,.I n)],[(16,some ⟨1,zai (midL g S n 0),0⟩)],88⟩) (fun n=>n ≤ k) (fun n=>k - n) 0 (Nat.zero_le _) (Le.refl _ _) ?_
 intro n hn
 refine zaa ?_
 refine zab ⟨72,[(2,.pv (gC g)),(5,.rs 16 0 k),(7,.I n),(35,.B (decide ((n : Int) < g.size)))],[(16,some ⟨1,zai (midL g S n 0),0⟩)],120⟩ rfl ?_ ?_
 ·simp
  exact Le.keep rfl (Nat.le_refl _) (by simp) (by simp)
 refine zad _ rfl (fun h=>zae ?_) fun h=>zal (hit ?_)
 ·simp only [decide_eq_true_eq] at h
  refine zaw (ι:=Unit) (fun _=>⟨72,[(2,.pv (gC g)),(5,.rs 16 0 k),(7,.I n)],[(16,some ⟨1,zai (midL g S (n + 1) 0),0⟩)],88⟩) (fun _=>True) ?_ fun _ _=>?_
  ·rw [← zn7]
   refine zaf ?_
   refine zab ⟨72,[(2,.pv (gC g)),(5,.rs 16 0 k),(7,.I n),(8,.I 0)],[(16,some ⟨1,zai (midL g S n 0),0⟩)],128⟩ rfl ?_ ?_
   ·simp
    exact Le.keep rfl (Nat.le_refl _) (by simp) (by simp)
   refine zaf ?_
   refine zap (ι:=Nat) (fun i=>⟨72,[(2,.pv (gC g)),(5,.rs 16 0 k),(7,.I n),(8,.I i)],[(16,some ⟨1,zai (midL g S n i),0⟩)],128⟩) (fun i=>i ≤ g.edges.length) (fun i=>g.edges.length - i) 0 (Nat.zero_le _) (Le.refl _ _) ?_
   intro i hi
   refine zaa ?_
   refine zab ⟨72,[(2,.pv (gC g)),(5,.rs 16 0 k),(7,.I n),(8,.I i),(42,.B (decide (i < g.edges.length)))],[(16,some ⟨1,zai (midL g S n i),0⟩)],168⟩ rfl ?_ ?_
   ·simp
    exact Le.keep rfl (Nat.le_refl _) (by simp) (by simp)
   refine zad _ rfl (fun h2=>zae ?_) fun h2=>zal (hit ?_)
   ·simp only [decide_eq_true_eq] at h2
    refine zaw (ι:=Unit) (fun _=>⟨72,[(2,.pv (gC g)),(5,.rs 16 0 k),(7,.I n),(8,.I i)],[(16,some ⟨1,zai (midL g S n (i + 1)),0⟩)],128⟩) (fun _=>True) ?_ fun _ _=>?_
    ·have hfit:=hg.fits g.edges[i] (List.getElem_mem h2)
     obtain ⟨a,ha⟩ : ∃ a : Nat,g.edges[i].f = a:=⟨g.edges[i].f.toNat,by have:=hfit.1; omega⟩
     obtain ⟨b,hb⟩ : ∃ b : Nat,g.edges[i].t = b:=⟨g.edges[i].t.toNat,by have:=hfit.2.2.1; omega⟩
     have haN : a < g.size.toNat:=by have:=hfit.2.1; omega
     have hbN : b < g.size.toNat:=by have:=hfit.2.2.2.1; omega
     have hga:=zmL (g:=g) (S:=S) n i haN
     have hgb:=zmL (g:=g) (S:=S) n i hbN
     have hml : (zai (midL g S n i)).length = k:=by rw [zai,List.length_map,zgS,hN]
     have hsame:=zoe (S:=S) n i h2
     have hset:=zp0 (S:=S) n i h2 hb hbN
     rw [ha] at hsame hset
     rw [hb] at hsame hset
     have hdat:=zur (g:=g) (S:=S) n i a
     generalize hD1 : dP g S n i a = va at *
     generalize hD2 : dP g S n i b = vb at *
     generalize hM : zai (midL g S n i) = M at *
     have hwn : IntKind.i64.wrap ((n : Int) + 1) = (n : Int) + 1:=w64 (by omega) (by omega)
     refine zaf ?_
     refine zab ⟨72,[(2,.pv (gC g)),(5,.rs 16 0 k),(7,.I n),(8,.I i),(9,.pv (eC g.edges[i]))],[(16,some ⟨1,M,0⟩)],128⟩ rfl ?_ ?_
     ·simp [h2]
      exact zfZ (i:=16) (sn:=[208]) rfl rfl (by simp) (by simp) rfl (by rw [← hM]; simp [fcd]) (by simp) (by simp)
     refine zab ⟨72,[(2,.pv (gC g)),(5,.rs 16 0 k),(7,.I n),(8,.I i),(9,.pv (eC g.edges[i])),(64,.B (decide (va = n ∧ vb = -1)))],[(16,some ⟨1,M,0⟩)],248⟩ rfl ?_ ?_
     ·simp [ha,hb,hga,hgb,show a < k by omega,show b < k by omega]
      refine zeS (fun hx=>?_) (fun hx=>?_)
      ·simp [hx,ha,hb,hga,hgb,show a < k by omega,show b < k by omega]
       refine Le.keep rfl (Nat.le_refl _) (by simp <;> simp_all <;> rw [Bool.eq_iff_iff] <;> simp) (by simp)
      ·simp [hx]
       refine Le.keep rfl (Nat.le_refl _) (by simp <;> simp_all) (by simp)
     refine zad _ rfl (fun h5=>?_) fun h5=>zae ?_
     ·simp only [decide_eq_true_eq] at h5
      have hs2:=hset (hdat.1 h5.1) h5.2
      refine zaC rfl ?_
      simp [ha,hb,hgb,show b < k by omega,zbJ,hwn,hs2]
      exact Le.l1 16 16 [] rfl rfl (by simp) (by simp) rfl (by simp)
     ·simp only [decide_eq_false_iff_not] at h5
      rw [hsame (fun hq=>h5 ⟨hdat.2 hq.1,hq.2⟩),hM]
      exact ⟨(),trivial,zfZ (i:=16) (sn:=[]) rfl rfl (by simp) (by simp) rfl (by rw [← hM]; simp [fcd]) (by simp) (by simp)⟩
    have hwi : IntKind.i64.wrap ((i : Int) + 1) = ((i + 1 : Nat) : Int):=by rw [w64 (by omega) (by omega)]; omega
    refine zaC rfl ?_
    simp [hwi]
    exact ⟨i + 1,by omega,by omega,Le.l1 16 16 [] rfl rfl (by simp) (by simp) rfl (by simp)⟩
   simp only [decide_eq_false_iff_not] at h2
   obtain rfl : i = g.edges.length:=by omega
   exact ⟨(),trivial,Le.l1 16 16 [] rfl rfl (by simp) (by simp) rfl (by simp)⟩
  have hwn : IntKind.i64.wrap ((n : Int) + 1) = ((n + 1 : Nat) : Int):=by rw [w64 (by omega) (by omega)]; omega
  refine zaC rfl ?_
  simp [hwn]
  exact ⟨n + 1,by omega,by omega,Le.l1 16 16 [] rfl rfl (by simp) (by simp) rfl (by simp)⟩
 simp only [decide_eq_false_iff_not] at h
 obtain rfl : n = k:=by omega
 rw [hN,zpG,← hN]
 refine zaa ?_
 refine zac (s:=?z9) rfl ?p9 ?r9
 case p9=>simp; rfl
 refine zag ?_
 exact ⟨.inr rfl,zao.out [16] [] rfl (by simp) (by simp) (by simp) (by simp [fcd])⟩
def zcn (c : Int → Int → Int) : List Int → Int → List Int
 | [],x=>[x]
 | y :: r,x=>if c x y < 0 then y :: zcn c r x else x :: y :: r
def zbX (c : Int → Int → Int) (M : List Int) : List Int:=M.foldl (zcn c) []
def ze0 (c : Int → Int → Int) (M : List Int) : List Int:=(zbX c M).reverse
theorem zdV (c : Int → Int → Int) : ∀ (r : List Int) (x : Int),(zcn c r x).Perm (x :: r)
 | [],x=>.refl _
 | y :: r,x=>by
   unfold zcn
   split
   ·exact ((zdV c r x).cons y).trans (.swap _ _ _)
   ·exact .refl _
theorem zjQ (c : Int → Int → Int) (M : List Int) (k : Nat) (h : k < M.length) : zbX c (M.take (k + 1)) = zcn c (zbX c (M.take k)) M[k]:=by
 unfold zbX
 rw [← List.take_concat_get h,List.concat_eq_append,List.foldl_append]
 rfl
theorem zdP (c : Int → Int → Int) (M : List Int) : (zbX c M).Perm M:=by
 have key : ∀ (M acc : List Int),(M.foldl (zcn c) acc).Perm (M ++ acc):=by
  intro M
  induction M with
  | nil=>intro acc; exact .refl _
  | cons x M ih =>
    intro acc
    refine (ih _).trans ?_
    refine ((zdV c acc x).append_left M).trans ?_
    simp only [List.cons_append]
    exact List.perm_middle
 simpa [zbX] using key M []
theorem zgw (c : Int → Int → Int) (M : List Int) : (zbX c M).length = M.length:=(zdP c M).length_eq
theorem zoE (c : Int → Int → Int) (x : Int) : zbX c [x] = [x]:=rfl
theorem Le.np1 {st st' : St} {D : List Int} (sn : List Nat) (hsz : st'.sz = st.sz) (hn : 1 ≤ st'.n) (hh : st'.h = [(0,some ⟨1,zai D,0⟩)]) (hs : ∀ k ∈ sn,1 ≤ k) (he : st.hp 0 = some ⟨1,zai D,0⟩) (ht : ∀ p ∈ st'.t,Wk (conv [(0,0)] sn st.hp 4 (st.get p.1)) p.2) : Le 1 st st' :=
 Le.ents [(0,0)] sn hsz (by simp) (by simp) (by simp; omega) (fun k hk=>⟨hs k hk,by have:=hs k hk; simp; omega⟩) hn ht (fun p hp=>by
  rw [hh] at hp
  simp at hp
  subst hp
  exact ⟨0,_,_,rfl,by simp,he,zaH.eq (by simp [fcd]) (by simp)⟩)
theorem zpK {H T : List Int} {y x : Int} {h : Nat} (hh : H.length = h) : (zai (H ++ y :: x :: T))[h]? = some [AV.I y] ∧ (zai (H ++ y :: x :: T))[h + 1]? = some [AV.I x]:=by
 subst hh
 constructor
 ·rw [List.getElem?_map,List.getElem?_append_right (by omega)]
  simp
 ·rw [List.getElem?_map,List.getElem?_append_right (by omega)]
  simp
theorem zrL {H T : List Int} {y x : Int} {h : Nat} (hh : H.length = h) : ((zai (H ++ y :: x :: T)).set (h + 1) [AV.I y]).set h [AV.I x] = zai (H ++ x :: y :: T):=by
 subst hh
 simp [zai,List.set_append]
set_option maxHeartbeats 4000000 in
set_option maxRecDepth 100000 in
theorem zkN (f : FuncId) (capt : List AV) (c : Int → Int → Int) (A M B : List Int) (n a b : Nat) (hn : (A ++ M ++ B).length = n) (ha : A.length = a) (hb : a + M.length = b) (hl : n ≤ 1000000) (hs : zkq capt)
  (hc : ∀ x ∈ M,∀ y ∈ M,zaj Try.prog f (AV.I x :: AV.I y :: capt) [] (.I (c x y)) []) :
  zaj Try.prog zaE [.rs 0 0 n,.I a,.I b,.fn (.func f) [] capt] [⟨1,zai (A ++ M ++ B),0⟩] (.tup []) [some ⟨1,zai (A ++ ze0 c M ++ B),0⟩]:=by
 have hs2 : ∀ ρ sn h,capt.map (conv ρ sn h 2) = capt:=fun _ _ _=>hs _ _ _ 1
 have hs3 : ∀ ρ sn h,capt.map (conv ρ sn h 3) = capt:=fun _ _ _=>hs _ _ _ 2
 have hs4 : ∀ ρ sn h,capt.map (conv ρ sn h 4) = capt:=fun _ _ _=>hs _ _ _ 3
 refine zch.acalls (nbz rfl) (nbz rfl) (nbz rfl) ?_
 show awp _ 1 _ _ ⟨53,[(0,.rs 0 0 n),(1,.I a),(2,.I b),(3,.fn (.func f) [] capt)],[(0,some ⟨1,zai (A ++ M ++ B),0⟩)],16⟩
 have hlen : a + (M.length + B.length) = n:=by
  simp only [List.length_append] at hn
  omega
 have hbn : b ≤ n:=by omega
 have hwa : IntKind.i64.wrap ((a : Int) + 1) = ((a + 1 : Nat) : Int):=by rw [w64 (by omega) (by omega)]; omega
 let Lk : Nat → List Int:=fun k=>A ++ ((zbX c (M.take k)).reverse ++ (M.drop k ++ B))
 have hL1 : A ++ M ++ B = Lk 1:=by
  cases M with
  | nil=>simp [Lk,zbX]
  | cons m M=>simp [Lk,zoE]
 rw [hL1]
 refine zab ⟨53,[(0,.rs 0 0 n),(1,.I a),(2,.I b),(3,.fn (.func f) [] capt),(8,.I (a + 1 : Nat))],[(0,some ⟨1,zai (Lk 1),0⟩)],40⟩ rfl ?_ ?_
 ·simp [hwa]
  exact Le.keep rfl (Nat.le_refl _) (by simp) (by simp)
 refine zaf ?_
 refine zap (ι:=Nat) (fun k=>⟨53,[(0,.rs 0 0 n),(1,.I a),(2,.I b),(3,.fn (.func f) [] capt),(8,.I (a + k : Nat))],[(0,some ⟨1,zai (Lk k),0⟩)],40⟩) (fun k=>1 ≤ k ∧ k ≤ M.length + 1 ∧ (M.length ≤ k → zai (Lk k) = zai (A ++ ze0 c M ++ B))) (fun k=>M.length + 1 - k) 1 ?_ (Le.refl _ _) ?_
 ·refine ⟨Nat.le_refl _,by omega,fun h=>?_⟩
  simp only [Lk]
  rw [List.take_of_length_le h,List.drop_eq_nil_of_le h]
  simp [ze0]
 rintro k ⟨hk1,hk2,hk3⟩
 refine zaa ?_
 refine zab ⟨53,[(0,.rs 0 0 n),(1,.I a),(2,.I b),(3,.fn (.func f) [] capt),(8,.I (a + k : Nat)),(14,.B (decide (k < M.length)))],[(0,some ⟨1,zai (Lk k),0⟩)],64⟩ rfl ?_ ?_
 ·simp
  exact Le.keep rfl (Nat.le_refl _) (by simp <;> omega) (by simp)
 refine zad _ rfl (fun h=>zae ?_) fun h=>zal (hit ?_)
 ·simp only [decide_eq_true_eq] at h
  refine zaw (ι:=Unit) (fun _=>⟨53,[(0,.rs 0 0 n),(1,.I a),(2,.I b),(3,.fn (.func f) [] capt),(8,.I (a + k : Nat))],[(0,some ⟨1,zai (Lk (k + 1)),0⟩)],64⟩) (fun _=>True) ?_ fun _ _=>?_
  ·have hx : M[k] ∈ M:=List.getElem_mem h
   have hdrop : M.drop k = M[k] :: M.drop (k + 1):=List.drop_eq_getElem_cons h
   have hsucc:=zjQ c M k h
   generalize M[k] = x at *
   obtain ⟨D,hD⟩ : ∃ D,D = M.drop (k + 1) ++ B:=⟨_,rfl⟩
   obtain ⟨R,hR⟩ : ∃ R,R = zbX c (M.take k):=⟨_,rfl⟩
   have hRm : ∀ y ∈ R,y ∈ M:=fun y hy=>by
    rw [hR] at hy
    exact List.mem_of_mem_take ((zdP c _).mem_iff.1 hy)
   have hRl : R.length = k:=by rw [hR,zgw]; simp; omega
   have hDl : D.length + k + 1 = M.length + B.length:=by rw [hD]; simp; omega
   have hLk : Lk k = A ++ R.reverse ++ x :: D:=by simp only [Lk]; rw [hdrop,← hR,hD]; simp
   have hLk1 : Lk (k + 1) = A ++ (zcn c R x).reverse ++ D:=by simp only [Lk]; rw [hsucc,← hR,hD]; simp
   rw [hLk,hLk1]
   refine zaf ?_
   refine zab ⟨53,[(0,.rs 0 0 n),(1,.I a),(2,.I b),(3,.fn (.func f) [] capt),(8,.I (a + k : Nat)),(9,.I (a + k : Nat))],[(0,some ⟨1,zai (A ++ R.reverse ++ x :: D),0⟩)],80⟩ rfl ?_ ?_
   ·simp
    exact Le.keep rfl (Nat.le_refl _) (by simp) (by simp)
   refine zaf ?_
   let C : List Int × List Int → St:=fun p=>⟨53,[(0,.rs 0 0 n),(1,.I a),(2,.I b),(3,.fn (.func f) [] capt),(8,.I (a + k : Nat)),(9,.I (a + p.2.length : Nat))],[(0,some ⟨1,zai (A ++ p.2.reverse ++ x :: (p.1 ++ D)),0⟩)],80⟩
   refine zap C (fun p : List Int × List Int=>zcn c R x = p.1.reverse ++ zcn c p.2 x ∧ p.1.length + p.2.length = k ∧ ∀ y ∈ p.2,y ∈ M) (fun p : List Int × List Int=>p.2.length) ([],R) ⟨rfl,by simpa using hRl,hRm⟩ ?_ ?_
   ·simp only [C,hRl,List.nil_append]
    exact Le.refl _ _
   rintro ⟨U,V⟩ ⟨hins,hUV,hVm⟩
   simp only at hins hUV hVm
   match V,hins,hUV,hVm with
   | [],hins,hUV,hVm =>
     have hC : C (U,[]) = ⟨53,[(0,.rs 0 0 n),(1,.I a),(2,.I b),(3,.fn (.func f) [] capt),(8,.I (a + k : Nat)),(9,.I a)],[(0,some ⟨1,zai (A ++ x :: (U ++ D)),0⟩)],80⟩:=by simp [C]
     rw [hC]
     refine zaa ?_
     refine zbb ⟨53,[(0,.rs 0 0 n),(1,.I a),(2,.I b),(3,.fn (.func f) [] capt),(8,.I (a + k : Nat)),(34,.B false)],[(0,some ⟨1,zai (A ++ x :: (U ++ D)),0⟩)],216⟩ rfl ?_ ?_
     ·simp
      exact ⟨rfl,Le.keep rfl (Nat.le_refl _) (by simp) (by simp)⟩
     refine zad _ rfl (fun h=>by cases h) fun h=>zal (hit ?_)
     have e : A ++ x :: (U ++ D) = A ++ (zcn c R x).reverse ++ D:=by rw [hins]; simp [zcn]
     rw [← e]
     exact ⟨(),trivial,Le.np1 [] rfl (by simp) rfl (by simp) rfl (by simp [hs2,hs3,hs4])⟩
   | y :: V',hins,hUV,hVm =>
     obtain ⟨H,hH⟩ : ∃ H,H = A ++ V'.reverse:=⟨_,rfl⟩
     obtain ⟨T,hT⟩ : ∃ T,T = U ++ D:=⟨_,rfl⟩
     obtain ⟨q,hq⟩ : ∃ q,q = a + V'.length:=⟨_,rfl⟩
     obtain ⟨j,hj⟩ : ∃ j,j = q + 1:=⟨_,rfl⟩
     have hHl : H.length = q:=by rw [hH,hq]; simp; omega
     have hgl : (H ++ y :: x :: T).length = n:=by
      have e : (H ++ y :: x :: T).length = H.length + (T.length + 2):=by simp
      rw [e,hHl,hT,List.length_append]
      simp at hUV
      omega
     have hg1:=(zpK (T:=T) (y:=y) (x:=x) hHl).1
     have hg2:=(zpK (T:=T) (y:=y) (x:=x) hHl).2
     have hset:=zrL (T:=T) (y:=y) (x:=x) hHl
     rw [← hj] at hg2 hset
     have hC : C (U,y :: V') = ⟨53,[(0,.rs 0 0 n),(1,.I a),(2,.I b),(3,.fn (.func f) [] capt),(8,.I (a + k : Nat)),(9,.I j)],[(0,some ⟨1,zai (H ++ y :: x :: T),0⟩)],80⟩:=by
      simp [C,hH,hT,hj,hq,Nat.add_assoc]
     rw [hC]
     have hcy:=hc x hx y (hVm y List.mem_cons_self)
     have hjn : j < n:=by rw [← hgl,hj,← hHl]; simp
     have hwj : IntKind.i64.wrap ((j : Int) - 1) = (q : Int):=by rw [w64 (by omega) (by omega)]; omega
     have hqn : q < n:=by omega
     have haj : a < j:=by omega
     have hRl2 : (zai (H ++ y :: x :: T)).length = n:=by rw [zai,List.length_map,hgl]
     generalize hX : zai (H ++ y :: x :: T) = X at *
     have hflat : ∀ ρ sn h m,X.map (List.map (conv ρ sn h (m + 1))) = X:=fun ρ sn h m=>by rw [← hX]; simp [fcd]
     refine zaa ?_
     refine zbb ⟨53,[(0,.rs 0 0 n),(1,.I a),(2,.I b),(3,.fn (.func f) [] capt),(8,.I (a + k : Nat)),(9,.I j),(34,.B (decide (c x y < 0)))],[(0,some ⟨1,X,0⟩)],216⟩ rfl ?_ ?_
     ·simp [haj,hjn,hqn,hg1,hg2,hwj]
      refine zan hcy ?_ ?_
      ·simp [hs4]
      simp
      exact ⟨rfl,Le.keep rfl (Nat.le_refl _) (by simp) (by simp)⟩
     refine zad _ rfl (fun h5=>zae ?_) fun h5=>zal (hit ?_)
     ·simp only [decide_eq_true_eq] at h5
      have hg3 : (X.set j [AV.I y])[q]? = some [AV.I y]:=by
       rw [List.getElem?_set,if_neg (by omega)]
       exact hg1
      generalize hY : zai (H ++ x :: y :: T) = Y at hset
      refine zaw (ι:=Unit) (fun _=>⟨53,[(0,.rs 0 0 n),(1,.I a),(2,.I b),(3,.fn (.func f) [] capt),(8,.I (a + k : Nat)),(9,.I j)],[(0,some ⟨1,Y,0⟩)],360⟩) (fun _=>True) ?_ fun _ _=>?_
      ·refine zaf ?_
       refine zc3 rfl ?_
       simp [hjn,hqn,hg1,hg2,hg3,hwj,zbJ]
       exact ⟨rfl,Le.keep rfl (Nat.le_refl _) (by simp) (by simp; exact hset)⟩
      refine zaC rfl ?_
      simp [hwj]
      refine ⟨y :: U,V',⟨?_,?_,?_⟩,?_,?_⟩
      ·rw [hins,zcn,if_pos h5]; simp
      ·simp at hUV ⊢; omega
      ·exact fun z hz=>hVm z (List.mem_cons_of_mem _ hz)
      ·simp
      ·have hC2 : C (y :: U,V') = ⟨53,[(0,.rs 0 0 n),(1,.I a),(2,.I b),(3,.fn (.func f) [] capt),(8,.I (a + k : Nat)),(9,.I q)],[(0,some ⟨1,Y,0⟩)],80⟩:=by rw [← hY]; simp [C,hH,hT,hq]
       rw [hC2]
       have hflat2 : ∀ ρ sn h m,Y.map (List.map (conv ρ sn h (m + 1))) = Y:=fun ρ sn h m=>by rw [← hY]; simp [fcd]
       exact Le.ents [(0,0)] [] rfl (by simp) (by simp) (by simp) (by simp) (by simp) (by simp [hs2,hs3,hs4]) fun p hp=>by
        simp at hp
        subst hp
        exact ⟨0,_,_,rfl,by simp,rfl,zaH.eq (by simp only [zaA,hflat2]) (by simp)⟩
     ·simp only [decide_eq_false_iff_not] at h5
      have e : H ++ y :: x :: T = A ++ (zcn c R x).reverse ++ D:=by rw [hins,zcn,if_neg h5,hH,hT]; simp
      rw [← e,hX]
      exact ⟨(),trivial,Le.ents [(0,0)] [] rfl (by simp) (by simp) (by simp) (by simp) (by simp) (by simp [hs2,hs3,hs4]) fun p hp=>by
       simp at hp
       subst hp
       exact ⟨0,_,_,rfl,by simp,rfl,zaH.eq (by simp only [zaA,hflat]) (by simp)⟩⟩
  have hwk : IntKind.i64.wrap (((a + k : Nat) : Int) + 1) = ((a + (k + 1) : Nat) : Int):=by rw [w64 (by omega) (by omega)]; omega
  refine zaC rfl ?_
  have hwk' : IntKind.i64.wrap ((a : Int) + (k : Int) + 1) = ((a + (k + 1) : Nat) : Int):=by rw [← hwk]; congr 1
  simp [hwk']
  refine ⟨k + 1,⟨by omega,by omega,fun h2=>?_⟩,by omega,?_⟩
  ·have he : M.length = k + 1:=by omega
   simp only [Lk]
   rw [List.take_of_length_le (by omega),List.drop_eq_nil_of_le (by omega)]
   simp [ze0]
  ·exact Le.np1 [] rfl (by simp) rfl (by simp) rfl (by simp [hs2,hs3,hs4])
 simp only [decide_eq_false_iff_not] at h
 rw [hk3 (by omega)]
 exact ⟨.inl rfl,⟨[],rfl,[],[],by simp [List.range,List.range.loop],by simp,by simp,by simp,by simp [List.range,List.range.loop,fcd]⟩⟩
set_option maxRecDepth 100000 in
theorem zov (f : FuncId) (capt : List AV) (c : Int → Int → Int) (l : List Int) (n : Nat) (hn : l.length = n) (hl : n < 20) (hs : zkq capt)
  (hc : ∀ x ∈ l,∀ y ∈ l,zaj Try.prog f (AV.I x :: AV.I y :: capt) [] (.I (c x y)) []) :
  zaj Try.prog zbf [.rs 0 0 n,.I n,.fn (.func f) [] capt] [⟨1,zai l,0⟩] (.tup []) [some ⟨1,zai (ze0 c l),0⟩]:=by
 have hs2 : ∀ ρ sn h,capt.map (conv ρ sn h 2) = capt:=fun _ _ _=>hs _ _ _ 1
 have hs3 : ∀ ρ sn h,capt.map (conv ρ sn h 3) = capt:=fun _ _ _=>hs _ _ _ 2
 have hs4 : ∀ ρ sn h,capt.map (conv ρ sn h 4) = capt:=fun _ _ _=>hs _ _ _ 3
 refine zds.acalls (nbz rfl) (nbz rfl) (nbz rfl) ?_
 show awp _ 1 _ _ ⟨63,[(0,.rs 0 0 n),(1,.I n),(2,.fn (.func f) [] capt)],[(0,some ⟨1,zai l,0⟩)],16⟩
 have hins:=zkN f capt c [] l [] n 0 n (by simpa using hn) rfl (by simpa using hn) (by omega) hs hc
 simp only [List.nil_append,List.append_nil] at hins
 refine zaa ?_
 refine zac (s:=?s1) rfl ?o1 ?q1
 case o1=>simp; rfl
 refine zab ⟨63,[(0,.rs 0 0 n),(1,.I n),(2,.fn (.func f) [] capt),(6,.I 20),(7,.I 0),(8,.I 20)],[(0,some ⟨1,zai l,0⟩)],48⟩ rfl ?_ ?_
 ·simp
  exact Le.keep rfl (Nat.le_refl _) (by simp) (by simp)
 refine zaa ?_
 refine zaf ?_
 refine zap (ι:=Unit) (fun _=>⟨63,[(0,.rs 0 0 n),(1,.I n),(2,.fn (.func f) [] capt),(6,.I 20),(7,.I 0),(8,.I 20)],[(0,some ⟨1,zai l,0⟩)],48⟩) (fun _=>True) (fun _=>0) () trivial (Le.refl _ _) ?_
 intro _ _
 refine zaa ?_
 refine zab ⟨63,[(0,.rs 0 0 n),(1,.I n),(2,.fn (.func f) [] capt),(6,.I 20),(7,.I 0),(8,.I 20),(13,.B false)],[(0,some ⟨1,zai l,0⟩)],72⟩ rfl ?_ ?_
 ·simp
  exact Le.keep rfl (Nat.le_refl _) (by simp; omega) (by simp)
 refine zad _ rfl (fun h=>by cases h) fun _=>zal (hit ?_)
 refine zab ⟨63,[(1,.I n),(6,.I 20)],[(0,some ⟨1,zai (ze0 c l),0⟩)],112⟩ rfl ?_ ?_
 ·simp
  refine zbh (i:=0) rfl (e':=⟨1,zai l,0⟩) (by simp [fcd]) hins (by simp) ?_ ?_
  ·simp [hs2,hs3,hs4]
  simp [fcd]
  exact Le.keep rfl (Nat.le_refl _) (by simp) (by simp)
 refine zaf ?_
 refine zap (ι:=Unit) (fun _=>⟨63,[(1,.I n),(6,.I 20)],[(0,some ⟨1,zai (ze0 c l),0⟩)],112⟩) (fun _=>True) (fun _=>0) () trivial (Le.refl _ _) ?_
 intro _ _
 refine zaa ?_
 refine zab ⟨63,[(1,.I n),(6,.I 20),(30,.B false)],[(0,some ⟨1,zai (ze0 c l),0⟩)],136⟩ rfl ?_ ?_
 ·simp
  exact Le.keep rfl (Nat.le_refl _) (by simp; omega) (by simp)
 refine zad _ rfl (fun h=>by cases h) fun _=>zal (hit ?_)
 exact ⟨.inl rfl,⟨[],rfl,[],[],by simp [List.range,List.range.loop],by simp,by simp,by simp,by simp [List.range,List.range.loop,fcd]⟩⟩
theorem zjA (f : FuncId) (capt : List AV) (c : Int → Int → Int) (l : List Int) (n : Nat) (hn : l.length = n) (hl : n < 20) (hs : zkq capt)
  (hc : ∀ x ∈ l,∀ y ∈ l,zaj Try.prog f (AV.I x :: AV.I y :: capt) [] (.I (c x y)) []) :
  zaj Try.prog zaT [.rs 0 0 n,.fn (.func f) [] capt] [⟨1,zai l,0⟩] (.tup []) [some ⟨1,zai (ze0 c l),0⟩]:=by
 have hs2 : ∀ ρ sn h,capt.map (conv ρ sn h 2) = capt:=fun _ _ _=>hs _ _ _ 1
 have hs3 : ∀ ρ sn h,capt.map (conv ρ sn h 3) = capt:=fun _ _ _=>hs _ _ _ 2
 have hs4 : ∀ ρ sn h,capt.map (conv ρ sn h 4) = capt:=fun _ _ _=>hs _ _ _ 3
 refine zcw.acalls (nbz rfl) (nbz rfl) (nbz rfl) ?_
 show awp _ 1 _ _ ⟨9,[(0,.rs 0 0 n),(1,.fn (.func f) [] capt)],[(0,some ⟨1,zai l,0⟩)],16⟩
 refine zac (s:=?s1) rfl ?o1 ?q1
 case o1 =>
  simp
  refine zbh (i:=0) rfl (e':=⟨1,zai l,0⟩) (by simp [fcd]) (zov f capt c l n hn hl hs hc) (by simp) ?_ ?_
  ·simp [hs2,hs3,hs4]
  simp [fcd]
  rfl
 exact ⟨.inl rfl,⟨[],rfl,[],[],by simp [List.range,List.range.loop],by simp,by simp,by simp,by simp [List.range,List.range.loop,fcd]⟩⟩
theorem zlQ (D : List Int) (k : Nat) (hk : k < D.length) : zaj Try.prog za9 [.I k,.pv [ints D]] [] (.B (decide (0 ≤ D.getD k 0))) []:=by
 refine zfz.acalls (nbz rfl) (nbz rfl) (Nat.le_refl _) ?_
 show awp _ 0 _ _ ⟨9,[(0,.I k),(1,.pv [ints D])],[],16⟩
 refine zaa ?_
 refine zac (s:=?s0) rfl ?o0 ?q0
 case o0=>simp; rfl
 refine zaa ?_
 refine zac (s:=?s1) rfl ?o1 ?q1
 case o1=>simp [hk]; rfl
 refine zag ?_
 exact ⟨.inr rfl,zao.one (by simp [hk])⟩
theorem zmf (D : List Int) (a b : Nat) (ha : a < D.length) (hb : b < D.length) : zaj Try.prog zbz [.I a,.I b,.pv [ints D]] [] (.I (cmpI (D.getD a 0) (D.getD b 0))) []:=by
 refine zfM.acalls (nbz rfl) (nbz rfl) (Nat.le_refl _) ?_
 show awp _ 0 _ _ ⟨15,[(0,.I a),(1,.I b),(2,.pv [ints D])],[],16⟩
 refine zaa ?_
 refine zac (s:=?s0) rfl ?o0 ?q0
 case o0=>simp; rfl
 refine zaa ?_
 refine zcO (s:=?s1) (tr:=?t1) rfl ?o1 ?r1 ?q1
 case o1=>simp [ha,hb]; refine zan (zf3 ..) rfl ?_; simp; constructor <;> rfl
 case r1=>rfl
 refine zag ?_
 exact ⟨.inr rfl,zao.one (by simp [ha,hb])⟩
variable {g : Gr} {S : List Int}
theorem zpH {k : Nat} (hk : k < g.size.toNat) : (zce g S).getD k 0 = dist g S k:=by simp [zce,List.getD,hk]
theorem zhd : (zce g S).length = g.size.toNat:=by simp [zce]
def Lt (g : Gr) (S : List Int) (a b : Int) : Prop:=dist g S a < dist g S b ∨ dist g S a = dist g S b ∧ a < b
def cD (g : Gr) (S : List Int) (a b : Int) : Int:=cmpI (dist g S a) (dist g S b)
def ordN (g : Gr) (S : List Int) : Nat → List Int
 | 0=>[]
 | m + 1=>ordN g S m ++ zaX g.size.toNat fun k=>decide (dist g S k = m)
def ordL (g : Gr) (S : List Int) : List Int:=ordN g S g.size.toNat
theorem zcQ {n : Nat} {q : Int → Bool} {x : Int} : x ∈ zaX n q ↔ (0 ≤ x ∧ x < n) ∧ q x = true:=by
 unfold zaX
 simp only [List.mem_filter,List.mem_map,List.mem_range]
 constructor
 ·rintro ⟨⟨i,hi,rfl⟩,h⟩
  exact ⟨⟨by omega,by omega⟩,h⟩
 ·rintro ⟨⟨h1,h2⟩,h⟩
  exact ⟨⟨x.toNat,by omega,by omega⟩,h⟩
theorem zhF (n : Nat) (q : Int → Bool) : (zaX n q).Pairwise (· < ·):=by
 unfold zaX
 refine List.Pairwise.filter _ ?_
 rw [List.pairwise_map]
 exact List.pairwise_lt_range.imp fun h=>by omega
theorem zg2 {m : Nat} {x : Int} : x ∈ ordN g S m ↔ (0 ≤ x ∧ x < g.size.toNat) ∧ 0 ≤ dist g S x ∧ dist g S x < m:=by
 induction m with
 | zero=>simp [ordN] <;> omega
 | succ m ih =>
   rw [ordN,List.mem_append,ih,zcQ]
   simp only [decide_eq_true_eq]
   constructor
   ·rintro (⟨h1,h2,h3⟩ | ⟨h1,h2⟩)
    ·exact ⟨h1,h2,by omega⟩
    ·exact ⟨h1,by omega,by omega⟩
   ·rintro ⟨h1,h2,h3⟩
    by_cases h4 : dist g S x = m
    ·exact .inr ⟨h1,h4⟩
    ·exact .inl ⟨h1,h2,by omega⟩
theorem zlm (m : Nat) : (ordN g S m).Pairwise (Lt g S):=by
 induction m with
 | zero=>exact .nil
 | succ m ih =>
   rw [ordN,List.pairwise_append]
   refine ⟨ih,?_,fun a ha b hb=>?_⟩
   ·refine (zhF _ _).imp_of_mem fun {a b} ha hb hab=>?_
    have h1:=(zcQ.1 ha).2
    have h2:=(zcQ.1 hb).2
    simp at h1 h2
    exact .inr ⟨by omega,hab⟩
   ·have h1:=zg2.1 ha
    have h2:=(zcQ.1 hb).2
    simp at h2
    exact .inl (by omega)
theorem zrm {a b : Int} : cD g S a b < 0 ↔ dist g S a < dist g S b:=by
 simp only [cD,cmpI]
 grind
theorem zhL : ∀ (r : List Int) (x : Int),r.Pairwise (fun a b=>Lt g S b a) → (∀ y ∈ r,y < x) → (zcn (cD g S) r x).Pairwise fun a b=>Lt g S b a
 | [],x,_,_=>by simp [zcn]
 | y :: r,x,hp,hx=>by
   unfold zcn
   rw [List.pairwise_cons] at hp
   split
   ·rename_i h
    rw [zrm] at h
    rw [List.pairwise_cons]
    refine ⟨fun z hz=>?_,zhL r x hp.2 fun z hz=>hx z (List.mem_cons_of_mem _ hz)⟩
    have:=(zdV (cD g S) r x).mem_iff.1 hz
    rcases List.mem_cons.1 this with rfl | hz
    ·exact .inl h
    ·exact hp.1 z hz
   ·rename_i h
    rw [zrm] at h
    rw [List.pairwise_cons,List.pairwise_cons]
    have hyx:=hx y List.mem_cons_self
    refine ⟨fun z hz=>?_,hp.1,hp.2⟩
    rcases List.mem_cons.1 hz with rfl | hz
    ·unfold Lt; omega
    ·have h1:=hp.1 z hz
     have h2:=hx z (List.mem_cons_of_mem _ hz)
     unfold Lt at *
     omega
theorem znj {l : List Int} (h : l.Pairwise (· < ·)) : (ze0 (cD g S) l).Pairwise (Lt g S):=by
 have key : ∀ (l acc : List Int),l.Pairwise (· < ·) → acc.Pairwise (fun a b=>Lt g S b a) → (∀ y ∈ acc,∀ x ∈ l,y < x) → (l.foldl (zcn (cD g S)) acc).Pairwise fun a b=>Lt g S b a:=by
  intro l
  induction l with
  | nil=>intro acc _ h _; exact h
  | cons x l ih =>
    intro acc hl hacc hlt
    rw [List.pairwise_cons] at hl
    refine ih _ hl.2 (zhL acc x hacc fun y hy=>hlt y hy x List.mem_cons_self) fun y hy z hz=>?_
    have:=(zdV (cD g S) acc x).mem_iff.1 hy
    rcases List.mem_cons.1 this with rfl | hy
    ·exact hl.1 z hz
    ·exact hlt y hy z (List.mem_cons_of_mem _ hz)
 unfold ze0 zbX
 rw [List.pairwise_reverse]
 exact key l [] h .nil (by simp)
theorem zft {R : Int → Int → Prop} (hR : ∀ a b,R a b → ¬ R b a) : ∀ {l1 l2 : List Int},l1.Pairwise R → l2.Pairwise R → (∀ x,x ∈ l1 ↔ x ∈ l2) → l1 = l2
 | [],[],_,_,_=>rfl
 | [],b :: l2,_,_,h=>absurd ((h b).2 List.mem_cons_self) (by simp)
 | a :: l1,[],_,_,h=>absurd ((h a).1 List.mem_cons_self) (by simp)
 | a :: l1,b :: l2,h1,h2,h=>by
   rw [List.pairwise_cons] at h1 h2
   have hab : a = b:=by
    rcases List.mem_cons.1 ((h a).1 List.mem_cons_self) with e | ha
    ·exact e
    ·rcases List.mem_cons.1 ((h b).2 List.mem_cons_self) with e | hb
     ·exact e.symm
     ·exact absurd (h1.1 b hb) (hR _ _ (h2.1 a ha))
   subst hab
   congr 1
   refine zft hR h1.2 h2.2 fun x=>?_
   constructor
   ·intro hx
    rcases List.mem_cons.1 ((h x).1 (List.mem_cons_of_mem _ hx)) with rfl | hx2
    ·exact absurd (h1.1 x hx) (fun q=>hR _ _ q q)
    ·exact hx2
   ·intro hx
    rcases List.mem_cons.1 ((h x).2 (List.mem_cons_of_mem _ hx)) with rfl | hx2
    ·exact absurd (h2.1 x hx) (fun q=>hR _ _ q q)
    ·exact hx2
theorem zq8 (hg : GrOk g) : ze0 (cD g S) (zaX g.size.toNat fun k=>decide (0 ≤ dist g S k)) = ordL g S:=by
 refine zft (R:=Lt g S) (fun a b h1 h2=>by unfold Lt at *; omega) (znj (zhF _ _)) (zlm _) fun x=>?_
 have hp : x ∈ ze0 (cD g S) (zaX g.size.toNat fun k=>decide (0 ≤ dist g S k)) ↔ x ∈ zaX g.size.toNat fun k=>decide (0 ≤ dist g S k):=by
  unfold ze0
  rw [List.mem_reverse]
  exact (zdP _ _).mem_iff
 rw [hp,zcQ]
 have hm:=zg2 (g:=g) (S:=S) (m:=g.size.toNat) (x:=x)
 unfold ordL
 rw [hm]
 simp only [decide_eq_true_eq]
 constructor
 ·rintro ⟨h1,h2⟩
  refine ⟨h1,h2,?_⟩
  rcases zog hg (S:=S) (k:=x) ⟨h1.1,by omega⟩ with h | h <;> omega
 ·rintro ⟨h1,h2,_⟩
  exact ⟨h1,h2⟩
structure Expl where
 key : Int
 acc : Bool
 before : List Int
 paths : List (List Int)
 side : List Int
theorem zdL (g : Gr) (S : List Int) : (ordL g S).Nodup:=by
 refine (zlm (g:=g) (S:=S) g.size.toNat).imp fun {a b} h e=>?_
 subst e
 unfold Lt at h
 omega
theorem zgp {g : Gr} {S : List Int} {k : Int} (h : k ∈ ordL g S) : 0 ≤ k ∧ k < g.size:=by
 have:=zg2.1 h
 omega
open Classical in
noncomputable def zoj (g : Gr) (p : Pol) (x : Expl) : Int :=
 let order:=ordL (zam g p.lv) p.seeds
 let c:=zbV g p
 if x.key ∉ order then 11
 else if ¬ zet order x.before x.key ∨ (x.acc = true ∧ x.side ≠ []) ∨ (x.acc = false ∧ x.paths ≠ []) then 1
 else if x.acc = true then (if zga g p.lv p.seeds order c x.paths (x.before ++ [x.key]) then 0 else 52)
 else if zlI ⟨2 + 2 * g.size,zbv g p c (srt (x.before ++ [x.key]))⟩ x.side x.before.length then 0 else 52
open Classical in
noncomputable def znX (g : Gr) (p : Pol) (x : Expl) : Int :=
 let order:=ordL (zam g p.lv) p.seeds
 let c:=zbV g p
 if x.key ∉ order then 11
 else if ¬ zet order x.before x.key ∨ (x.acc = true ∧ x.side ≠ []) ∨ (x.acc = false ∧ x.paths ≠ []) then 1
 else if x.acc = true then (if zhD g p.lv p.seeds order c x.paths (x.before ++ [x.key]) then 0 else 52)
 else if zlI ⟨2 + 2 * g.size,zbv g p c (za3 (x.before ++ [x.key]))⟩ x.side x.before.length then 0 else 52
theorem znJ {g : Gr} (hs : g.size ≤ 64) (p : Pol) (x : Expl) : zoj g p x = znX g p x:=by
 unfold zoj znX
 simp only
 have hno:=zdL (zam g p.lv) p.seeds
 have hra : ∀ k ∈ ordL (zam g p.lv) p.seeds,0 ≤ k ∧ k < 64:=fun k hk=>by
  have:=zgp hk
  have h2 : (zam g p.lv).size = g.size:=rfl
  omega
 generalize ordL (zam g p.lv) p.seeds = o at *
 by_cases h1 : x.key ∈ o
 ·by_cases h2 : ¬ zet o x.before x.key ∨ (x.acc = true ∧ x.side ≠ []) ∨ (x.acc = false ∧ x.paths ≠ [])
  ·rw [if_neg (not_not_intro h1),if_pos h2,if_neg (not_not_intro h1),if_pos h2]
  ·rw [if_neg (not_not_intro h1),if_neg h2,if_neg (not_not_intro h1),if_neg h2]
   have h3 : zet o x.before x.key:=Classical.byContradiction fun h=>h2 (.inl h)
   have h4:=h3.nodup hno
   have h5 : ∀ k ∈ x.before ++ [x.key],0 ≤ k ∧ k < 64:=fun k hk=>by
    rcases List.mem_append.1 hk with hk | hk
    ·exact hra k ((List.takeWhile_sublist _).subset (h3.subset hk))
    ·rw [List.mem_singleton] at hk
     rw [hk]
     exact hra _ h1
   rw [zmJ h4 h5]
   by_cases ha : x.acc = true
   ·rw [if_pos ha,if_pos ha]
    by_cases hc : zga g p.lv p.seeds o (zbV g p) x.paths (x.before ++ [x.key])
    ·rw [if_pos hc,if_pos ((ziE h4).1 hc)]
    ·rw [if_neg hc,if_neg fun h=>hc ((ziE h4).2 h)]
   ·rw [if_neg ha,if_neg ha]
 ·rw [if_pos h1,if_pos h1]
theorem zpD {g : Gr} {p : Pol} {k : Int} (h0 : 0 ≤ k) (h1 : k < g.size) : (zbV g p).getD k.toNat 0 = zjc p (dist (zam g p.lv) p.seeds k):=by
 unfold zbV zce
 have h2 : k.toNat < (zam g p.lv).size.toNat:=by show k.toNat < g.size.toNat; omega
 rw [List.getD_eq_getElem?_getD,List.getElem?_map,List.getElem?_map,List.getElem?_range h2]
 simp only [Option.map_some,Option.getD_some]
 rw [show ((k.toNat : Nat) : Int) = k by omega]
theorem zow {g : Gr} {p : Pol} {k : Int} (h1 : g.size ≤ k) : (zbV g p).getD k.toNat 0 = 0:=by
 unfold zbV zce
 have h2 : ¬ k.toNat < (zam g p.lv).size.toNat:=by show ¬ k.toNat < g.size.toNat; omega
 rw [List.getD_eq_getElem?_getD,List.getElem?_eq_none (by simp; omega)]
 rfl
theorem zk4 {g : Gr} {p : Pol} {n : Int} (hp : zb9 n p) : ∀ x ∈ zbV g p,0 ≤ x:=fun x hx=>by
 unfold zbV at hx
 obtain ⟨d,_,rfl⟩:=List.mem_map.1 hx
 exact (zlT hp d).1
theorem ziY {g : Gr} {p : Pol} {n : Int} (hp : zb9 n p) {k : Int} (h0 : 0 ≤ k) : 0 < (zbV g p).getD k.toNat 0 ↔ k < g.size ∧ 0 ≤ dist (zam g p.lv) p.seeds k:=by
 by_cases h1 : k < g.size
 ·rw [zpD h0 h1,zpu hp]
  exact ⟨fun h=>⟨h1,h⟩,fun h=>h.2⟩
 ·rw [zow (by omega)]
  constructor
  ·intro h; omega
  ·intro h; exact absurd h.1 h1
theorem GrOk.level {g : Gr} (h : GrOk g) (v : Int) : GrOk (zam g v):=by
 refine ⟨⟨h.1.1,h.1.2.1,Nat.le_trans (List.length_filter_le _ _) h.1.2.2.1,h.1.2.2.2⟩,fun i hi=>?_⟩
 have hm : (zam g v).edges[i] ∈ g.edges:=(List.mem_filter.1 (List.getElem_mem hi)).1
 obtain ⟨j,hj,hje⟩:=List.mem_iff_getElem.1 hm
 have h1:=h.2 j hj
 rw [hje] at h1
 refine ⟨h1.1,h1.2.1,h1.2.2.1,fun h0=>?_⟩
 rw [zhX]
 have hp : (zam g v).edges.Pairwise Bef:=h.pair.filter _
 exact List.pairwise_iff_getElem.1 hp (i - 1) i (by omega) hi (by omega)
theorem zji {g : Gr} (h : GrOk g) {S : List Int} {k : Int} : k ∈ ordL g S ↔ Key g k ∧ 0 ≤ dist g S k:=by
 unfold ordL
 rw [zg2]
 constructor
 ·rintro ⟨⟨h1,h2⟩,h3,_⟩
  exact ⟨⟨h1,by omega⟩,h3⟩
 ·rintro ⟨h1,h2⟩
  have h3:=zog (S:=S) h h1
  have h4:=h1.1
  have h5:=h1.2
  exact ⟨⟨h4,by omega⟩,h2,by omega⟩
theorem zgf {g : Gr} (h : GrOk g) (v : Int) : ((zam g v).edges.map zdb).Nodup ∧ ∀ e ∈ (zam g v).edges,0 ≤ e.f ∧ e.f < g.size ∧ 0 ≤ e.t ∧ e.t < g.size:=by
 have hl:=h.level v
 refine ⟨?_,fun e he=>?_⟩
 ·rw [List.Nodup,List.pairwise_map]
  refine hl.pair.imp fun {a b} hab he=>?_
  unfold Bef at hab
  unfold zdb at he
  simp at he
  omega
 ·obtain ⟨i,hi,rfl⟩:=List.mem_iff_getElem.1 he
  have h1:=(hl.2 i hi).1
  have h2 : (zam g v).size = g.size:=rfl
  unfold Fits at h1
  omega
theorem Rise.nodup {l : List Int} {lo hi : Int} (h : Rise l lo hi) : l.Nodup ∧ ∀ x ∈ l,lo ≤ x ∧ x ≤ hi:=by
 have hlt : ∀ (j i : Nat) (hj : j < l.length) (hij : i < j),l[i] < l[j]:=by
  intro j
  induction j with
  | zero=>intro i _ hij; omega
  | succ j ih =>
    intro i hj hij
    have h1:=(h (j + 1) hj).2.2 (by omega)
    simp only [Nat.add_sub_cancel] at h1
    rcases Nat.lt_or_ge i j with h2 | h2
    ·have:=ih i (by omega) h2
     omega
    ·have : i = j:=by omega
     subst this
     exact h1
 refine ⟨List.pairwise_iff_getElem.2 fun i j hi hj hij he=>?_,fun x hx=>?_⟩
 ·have:=hlt j i hj hij
  omega
 ·obtain ⟨i,hi,rfl⟩:=List.mem_iff_getElem.1 hx
  have:=h i hi
  exact ⟨this.1,this.2.1⟩
theorem zlg {g : Gr} {p : Pol} {sinks ends f : List Int} {W : List (List Nat)} (hg : GrOk g) (hp : zb9 g.size p) (hk : sinks.Nodup) (hk0 : ∀ x ∈ sinks,0 ≤ x) (hpe : ends.Perm sinks)
  (hf : Fit2 (zbv g p (zbV g p) sinks) f) (hw : ∀ w ∈ W,WayA (zbv g p (zbV g p) sinks) 0 w 1 ∧ (metA (zbv g p (zbV g p) sinks) w).Nodup)
  (hs : ∀ i,i < (zbv g p (zbV g p) sinks).length → (sumN (List.count i) W : Int) ≤ f.getD i 0) (hl : W.length = sinks.length) :
  zhD g p.lv p.seeds (ordL (zam g p.lv) p.seeds) (zbV g p) (W.map (zca (zbv g p (zbV g p) sinks))) ends:=by
 have hgl:=hg.level p.lv
 have hse:=hp.2.1.nodup
 have hle:=zgf hg p.lv
 have hmo : ∀ k,0 ≤ k → 0 < (zbV g p).getD k.toNat 0 → k ∈ ordL (zam g p.lv) p.seeds:=fun k h0 hc=>by
  have h1:=(ziY hp h0).1 hc
  exact (zji hgl).2 ⟨⟨h0,h1.1⟩,h1.2⟩
 have hnet : zfx (zbv g p (zbV g p) sinks) (fun x y=>zm7 g p.lv x y ∧ y ∈ ordL (zam g p.lv) p.seeds) (p.seeds.filter fun x=>decide (x ∈ ordL (zam g p.lv) p.seeds)) sinks fun x=>(zbV g p).getD x.toNat 0:=by
  refine zlr (fun e he hc=>?_) (fun x hx hc=>?_) hse.1 (fun x hx=>(hse.2 x hx).1) hk hk0 hle.1 fun e he=>⟨(hle.2 e he).1,(hle.2 e he).2.2.1⟩
  ·have h0:=hle.2 e he
   have h1:=(ziY hp h0.1).1 hc
   have h2:=zfL hgl he h1.2
   refine ⟨?_,(zji hgl).2 ⟨⟨h0.2.2.1,h0.2.2.2⟩,h2.1⟩⟩
   unfold zam at he
   have h3:=List.mem_filter.1 he
   refine ⟨e,h3.1,rfl,rfl,?_⟩
   have:=h3.2
   simp at this
   omega
  ·exact List.mem_filter.2 ⟨hx,by simpa using hmo x (hse.2 x hx).1 hc⟩
 obtain ⟨q1,q2,q3,q4⟩:=znK hnet hf hw hs (zk4 hp)
 refine ⟨by rw [List.length_map,hl,hpe.length_eq],hpe.nodup_iff.2 hk,fun w hwW=>?_,fun k hkl=>hpe.mem_iff.2 (q3 k hkl),q2,q1⟩
 obtain ⟨⟨k,hk1,hk2⟩,h2,h3⟩:=q4 w hwW
 have hk3:=List.mem_filter.1 hk2
 have hk4 : k ∈ ordL (zam g p.lv) p.seeds:=by simpa using hk3.2
 refine ⟨⟨k,hk1,hk3.1⟩,fun x hx=>?_,h2,fun i hi=>(h3 i hi).1⟩
 obtain ⟨i,hi,rfl⟩:=List.mem_iff_getElem.1 hx
 cases i with
 | zero =>
   rw [List.head?_eq_getElem?,List.getElem?_eq_getElem hi] at hk1
   rw [Option.some.inj hk1]
   exact hk4
 | succ i=>exact (h3 i hi).2
section
variable {g : Gr} {S : List Int}
theorem ziG (h : GrOk g) (T : Int → Bool) (hT : ∀ k,zbS g S k = true → T k = true) : ∀ (n : Nat) (k : Int),dist g S k = n → T k = false → ∃ e ∈ g.edges,T e.f = true ∧ T e.t = false ∧ 0 ≤ dist g S e.f ∧ 0 ≤ dist g S e.t
 | 0,k,hd,hk=>by
   have:=hT k ((zc2 h).1 hd)
   rw [hk] at this
   cases this
 | n + 1,k,hd,hk=>by
   obtain ⟨e,he,h1,h2⟩:=zhG h (by rw [hd]; omega : dist g S k = (n : Int) + 1)
   cases hf : T e.f
   ·exact ziG h T hT n e.f h2 hf
   ·exact ⟨e,he,hf,by rw [h1]; exact hk,by omega,by rw [h1]; omega⟩
def edW (g : Gr) (x y : Int) : Int:=((g.edges.filter fun e=>decide (e.f = x) && decide (e.t = y)).map fun e=>e.v).sum
def wayW (g : Gr) (S : List Int) (restart : Int) (x y : Int) : Int:=(if S.contains y then restart else 0) + edW g x y
def zlv (g : Gr) (S : List Int) (restart : Int) (K : List Int) : Mat:=fun i j=>wayW g S restart (K.getD i 0) (K.getD j 0)
theorem zcZ : ∀ {l : List Int},(∀ x ∈ l,0 ≤ x) → 0 ≤ l.sum
 | [],_=>by simp
 | x :: l,h=>by
   have h1:=h x (by simp)
   have h2:=zcZ (l:=l) fun y hy=>h y (by simp [hy])
   rw [List.sum_cons]
   omega
theorem zmm : ∀ {l : List Int} {y : Int},(∀ x ∈ l,0 ≤ x) → y ∈ l → y ≤ l.sum
 | x :: l,y,h,hy=>by
   have h1:=h x (by simp)
   have h2:=zcZ (l:=l) fun y hy=>h y (by simp [hy])
   rw [List.sum_cons]
   rcases List.mem_cons.1 hy with rfl | hy
   ·omega
   ·have:=zmm (l:=l) (fun y hy=>h y (by simp [hy])) hy
    omega
theorem ziW (hv : ∀ e ∈ g.edges,0 ≤ e.v) (x y : Int) : 0 ≤ edW g x y:=zcZ fun v hv'=>by
 obtain ⟨e,he,rfl⟩:=List.mem_map.1 hv'
 exact hv e (List.mem_filter.1 he).1
theorem zrw (hv : ∀ e ∈ g.edges,1 ≤ e.v) {e : Ed} (he : e ∈ g.edges) : 0 < edW g e.f e.t:=by
 have h1 : e.v ≤ edW g e.f e.t:=zmm (fun v hv'=>by
  obtain ⟨e,he,rfl⟩:=List.mem_map.1 hv'
  have:=hv e (List.mem_filter.1 he).1
  omega) (List.mem_map.2 ⟨e,List.mem_filter.2 ⟨he,by simp⟩,rfl⟩)
 have:=hv e he
 omega
theorem zr5 (h : GrOk g) (hv : ∀ e ∈ g.edges,1 ≤ e.v) {restart : Int} (hr : 1 ≤ restart) {K : List Int} (hK : ∀ k,k ∈ K ↔ Key g k ∧ 0 ≤ dist g S k) (hn : K.Nodup) (hS : ∀ s ∈ S,Key g s) {N : Nat} (hN : K.length = N + 1) {r : Nat} (hrN : r < N + 1) : Walk (zlv g S restart K) N r:=by
 have hnn : ∀ x y,0 ≤ wayW g S restart x y:=fun x y=>by
  have:=ziW (fun e he=>by have:=hv e he; omega) x y
  unfold wayW
  split <;> omega
 refine ⟨hrN,fun i j _ _=>hnn _ _,fun A hA hex=>?_⟩
 obtain ⟨i,hi,hAi⟩:=hex
 by_cases hst : ∃ s,s < N + 1 ∧ S.contains (K.getD s 0) = true ∧ A s = false
 ·obtain ⟨s,hs,h1,h2⟩:=hst
  refine ⟨i,s,hi,hs,hAi,h2,?_⟩
  have:=ziW (fun e he=>by have:=hv e he; omega) (K.getD i 0) (K.getD s 0)
  unfold zlv wayW
  rw [if_pos h1]
  omega
 ·
  have hat : ∀ {k : Int},k ∈ K → K.idxOf k < N + 1 ∧ K.getD (K.idxOf k) 0 = k:=fun {k} hk=>by
   have h1:=List.idxOf_lt_length_iff.2 hk
   refine ⟨by omega,?_⟩
   simp [h1]
  let T : Int → Bool:=fun k=>decide (k ∈ K) && A (K.idxOf k)
  have hT : ∀ k,zbS g S k = true → T k = true:=fun k hk=>by
   have hd:=(zc2 h).2 hk
   have hs : S.contains k = true:=by
    unfold zbS at hk
    simp only [Bool.and_eq_true] at hk
    exact hk.1
   have hkK : k ∈ K:=(hK k).2 ⟨hS k (by simpa using hs),by omega⟩
   obtain ⟨h1,h2⟩:=hat hkK
   have h3 : A (K.idxOf k) = true:=by
    cases h4 : A (K.idxOf k)
    ·exact absurd ⟨K.idxOf k,h1,by rw [h2]; exact hs,h4⟩ hst
    ·rfl
   simp [T,hkK,h3]
  have hrl : r < K.length:=by omega
  have hkr : K[r] ∈ K:=List.getElem_mem hrl
  have hdr:=((hK K[r]).1 hkr).2
  have hir : K.idxOf K[r] = r:=hn.idxOf_getElem r hrl
  obtain ⟨e,he,h1,h2,h3,h4⟩:=ziG h T hT (dist g S K[r]).toNat K[r] (by omega) (by simp [T,hir,hA])
  have hef : e.f ∈ K ∧ A (K.idxOf e.f) = true:=by simpa [T] using h1
  have het : e.t ∈ K:=(hK e.t).2 ⟨by have:=h.fits e he; unfold Fits at this; unfold Key; omega,h4⟩
  have hat2 : A (K.idxOf e.t) = false:=by simpa [T,het] using h2
  obtain ⟨q1,q2⟩:=hat hef.1
  obtain ⟨q3,q4⟩:=hat het
  refine ⟨K.idxOf e.f,K.idxOf e.t,q1,q3,hef.2,hat2,?_⟩
  unfold zlv wayW
  rw [q2,q4]
  have:=zrw hv he
  split <;> omega
end
theorem zkC {N y : Nat} {W : Mat} {d all : Int} {t m w q : Nat → Int} (hy : y < N + 1) (hd : d ≠ 0) (hw : ∀ x,x < N + 1 → w x * d = t x * m x) (hm : ∀ x,x < N + 1 → q x * m x = all) (hb : smN (N + 1) (fun x=>t x * W x y) = t y * m y) :
  smN (N + 1) (fun x=>w x * W x y * q x) = w y * all:=by
 refine Int.eq_of_mul_eq_mul_left hd ?_
 rw [← zer]
 have h1:=zaF (N + 1) (f:=fun x=>d * (w x * W x y * q x)) (g:=fun x=>all * (t x * W x y)) fun x hx=>by
  have h2:=hw x hx
  have h3:=hm x hx
  have e : d * (w x * W x y * q x) = w x * d * W x y * q x:=by grind
  rw [e,h2,← h3]
  grind
 rw [h1,zer,hb]
 have h2:=hw y hy
 rw [← h2]
 grind
def gcdL : List Nat → Nat
 | []=>0
 | x :: l=>Nat.gcd x (gcdL l)
theorem zfr : ∀ {l : List Nat} {x : Nat},x ∈ l → gcdL l ∣ x
 | y :: l,x,hx=>by
   rcases List.mem_cons.1 hx with rfl | hx
   ·exact Nat.gcd_dvd_left _ _
   ·exact Nat.dvd_trans (Nat.gcd_dvd_right _ _) (zfr hx)
theorem zm6 : ∀ {l : List Nat},(∃ x ∈ l,0 < x) → 0 < gcdL l
 | [],h=>by obtain ⟨x,hx,_⟩:=h; cases hx
 | y :: l,h=>by
   obtain ⟨x,hx,hp⟩:=h
   have hd:=zfr hx
   rcases Nat.eq_zero_or_pos (gcdL (y :: l)) with h0 | h0
   ·rw [h0] at hd
    have:=Nat.eq_zero_of_zero_dvd hd
    omega
   ·exact h0
theorem zjw {d : Nat} : ∀ {l : List Nat},(∀ x ∈ l,d ∣ x) → d ∣ gcdL l ∧ gcdL (l.map fun x=>x / d) = gcdL l / d
 | [],_=>⟨Nat.dvd_zero d,by simp [gcdL]⟩
 | x :: l,h=>by
   obtain ⟨h1,h2⟩:=zjw (l:=l) fun y hy=>h y (by simp [hy])
   have h3:=h x (by simp)
   refine ⟨Nat.dvd_gcd h3 h1,?_⟩
   simp only [List.map_cons,gcdL]
   rw [h2,Nat.gcd_div h3 h1]
theorem zqY {l : List Nat} (h : ∃ x ∈ l,0 < x) : gcdL (l.map fun x=>x / gcdL l) = 1:=by
 rw [(zjw fun x hx=>zfr hx).2]
 exact Nat.div_self (zm6 h)
structure DigG (b y1 y0 u3 u1 q r : Nat) : Prop where
 eq : q * y1 + r = u3
 ge : (u3 * b + u1) / (y1 * b + y0) ≤ q
section
variable {b y1 y0 u3 u1 q r : Nat}
theorem DigG.start (hy : 0 < y1) (hu : u1 < b) : DigG b y1 y0 u3 u1 (u3 / y1) (u3 - u3 / y1 * y1):=by
 have h1:=Nat.div_mul_le_self u3 y1
 refine ⟨by omega,?_⟩
 have hb : 0 < b:=by omega
 have h2 : (u3 * b + u1) / (y1 * b) ≤ u3 / y1:=by
  rw [Nat.mul_comm y1 b,← Nat.div_div_eq_div_mul,Nat.mul_comm u3 b,Nat.mul_add_div hb,Nat.div_eq_of_lt hu,Nat.add_zero]
  exact Nat.le_refl _
 refine Nat.le_trans ?_ h2
 exact Nat.div_le_div_left (by omega) (Nat.mul_pos hy hb)
theorem DigG.fits (h : DigG b y1 y0 u3 u1 q r) (hy : 0 < y1) (hb : 0 < b) (hq : q * y0 ≤ b * r + u1) : q = (u3 * b + u1) / (y1 * b + y0):=by
 refine Nat.le_antisymm ?_ h.ge
 have hp : 0 < y1 * b + y0:=by have:=Nat.mul_pos hy hb; omega
 rw [Nat.le_div_iff_mul_le hp]
 have h1:=h.eq
 have h2 : q * (y1 * b + y0) = q * y1 * b + q * y0:=by rw [Nat.mul_add,Nat.mul_assoc]
 have h3 : u3 * b = q * y1 * b + r * b:=by rw [← h1,Nat.add_mul]
 have h4 : b * r = r * b:=Nat.mul_comm _ _
 omega
theorem DigG.big (h : DigG b y1 y0 u3 u1 q r) (hy : 0 < y1) (hb : 0 < b) (hq : q < b) (hy0 : y0 < b) (hr : b ≤ r) : q = (u3 * b + u1) / (y1 * b + y0):=by
 refine h.fits hy hb ?_
 have h1 : q * y0 ≤ b * b:=Nat.mul_le_mul (by omega) (by omega)
 have h2 : b * b ≤ b * r:=Nat.mul_le_mul_left b hr
 omega
theorem DigG.less (h : DigG b y1 y0 u3 u1 q r) (hy : 0 < y1) (hb : 0 < b) (hU : u3 * b + u1 < (y1 * b + y0) * b) (hq : b ≤ q ∨ b * r + u1 < q * y0) : 1 ≤ q ∧ DigG b y1 y0 u3 u1 (q - 1) (r + y1):=by
 have h1:=h.eq
 have hp : 0 < y1 * b + y0:=by have:=Nat.mul_pos hy hb; omega
 have hlt : (u3 * b + u1) / (y1 * b + y0) < q:=by
  rcases hq with h2 | h2
  ·have:=Nat.div_lt_of_lt_mul hU
   omega
  ·rw [Nat.div_lt_iff_lt_mul hp]
   have h3 : q * (y1 * b + y0) = q * y1 * b + q * y0:=by rw [Nat.mul_add,Nat.mul_assoc]
   have h4 : u3 * b = q * y1 * b + r * b:=by rw [← h1,Nat.add_mul]
   have h5 : b * r = r * b:=Nat.mul_comm _ _
   omega
 have hq1 : 0 < q:=Nat.lt_of_le_of_lt (Nat.zero_le _) hlt
 refine ⟨hq1,?_,Nat.le_sub_one_of_lt hlt⟩
 clear hlt
 obtain ⟨k,rfl⟩ : ∃ k,q = k + 1:=⟨q - 1,by omega⟩
 rw [Nat.add_mul,Nat.one_mul] at h1
 simp only [Nat.add_sub_cancel]
 omega
end
theorem zno {b y u3 u1 u0 : Nat} (hy : 0 < y) : ((u3 * b + u1) % y * b + u0) % y = ((u3 * b + u1) * b + u0) % y:=by
 rw [Nat.add_mod,Nat.mul_mod,Nat.mod_mod,← Nat.mul_mod,← Nat.add_mod]
theorem zn4 {s x y : Nat} : (2 ^ s * x) % (2 ^ s * y) / 2 ^ s = x % y:=by
 rw [Nat.mul_mod_mul_left,Nat.mul_div_cancel_left _ (Nat.two_pow_pos s)]
section
variable {used n c : Nat}
end
section
variable {A : Mat} {n row used c : Nat}
end
theorem zhk (a : Int) : ∀ n : Nat,smN n (fun _=>a) = n * a
 | 0=>by simp [smN]
 | n + 1=>by
   simp only [smN]
   rw [zhk a n]
   have : ((n + 1 : Nat) : Int) = n + 1:=by omega
   rw [this]
   grind
theorem zl8 {W : Mat} {N : Nat} {c : Int} (h : ∀ r,r < N + 1 → Walk W N r) (hc : 0 < c) (hW : ∀ i j,i < N + 1 → j < N + 1 → W i j = c) {x y : Nat} (hx : x < N + 1) (hy : y < N + 1) : zdy W N x = zdy W N y:=by
 have key : ∀ y,y < N + 1 → c * smN (N + 1) (zdy W N) = zdy W N y * (((N + 1 : Nat) : Int) * c):=fun y hy=>by
  have h1:=zok h hy
  rw [zaF (N + 1) (f:=W y) (g:=fun _=>c) fun j hj=>hW y j hy hj,zhk] at h1
  rw [← h1,← zer]
  exact zaF _ fun i hi=>by rw [hW i y hi hy,Int.mul_comm]
 have h1:=key x hx
 rw [key y hy] at h1
 have h2 : (((N + 1 : Nat) : Int) * c) ≠ 0:=by
  have:=Int.mul_pos (a:=((N + 1 : Nat) : Int)) (by omega) hc
  omega
 exact (Int.eq_of_mul_eq_mul_right h2 h1).symm
theorem ziA {v : Nat} : ∀ {l : List Nat},l ≠ [] → (∀ x ∈ l,x = v) → gcdL l = v
 | [x],_,h=>by
   rw [h x (by simp)]
   simp [gcdL]
 | x :: y :: l,_,h=>by
   have h1:=ziA (l:=y :: l) (by simp) fun z hz=>h z (by simp [hz])
   rw [h x (by simp)]
   simp only [gcdL] at *
   rw [h1,Nat.gcd_self]
theorem zqd (P a n out : Nat) : (if n % 2 = 1 then out * a % P else out) * (a * a % P) ^ (n / 2) % P = out * a ^ n % P:=by
 have h2 : (a * a % P) ^ (n / 2) % P = (a * a) ^ (n / 2) % P:=(Nat.pow_mod _ _ _).symm
 have h3 : (a * a) ^ (n / 2) = a ^ (2 * (n / 2)):=by rw [Nat.pow_mul,Nat.pow_two]
 rw [Nat.mul_mod,h2,h3]
 split
 ·rename_i h4
  rw [Nat.mod_mod,← Nat.mul_mod,Nat.mul_assoc,Nat.mul_comm a,← Nat.pow_succ]
  congr 3
  omega
 ·rename_i h4
  rw [← Nat.mul_mod]
  congr 3
  omega
structure GStp where
 gone : Bool
 e : Ed
def HasE (g : Gr) (f t : Int) : Prop:=∃ x ∈ g.edges,x.f = f ∧ x.t = t
theorem Bef.irrefl (a : Ed) : ¬ Bef a a:=by unfold Bef; omega
variable {g : Gr} {f t : Int} {e : Ed}
theorem GrOk.val (hg : GrOk g) : ∀ e ∈ g.edges,1 ≤ e.v ∧ e.v ≤ 3:=fun e he=>by
 obtain ⟨i,hi,rfl⟩:=List.getElem_of_mem he
 exact ⟨(hg.2 i hi).2.1,(hg.2 i hi).2.2.1⟩
theorem GrOk.uniq (hg : GrOk g) {x y : Ed} (hx : x ∈ g.edges) (hy : y ∈ g.edges) (hf : x.f = y.f) (ht : x.t = y.t) : x = y:=by
 obtain ⟨i,hi,rfl⟩:=List.getElem_of_mem hx
 obtain ⟨j,hj,rfl⟩:=List.getElem_of_mem hy
 rcases Nat.lt_trichotomy i j with h | h | h
 ·have:=hg.lt j i hi hj h
  unfold Bef at this
  omega
 ·subst h; rfl
 ·have:=hg.lt i j hj hi h
  unfold Bef at this
  omega
theorem zr9 {k : Nat} (h : AtE g.edges k f t) : HasE g f t:=by
 obtain ⟨h1,h2,h3⟩:=h
 exact ⟨_,List.getElem_mem h1,h2,h3⟩
theorem zrA (hg : GrOk g) {i : Nat} (hi : i < g.edges.length) (hf : g.edges[i].f = f) (ht : g.edges[i].t = t) : idxE g.edges ⟨f,t,0⟩ = i :=
 zoa (by omega) (fun j hj hjl=>by
  have:=hg.lt i j (by omega) hi hj
  unfold Bef at this ⊢
  rw [hf,ht] at this
  exact this) (fun _ hb=>by
  unfold Bef at hb
  simp only at hb
  omega)
theorem zoZ (hg : GrOk g) : AtE g.edges (idxE g.edges ⟨f,t,0⟩) f t ↔ HasE g f t:=by
 refine ⟨zr9,?_⟩
 rintro ⟨x,hx,hf,ht⟩
 obtain ⟨i,hi,rfl⟩:=List.getElem_of_mem hx
 rw [zrA hg hi hf ht]
 exact ⟨hi,hf,ht⟩
theorem zoF (g : Gr) (e : Ed) : ∀ x,x ∈ (zhu g e).edges ↔ x = e ∨ x ∈ g.edges:=by
 intro x
 have h : x ∈ g.edges ↔ x ∈ g.edges.take (idxE g.edges ⟨e.f,e.t,0⟩) ∨ x ∈ g.edges.drop (idxE g.edges ⟨e.f,e.t,0⟩):=by
  rw [← List.mem_append,List.take_append_drop]
 rw [h]
 simp only [zhu,List.mem_append,List.mem_cons]
 constructor <;> rintro (h | h | h) <;> simp [h]
theorem zqB (hg : GrOk g) (hl : g.edges.length < 500) : (zbM g e).2 = 0 ↔ Fits g e ∧ (1 ≤ e.v ∧ e.v ≤ 3) ∧ ¬ HasE g e.f e.t:=by
 constructor
 ·intro h
  obtain ⟨_,h2,h3,h4,_⟩:=zi6 h
  exact ⟨h2,h3,fun h=>h4 ((zoZ hg).2 h)⟩
 ·rintro ⟨h1,h2,h3⟩
  unfold zbM
  rw [if_neg (fun h=>h hg),if_neg (fun h=>h h1),if_neg (fun h=>h h2),if_neg (fun h=>h3 ((zoZ hg).1 h)),if_neg (by omega)]
structure zrq (g g' : Gr) (s : GStp) : Prop where
 ok : GrOk g'
 size : g'.size = g.size
 gone : g'.gone = g.gone
 len : g'.edges.length ≤ g.edges.length + 1
 mem : ∀ x,x ∈ g'.edges ↔ (s.gone = false ∧ x = s.e) ∨ (x ∈ g.edges ∧ ¬ (s.gone = true ∧ x.f = s.e.f ∧ x.t = s.e.t))
theorem zrq.has {g' : Gr} {s : GStp} (h : zrq g g' s) {f t : Int} (hne : ¬ (s.e.f = f ∧ s.e.t = t)) : HasE g' f t ↔ HasE g f t:=by
 constructor
 ·rintro ⟨x,hx,hf,ht⟩
  rcases (h.mem x).1 hx with h1 | h1
  ·obtain ⟨_,rfl⟩:=h1
   exact absurd ⟨hf,ht⟩ hne
  ·exact ⟨x,h1.1,hf,ht⟩
 ·rintro ⟨x,hx,hf,ht⟩
  refine ⟨x,(h.mem x).2 (.inr ⟨hx,fun hc=>hne ?_⟩),hf,ht⟩
  exact ⟨hc.2.1.symm.trans hf,hc.2.2.symm.trans ht⟩
theorem GrOk.nodup (hg : GrOk g) : g.edges.Nodup:=hg.pair.imp fun h he=>by subst he; exact Bef.irrefl _ h
def zak (g : Gr) (S : List Int) : List Int:=((List.range g.size.toNat).map Int.ofNat).filter fun k=>decide (0 ≤ dist g S k)
def zck (g : Gr) (S : List Int) (r : Int) (x : Int) : List Int:=(zak g S).map fun y=>wayW g S r x y
def zez (g : Gr) (S : List Int) (r : Int) : List (List Int):=(zak g S).map (zck g S r)
def zdm (g : Gr) (S : List Int) (r : Int) (x : Int) : Int:=(zck g S r x).sum
def zbT (g : Gr) (S : List Int) (i : Nat) : Int:=(zak g S).getD i 0
def zdA (g : Gr) (S : List Int) (r : Int) : Mat:=zlv g S r (zak g S)
def zfh (g : Gr) (S : List Int) (r : Int) (i : Nat) : Int:=zdy (zdA g S r) ((zak g S).length - 1) i
def rawK (g : Gr) (S : List Int) (r : Int) (i : Nat) : Nat:=(zdm g S r (zbT g S i) * zfh g S r i).toNat
def zdl (g : Gr) (S : List Int) (r : Int) : List Nat:=(List.range (zak g S).length).map (rawK g S r)
def outK (g : Gr) (S : List Int) (r : Int) : List Int:=(List.range g.size.toNat).map fun (k : Nat) =>
 if (k : Int) ∈ zak g S then ((rawK g S r ((zak g S).idxOf (k : Int)) / gcdL (zdl g S r) : Nat) : Int) else 0
section
variable {g : Gr} {S : List Int} {r : Int}
theorem zaQ {k : Int} : k ∈ zak g S ↔ Key g k ∧ 0 ≤ dist g S k:=by
 unfold zak Key
 simp only [List.mem_filter,List.mem_map,List.mem_range,decide_eq_true_eq]
 constructor
 ·rintro ⟨⟨i,hi,rfl⟩,h⟩
  exact ⟨by simp only [Int.ofNat_eq_natCast]; omega,h⟩
 ·rintro ⟨h,h2⟩
  exact ⟨⟨k.toNat,by omega,by simp only [Int.ofNat_eq_natCast]; omega⟩,h2⟩
theorem zjX : (zak g S).Pairwise (· < ·):=by
 unfold zak
 refine List.Pairwise.filter _ ?_
 rw [List.pairwise_map]
 exact List.pairwise_lt_range.imp fun {a b} h=>by simp only [Int.ofNat_eq_natCast]; omega
theorem zaR : (zak g S).Nodup:=zjX.imp fun {a b} h=>by omega
theorem zev : (zak g S).length ≤ g.size.toNat:=by
 unfold zak
 exact Nat.le_trans (List.length_filter_le _ _) (by simp)
theorem zjK (h : GrOk g) : srt (ordL g S) = zak g S:=by
 have h1 : (ordL g S).Perm (zak g S):=(List.perm_ext_iff_of_nodup (zdL g S) zaR).2 fun k=>by rw [zji h,zaQ]
 rw [zdF.2 h1]
 exact List.Perm.eq_of_pairwise (le:=(· ≤ ·)) (fun x y _ _ h1 h2=>by omega) (zmS _) (zjX.imp fun {a b} h=>by omega) (zcN _)
theorem zeN {i : Nat} (h : i < (zak g S).length) : zbT g S i = (zak g S)[i]:=by simp [zbT,h]
theorem zfJ {i : Nat} (h : i < (zak g S).length) : zbT g S i ∈ zak g S:=by rw [zeN h]; exact List.getElem_mem h
theorem zlH : ∀ l : List Int,l.sum = smN l.length fun j=>l.getD j 0
 | []=>rfl
 | x :: l=>by
   simp only [List.sum_cons,List.length_cons,smN,List.getD_cons_zero,List.getD_cons_succ]
   rw [zlH l]
theorem zhT {i : Nat} : smN (zak g S).length (zdA g S r i) = zdm g S r (zbT g S i):=by
 unfold zdm
 rw [zlH]
 simp only [zck,List.length_map]
 refine zaF _ fun j hj=>?_
 rw [List.getD_eq_getElem?_getD,List.getElem?_map,List.getElem?_eq_getElem hj]
 simp [zdA,zlv,zbT,hj]
theorem zmi (hg : GrOk g) (x y : Int) : 0 ≤ edW g x y ∧ edW g x y ≤ 3:=by
 have hp:=hg.pair.filter fun e=>decide (e.f = x) && decide (e.t = y)
 have hm : ∀ e ∈ g.edges.filter (fun e=>decide (e.f = x) && decide (e.t = y)),e.f = x ∧ e.t = y ∧ 1 ≤ e.v ∧ e.v ≤ 3:=fun e he=>by
  have h1:=List.mem_filter.1 he
  simp only [Bool.and_eq_true,decide_eq_true_eq] at h1
  exact ⟨h1.2.1,h1.2.2,hg.val e h1.1⟩
 unfold edW
 generalize g.edges.filter (fun e=>decide (e.f = x) && decide (e.t = y)) = l at hp hm
 match l,hp,hm with
 | [],_,_=>simp
 | [e],_,hm=>have:=hm e (by simp); simp; omega
 | a :: b :: l,hp,hm =>
   have h1:=hm a (by simp)
   have h2:=hm b (by simp)
   have h3 : Bef a b:=by simp only [List.pairwise_cons] at hp; exact hp.1 b (by simp)
   unfold Bef at h3
   omega
theorem zfW (hg : GrOk g) (hr : 1 ≤ r) (hr5 : r ≤ 5) (x y : Int) : 0 ≤ wayW g S r x y ∧ wayW g S r x y ≤ 8:=by
 have:=zmi hg x y
 unfold wayW
 split <;> omega
theorem zpz (c : Int) : ∀ {l : List Int},(∀ x ∈ l,0 ≤ x ∧ x ≤ c) → 0 ≤ l.sum ∧ l.sum ≤ c * l.length
 | [],_=>by simp
 | x :: l,h=>by
   have h1:=h x (by simp)
   have h2:=zpz c (l:=l) fun y hy=>h y (by simp [hy])
   simp only [List.sum_cons,List.length_cons]
   have e : c * ((l.length + 1 : Nat) : Int) = c * l.length + c:=by rw [Int.natCast_add]; exact Int.mul_add _ _ _ ▸ by simp
   omega
theorem zeT (hg : GrOk g) (hr : 1 ≤ r) (hr5 : r ≤ 5) (x : Int) : 0 ≤ zdm g S r x ∧ zdm g S r x ≤ 8 * (zak g S).length:=by
 have h:=zpz 8 (l:=zck g S r x) fun v hv=>by
  obtain ⟨y,_,rfl⟩:=List.mem_map.1 hv
  exact zfW hg hr hr5 x y
 have e : (zck g S r x).length = (zak g S).length:=by simp [zck]
 rw [e] at h
 exact h
theorem zpc (hg : GrOk g) (hr : 1 ≤ r) (hS : ∀ s ∈ S,Key g s) {i : Nat} (hi : i < (zak g S).length) : Walk (zdA g S r) ((zak g S).length - 1) i :=
 zr5 hg (fun e he=>(hg.val e he).1) hr (fun _=>zaQ) zaR hS (N:=(zak g S).length - 1) (by omega) (by omega)
theorem pow9 {m : Int} {n : Nat} (h0 : 0 ≤ m) (hm : m ≤ 72) (hn : n ≤ 8) : m ^ n ≤ 722204136308736:=by
 have h1 : m ^ n ≤ 72 ^ n:=by
  obtain ⟨k,rfl⟩ : ∃ k : Nat,m = k:=⟨m.toNat,by omega⟩
  have:=Nat.pow_le_pow_left (n:=k) (m:=72) (by omega) n
  have e : ((k ^ n : Nat) : Int) ≤ ((72 ^ n : Nat) : Int):=by omega
  simpa using e
 have h2 : (72 : Nat) ^ n ≤ 72 ^ 8:=Nat.pow_le_pow_right (by omega) hn
 have e : ((72 ^ n : Nat) : Int) ≤ ((72 ^ 8 : Nat) : Int):=by omega
 have e2 : ((72 ^ 8 : Nat) : Int) = 722204136308736:=by decide
 have e3 : ((72 ^ n : Nat) : Int) = (72 : Int) ^ n:=by simp
 omega
theorem zpY (hg : GrOk g) (hr : 1 ≤ r) (hr5 : r ≤ 5) (hS : ∀ s ∈ S,Key g s) (h9 : (zak g S).length ≤ 9) {i : Nat} (hi : i < (zak g S).length) : 0 < zfh g S r i ∧ zfh g S r i ≤ 722204136308736:=by
 have hw:=zpc hg hr hS hi
 refine ⟨zpL hw,Int.le_trans (zql hw (c:=72) (fun j hj=>?_) (by omega)) (pow9 (by omega) (by omega) (by omega))⟩
 rw [show (zak g S).length - 1 + 1 = (zak g S).length by omega,zhT]
 have:=zeT hg hr hr5 (S:=S) (zbT g S j)
 omega
theorem ztg (hg : GrOk g) (hr : 1 ≤ r) (hr5 : r ≤ 5) (hS : ∀ s ∈ S,Key g s) (h9 : (zak g S).length ≤ 9) {i k : Nat} (hi : i < (zak g S).length) (hk : k ≤ (zak g S).length - 1) : (zde k fun j=>redM (zdA g S r) ((zak g S).length - 1) i j j) ≤ 722204136308736:=by
 have hw:=zpc hg hr hS hi
 refine Int.le_trans (zkG hw (c:=72) (fun j hj=>?_) (by omega) hk) (pow9 (by omega) (by omega) (by omega))
 rw [show (zak g S).length - 1 + 1 = (zak g S).length by omega,zhT]
 have:=zeT hg hr hr5 (S:=S) (zbT g S j)
 omega
theorem zml (hg : GrOk g) (hr : 1 ≤ r) (hr5 : r ≤ 5) (hS : ∀ s ∈ S,Key g s) {k : Int} (hk : k ∈ zak g S) (x : Int) : 0 < zdm g S r x:=by
 have hd:=(zaQ.1 hk).2
 obtain ⟨s,hs⟩ : ∃ s,zbS g S s = true:=by
  obtain ⟨n,hn⟩ : ∃ n : Nat,dist g S k = n:=⟨(dist g S k).toNat,by omega⟩
  clear hk hd
  induction n generalizing k with
  | zero=>exact ⟨k,(zc2 hg).1 hn⟩
  | succ n ih =>
    obtain ⟨e,_,h1,h2⟩:=zhG hg (by rw [hn]; omega : dist g S k = (n : Int) + 1)
    exact ih h2
 have hsS : S.contains s = true:=by
  unfold zbS at hs
  simp only [Bool.and_eq_true] at hs
  exact hs.1
 have hsm : s ∈ S:=by simpa using hsS
 have hsk : s ∈ zak g S:=zaQ.2 ⟨hS s hsm,by rw [(zc2 hg).2 hs]; omega⟩
 have h1 : wayW g S r x s ≤ zdm g S r x:=zmm (fun v hv=>by
  obtain ⟨y,_,rfl⟩:=List.mem_map.1 hv
  exact (zfW hg hr hr5 x y).1) (List.mem_map.2 ⟨s,hsk,rfl⟩)
 have h2:=zmi hg x s
 unfold wayW at h1
 rw [if_pos hsS] at h1
 omega
theorem zfg (hg : GrOk g) (hr : 1 ≤ r) (hr5 : r ≤ 5) (hS : ∀ s ∈ S,Key g s) (h9 : (zak g S).length ≤ 9) {i : Nat} (hi : i < (zak g S).length) :
  ((rawK g S r i : Nat) : Int) = zdm g S r (zbT g S i) * zfh g S r i ∧ 0 < rawK g S r i ∧ rawK g S r i ≤ 51998697814228992:=by
 have h1:=zpY hg hr hr5 hS h9 hi
 have h2:=zeT hg hr hr5 (S:=S) (zbT g S i)
 have h3:=zml hg hr hr5 hS (zfJ hi) (zbT g S i)
 have h4 : 0 < zdm g S r (zbT g S i) * zfh g S r i:=Int.mul_pos h3 h1.1
 have h5 : zdm g S r (zbT g S i) * zfh g S r i ≤ 72 * 722204136308736:=Int.mul_le_mul (by omega) h1.2 (by omega) (by omega)
 unfold rawK
 omega
end
theorem zoG {P : Program} {np : Nat} {α : Type} : ∀ (ops : List zbd) (n i : Nat) (st : St) (tr : List (List Nat × List Nat)) (K : α → St → List (List Nat × List Nat) → Prop),zaO P np n i ops st tr (fun s t=>∃ x,K x s t) → ∃ x,zaO P np n i ops st tr (K x):=by
 intro ops
 induction ops with
 | nil=>intro n i st tr K h; exact h
 | cons o os ih =>
   intro n i st tr K h
   have hgo : ∀ (op : AOp) (xs : List AV) (h : Nat → Option Ent) (F : AV → List Nat → List (Nat × Option Ent) → (St → List (List Nat × List Nat) → Prop) → Prop),
     (∀ v rd up,F v rd up (fun s t=>∃ x,K x s t) → ∃ x,F v rd up (K x)) → aK P np (n + 8 * i) op xs h (fun v rd up=>F v rd up (fun s t=>∃ x,K x s t)) → ∃ x,aK P np (n + 8 * i) op xs h (fun v rd up=>F v rd up (K x)):=by
    intro op xs h F hF hk
    obtain ⟨v,rd,up,h1,h2⟩:=zlS hk
    obtain ⟨x,hx⟩:=hF v rd up h1
    refine ⟨x,zpn (fun a b c e=>?_) h2⟩
    obtain ⟨rfl,rfl,rfl⟩:=e
    exact hx
   unfold zaO at h ⊢
   cases hg : o.guard with
   | none =>
     simp only [hg] at h ⊢
     exact hgo _ _ _ (fun v rd up K'=>zaO P np n (i + 1) os ((st.put o.dst v).upd up) (tr ++ [(rd,up.map (·.1))]) K') (fun v rd up=>ih _ _ _ _ _) h
   | some gw =>
     obtain ⟨g,want⟩:=gw
     simp only [hg] at h ⊢
     obtain ⟨b,hb,h⟩:=h
     by_cases hbw : b = some want
     ·rw [if_pos hbw] at h
      obtain ⟨x,hx⟩:=hgo _ _ _ (fun v rd up K'=>zaO P np n (i + 1) os ((st.put o.dst v).upd up) (tr ++ [(rd,up.map (·.1))]) K') (fun v rd up=>ih _ _ _ _ _) h
      exact ⟨x,b,hb,by rw [if_pos hbw]; exact hx⟩
     ·rw [if_neg hbw] at h
      obtain ⟨x,hx⟩:=ih _ _ _ _ _ h
      exact ⟨x,b,hb,by rw [if_neg hbw]; exact hx⟩
theorem Le.trans' {np : Nat} {a b c : St} (h1 : Le np a b) (h2 : Le np b c) : Le np a c:=by
 intro T0 M0 w0 T M ac w ok hn
 obtain ⟨T',M',ok',hn'⟩:=h1 T0 M0 w0 T M ac w ok hn
 exact h2 T0 M0 w0 T' M' ac w ok' hn'
theorem zta {P : Program} {np : Nat} : ∀ {c : zdc} {α : Type} {Q : α → zcJ → St → Prop} {st : St},awp P np c (fun e s=>∃ x,Q x e s) st → ∃ x,awp P np c (Q x) st:=by
 intro c
 induction c with
 | skip=>intro α Q st h; exact h
 | reg draw ops after =>
   intro α Q st hw
   obtain ⟨x,hx⟩:=zoG ops st.n 0 st [] (fun x st' tr=>(draw = true → zcR ops after tr = true) ∧ Q x .normal { st' with n:=st.n + 8 * ops.length })
    (zbn _ _ _ _ _ _ _ (fun s t h=>by obtain ⟨h1,x,h2⟩:=h; exact ⟨x,h1,h2⟩) hw.2)
   exact ⟨x,hw.1,hx⟩
 | seq a b iha ihb =>
   intro α Q st hw
   refine iha (zcM (fun e s hs=>?_) hw)
   cases e with
   | normal =>
     obtain ⟨st2,hle,h2⟩:=hs
     obtain ⟨x,hx⟩:=ihb h2
     exact ⟨x,st2,hle,hx⟩
   | exit id=>exact hs
   | ret=>exact hs
 | cond c a b iha ihb =>
   intro α Q st hw
   obtain ⟨t,ht,hw⟩:=hw
   cases t
   ·obtain ⟨x,hx⟩:=ihb hw
    exact ⟨x,false,ht,hx⟩
   ·obtain ⟨x,hx⟩:=iha hw
    exact ⟨x,true,ht,hx⟩
 | block id a iha =>
   intro α Q st hw
   refine iha (zcM (fun e s hs=>?_) hw)
   cases e with
   | normal=>exact hs
   | exit id' =>
     simp only at hs ⊢
     by_cases hi : id' = id
     ·simp only [if_pos hi] at hs ⊢; exact hs
     ·simp only [if_neg hi] at hs ⊢; exact hs
   | ret=>exact hs
 | loop a iha =>
   intro α Q st hw
   obtain ⟨I,⟨st0,k0,hle,hI⟩,hb⟩:=hw
   have key : ∀ k s,I k s → ∃ x,awp P np (.loop a) (Q x) s:=by
    intro k
    induction k using Nat.strongRecOn with
    | ind k ihk =>
      intro s hs
      have hpre : awp P np a (fun e s'=>∃ y : { y : α × Nat × (Nat → St → Prop) // ∀ k' s',y.2.2 k' s' → awp P np a (fun e st'=>match e with | .normal=>∃ st2 k2,Le np st' st2 ∧ y.2.2 k2 st2 ∧ k2 < k' | e=>Q y.1 e st') s' },
        match e with | .normal=>∃ st2,Le np s' st2 ∧ y.1.2.2 y.1.2.1 st2 | e=>Q y.1.1 e s') s:=by
       refine zcM (fun e s' h=>?_) (hb k s hs)
       cases e with
       | normal =>
         obtain ⟨st2,k2,h1,h2,h3⟩:=h
         obtain ⟨x,J,⟨st3,k3,h4,h5⟩,h6⟩:=ihk k2 h3 st2 h2
         exact ⟨⟨(x,k3,J),h6⟩,st3,Le.trans' h1 h4,h5⟩
       | exit id=>obtain ⟨x,h⟩:=h; exact ⟨⟨(x,0,fun _ _=>False),fun _ _ h=>h.elim⟩,h⟩
       | ret=>obtain ⟨x,h⟩:=h; exact ⟨⟨(x,0,fun _ _=>False),fun _ _ h=>h.elim⟩,h⟩
      obtain ⟨⟨⟨x,q,J⟩,hJ⟩,hy⟩:=iha hpre
      simp only at hJ hy
      refine ⟨x,fun k' s'=>J k' s' ∨ (k' = q + 1 ∧ s' = s),⟨s,q + 1,Le.refl _ _,.inr ⟨rfl,rfl⟩⟩,?_⟩
      rintro k' s' (h | ⟨rfl,rfl⟩)
      ·refine zcM (fun e s2 h2=>?_) (hJ k' s' h)
       cases e with
       | normal=>obtain ⟨st2,k2,h1,h2,h3⟩:=h2; exact ⟨st2,k2,h1,.inl h2,h3⟩
       | exit id=>exact h2
       | ret=>exact h2
      ·refine zcM (fun e s2 h2=>?_) hy
       cases e with
       | normal=>obtain ⟨st2,h1,h2⟩:=h2; exact ⟨st2,q,h1,.inl h2,Nat.lt_succ_self q⟩
       | exit id=>exact h2
       | ret=>exact h2
   obtain ⟨x,hx⟩:=key k0 st0 hI
   obtain ⟨J,⟨s3,k3,h4,h5⟩,h6⟩:=hx
   exact ⟨x,J,⟨s3,k3,Le.trans' hle h4,h5⟩,h6⟩
 | exit id=>intro α Q st h; exact h
 | ret=>intro α Q st h; exact h
 | bad=>intro α Q st h; exact h.elim
def zqy {α : Type} (rs : List (Nat × Option (Bool × Nat))) (np : Nat) (F : α → AV) (H : α → List (Option Ent)) (R : α → Prop) (e : zcJ) (st : St) : Prop:=(e = .normal ∨ e = .ret) ∧ ∃ x,R x ∧ zao rs np st (F x) (H x)
theorem zqy.mk {α : Type} {rs : List (Nat × Option (Bool × Nat))} {np : Nat} {F : α → AV} {H : α → List (Option Ent)} {R : α → Prop} {e : zcJ} {st : St} (he : e = .normal ∨ e = .ret) (x : α) (hx : R x) (h : zao rs np st (F x) (H x)) : zqy rs np F H R e st:=⟨he,x,hx,h⟩
theorem Src.acallsX {P : Program} {f : FuncId} {af : AFun} (s : Src P f af) {α : Type} (F : α → AV) (H : α → List (Option Ent)) (R : α → Prop) {args : List AV} {hs : List Ent}
  (hnt : args.length ≤ af.nt) (hn16 : hs.length ≤ 16) (hlen : ∀ x,hs.length ≤ (H x).length)
  (h : awp P hs.length af.code (zqy af.res hs.length F H R) (ze2 af args hs)) : ∃ x,R x ∧ zaj P f args hs (F x) (H x):=by
 obtain ⟨⟨x,hx⟩,hw⟩:=zta (α:={ x : α // R x }) (Q:=fun x e st=>(e = .normal ∨ e = .ret) ∧ zao af.res hs.length st (F x.1) (H x.1)) (zcM (fun e st h=>by
  obtain ⟨h1,x,h2,h3⟩:=h
  exact ⟨⟨x,h2⟩,h1,h3⟩) h)
 exact ⟨x,hx,s.acalls hnt hn16 (hlen x) hw⟩
def idm (l : List Nat) : List (Nat × Nat):=l.map fun i=>(i,i)
def cutS (live keep sn : List Nat) (n : Nat) (st : St) : St :=
 ⟨st.sz,live.map (fun i=>(i,conv (idm keep) sn st.hp 4 (st.get i))),keep.map (fun i=>(i,(st.hp i).map (zaA (idm keep) sn st.hp 4))),n⟩
def roOk (keep : List Nat) (st : St) : Prop:=∀ i ∈ keep,∀ e,st.hp i = some e → e.ro ≤ e.rows.length
def zl3 (np n : Nat) (ρ : List (Nat × Nat)) (sn : List Nat) : Bool :=
 decide (ρ.map (·.1)).Nodup && decide (ρ.map (·.2)).Nodup && ρ.all (fun p=>decide (p.2 < n) && (decide (np ≤ p.2) || p.1 == p.2)) && sn.all (fun i=>decide (np ≤ i) && !(ρ.map (·.1)).contains i) && decide (np ≤ n)
theorem Le.go {np : Nat} {st st' : St} (ρ : List (Nat × Nat)) (sn : List Nat) (hsz : st'.sz = st.sz) (hside : zl3 np st'.n ρ sn = true)
  (ht : ∀ p ∈ st'.t,Wk (conv ρ sn st.hp 4 (st.get p.1)) p.2) (hh : ∀ p ∈ st'.h,∃ q ∈ ρ,q.2 = p.1 ∧ (st.hp q.1).map (zaA ρ sn st.hp 4) = p.2 ∧ ∀ e,p.2 = some e → e.ro ≤ e.rows.length) : Le np st st':=by
 simp only [zl3,Bool.and_eq_true,List.all_eq_true,decide_eq_true_eq,Bool.or_eq_true,beq_iff_eq,Bool.not_eq_true',List.contains_eq_mem,decide_eq_false_iff_not] at hside
 obtain ⟨⟨⟨⟨h1,h2⟩,h3⟩,h4⟩,h5⟩:=hside
 refine Le.lst ρ sn [] hsz h1 h2 (fun p hp=>⟨(h3 p hp).1,fun hlt=>?_⟩) (by simp) (fun i hi=>h4 i hi) h5 (by simp) (fun p hp=>.inl (ht p hp)) fun p hp e' he'=>?_
 ·rcases (h3 p hp).2 with h | h
  ·omega
  ·exact h
 ·obtain ⟨q,hq,hq2,hm,hr⟩:=hh p hp
  rw [he'] at hm
  cases hs : st.hp q.1 with
  | none=>rw [hs] at hm; cases hm
  | some e =>
    rw [hs] at hm
    have hm' : zaA ρ sn st.hp 4 e = e':=by simpa using hm
    exact .inl ⟨q,hq,hq2,e,hs,by rw [hm']; exact zaH.rfl' (hr e' he')⟩
theorem LeH {np : Nat} {st st' : St} (ρ : List (Nat × Nat)) (sn : List Nat) (hsz : st'.sz = st.sz:=by rfl) (hside : zl3 np st'.n ρ sn = true:=by rfl) (ht : ∀ p ∈ st'.t,Wk (conv ρ sn st.hp 4 (st.get p.1)) p.2:=by simp) (hh : ∀ p ∈ st'.h,∃ q ∈ ρ,q.2 = p.1 ∧ (st.hp q.1).map (zaA ρ sn st.hp 4) = p.2 ∧ ∀ e,p.2 = some e → e.ro ≤ e.rows.length:=by simp) : Le np st st':=Le.go ρ sn hsz hside ht hh
theorem LeI {np : Nat} {st st' : St} (ρ : List (Nat × Nat)) (sn : List Nat) (hsz : st'.sz = st.sz:=by rfl) (hside : zl3 np st'.n ρ sn = true:=by rfl) (ht : ∀ p ∈ st'.t,Wk (conv ρ sn st.hp 4 (st.get p.1)) p.2:=by simp) (hh : ∀ p ∈ st'.h,∃ q ∈ ρ,q.2 = p.1 ∧ (st.hp q.1).map (zaA ρ sn st.hp 4) = p.2 ∧ ∀ e,p.2 = some e → e.ro ≤ e.rows.length:=by simp [fcd]) : Le np st st':=Le.go ρ sn hsz hside ht hh
theorem Le.cut {np : Nat} {st : St} (live keep sn : List Nat) (n : Nat) (hside : zl3 np n (idm keep) sn = true) (hr : roOk keep st) : Le np st (cutS live keep sn n st):=by
 refine Le.go (idm keep) sn rfl hside (fun p hp=>?_) fun p hp=>?_
 ·obtain ⟨i,_,rfl⟩:=List.mem_map.1 hp
  exact .refl _
 ·obtain ⟨i,hi,rfl⟩:=List.mem_map.1 hp
  refine ⟨(i,i),List.mem_map.2 ⟨i,hi,rfl⟩,rfl,rfl,fun e he=>?_⟩
  simp only at he
  cases hs : st.hp i with
  | none=>rw [hs] at he; cases he
  | some e0 =>
    rw [hs] at he
    have he' : zaA (idm keep) sn st.hp 4 e0 = e:=by simpa using he
    subst he'
    have:=hr i hi e0 hs
    simpa [zaA] using this
theorem rx {P : Program} {np : Nat} {ops : List zbd} {Q : zcJ → St → Prop} {sz n : Nat} {t : List (Nat × AV)} {h : List (Nat × Option Ent)} {af : List (List Nat)} {b : zdc} {s : St} (live keep sn : List Nat)
  (hd : ((ops.all fun o=>o.dst.all (· < sz)) && zl3 np (n + 8 * ops.length) (idm keep) sn) = true) (ho : zaO P np n 0 ops ⟨sz,t,h,n⟩ [] fun st' _=>roOk keep st' ∧ cutS live keep sn (n + 8 * ops.length) st' = s) (hq : awp P np b Q s) : awp P np (.seq (.reg false ops af) b) Q ⟨sz,t,h,n⟩:=by
 rw [Bool.and_eq_true] at hd
 refine zab s hd.1 (zbn _ _ _ _ _ _ _ (fun st' _ hc=>?_) ho) hq
 obtain ⟨h1,rfl⟩:=hc
 exact Le.cut (st:=⟨st'.sz,st'.t,st'.h,n + 8 * ops.length⟩) live keep sn _ hd.2 h1
theorem rxd {P : Program} {np : Nat} {ops : List zbd} {Q : zcJ → St → Prop} {sz n : Nat} {t : List (Nat × AV)} {h : List (Nat × Option Ent)} {af : List (List Nat)} {b : zdc} {s : St} (live keep sn : List Nat)
  (hd : ((ops.all fun o=>o.dst.all (· < sz)) && zl3 np (n + 8 * ops.length) (idm keep) sn) = true) (ho : zaO P np n 0 ops ⟨sz,t,h,n⟩ [] fun st' tr=>Ord ops af tr ∧ roOk keep st' ∧ cutS live keep sn (n + 8 * ops.length) st' = s) (hq : awp P np b Q s) : awp P np (.seq (.reg true ops af) b) Q ⟨sz,t,h,n⟩:=by
 rw [Bool.and_eq_true] at hd
 refine zbb s hd.1 (zbn _ _ _ _ _ _ _ (fun st' _ hc=>?_) ho) hq
 obtain ⟨h0,h1,rfl⟩:=hc
 exact ⟨h0,Le.cut (st:=⟨st'.sz,st'.t,st'.h,n + 8 * ops.length⟩) live keep sn _ hd.2 h1⟩
def cutK (live keep : List Nat) (n : Nat) (st : St) : St:=⟨st.sz,live.map (fun i=>(i,st.get i)),keep.map (fun i=>(i,st.hp i)),n⟩
theorem Le.cutk {np : Nat} {st : St} (live keep : List Nat) (n : Nat) (hn : st.n ≤ n) : Le np st (cutK live keep n st) :=
 Le.keep rfl hn (fun p hp=>by obtain ⟨i,_,rfl⟩:=List.mem_map.1 hp; rfl) fun p hp e he=>by
  obtain ⟨i,_,rfl⟩:=List.mem_map.1 hp
  exact he
theorem rk {P : Program} {np : Nat} {ops : List zbd} {Q : zcJ → St → Prop} {sz n : Nat} {t : List (Nat × AV)} {h : List (Nat × Option Ent)} {af : List (List Nat)} {b : zdc} {s : St} (live keep : List Nat)
  (hd : (ops.all fun o=>o.dst.all (· < sz)) = true) (ho : zaO P np n 0 ops ⟨sz,t,h,n⟩ [] fun st' _=>cutK live keep (n + 8 * ops.length) st' = s) (hq : awp P np b Q s) : awp P np (.seq (.reg false ops af) b) Q ⟨sz,t,h,n⟩:=by
 refine zab s hd (zbn _ _ _ _ _ _ _ (fun st' _ hc=>?_) ho) hq
 subst hc
 exact Le.cutk (st:=⟨st'.sz,st'.t,st'.h,n + 8 * ops.length⟩) live keep _ (Nat.le_refl _)
@[simp] theorem zt7 : idm [] = []:=(rfl)
@[simp] theorem ztO {i : Nat} {l : List Nat} : idm (i :: l) = (i,i) :: idm l:=(rfl)
@[simp] theorem ztH {st : St} : roOk [] st = True:=by simp [roOk]
@[simp] theorem zsR {i : Nat} {l : List Nat} {st : St} : roOk (i :: l) st = ((∀ e,st.hp i = some e → e.ro ≤ e.rows.length) ∧ roOk l st):=by simp [roOk]
@[simp] theorem ztG {live keep sn : List Nat} {n sz m : Nat} {t : List (Nat × AV)} {h : List (Nat × Option Ent)} : cutS live keep sn n ⟨sz,t,h,m⟩ = ⟨sz,live.map (fun i=>(i,conv (idm keep) sn (St.mk sz t h m).hp 4 ((St.mk sz t h m).get i))),keep.map (fun i=>(i,((St.mk sz t h m).hp i).map (zaA (idm keep) sn (St.mk sz t h m).hp 4))),n⟩:=(rfl)
@[simp] theorem ztR {live keep : List Nat} {n sz m : Nat} {t : List (Nat × AV)} {h : List (Nat × Option Ent)} : cutK live keep n ⟨sz,t,h,m⟩ = ⟨sz,live.map (fun i=>(i,(St.mk sz t h m).get i)),keep.map (fun i=>(i,(St.mk sz t h m).hp i)),n⟩:=(rfl)
theorem zm4 {a b x y : Nat} (h : Nat.gcd x y = Nat.gcd a b) : Nat.gcd y (x % y) = Nat.gcd a b:=by
 rw [← h,Nat.gcd_comm x y,Nat.gcd_rec y x,Nat.gcd_comm]
theorem zpI (a b : Nat) : zaj Try.prog zcd [.I a,.I b] [] (.I (Nat.gcd a b : Nat)) []:=by
 refine zfE.acalls (nbz rfl) (nbz rfl) (Nat.le_refl _) ?_
 show awp _ 0 _ _ ⟨12,[(0,.I a),(1,.I b)],[],16⟩
 refine rx (s:=?z1) [0,1] [] [] rfl ?p1 ?r1
 case p1=>simp; rfl
 refine zaa ?_
 refine zaf ?_
 refine zap (ι:=Nat × Nat) (fun i=>⟨12,[(0,.I i.1),(1,.I i.2)],[],100⟩) (fun i=>Nat.gcd i.1 i.2 = Nat.gcd a b) (fun i=>i.2) (a,b) rfl (LeH [] []) ?_
 rintro ⟨x,y⟩ hxy
 simp only at hxy
 refine zaa ?_
 refine rx (s:=?z2) [0,1,6] [] [] rfl ?p2 ?r2
 case p2=>simp; rfl
 refine zad _ rfl (fun hc=>?_) fun hc=>?_
 ·simp at hc
  have f1 : binV .rem (.int .i64 (x : Int)) (.int .i64 (y : Int)) = some (.int .i64 ((x % y : Nat) : Int)):=by
   show (if (y : Int) = 0 then none else some (Value.int .i64 ((x : Int).tmod y))) = _
   rw [if_neg (by omega)]
   simp [Int.tmod_eq_emod_of_nonneg]
  refine zae ?_
  refine zaf ?_
  refine zc3 rfl ?_
  simp [-binV,f1,-Int.natCast_emod]
  exact ⟨rfl,y,x % y,zm4 hxy,Nat.mod_lt _ (by omega),LeH [] []⟩
 ·simp at hc
  subst hc
  rw [Nat.gcd_zero_right] at hxy
  refine zal ?_
  refine hit ?_
  refine rx (s:=?z9) [4] [] [] rfl ?p9 ?r9
  case p9=>simp; rfl
  refine zag ?_
  exact ⟨.inr rfl,zao.one (by simp [hxy])⟩
theorem zqp {l : List Int} {i : Nat} (h : i < l.length) : (l.take (i + 1)).sum = (l.take i).sum + l[i]:=by
 rw [List.take_succ_eq_append_getElem h,List.sum_append]
 simp
abbrev zbj (L : List (List Int)) : AV:=.vs 1 false (L.map fun l=>[ints l])
abbrev eWk (K : List Int) (L : List (List Int)) : AV:=.agg [ints K,zbj L]
theorem zrC (K : List Int) (L : List (List Int)) (i : Nat) (R : List Int) (hi : L[i]? = some R) (hR : ∀ x ∈ R,0 ≤ x ∧ x ≤ 8) (hl : R.length ≤ 1000) : zaj Try.prog zaG [eWk K L,.I i] [] (.I R.sum) []:=by
 refine zeD.acalls (nbz rfl) (nbz rfl) (Nat.le_refl _) ?_
 show awp _ 0 _ _ ⟨23,[(0,eWk K L),(1,.I i)],[],16⟩
 have hil : i < L.length:=(List.getElem?_eq_some_iff.1 hi).1
 have hie : L[i] = R:=(List.getElem?_eq_some_iff.1 hi).2
 refine rx (s:=?z1) [1,2] [] [16] rfl ?p1 ?r1
 case p1=>simp; rfl
 refine rx (s:=?z2) [1,2,5] [] [] rfl ?p2 ?r2
 case p2=>simp; rfl
 refine zaa ?_
 refine rx (s:=?z3) [5,12,13,14] [] [] rfl ?p3 ?r3
 case p3=>simp [hil,hie]; rfl
 refine zaf ?_
 refine zap (ι:=Nat) (fun k=>⟨23,[(5,.I (R.take k).sum),(12,ints R),(13,.I R.length),(14,.I k)],[],300⟩) (fun k=>k ≤ R.length) (fun k=>R.length - k) 0 (Nat.zero_le _) (LeH [] []) ?_
 intro k hk
 have hb:=zpz 8 (l:=R.take k) fun x hx=>hR x (List.mem_of_mem_take hx)
 have htl : (R.take k).length = k:=by simp; omega
 rw [htl] at hb
 refine rx (s:=?z4) [5,12,13,14,15] [] [] rfl ?p4 ?r4
 case p4=>simp; rfl
 refine zaa ?_
 refine zad _ rfl (fun hc=>?_) fun hc=>?_
 ·simp at hc
  have hx:=hR R[k] (List.getElem_mem hc)
  have hw : IntKind.i64.wrap ((k : Int) + 1) = (k : Int) + 1:=w64 (by omega) (by omega)
  have hs:=zqp hc
  have hw2 : IntKind.i64.wrap ((R.take k).sum + R[k]) = (R.take (k + 1)).sum:=by rw [w64 (by omega) (by omega),hs]
  refine zae ?_
  refine zaa ?_
  refine zaf ?_
  refine rx (s:=?z5) [5,7,12,13,14] [] [] rfl ?p5 ?r5
  case p5=>simp [hc]; rfl
  refine zac (s:=?z6) rfl ?p6 ?r6
  case p6=>simp [hw2]; rfl
  refine zac (s:=?z7) rfl ?p7 ?r7
  case p7=>simp [hw]; rfl
  exact ⟨k + 1,by omega,by omega,LeH [] []⟩
 ·simp at hc
  have hkl : R.take k = R:=List.take_of_length_le (by omega)
  rw [hkl]
  refine zal ?_
  refine hit ?_
  refine rx (s:=?z9) [4] [] [] rfl ?p9 ?r9
  case p9=>simp; rfl
  refine zag ?_
  exact ⟨.inr rfl,zao.one (by simp)⟩
def famH (s N : Nat) (E : Nat → List (List AV)) : List (Nat × Option Ent):=(List.range N).map fun k=>(k + 1000,some ⟨s,E k,0⟩)
def famV (E : Nat → List (List AV)) (k : Nat) : AV:=.rs (k + 1000) 0 (E k).length
def famO (N : Nat) (E : Nat → List (List AV)) : List (List AV):=(List.range N).map fun k=>[famV E k]
theorem zmy (N : Nat) (E : Nat → List (List AV)) : (famO N E).length = N:=by simp [famO]
theorem zdW {N k : Nat} {E : Nat → List (List AV)} (h : k < N) : (famO N E)[k]? = some [famV E k]:=by simp [famO,h]
@[simp] theorem zuq {N k : Nat} {E : Nat → List (List AV)} (h : k < (famO N E).length) : (famO N E)[k] = [famV E k]:=by simp [famO]
theorem zfT {α β : Type} {f : α → β} (hf : ∀ i j,f i = f j → i = j) : ∀ {l : List α},l.Nodup → (l.map f).Nodup
 | [],_=>List.nodup_nil
 | x :: l,h=>by
   rw [List.nodup_cons] at h
   rw [List.map_cons,List.nodup_cons]
   refine ⟨fun hx=>?_,zfT hf h.2⟩
   obtain ⟨y,hy,e⟩:=List.mem_map.1 hx
   exact h.1 (hf _ _ e ▸ hy)
theorem zmc {α : Type} (f : Nat → Nat) (hf : ∀ i j,f i = f j → i = j) (g : Nat → α) (l : List Nat) (k : Nat) : lkp (l.map fun k=>(f k,g k)) (f k) = if k ∈ l then some (g k) else none:=by
 induction l with
 | nil=>simp [lkp]
 | cons i l ih =>
   simp only [List.map_cons,lkp]
   by_cases h : i = k
   ·subst h; simp
   ·have h1 : f i ≠ f k:=fun e=>h (hf _ _ e)
    have h2 : ¬ k = i:=fun e=>h e.symm
    simp [h1,ih,h2]
theorem zkR {α : Type} (f : Nat → Nat) (g : Nat → α) (l : List Nat) (j : Nat) (h : ∀ k ∈ l,f k ≠ j) : lkp (l.map fun k=>(f k,g k)) j = none:=by
 induction l with
 | nil=>simp [lkp]
 | cons i l ih =>
   simp only [List.map_cons,lkp]
   rw [if_neg (h i (by simp)),ih fun k hk=>h k (by simp [hk])]
theorem zrH {s N : Nat} {E : Nat → List (List AV)} {r : List (Nat × Option Ent)} {k : Nat} (h : k < N) : lkp (famH s N E ++ r) (k + 1000) = some (some ⟨s,E k,0⟩):=by
 rw [zdx,famH,zmc (fun k=>k + 1000) (fun i j h=>by simpa using h)]
 simp [h]
theorem zm9 {s N : Nat} {E : Nat → List (List AV)} {r : List (Nat × Option Ent)} {j : Nat} (h : j < 1000 ∨ 1000 + N ≤ j) : lkp (famH s N E ++ r) j = lkp r j:=by
 rw [zdx,famH,zkR (fun k=>k + 1000) _ _ _ (fun k hk e=>by have:=List.mem_range.1 hk; omega)]
 simp
section
variable {sz n s N : Nat} {t : List (Nat × AV)} {E : Nat → List (List AV)} {r : List (Nat × Option Ent)}
theorem zsE {k : Nat} (h : k < N) : (⟨sz,t,famH s N E ++ r,n⟩ : St).hp (k + 1000) = some ⟨s,E k,0⟩:=by
 show (lkp _ _).getD none = _
 rw [zrH h]
 rfl
theorem zpB {j : Nat} (h : j < 1000) : (⟨sz,t,famH s N E ++ r,n⟩ : St).hp j = (⟨sz,t,r,n⟩ : St).hp j:=by
 show (lkp _ _).getD none = (lkp _ _).getD none
 rw [zm9 (.inl h)]
theorem zr0 {j : Nat} (h : 1000 + N ≤ j) : (⟨sz,t,famH s N E ++ r,n⟩ : St).hp j = (⟨sz,t,r,n⟩ : St).hp j:=by
 show (lkp _ _).getD none = (lkp _ _).getD none
 rw [zm9 (.inr h)]
end
def grow {α : Type} (E : Nat → List α) (a : Nat) (r : α) : Nat → List α:=fun k=>if k = a then E a ++ [r] else E k
theorem zlV (f : AV → AV) (hf : ∀ v,f (.sc v) = .sc v) (rows : List (List AV)) (hr : ∀ r ∈ rows,∀ x ∈ r,∃ v,x = .sc v) : rows.map (·.map f) = rows:=by
 conv=>rhs; rw [← List.map_id rows]
 refine List.map_congr_left fun r hr'=>?_
 conv=>rhs; rw [id,← List.map_id r]
 refine List.map_congr_left fun x hx=>?_
 obtain ⟨v,rfl⟩:=hr r hr' x hx
 exact hf v
def famI (N : Nat) : List Nat:=(List.range N).map (· + 1000)
theorem zbC {N j : Nat} : j ∈ famI N ↔ 1000 ≤ j ∧ j < 1000 + N:=by
 simp only [famI,List.mem_map,List.mem_range]
 exact ⟨fun ⟨k,h,e⟩=>by omega,fun h=>⟨j - 1000,by omega,by omega⟩⟩
def encS (s : Stp) : Int:=if s.2 then -((s.1 : Int) + 1) else (s.1 : Int) + 1
def decS (v : Int) : Stp:=if 0 < v then ((v - 1).toNat,false) else ((-v - 1).toNat,true)
theorem zrJ (s : Stp) : decS (encS s) = s:=by
 obtain ⟨i,b⟩:=s
 unfold decS encS
 cases b
 ·simp only [Bool.false_eq_true,if_false]
  rw [if_pos (by omega)]
  congr 1
  omega
 ·simp only [if_true]
  rw [if_neg (by omega)]
  congr 1
  omega
theorem ztn (s : Stp) : encS s ≠ 0:=by unfold encS; split <;> omega
structure Bfs (N : Nat) (A : List Ed) (f D b : List Int) : Prop where
 tree : zq9 A f D fun x=>decS (b.getD x.toNat 0)
 rng : ∀ x ∈ D,0 ≤ x ∧ x < N
 len : b.length = N
 zero : b.getD 0 0 = 0
 out : ∀ x : Int,0 ≤ x → x ∉ D → b.getD x.toNat 0 = 0
 inn : ∀ x ∈ D,x ≠ 0 → b.getD x.toNat 0 ≠ 0
def zg8 (A : List Ed) (f D : List Int) (m : Nat) : Prop:=∀ s : Stp,s.1 < A.length → stF A s ∈ D.take m → 0 < zdI A f s → stT A s ∈ D
def zsc (A : List Ed) (f D : List Int) (k : Int) (i : Nat) : Prop:=∀ s : Stp,s.1 < i → stF A s = k → 0 < zdI A f s → stT A s ∈ D
variable {N : Nat} {A : List Ed} {f D b : List Int}
theorem Bfs.start (hN : 0 < N) : Bfs N A f [0] (List.replicate N 0):=by
 have h0 : ∀ i,(List.replicate N (0 : Int)).getD i 0 = 0:=fun i=>by
  rw [List.getD_eq_getElem?_getD,List.getElem?_replicate]
  split <;> rfl
 exact ⟨⟨rfl,by simp,fun j h hj=>by simp at h; omega⟩,fun x hx=>by simp at hx; omega,by simp,h0 0,fun x _ _=>h0 _,fun x hx hn=>absurd (by simpa using hx) hn⟩
theorem Bfs.mem0 (h : Bfs N A f D b) : (0 : Int) ∈ D:=List.mem_of_mem_head? (by rw [h.tree.zero]; rfl)
theorem Bfs.push (h : Bfs N A f D b) {s : Stp} (hs : s.1 < A.length) (hF : stF A s ∈ D) (hr : 0 < zdI A f s) (hT : stT A s ∉ D) (h0 : 0 ≤ stT A s) (h1 : stT A s < N) : Bfs N A f (D ++ [stT A s]) (b.set (stT A s).toNat (encS s)):=by
 have hb : (stT A s).toNat < b.length:=by rw [h.len]; omega
 have hne : ∀ x : Int,0 ≤ x → x ≠ stT A s → (b.set (stT A s).toNat (encS s)).getD x.toNat 0 = b.getD x.toNat 0:=fun x hx hxn=>by
  rw [List.getD_eq_getElem?_getD,List.getElem?_set_ne (by omega),List.getD_eq_getElem?_getD]
 have heq : (b.set (stT A s).toNat (encS s)).getD (stT A s).toNat 0 = encS s:=by
  rw [List.getD_eq_getElem?_getD,List.getElem?_set_self hb,Option.getD_some]
 have hn0 : stT A s ≠ 0:=fun e=>hT (e ▸ h.mem0)
 refine ⟨⟨?_,?_,fun j hj hj0=>?_⟩,fun x hx=>?_,by rw [List.length_set]; exact h.len,?_,fun x hx hxn=>?_,fun x hx hxn=>?_⟩
 ·rw [List.head?_append,h.tree.zero]
  rfl
 ·rw [List.nodup_append]
  exact ⟨h.tree.nodup,by simp,fun a ha c hc=>by rw [List.mem_singleton] at hc; subst hc; rintro rfl; exact hT ha⟩
 ·rw [List.length_append,List.length_singleton] at hj
  by_cases hjl : j < D.length
  ·have hm:=List.getElem_mem hjl
   have hx : D[j] ≠ stT A s:=fun e=>hT (e ▸ hm)
   simp only [List.getElem_append_left hjl]
   rw [hne _ (h.rng _ hm).1 hx]
   obtain ⟨q1,q2,q3,q4⟩:=h.tree.step j hjl hj0
   refine ⟨q1,q2,?_,q4⟩
   rw [List.take_append_of_le_length (by omega)]
   exact q3
  ·obtain rfl : j = D.length:=by omega
   have e : (D ++ [stT A s])[D.length]'(by simp) = stT A s:=by simp
   simp only [e]
   rw [heq,zrJ]
   refine ⟨hs,rfl,?_,hr⟩
   rw [List.take_append_of_le_length (Nat.le_refl _),List.take_length]
   exact hF
 ·rcases List.mem_append.1 hx with h2 | h2
  ·exact h.rng x h2
  ·rw [List.mem_singleton] at h2
   subst h2
   exact ⟨h0,h1⟩
 ·have:=hne 0 (Int.le_refl _) (Ne.symm hn0)
  simp only [Int.toNat_zero] at this
  rw [this]
  exact h.zero
 ·rw [List.mem_append,List.mem_singleton,not_or] at hxn
  rw [hne x hx hxn.2]
  exact h.out x hx hxn.1
 ·by_cases hxt : x = stT A s
  ·subst hxt
   rw [heq]
   exact ztn s
  ·rcases List.mem_append.1 hx with h2 | h2
   ·rw [hne x (h.rng x h2).1 hxt]
    exact h.inn x h2 hxn
   ·exact absurd (List.mem_singleton.1 h2) hxt
theorem Bfs.few (h : Bfs N A f D b) : D.length ≤ N:=by
 have:=zbG (b:=(List.range N).map fun i : Nat=>(i : Int)) h.tree.nodup fun x hx=>by
  have:=h.rng x hx
  exact List.mem_map.2 ⟨x.toNat,List.mem_range.2 (by omega),by omega⟩
 simpa using this
theorem zg8.next {m : Nat} (hm : m < D.length) {D' : List Int} (h : zg8 A f D m) (hi : zsc A f D' D[m] A.length) {l : List Int} (hD : D' = D ++ l) : zg8 A f D' (m + 1):=by
 subst hD
 intro s hs hF hr
 rw [List.take_append_of_le_length (by omega),List.take_succ_eq_append_getElem hm] at hF
 rcases List.mem_append.1 hF with h1 | h1
 ·exact List.mem_append_left _ (h s hs h1 hr)
 ·exact hi s hs (List.mem_singleton.1 h1) hr
theorem zg8.all (h : zg8 A f D D.length) : zh3 A f D:=fun s hs hF hr=>h s hs (by rw [List.take_length]; exact hF) hr
def zcj (l : List (Int × AV)) : List (List AV):=l.map fun p=>[.sc (.int .i64 p.1),p.2]
theorem zdT (n : Int) : ∀ l : List (Int × AV),zcg n (zcj l) = (l.find? (fun p=>p.1 = n)).map (·.2)
 | []=>rfl
 | (k,x) :: l=>by
   have ih:=zdT n l
   simp only [zcj] at ih
   simp only [zcj,List.map_cons,zcg,List.find?_cons]
   by_cases h : n = k
   ·simp [h]
   ·have h' : ¬ k = n:=fun e=>h e.symm
    simp [h,h',ih]
def MapR (rows : List (List AV)) (φ : Int → Option AV) : Prop:=∃ l : List (Int × AV),rows = zcj l ∧ (l.map (·.1)).Nodup ∧ ∀ n,zcg n rows = φ n
theorem MapR.find {rows : List (List AV)} {φ : Int → Option AV} (h : MapR rows φ) (n : Int) : zcg n rows = φ n:=by
 obtain ⟨_,_,_,h⟩:=h
 exact h n
theorem MapR.nil : MapR [] fun _=>none:=⟨[],rfl,by simp,fun _=>rfl⟩
theorem ziV (n : Int) (y : AV) : ∀ l : List (Int × AV),∃ l',mset n y (zcj l) = zcj l' ∧ (∀ k,k ∈ l'.map (·.1) ↔ k = n ∨ k ∈ l.map (·.1)) ∧ ((l.map (·.1)).Nodup → (l'.map (·.1)).Nodup) ∧ ∀ k,zcg k (zcj l') = if k = n then some y else zcg k (zcj l)
 | []=>⟨[(n,y)],rfl,by simp,by simp,fun k=>by simp [zcj,zcg]⟩
 | (i,x) :: l=>by
   by_cases h : n = i
   ·subst h
    refine ⟨(n,y) :: l,by simp [zcj,mset],by simp,by simp,fun k=>?_⟩
    simp only [zcj,List.map_cons,zcg]
    split <;> rfl
   ·obtain ⟨l',h1,h2,h3,h4⟩:=ziV n y l
    refine ⟨(i,x) :: l',?_,fun k=>?_,fun hn=>?_,fun k=>?_⟩
    ·simp only [zcj] at h1
     simp [zcj,mset,h,h1]
    ·simp only [List.map_cons,List.mem_cons,h2]
     constructor
     ·rintro (h | h | h) <;> simp [h]
     ·rintro (h | h | h) <;> simp [h]
    ·rw [List.map_cons,List.nodup_cons] at hn ⊢
     exact ⟨fun hm=>((h2 i).1 hm).elim (fun e=>h e.symm) hn.1,h3 hn.2⟩
    ·have h4:=h4 k
     simp only [zcj] at h4
     simp only [zcj,List.map_cons,zcg,h4]
     by_cases hk : k = i
     ·subst hk
      simp [show ¬ k = n from fun e=>h e.symm]
     ·simp [hk]
theorem MapR.set {rows : List (List AV)} {φ : Int → Option AV} (h : MapR rows φ) (n : Int) (y : AV) : MapR (mset n y rows) fun k=>if k = n then some y else φ k:=by
 obtain ⟨l,rfl,hn,hf⟩:=h
 obtain ⟨l',h1,_,h3,h4⟩:=ziV n y l
 exact ⟨l',h1,h3 hn,fun k=>by rw [h1,h4,hf]⟩
theorem ziF (n : Int) : ∀ l : List (Int × AV),(l.map (·.1)).Nodup → ∃ l',mdel n (zcj l) = zcj l' ∧ (∀ k,k ∈ l'.map (·.1) → k ∈ l.map (·.1)) ∧ (l'.map (·.1)).Nodup ∧ ∀ k,zcg k (zcj l') = if k = n then none else zcg k (zcj l)
 | [],_=>⟨[],rfl,by simp,by simp,fun k=>by simp [zcj,zcg]⟩
 | (i,x) :: l,hn=>by
   rw [List.map_cons,List.nodup_cons] at hn
   by_cases h : n = i
   ·subst h
    refine ⟨l,by simp [zcj,mdel],fun k hk=>by simp only [List.map_cons,List.mem_cons]; exact .inr hk,hn.2,fun k=>?_⟩
    simp only [zcj,List.map_cons,zcg]
    by_cases hk : k = n
    ·subst hk
     rw [if_pos rfl,show List.map (fun p : Int × AV=>[AV.sc (.int .i64 p.1),p.2]) l = zcj l from rfl,zdT]
     rw [List.find?_eq_none.2]
     ·rfl
     ·intro p hp
      simp only [decide_eq_true_eq]
      exact fun e=>hn.1 (List.mem_map.2 ⟨p,hp,e⟩)
    ·simp [hk]
   ·obtain ⟨l',h1,h2,h3,h4⟩:=ziF n l hn.2
    refine ⟨(i,x) :: l',?_,fun k=>?_,?_,fun k=>?_⟩
    ·simp only [zcj] at h1
     simp [zcj,mdel,h,h1]
    ·simp only [List.map_cons,List.mem_cons]
     rintro (e | e)
     ·exact .inl e
     ·exact .inr (h2 k e)
    ·rw [List.map_cons,List.nodup_cons]
     exact ⟨fun hm=>hn.1 (h2 i hm),h3⟩
    ·have h4:=h4 k
     simp only [zcj] at h4
     simp only [zcj,List.map_cons,zcg,h4]
     by_cases hk : k = i
     ·subst hk
      simp [show ¬ k = n from fun e=>h e.symm]
     ·simp [hk]
theorem MapR.del {rows : List (List AV)} {φ : Int → Option AV} (h : MapR rows φ) (n : Int) : MapR (mdel n rows) fun k=>if k = n then none else φ k:=by
 obtain ⟨l,rfl,hn,hf⟩:=h
 obtain ⟨l',h1,_,h3,h4⟩:=ziF n l hn
 exact ⟨l',h1,h3,fun k=>by rw [h1,h4,hf]⟩
def zuo (s : Stp) : AV:=.agg [.I s.1,.sc (.bool s.2)]
open Classical in
noncomputable def camF (D b : List Int) : Int → Option AV:=fun x=>if x ∈ D then some (if x = 0 then .agg [.I (-1),.sc (.bool false)] else zuo (decS (b.getD x.toNat 0))) else none
end Go.Proofs.Ytfdbhehkkobfgaa
