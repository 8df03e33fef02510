/- Texts of this claim,merged. -/
import Derived.Test.YteiabadhhhckfaaGreatRh16
set_option linter.unusedSimpArgs false
set_option linter.unusedVariables false
set_option linter.unusedSectionVars false
namespace Go.Proofs.YteiabadhhhckfaaGreat
open Go
theorem zjv (n : Int) {l : Nat} (h : 0 < l) : ∃ m : Nat,modI n l = m ∧ m < l:=by
 have h0:=Int.emod_nonneg n (b:=(l : Int)) (by omega)
 have h1:=Int.emod_lt_of_pos n (b:=(l : Int)) (by omega)
 refine ⟨(n % l).toNat,?_,by omega⟩
 unfold modI
 rw [if_neg (by omega)]
 omega
section
variable {P : Program} {np id : Nat} {h : Nat → Option Ent} {K : AV → List Nat → List (Nat × Option Ent) → Prop} {f : FuncId} {first capt args args' : List AV} {res : AV}
theorem zuY {e e2 e3 : Ent} (hc : zai P f args' [] res [some e,some e2,some e3]) (he : (first ++ args ++ capt).map (conv [] [] h 4) = args')
  (hk : K (conv (swp [] id) [] (fun _=>none) 4 res) [] [(id,some (zaz (swp [] id) [] (fun _=>none) 4 e)),(id + 1,some (zaz (swp [] id) [] (fun _=>none) 4 e2)),(id + 2,some (zaz (swp [] id) [] (fun _=>none) 4 e3))]) : aK P np id .call (.fn (.func f) first capt :: args) h K :=
 ⟨[],[],true,args',[],res,[some e,some e2,some e3],by simp,by simp,by simp,by rw [List.zipIdx_nil,he]; exact zbK _,rfl,hc,by simp,.inl rfl,hk⟩
theorem zuz {e e2 e3 e4 : Ent} (hc : zai P f args' [] res [some e,some e2,some e3,some e4]) (he : (first ++ args ++ capt).map (conv [] [] h 4) = args')
  (hk : K (conv (swp [] id) [] (fun _=>none) 4 res) [] [(id,some (zaz (swp [] id) [] (fun _=>none) 4 e)),(id + 1,some (zaz (swp [] id) [] (fun _=>none) 4 e2)),(id + 2,some (zaz (swp [] id) [] (fun _=>none) 4 e3)),(id + 3,some (zaz (swp [] id) [] (fun _=>none) 4 e4))]) : aK P np id .call (.fn (.func f) first capt :: args) h K :=
 ⟨[],[],true,args',[],res,[some e,some e2,some e3,some e4],by simp,by simp,by simp,by rw [List.zipIdx_nil,he]; exact zbK _,rfl,hc,by simp,.inl rfl,hk⟩
end
theorem zsi (g : Gr) (e : Ed) : (zcM g e).1.edges.length ≤ g.edges.length + 1 ∧ (zcM g e).1.gone.length ≤ g.gone.length:=by
 have h0 : (zcY.edges.length ≤ g.edges.length + 1 ∧ zcY.gone.length ≤ g.gone.length):=by simp [zcY]
 unfold zcM
 split
 ·exact h0
 split
 ·exact h0
 split
 ·exact h0
 split
 ·exact h0
 split
 ·exact h0
 refine ⟨?_,Nat.le_refl _⟩
 simp only [zmL,List.length_append,List.length_take,List.length_cons,List.length_drop]
 omega
theorem zqt (g : Gr) (e : Ed) {n : Int} (h0 : 0 < n) (h : g.size < n) : (zcM g e).1.size < n:=by
 unfold zcM
 split
 ·exact h0
 split
 ·exact h0
 split
 ·exact h0
 split
 ·exact h0
 split
 ·exact h0
 exact h
structure AkSt where
 g : Gr
 acc : List Int
 fl : List Int
 R : List (Int × List Int)
structure zuA (s : AkSt) : Prop where
 ge : s.g.edges.length ≤ 1000
 gg : s.g.gone.length ≤ 1000
 sz : s.g.size < 20
 la : s.acc.length ≤ 100
 lf : s.fl.length ≤ 2000
 lr : s.R.length ≤ 100
 ls : ∀ r ∈ s.R,r.2.length ≤ 1000
set_option maxRecDepth 100000 in
set_option maxHeartbeats 40000000 in
open Classical in
theorem zfN (L : List Int) (a1 v : Int) : zai Tryz.prog zdT [ints L,.I a1,.I v] [] (.B true) []:=by
 refine zgQ.acalls (nbz rfl) (nbz rfl) (Nat.le_refl _) ?_
 show awp _ 0 _ _ ⟨225,[(0,ints L),(1,.I a1),(2,.I v)],[],16⟩
 refine rx (s:=?s1) [0,1,2] [] [] rfl ?o1 ?q1
 case o1=>simp; rfl
 refine zaa ?_
 refine rx (s:=?s2) [0,1,2,21] [] [] rfl ?o2 ?q2
 case o2=>simp; refine zak (zpI L) (by simp) ?_; simp; rfl
 refine zac _ rfl (fun h3=>?_) fun h3=>?_
 ·refine rx (s:=?s4) [6] [] [] rfl ?o4 ?q4
  case o4=>simp; refine zak zc3 (by simp) ?_; simp; rfl
  refine zah ?_
  exact ⟨.inr rfl,zam.one (by simp)⟩
 simp at h3
 obtain ⟨g,b1,⟨hg,hg2,hg9,hb1⟩,hcg⟩:=zto L h3
 obtain ⟨⟨p,b2⟩,⟨hp,hp2,hp3,hb2⟩,hcp⟩:=zp0 L b1 g h3 hb1 (by omega) (by omega)
 simp only at hp hp2 hp3 hb2 hcp
 obtain ⟨c,b3,⟨hb3,hc8⟩,hcn⟩:=zle L b2 8 h3 hb2 (by omega) (by omega)
 have hel:=hg.edges_le
 have hgl:=hg.gone_le
 obtain ⟨⟨R,fl⟩,⟨hR,hfl⟩,hrun⟩:=ztP g p hg hp (by omega)
 simp only at hR hfl hrun
 have hol : (ordL (zal g p.lv) p.seeds).length ≤ 64:=by
  have h1:=zsD (g:=zal g p.lv) (S:=p.seeds) hg.1.1
  have h2 : (zal g p.lv).size = g.size:=rfl
  omega
 have hal : (accR g p (ordL (zal g p.lv) p.seeds)).length ≤ 64:=Nat.le_trans (zi3 _) hol
 have hRl:=hR.len
 have hfll : fl.length ≤ 1200:=by
  have h1:=zdC hg hp (ks:=zav (accR g p (ordL (zal g p.lv) p.seeds))) (zdr (zbO fun x hx=>by have h:=zbB (zdf hx); exact h)) (by omega) (zbh _)
  have h2:=h1.2.2.1
  have h3:=hfl.ok.fit.len
  simp only at h2
  omega
 have hsd : ∀ r ∈ R,r.2.length ≤ 200:=fun r hr=>by
  obtain ⟨_,_,_,hn⟩:=hR.right r hr
  have:=hn.len
  omega
 have hck : chkE g p = 0:=zjx.2 ⟨hg,hp⟩
 clear hR hfl
 obtain ⟨acc,hacc⟩ : ∃ acc,acc = accR g p (ordL (zal g p.lv) p.seeds):=⟨_,rfl⟩
 rw [← hacc] at hrun hal
 clear hacc
 refine zad ?_
 refine zab ⟨225,[(1,.I a1),(2,.I v),(7,.pt 20 0 0)],[(20,some (dice L 0))],200⟩ rfl ?_ ?_
 ·simp
  refine zaU (zq2 L) (by simp) ?_
  simp
  exact LeH [(56,20)] []
 refine zab ⟨225,[(1,.I a1),(2,.I v),(7,.pt 20 0 0),(8,.pt 30 0 0)],[(20,some (dice L b1)),(30,some ⟨3,[gC g],0⟩)],300⟩ rfl ?_ ?_
 ·simp
  refine zbm (i:=20) rfl (e':=dice L 0) (by simp) hcg (by simp) (by simp) ?_
  simp [zaE]
  exact LeH [(20,20),(216,30)] []
 refine zab ⟨225,[(1,.I a1),(2,.I v),(7,.pt 20 0 0),(8,.pt 30 0 0),(9,.pv (pC p))],[(20,some (dice L b2)),(30,some ⟨3,[gC g],0⟩)],400⟩ rfl ?_ ?_
 ·simp
  refine zbm (i:=20) rfl (e':=dice L b1) (by simp) hcp (by simp) (by simp) ?_
  simp
  exact LeH [(20,20),(30,30)] [324]
 refine zab ⟨225,[(1,.I a1),(2,.I v),(7,.pt 20 0 0),(8,.pt 30 0 0),(9,.pv (pC p)),(10,.pv [ints acc,ints fl,.vs 2 false (zaq R)])],[(20,some (dice L b2)),(30,some ⟨3,[gC g],0⟩)],500⟩ rfl ?_ ?_
 ·simp
  refine zak hrun (by simp) ?_
  simp [zaE]
  exact LeH [(20,20),(30,30)] [448]
 by_cases hc4 : c = 4 ∧ 0 < R.length
 ·obtain ⟨rfl,hR0⟩:=hc4
  obtain ⟨m,hm,hml⟩ : ∃ m : Nat,modI a1 R.length = m ∧ m < R.length:=zjv a1 hR0
  have hmod:=zll a1 R.length (by omega)
  rw [hm] at hmod
  obtain ⟨u,hu,hul⟩ : ∃ u : Nat,modI v ((30 : Nat) : Int) = u ∧ u < 30:=zjv v (by decide)
  have hmod2:=zll v 30 (by omega)
  have hu' : modI v 30 = u:=hu
  rw [hu'] at hmod2
  obtain ⟨r,hr⟩ : ∃ r,r = R[m]:=⟨_,rfl⟩
  have hrl:=hsd _ (List.getElem_mem hml)
  have hRm : R[m]? = some r:=by rw [hr]; exact List.getElem?_eq_getElem hml
  rw [← hr] at hrl
  obtain ⟨k0,s0⟩:=r
  simp only at hrl
  clear hr
  have hcopy:=zlD acc fl R (by omega) (by omega) (by omega) (fun r hr=>by have:=hsd r hr; omega) m k0 s0 hRm
  have hTl : (tkL R m).length = m:=zh8 (by omega)
  have hdl : (R.drop (m + 1)).length = R.length - (m + 1):=by simp
  have hTs : ∀ r ∈ tkL R m,r.2.length ≤ 1000:=fun r hr=>by have:=hsd r (List.mem_of_mem_take hr); omega
  have hDs : ∀ r ∈ R.drop (m + 1),r.2.length ≤ 1000:=fun r hr=>by have:=hsd r (List.mem_of_mem_drop hr); omega
  have hsplit : ∀ (h : Int × List Int → List AV),List.map h R = List.map h (tkL R m) ++ h (k0,s0) :: List.map h (R.drop (m + 1)):=fun h=>by
   have e1 : R = tkL R m ++ (k0,s0) :: R.drop (m + 1):=by
    unfold tkL
    have e2:=(List.getElem?_eq_some_iff.1 hRm).2
    rw [← e2,← List.drop_eq_getElem_cons hml,List.take_append_drop]
   have:=congrArg (List.map h) e1
   simpa using this
  obtain ⟨A,hA⟩ : ∃ A,A = tkL R m:=⟨_,rfl⟩
  obtain ⟨D,hD⟩ : ∃ D,D = R.drop (m + 1):=⟨_,rfl⟩
  rw [← hA,← hD] at hcopy
  rw [← hA] at hTl hTs
  rw [← hD] at hdl hDs
  clear hA hD hsplit
  have hget : ∀ (h h' : Int × List Int → List AV) (x : List AV),(List.map h A ++ x :: List.map h' D)[m]? = some x:=fun h h' x=>by
   rw [List.getElem?_append_right (by simp [hTl])]; simp [hTl]
  have hset : ∀ (h h' : Int × List Int → List AV) (x y : List AV),(List.map h A ++ x :: List.map h' D).set m y = List.map h A ++ y :: List.map h' D:=fun h h' x y=>by
   rw [List.set_append_right _ _ (by simp [hTl])]; simp [hTl]
  have htk : ∀ (h h' : Int × List Int → List AV) (x : List AV),List.take R.length (List.map h A ++ x :: List.map h' D) = List.map h A ++ x :: List.map h' D:=fun h h' x=>List.take_of_length_le (by simp [hTl,hdl]; omega)
  have hlen : ∀ (h h' : Int × List Int → List AV) (x : List AV),(List.map h A ++ x :: List.map h' D).length = R.length:=fun h h' x=>by simp [hTl,hdl]; omega
  have hAl : R.length ≤ A.length + (D.length + 1):=by omega
  have hst1 : ∀ (h : Int → List AV) (u : List AV),List.take (s0.length + 1) (List.map h s0 ++ [u]) = List.map h s0 ++ [u]:=fun h u=>List.take_of_length_le (by simp)
  refine zab ⟨225,[(1,.I a1),(2,.I v),(7,.pt 20 0 0),(8,.pt 30 0 0),(9,.pv (pC p)),(10,.pv [ints acc,ints fl,.vs 2 false (zaq R)]),(12,.pt 40 0 0)],[(20,some (dice L b2)),(30,some ⟨3,[gC g],0⟩),(40,some ⟨3,[[.rs 41 0 acc.length,.rs 42 0 fl.length,.rs 43 0 R.length]],0⟩),(41,some ⟨1,zag acc,0⟩),(42,some ⟨1,zag fl,0⟩),(43,some ⟨2,zaq A ++ [AV.I k0,.rs 44 0 s0.length] :: zaq D,0⟩),(44,some ⟨1,zag s0,0⟩)],600⟩ rfl ?_ ?_
  ·simp
   refine zuz hcopy (by simp) ?_
   simp [zaE]
   exact LeI [(20,20),(30,30),(516,40),(508,41),(509,42),(510,43),(511,44)] []
  refine zaI (ι:=AkSt) (fun s=>⟨225,[(8,.pv (gC s.g)),(9,.pv (pC p)),(10,.pv [ints acc,ints fl,.vs 2 false (zaq R)]),(12,.pv [ints s.acc,ints s.fl,.vs 2 false (zaq s.R)])],[],3000⟩) zuA ?_ ?_
  ·refine zab ⟨225,[(1,.I a1),(2,.I v),(8,.pt 30 0 0),(9,.pv (pC p)),(10,.pv [ints acc,ints fl,.vs 2 false (zaq R)]),(12,.pt 40 0 0),(39,.I 4)],[(30,some ⟨3,[gC g],0⟩),(40,some ⟨3,[[.rs 41 0 acc.length,.rs 42 0 fl.length,.rs 43 0 R.length]],0⟩),(41,some ⟨1,zag acc,0⟩),(42,some ⟨1,zag fl,0⟩),(43,some ⟨2,zaq A ++ [AV.I k0,.rs 44 0 s0.length] :: zaq D,0⟩),(44,some ⟨1,zag s0,0⟩)],700⟩ rfl ?_ ?_
   ·simp
    refine zbm (i:=20) rfl (e':=dice L b2) (by simp) hcn (by simp) (by simp) ?_
    simp
    exact LeI [(30,30),(40,40),(41,41),(42,42),(43,43),(44,44)] []
   refine zaf ?_
   refine rk (s:=?d0) [1,2,8,9,10,12,39,51] [30,40,41,42,43,44] rfl ?od0 ?qd0
   case od0=>simp; rfl
   refine zac _ rfl (fun h=>by cases h) fun _=>?_
   refine rk (s:=?d1) [1,2,8,9,10,12,39,71] [30,40,41,42,43,44] rfl ?od1 ?qd1
   case od1=>simp; rfl
   refine zac _ rfl (fun h=>by cases h) fun _=>?_
   refine rk (s:=?d2) [1,2,8,9,10,12,39,91] [30,40,41,42,43,44] rfl ?od2 ?qd2
   case od2=>simp; rfl
   refine zac _ rfl (fun h=>by cases h) fun _=>?_
   refine rk (s:=?d3) [1,2,8,9,10,12,39,117] [30,40,41,42,43,44] rfl ?od3 ?qd3
   case od3=>simp; rfl
   refine zac _ rfl (fun h=>by cases h) fun _=>?_
   refine rk (s:=?d4) [1,2,8,9,10,12,142] [30,40,41,42,43,44] rfl ?od4 ?qd4
   case od4=>simp; rfl
   refine zac _ rfl (fun _=>?_) fun h=>by cases h
   refine rk (s:=?d5) [1,2,8,9,10,12,15] [30,40,41,42,43,44] rfl ?od5 ?qd5
   case od5=>simp; rfl
   have hR0' : decide ((0 : Int) < R.length) = true:=by simp; omega
   refine zab ⟨225,[(1,.I a1),(2,.I v),(8,.pt 30 0 0),(9,.pv (pC p)),(10,.pv [ints acc,ints fl,.vs 2 false (zaq R)]),(12,.pt 40 0 0),(15,.I R.length),(148,.B true)],[(30,some ⟨3,[gC g],0⟩),(40,some ⟨3,[[.rs 41 0 acc.length,.rs 42 0 fl.length,.rs 43 0 R.length]],0⟩),(41,some ⟨1,zag acc,0⟩),(42,some ⟨1,zag fl,0⟩),(43,some ⟨2,zaq A ++ [AV.I k0,.rs 44 0 s0.length] :: zaq D,0⟩),(44,some ⟨1,zag s0,0⟩)],1200⟩ rfl ?_ ?_
   ·simp [hR0]
    exact LeI [(30,30),(40,40),(41,41),(42,42),(43,43),(44,44)] []
   refine zac _ rfl (fun _=>?_) fun h=>by cases h
   refine zar ⟨225,[(2,.I v),(8,.pt 30 0 0),(9,.pv (pC p)),(10,.pv [ints acc,ints fl,.vs 2 false (zaq R)]),(12,.pt 40 0 0),(16,.pt 43 m 0)],[(30,some ⟨3,[gC g],0⟩),(40,some ⟨3,[[.rs 41 0 acc.length,.rs 42 0 fl.length,.rs 43 0 R.length]],0⟩),(41,some ⟨1,zag acc,0⟩),(42,some ⟨1,zag fl,0⟩),(43,some ⟨2,zaq A ++ [AV.I k0,.rs 44 0 s0.length] :: zaq D,0⟩),(44,some ⟨1,zag s0,0⟩)],1400⟩ rfl ?_ ?_
   ·simp
    refine zak hmod (by simp) ?_
    simp [hml]
    exact ⟨rfl,LeI [(30,30),(40,40),(41,41),(42,42),(43,43),(44,44)] []⟩
   refine za4 rfl ?_
   simp [hget]
   refine zak hmod2 (by simp) ?_
   simp [hget,hset,zaE,zaj]
   refine ⟨by omega,by omega,rfl,⟨⟨g,acc,fl,A ++ (k0,s0 ++ [(u : Int)]) :: D⟩,⟨by simp only; omega,by simp only; omega,by simp only; omega,by simp only; omega,by simp only; omega,by simp only [List.length_append,List.length_cons]; omega,fun r hr=>by
    rcases List.mem_append.1 hr with h | h
    ·exact hTs r h
    ·rcases List.mem_cons.1 h with h | h
     ·rw [h]; simp only [List.length_append,List.length_singleton]; omega
     ·exact hDs r h⟩,Le.go [] [30,40,41,42,43,1464] rfl rfl (by simp [fcd,zaj,htk,hst1,hAl]; exact zqA (.refl _) (.refl _) (wkE (by
     show _ = AV.vs 2 false (_ ++ [AV.I k0,AV.vs 1 false ((s0 ++ [(u : Int)]).map fun n=>[AV.I n])] :: _)
     rw [List.map_append]
     rfl))) (by simp)⟩⟩
  rintro ⟨g',acc',fl',R'⟩ ⟨i1,i2,i3,i4,i5,i6,i7⟩
  simp only at i1 i2 i3 i4 i5 i6 i7
  obtain ⟨c1,hc1,hc1'⟩:=zeA (g:=g') (p:=p) acc' fl' R' (fun _=>i3) (by omega) (by omega) (by omega) (by omega) (by omega) (by omega) (by omega) (fun r hr=>by have:=i7 r hr; omega)
  obtain ⟨c2,hc2,hc2'⟩:=zeA (g:=g') (p:=p) acc fl R (fun _=>i3) (by omega) (by omega) (by omega) (by omega) (by omega) (by omega) (by omega) (fun r hr=>by have:=hsd r hr; omega)
  refine zar ⟨225,[(6,.B true)],[],4000⟩ rfl ?_ ?_
  ·simp
   refine zak zc3 (by simp) ?_
   simp
   refine zak hc1 (by simp) ?_
   simp
   refine zak hc1' (by simp) ?_
   simp
   refine zak hc2 (by simp) ?_
   simp
   refine zak hc2' (by simp) ?_
   simp
   exact ⟨rfl,LeH [] []⟩
  refine zah ?_
  exact ⟨.inr rfl,zam.one (by simp)⟩
 have hcopy:=zkb acc fl R (by omega) (by omega) (by omega) (fun r hr=>by have:=hsd r hr; omega)
 refine zab ⟨225,[(1,.I a1),(2,.I v),(7,.pt 20 0 0),(8,.pt 30 0 0),(9,.pv (pC p)),(10,.pv [ints acc,ints fl,.vs 2 false (zaq R)]),(12,.pt 40 0 0)],[(20,some (dice L b2)),(30,some ⟨3,[gC g],0⟩),(40,some ⟨3,[[.rs 41 0 acc.length,.rs 42 0 fl.length,.rs 43 0 R.length]],0⟩),(41,some ⟨1,zag acc,0⟩),(42,some ⟨1,zag fl,0⟩),(43,some ⟨2,zaq R,0⟩)],600⟩ rfl ?_ ?_
 ·simp
  refine zuY hcopy (by simp) ?_
  simp [zaE]
  exact LeI [(20,20),(30,30),(516,40),(508,41),(509,42),(510,43)] []
 refine zaI (ι:=AkSt) (fun s=>⟨225,[(8,.pv (gC s.g)),(9,.pv (pC p)),(10,.pv [ints acc,ints fl,.vs 2 false (zaq R)]),(12,.pv [ints s.acc,ints s.fl,.vs 2 false (zaq s.R)])],[],3000⟩) zuA ?_ ?_
 ·have hsd : ∀ r ∈ R,r.2.length ≤ 1000:=fun r hr=>by have:=hsd r hr; omega
  refine zab ⟨225,[(1,.I a1),(2,.I v),(7,.pt 20 0 0),(8,.pt 30 0 0),(9,.pv (pC p)),(10,.pv [ints acc,ints fl,.vs 2 false (zaq R)]),(12,.pt 40 0 0),(39,.I c)],[(20,some (dice L b3)),(30,some ⟨3,[gC g],0⟩),(40,some ⟨3,[[.rs 41 0 acc.length,.rs 42 0 fl.length,.rs 43 0 R.length]],0⟩),(41,some ⟨1,zag acc,0⟩),(42,some ⟨1,zag fl,0⟩),(43,some ⟨2,zaq R,0⟩)],700⟩ rfl ?_ ?_
  ·simp
   refine zbm (i:=20) rfl (e':=dice L b2) (by simp) hcn (by simp) (by simp) ?_
   simp
   exact LeI [(20,20),(30,30),(40,40),(41,41),(42,42),(43,43)] []
  refine zaf ?_
  have hc8 : c = 0 ∨ c = 1 ∨ c = 2 ∨ c = 3 ∨ c = 4 ∨ c = 5 ∨ c = 6 ∨ c = 7:=by omega
  rcases hc8 with rfl | rfl | rfl | rfl | rfl | rfl | rfl | rfl
  ·refine rk (s:=?c0_0) [1,2,7,8,9,10,12,39,51] [20,30,40,41,42,43] rfl ?oc0_0 ?qc0_0
   case oc0_0=>simp; rfl
   refine zac _ rfl (fun _=>?_) fun h=>by cases h
   refine rk (s:=?x0_0) [1,7,8,9,10,12,56] [20,30,40,41,42,43] rfl ?ox0_0 ?qx0_0
   case ox0_0=>simp; rfl
   refine zac _ rfl (fun hx=>?_) fun _=>?_
   ·have hx0 : 0 < fl.length:=by simpa using hx
    obtain ⟨m,hm,hml⟩ : ∃ m : Nat,modI a1 fl.length = m ∧ m < fl.length:=zjv a1 hx0
    have hmod:=zll a1 fl.length (by omega)
    rw [hm] at hmod
    obtain ⟨y,b4,⟨hb4,hy⟩,hcy⟩:=zle L b3 3 h3 hb3 (by omega) (by omega)
    obtain ⟨w,hw⟩ : ∃ w,w = IntKind.i64.wrap (fl[m] + IntKind.i64.wrap (1 - (y : Int))):=⟨_,rfl⟩
    refine za4 rfl ?_
    simp
    refine zak hmod (by simp) ?_
    simp [hml]
    refine zbm (i:=20) rfl (e':=dice L b3) (by simp) hcy (by simp) (by simp) ?_
    simp [hml,zaE,← hw]
    exact ⟨rfl,⟨⟨g,acc,fl.set m w,R⟩,⟨by simp only; omega,by simp only; omega,by simp only; omega,by simp only; omega,by simp; omega,by simp only; omega,hsd⟩,Le.go [] [30,40,41,42,43] rfl rfl (by simp [fcd,zaj,List.take_of_length_le]; exact zqA (.refl _) (wkE (by show _ = AV.vs 1 false ((fl.set m w).map fun n=>[AV.I n]); rw [List.map_set])) (.refl _)) (by simp)⟩⟩
   ·refine zad ?_
    exact ⟨⟨g,acc,fl,R⟩,⟨by simp only; omega,by simp only; omega,by simp only; omega,by simp only; omega,by simp only; omega,by simp only; omega,hsd⟩,Le.go [] [30,40,41,42,43] rfl rfl (by simp [fcd,zaj]) (by simp)⟩
  ·refine rk (s:=?c1_0) [1,2,7,8,9,10,12,39,51] [20,30,40,41,42,43] rfl ?oc1_0 ?qc1_0
   case oc1_0=>simp; rfl
   refine zac _ rfl (fun h=>by cases h) fun _=>?_
   refine rk (s:=?c1_1) [1,2,7,8,9,10,12,39,71] [20,30,40,41,42,43] rfl ?oc1_1 ?qc1_1
   case oc1_1=>simp; rfl
   refine zac _ rfl (fun _=>?_) fun h=>by cases h
   refine rk (s:=?x1_0) [8,9,10,12,76] [30,40,41,42,43] rfl ?ox1_0 ?qx1_0
   case ox1_0=>simp; rfl
   refine zac _ rfl (fun hx=>?_) fun _=>?_
   ·have hx0 : 1 < acc.length:=by
     have : (1 : Int) < acc.length:=by simpa using hx
     omega
    obtain ⟨y0,y1,r,hY⟩ : ∃ y0 y1 r,acc = y0 :: y1 :: r:=by
     match acc,hx0 with
     | y0 :: y1 :: r,_=>exact ⟨y0,y1,r,rfl⟩
    subst hY
    refine za4 rfl ?_
    simp [zaE]
    simp only [List.length_cons] at hx0
    refine ⟨by omega,by omega,by omega,rfl,⟨⟨g,y1 :: y0 :: r,fl,R⟩,⟨by simp only; omega,by simp only; omega,by simp only; omega,by simp only [List.length_cons] at hal ⊢; omega,by simp only; omega,by simp only; omega,hsd⟩,Le.go [] [30,40,41,42,43] rfl rfl (by simp [fcd,zaj]; exact zqA (wkE rfl) (.refl _) (.refl _)) (by simp)⟩⟩
   ·refine zad ?_
    exact ⟨⟨g,acc,fl,R⟩,⟨by simp only; omega,by simp only; omega,by simp only; omega,by simp only; omega,by simp only; omega,by simp only; omega,hsd⟩,Le.go [] [30,40,41,42,43] rfl rfl (by simp [fcd,zaj]) (by simp)⟩
  ·refine rk (s:=?c2_0) [1,2,7,8,9,10,12,39,51] [20,30,40,41,42,43] rfl ?oc2_0 ?qc2_0
   case oc2_0=>simp; rfl
   refine zac _ rfl (fun h=>by cases h) fun _=>?_
   refine rk (s:=?c2_1) [1,2,7,8,9,10,12,39,71] [20,30,40,41,42,43] rfl ?oc2_1 ?qc2_1
   case oc2_1=>simp; rfl
   refine zac _ rfl (fun h=>by cases h) fun _=>?_
   refine rk (s:=?c2_2) [1,2,7,8,9,10,12,39,91] [20,30,40,41,42,43] rfl ?oc2_2 ?qc2_2
   case oc2_2=>simp; rfl
   refine zac _ rfl (fun _=>?_) fun h=>by cases h
   refine rk (s:=?x2_0) [8,9,10,12,13] [30,40,41,42,43] rfl ?ox2_0 ?qx2_0
   case ox2_0=>simp; rfl
   refine rk (s:=?x2_1) [8,9,10,12,13,97] [30,40,41,42,43] rfl ?ox2_1 ?qx2_1
   case ox2_1=>simp; rfl
   refine zac _ rfl (fun hx=>?_) fun _=>?_
   ·have hx0 : 0 < acc.length:=by simpa using hx
    have hwn : IntKind.i64.wrap ((acc.length : Int) - 1) = ((acc.length - 1 : Nat) : Int):=by rw [w64 (by omega) (by omega)]; omega
    have hn1 : acc.length - 1 < acc.length:=by omega
    obtain ⟨la,hla⟩ : ∃ la,la = acc[acc.length - 1]:=⟨_,rfl⟩
    refine zar ⟨225,[(8,.pt 30 0 0),(9,.pv (pC p)),(10,.pv [ints acc,ints fl,.vs 2 false (zaq R)]),(12,.pt 40 0 0),(13,.I acc.length)],[(30,some ⟨3,[gC g],0⟩),(40,some ⟨3,[[.rs 41 0 acc.length,.rs 42 0 fl.length,.rs 43 0 (R.length + 1)]],0⟩),(41,some ⟨1,zag acc,0⟩),(42,some ⟨1,zag fl,0⟩),(43,some ⟨2,zaq (R ++ [(la,[0])]),0⟩)],2000⟩ rfl ?_ ?_
    ·simp [hwn,hn1,← hla,zaj,zaE]
     refine ⟨by omega,by omega,rfl,?_⟩
     exact LeI [(30,30),(40,40),(41,41),(42,42),(884,43)] [860]
    have hRt : ∀ (h : Int × List Int → List AV) (u : List AV),List.take (R.length + 1) (List.map h R ++ [u]) = List.map h R ++ [u]:=fun h u=>List.take_of_length_le (by simp)
    refine zau rfl ?_
    simp [hwn]
    exact ⟨⟨g,acc.take (acc.length - 1),fl,R ++ [(la,[0])]⟩,⟨by simp only; omega,by simp only; omega,by simp only; omega,by simp only [List.length_take]; omega,by simp only; omega,by simp only [List.length_append,List.length_singleton]; omega,fun r hr=>by
     rcases List.mem_append.1 hr with h | h
     ·exact hsd r h
     ·rw [List.mem_singleton.1 h]; simp⟩,Le.go [] [30,40,41,42,43] rfl rfl (by simp [fcd,zaj,hRt]; exact zqA (wkE (by show _ = AV.vs 1 false ((acc.take (acc.length - 1)).map fun n=>[AV.I n]); rw [List.map_take])) (.refl _) (wkE rfl)) (by simp)⟩
   ·refine zad ?_
    exact ⟨⟨g,acc,fl,R⟩,⟨by simp only; omega,by simp only; omega,by simp only; omega,by simp only; omega,by simp only; omega,by simp only; omega,hsd⟩,Le.go [] [30,40,41,42,43] rfl rfl (by simp [fcd,zaj]) (by simp)⟩
  ·refine rk (s:=?c3_0) [1,2,7,8,9,10,12,39,51] [20,30,40,41,42,43] rfl ?oc3_0 ?qc3_0
   case oc3_0=>simp; rfl
   refine zac _ rfl (fun h=>by cases h) fun _=>?_
   refine rk (s:=?c3_1) [1,2,7,8,9,10,12,39,71] [20,30,40,41,42,43] rfl ?oc3_1 ?qc3_1
   case oc3_1=>simp; rfl
   refine zac _ rfl (fun h=>by cases h) fun _=>?_
   refine rk (s:=?c3_2) [1,2,7,8,9,10,12,39,91] [20,30,40,41,42,43] rfl ?oc3_2 ?qc3_2
   case oc3_2=>simp; rfl
   refine zac _ rfl (fun h=>by cases h) fun _=>?_
   refine rk (s:=?c3_3) [1,2,7,8,9,10,12,39,117] [20,30,40,41,42,43] rfl ?oc3_3 ?qc3_3
   case oc3_3=>simp; rfl
   refine zac _ rfl (fun _=>?_) fun h=>by cases h
   refine rk (s:=?x3_0) [8,9,10,12,14] [30,40,41,42,43] rfl ?ox3_0 ?qx3_0
   case ox3_0=>simp; rfl
   refine rk (s:=?x3_1) [8,9,10,12,14,123] [30,40,41,42,43] rfl ?ox3_1 ?qx3_1
   case ox3_1=>simp; rfl
   refine zac _ rfl (fun hx=>?_) fun _=>?_
   ·have hx0 : 0 < R.length:=by simpa using hx
    have hwn : IntKind.i64.wrap ((R.length : Int) - 1) = ((R.length - 1 : Nat) : Int):=by rw [w64 (by omega) (by omega)]; omega
    have hn1 : R.length - 1 < R.length:=by omega
    obtain ⟨la,hla⟩ : ∃ la,la = R[R.length - 1].1:=⟨_,rfl⟩
    refine zar ⟨225,[(8,.pt 30 0 0),(9,.pv (pC p)),(10,.pv [ints acc,ints fl,.vs 2 false (zaq R)]),(12,.pt 40 0 0),(14,.I R.length)],[(30,some ⟨3,[gC g],0⟩),(40,some ⟨3,[[.rs 41 0 (acc.length + 1),.rs 42 0 fl.length,.rs 43 0 R.length]],0⟩),(41,some ⟨1,zag (acc ++ [la]),0⟩),(42,some ⟨1,zag fl,0⟩),(43,some ⟨2,zaq R,0⟩)],2000⟩ rfl ?_ ?_
    ·simp [hwn,hn1,← hla,zaj,zaE]
     refine ⟨by omega,by omega,rfl,?_⟩
     exact LeI [(30,30),(40,40),(892,41),(42,42),(43,43)] []
    have hRt : ∀ (h : Int → List AV) (u : List AV),List.take (acc.length + 1) (List.map h acc ++ [u]) = List.map h acc ++ [u]:=fun h u=>List.take_of_length_le (by simp)
    refine zau rfl ?_
    simp [hwn]
    exact ⟨⟨g,acc ++ [la],fl,R.take (R.length - 1)⟩,⟨by simp only; omega,by simp only; omega,by simp only; omega,by simp only [List.length_append,List.length_singleton]; omega,by simp only; omega,by simp only [List.length_take]; omega,fun r hr=>hsd r (List.mem_of_mem_take hr)⟩,Le.go [] [30,40,41,42,43] rfl rfl (by simp [fcd,zaj,hRt]; exact zqA (wkE (by show _ = AV.vs 1 false ((acc ++ [la]).map fun n=>[AV.I n]); rw [List.map_append]; rfl)) (.refl _) (wkE rfl)) (by simp)⟩
   ·refine zad ?_
    exact ⟨⟨g,acc,fl,R⟩,⟨by simp only; omega,by simp only; omega,by simp only; omega,by simp only; omega,by simp only; omega,by simp only; omega,hsd⟩,Le.go [] [30,40,41,42,43] rfl rfl (by simp [fcd,zaj]) (by simp)⟩
  ·refine rk (s:=?c4_0) [1,2,7,8,9,10,12,39,51] [20,30,40,41,42,43] rfl ?oc4_0 ?qc4_0
   case oc4_0=>simp; rfl
   refine zac _ rfl (fun h=>by cases h) fun _=>?_
   refine rk (s:=?c4_1) [1,2,7,8,9,10,12,39,71] [20,30,40,41,42,43] rfl ?oc4_1 ?qc4_1
   case oc4_1=>simp; rfl
   refine zac _ rfl (fun h=>by cases h) fun _=>?_
   refine rk (s:=?c4_2) [1,2,7,8,9,10,12,39,91] [20,30,40,41,42,43] rfl ?oc4_2 ?qc4_2
   case oc4_2=>simp; rfl
   refine zac _ rfl (fun h=>by cases h) fun _=>?_
   refine rk (s:=?c4_3) [1,2,7,8,9,10,12,39,117] [20,30,40,41,42,43] rfl ?oc4_3 ?qc4_3
   case oc4_3=>simp; rfl
   refine zac _ rfl (fun h=>by cases h) fun _=>?_
   refine rk (s:=?c4_4) [1,2,7,8,9,10,12,39,142] [20,30,40,41,42,43] rfl ?oc4_4 ?qc4_4
   case oc4_4=>simp; rfl
   refine zac _ rfl (fun _=>?_) fun h=>by cases h
   refine rk (s:=?x4_0) [1,2,8,9,10,12,15] [30,40,41,42,43] rfl ?ox4_0 ?qx4_0
   case ox4_0=>simp; rfl
   refine rk (s:=?x4_1) [1,2,8,9,10,12,15,148] [30,40,41,42,43] rfl ?ox4_1 ?qx4_1
   case ox4_1=>simp; rfl
   refine zac _ rfl (fun hx=>?_) fun _=>?_
   ·exfalso
    have hx0 : 0 < R.length:=by simpa using hx
    exact hc4 ⟨rfl,hx0⟩
   ·refine zad ?_
    exact ⟨⟨g,acc,fl,R⟩,⟨by simp only; omega,by simp only; omega,by simp only; omega,by simp only; omega,by simp only; omega,by simp only; omega,hsd⟩,Le.go [] [30,40,41,42,43] rfl rfl (by simp [fcd,zaj]) (by simp)⟩
  ·refine rk (s:=?c5_0) [1,2,7,8,9,10,12,39,51] [20,30,40,41,42,43] rfl ?oc5_0 ?qc5_0
   case oc5_0=>simp; rfl
   refine zac _ rfl (fun h=>by cases h) fun _=>?_
   refine rk (s:=?c5_1) [1,2,7,8,9,10,12,39,71] [20,30,40,41,42,43] rfl ?oc5_1 ?qc5_1
   case oc5_1=>simp; rfl
   refine zac _ rfl (fun h=>by cases h) fun _=>?_
   refine rk (s:=?c5_2) [1,2,7,8,9,10,12,39,91] [20,30,40,41,42,43] rfl ?oc5_2 ?qc5_2
   case oc5_2=>simp; rfl
   refine zac _ rfl (fun h=>by cases h) fun _=>?_
   refine rk (s:=?c5_3) [1,2,7,8,9,10,12,39,117] [20,30,40,41,42,43] rfl ?oc5_3 ?qc5_3
   case oc5_3=>simp; rfl
   refine zac _ rfl (fun h=>by cases h) fun _=>?_
   refine rk (s:=?c5_4) [1,2,7,8,9,10,12,39,142] [20,30,40,41,42,43] rfl ?oc5_4 ?qc5_4
   case oc5_4=>simp; rfl
   refine zac _ rfl (fun h=>by cases h) fun _=>?_
   refine rk (s:=?c5_5) [1,2,7,8,9,10,12,39,166] [20,30,40,41,42,43] rfl ?oc5_5 ?qc5_5
   case oc5_5=>simp; rfl
   refine zac _ rfl (fun _=>?_) fun h=>by cases h
   refine rk (s:=?x5_0) [1,2,8,9,10,12,17] [30,40,41,42,43] rfl ?ox5_0 ?qx5_0
   case ox5_0=>simp; rfl
   refine rk (s:=?x5_1) [1,2,8,9,10,12,17,172] [30,40,41,42,43] rfl ?ox5_1 ?qx5_1
   case ox5_1=>simp; rfl
   refine zac _ rfl (fun hx=>?_) fun _=>?_
   ·have hx0 : 0 < R.length:=by simpa using hx
    obtain ⟨m,hm,hml⟩ : ∃ m : Nat,modI a1 R.length = m ∧ m < R.length:=zjv a1 hx0
    have hmod:=zll a1 R.length (by omega)
    rw [hm] at hmod
    obtain ⟨r,hr⟩ : ∃ r,r = R[m]:=⟨_,rfl⟩
    have hrl:=hsd _ (List.getElem_mem hml)
    rw [← hr] at hrl
    obtain ⟨k0,s0⟩:=r
    simp only at hrl
    obtain ⟨u,hu,hul⟩ : ∃ u : Nat,modI v ((s0.length + 1 : Nat) : Int) = u ∧ u < s0.length + 1:=zjv v (Nat.succ_pos _)
    have hmod2:=zll v ((s0.length + 1 : Nat) : Int) (by omega)
    rw [hu] at hmod2
    have hws : IntKind.i64.wrap ((s0.length : Int) + 1) = ((s0.length + 1 : Nat) : Int):=by rw [w64 (by omega) (by omega)]; omega
    refine zar ⟨225,[(2,.I v),(8,.pt 30 0 0),(9,.pv (pC p)),(10,.pv [ints acc,ints fl,.vs 2 false (zaq R)]),(12,.pt 40 0 0),(18,.pt 43 m 0)],[(30,some ⟨3,[gC g],0⟩),(40,some ⟨3,[[.rs 41 0 acc.length,.rs 42 0 fl.length,.rs 43 0 R.length]],0⟩),(41,some ⟨1,zag acc,0⟩),(42,some ⟨1,zag fl,0⟩),(43,some ⟨2,zaq R,0⟩)],2000⟩ rfl ?_ ?_
    ·simp
     refine zak hmod (by simp) ?_
     simp [hml]
     exact ⟨rfl,LeI [(30,30),(40,40),(41,41),(42,42),(43,43)] []⟩
    refine za4 rfl ?_
    simp [hml,← hr,hws]
    refine zak hmod2 (by simp) ?_
    simp [hml,zaE]
    have hst : (zaq R).set m [AV.I R[m].fst,AV.vs 1 false (List.take u (List.map (fun n=>[AV.I n]) s0))] = zaq (R.set m (R[m].1,s0.take u)):=by
     have e1 : ints (s0.take u) = AV.vs 1 false (List.take u (s0.map fun n=>[AV.I n])):=by
      show AV.vs 1 false ((s0.take u).map fun n=>[AV.I n]) = _
      rw [List.map_take]
     unfold zaq
     rw [List.map_set]
     show _ = (R.map fun r=>[AV.I r.1,ints r.2]).set m [AV.I R[m].1,ints (s0.take u)]
     rw [e1]
    rw [hst]
    have hln : (R.set m (R[m].1,s0.take u)).length = R.length:=by simp
    have hsd' : ∀ r ∈ R.set m (R[m].1,s0.take u),r.2.length ≤ 1000:=fun r hr=>by
     rcases List.mem_or_eq_of_mem_set hr with h | h
     ·exact hsd r h
     ·rw [h]; simp only [List.length_take]; omega
    generalize R.set m (R[m].1,s0.take u) = R' at hln hsd' ⊢
    refine ⟨by omega,rfl,⟨⟨g,acc,fl,R'⟩,⟨by simp only; omega,by simp only; omega,by simp only; omega,by simp only; omega,by simp only; omega,by simp only; omega,hsd'⟩,Le.go [] [30,40,41,42,43] rfl rfl (by simp [fcd,zaj,← hln]) (by simp)⟩⟩
   ·refine zad ?_
    exact ⟨⟨g,acc,fl,R⟩,⟨by simp only; omega,by simp only; omega,by simp only; omega,by simp only; omega,by simp only; omega,by simp only; omega,hsd⟩,Le.go [] [30,40,41,42,43] rfl rfl (by simp [fcd,zaj]) (by simp)⟩
  ·refine rk (s:=?c6_0) [1,2,7,8,9,10,12,39,51] [20,30,40,41,42,43] rfl ?oc6_0 ?qc6_0
   case oc6_0=>simp; rfl
   refine zac _ rfl (fun h=>by cases h) fun _=>?_
   refine rk (s:=?c6_1) [1,2,7,8,9,10,12,39,71] [20,30,40,41,42,43] rfl ?oc6_1 ?qc6_1
   case oc6_1=>simp; rfl
   refine zac _ rfl (fun h=>by cases h) fun _=>?_
   refine rk (s:=?c6_2) [1,2,7,8,9,10,12,39,91] [20,30,40,41,42,43] rfl ?oc6_2 ?qc6_2
   case oc6_2=>simp; rfl
   refine zac _ rfl (fun h=>by cases h) fun _=>?_
   refine rk (s:=?c6_3) [1,2,7,8,9,10,12,39,117] [20,30,40,41,42,43] rfl ?oc6_3 ?qc6_3
   case oc6_3=>simp; rfl
   refine zac _ rfl (fun h=>by cases h) fun _=>?_
   refine rk (s:=?c6_4) [1,2,7,8,9,10,12,39,142] [20,30,40,41,42,43] rfl ?oc6_4 ?qc6_4
   case oc6_4=>simp; rfl
   refine zac _ rfl (fun h=>by cases h) fun _=>?_
   refine rk (s:=?c6_5) [1,2,7,8,9,10,12,39,166] [20,30,40,41,42,43] rfl ?oc6_5 ?qc6_5
   case oc6_5=>simp; rfl
   refine zac _ rfl (fun h=>by cases h) fun _=>?_
   refine rk (s:=?c6_6) [1,2,7,8,9,10,12,39,195] [20,30,40,41,42,43] rfl ?oc6_6 ?qc6_6
   case oc6_6=>simp; rfl
   refine zac _ rfl (fun _=>?_) fun h=>by cases h
   have hRt : ∀ (h : Int → List AV) (u : List AV),List.take (fl.length + 1) (List.map h fl ++ [u]) = List.map h fl ++ [u]:=fun h u=>List.take_of_length_le (by simp)
   refine zau rfl ?_
   simp [zaj,zaE]
   exact ⟨by omega,by omega,⟨⟨g,acc,fl ++ [0],R⟩,⟨by simp only; omega,by simp only; omega,by simp only; omega,by simp only; omega,by simp only [List.length_append,List.length_singleton]; omega,by simp only; omega,hsd⟩,Le.go [] [30,40,41,836,43] rfl rfl (by simp [fcd,zaj,hRt]; exact zqA (.refl _) (wkE (by show _ = AV.vs 1 false ((fl ++ [0]).map fun n=>[AV.I n]); rw [List.map_append]; rfl)) (.refl _)) (by simp)⟩⟩
  ·refine rk (s:=?c7_0) [1,2,7,8,9,10,12,39,51] [20,30,40,41,42,43] rfl ?oc7_0 ?qc7_0
   case oc7_0=>simp; rfl
   refine zac _ rfl (fun h=>by cases h) fun _=>?_
   refine rk (s:=?c7_1) [1,2,7,8,9,10,12,39,71] [20,30,40,41,42,43] rfl ?oc7_1 ?qc7_1
   case oc7_1=>simp; rfl
   refine zac _ rfl (fun h=>by cases h) fun _=>?_
   refine rk (s:=?c7_2) [1,2,7,8,9,10,12,39,91] [20,30,40,41,42,43] rfl ?oc7_2 ?qc7_2
   case oc7_2=>simp; rfl
   refine zac _ rfl (fun h=>by cases h) fun _=>?_
   refine rk (s:=?c7_3) [1,2,7,8,9,10,12,39,117] [20,30,40,41,42,43] rfl ?oc7_3 ?qc7_3
   case oc7_3=>simp; rfl
   refine zac _ rfl (fun h=>by cases h) fun _=>?_
   refine rk (s:=?c7_4) [1,2,7,8,9,10,12,39,142] [20,30,40,41,42,43] rfl ?oc7_4 ?qc7_4
   case oc7_4=>simp; rfl
   refine zac _ rfl (fun h=>by cases h) fun _=>?_
   refine rk (s:=?c7_5) [1,2,7,8,9,10,12,39,166] [20,30,40,41,42,43] rfl ?oc7_5 ?qc7_5
   case oc7_5=>simp; rfl
   refine zac _ rfl (fun h=>by cases h) fun _=>?_
   refine rk (s:=?c7_6) [1,2,7,8,9,10,12,39,195] [20,30,40,41,42,43] rfl ?oc7_6 ?qc7_6
   case oc7_6=>simp; rfl
   refine zac _ rfl (fun h=>by cases h) fun _=>?_
   have hwith:=zhj g ⟨0,1,3⟩ (by omega) (by omega)
   have hwl:=zsi g ⟨0,1,3⟩
   have hws : (zcM g ⟨0,1,3⟩).1.size < 20:=zqt g ⟨0,1,3⟩ (by omega) (by omega)
   obtain ⟨⟨g',e'⟩,hge⟩ : ∃ x,x = zcM g ⟨0,1,3⟩:=⟨_,rfl⟩
   rw [← hge] at hwith hwl hws
   simp only at hwith hwl hws
   have hchk:=zjK g' p (by omega) (by omega) (by omega) (by omega)
   refine zab ⟨225,[(8,.pt 30 0 0),(9,.pv (pC p)),(10,.pv [ints acc,ints fl,.vs 2 false (zaq R)]),(12,.pt 40 0 0)],[(30,some ⟨3,[gC g'],0⟩),(40,some ⟨3,[[.rs 41 0 acc.length,.rs 42 0 fl.length,.rs 43 0 R.length]],0⟩),(41,some ⟨1,zag acc,0⟩),(42,some ⟨1,zag fl,0⟩),(43,some ⟨2,zaq R,0⟩)],2000⟩ rfl ?_ ?_
   ·simp
    refine zak hwith (by simp) ?_
    simp [zaE]
    exact LeI [(30,30),(40,40),(41,41),(42,42),(43,43)] []
   refine zab ⟨225,[(8,.pt 30 0 0),(9,.pv (pC p)),(10,.pv [ints acc,ints fl,.vs 2 false (zaq R)]),(12,.pt 40 0 0),(49,.B (chkE g' p != 0))],[(30,some ⟨3,[gC g'],0⟩),(40,some ⟨3,[[.rs 41 0 acc.length,.rs 42 0 fl.length,.rs 43 0 R.length]],0⟩),(41,some ⟨1,zag acc,0⟩),(42,some ⟨1,zag fl,0⟩),(43,some ⟨2,zaq R,0⟩)],2200⟩ rfl ?_ ?_
   ·simp
    refine zak hchk (by simp) ?_
    simp
    exact LeI [(30,30),(40,40),(41,41),(42,42),(43,43)] []
   refine zac _ rfl (fun _=>?_) fun _=>?_
   ·refine rx (s:=?s60) [6] [] [] rfl ?o60 ?q60
    case o60=>simp; refine zak zc3 (by simp) ?_; simp; rfl
    refine zah ?_
    exact ⟨.inr rfl,zam.one (by simp)⟩
   refine zad ?_
   exact ⟨⟨g',acc,fl,R⟩,⟨by simp only; omega,by simp only; omega,by simp only; omega,by simp only; omega,by simp only; omega,by simp only; omega,hsd⟩,Le.go [] [30,40,41,42,43] rfl rfl (by simp [fcd,zaj]) (by simp)⟩
 rintro ⟨g',acc',fl',R'⟩ ⟨i1,i2,i3,i4,i5,i6,i7⟩
 simp only at i1 i2 i3 i4 i5 i6 i7
 obtain ⟨c1,hc1,hc1'⟩:=zeA (g:=g') (p:=p) acc' fl' R' (fun _=>i3) (by omega) (by omega) (by omega) (by omega) (by omega) (by omega) (by omega) (fun r hr=>by have:=i7 r hr; omega)
 obtain ⟨c2,hc2,hc2'⟩:=zeA (g:=g') (p:=p) acc fl R (fun _=>i3) (by omega) (by omega) (by omega) (by omega) (by omega) (by omega) (by omega) (fun r hr=>by have:=hsd r hr; omega)
 refine zar ⟨225,[(6,.B true)],[],4000⟩ rfl ?_ ?_
 ·simp
  refine zak zc3 (by simp) ?_
  simp
  refine zak hc1 (by simp) ?_
  simp
  refine zak hc1' (by simp) ?_
  simp
  refine zak hc2 (by simp) ?_
  simp
  refine zak hc2' (by simp) ?_
  simp
  exact ⟨rfl,LeH [] []⟩
 refine zah ?_
 exact ⟨.inr rfl,zam.one (by simp)⟩
end Go.Proofs.YteiabadhhhckfaaGreat
