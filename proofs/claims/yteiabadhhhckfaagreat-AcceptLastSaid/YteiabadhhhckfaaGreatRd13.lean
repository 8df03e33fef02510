/- Texts of this claim,merged. -/
import Derived.Test.YteiabadhhhckfaaGreatRd12
import Derived.Test.YteiabadhhhckfaaGreatRd11
set_option linter.unusedSimpArgs false
set_option linter.unusedVariables false
set_option linter.unusedSectionVars false
namespace Go.Proofs.YteiabadhhhckfaaGreat
open Go
open Classical in
theorem zhz (n : Net) (side : List Int) (hl : n.arcs.length ≤ 1099511627776) (hs : side.length ≤ 140737488355328) : zaj Tryz.prog zfp [eN n,ints side] [] (.B (decide (zfa n side))) []:=by
 refine zpl.acalls (Nat.le_of_ble_eq_true rfl) (Nat.le_of_ble_eq_true rfl) (Nat.le_refl _) ?_
 show awp _ 0 _ _ ⟨24,[(0,eN n),(1,ints side)],[],16⟩
 refine rx (s:=?s1) [1,2] [] [16] rfl ?o1 ?q1
 case o1=>simp; rfl
 refine zab ⟨24,[(4,.B (decide (zfa n side)))],[],300⟩ rfl ?_ ?_
 ·have hc:=zd8 n hl
  by_cases hn : zby n
  ·rw [if_pos hn] at hc
   have hw : IntKind.i64.wrap (n.nodes - 1) = n.nodes - 1:=w64 (by have:=hn.1; omega) (by have:=hn.2.1; omega)
   simp
   refine zam hc (by simp) ?_
   simp [hw]
   refine zam (zbQ side 0 (n.nodes - 1) hs) (by simp) ?_
   simp
   refine zdC (fun hb=>?_) (fun hb=>?_) <;> (try rw [hb]) <;> (try simp at hb) <;> simp [hb]
   ·refine zam (zcJ side 0 hs) (by simp) ?_
    simp
    refine zdC (fun hb2=>?_) (fun hb2=>?_) <;> (try rw [hb2]) <;> (try simp at hb2) <;> simp [hb2]
    ·refine zam (zcJ side 1 hs) (by simp) ?_
     simp
     exact Le.snap [] rfl rfl (by simp [zfa,hn,hb,hb2])
    ·exact Le.snap [] rfl rfl (by simp [zfa,hn,hb,hb2])
   ·exact Le.snap [] rfl rfl (by simp [zfa,hn,hb])
  ·rw [if_neg hn] at hc
   simp
   refine zam hc (by simp) ?_
   simp
   exact Le.snap [] rfl rfl (by simp [zfa,hn])
 refine zag ?_
 exact ⟨.inr rfl,zan.one (by simp)⟩
def zda (N : Nat) (s : List Int) : List (List AV):=(List.range N).map fun (k : Nat)=>[AV.B (decide ((k : Int) ∈ s))]
theorem ze9 (N : Nat) (s : List Int) : (zda N s).length = N:=by simp [zda]
theorem zpH (N : Nat) : zda N [] = List.replicate N [AV.B false]:=by
 unfold zda
 simp [List.map_const']
theorem zqz {N k : Nat} (hk : k < N) (s : List Int) : (zda N s)[k]? = some [AV.B (decide ((k : Int) ∈ s))]:=by simp [zda,hk]
@[simp] theorem ztY {N k : Nat} {s : List Int} (h : k < (zda N s).length) : (zda N s)[k] = [AV.B (decide ((k : Int) ∈ s))]:=by simp [zda]
theorem zpO {N k : Nat} (s : List Int) : (zda N s).set k [AV.B true] = zda N (s ++ [(k : Int)]):=by
 apply List.ext_getElem?
 intro i
 rw [List.getElem?_set]
 by_cases h : k = i
 ·subst h
  rw [if_pos rfl]
  by_cases hk : k < N
  ·rw [if_pos (by rw [ze9]; exact hk),zqz hk]
   simp
  ·rw [if_neg (by rw [ze9]; exact hk)]
   simp [zda,hk]
 ·rw [if_neg h]
  unfold zda
  simp only [List.getElem?_map]
  by_cases hi : i < N
  ·simp [hi,show ¬ ((i : Int) = k) by omega]
  ·simp [hi]
@[simp] theorem zsN {ρ : List (Nat × Nat)} {sn : List Nat} {h : Nat → Option Ent} {N : Nat} {s : List Int} : (zda N s).map (·.map (conv ρ sn h 4)) = zda N s:=by
 unfold zda
 rw [List.map_map]
 rfl
set_option maxRecDepth 100000 in
open Classical in
theorem ziG (n : Net) (side : List Int) (hl : n.arcs.length ≤ 1099511627776) (hs : side.length ≤ 140737488355328) : zaj Tryz.prog zer [eN n,ints side] [] (.I (if zfa n side then cutV n.arcs side else 0)) []:=by
 refine zlj.acalls (Nat.le_of_ble_eq_true rfl) (Nat.le_of_ble_eq_true rfl) (Nat.le_refl _) ?_
 show awp _ 0 _ _ ⟨54,[(0,eN n),(1,ints side)],[],16⟩
 refine rx (s:=?s1) [1,2] [] [16] rfl ?o1 ?q1
 case o1=>simp; rfl
 refine zaa ?_
 refine rx (s:=?s2) [1,2,14] [] [] rfl ?o2 ?q2
 case o2=>simp; refine zam (zhz n side hl hs) (by simp) ?_; simp; rfl
 refine zad _ rfl (fun h3=>?_) fun h3=>?_
 ·simp at h3
  refine rx (s:=?s4) [4] [] [] rfl ?o4 ?q4
  case o4=>simp; rfl
  refine zag ?_
  exact ⟨.inr rfl,zan.one (by simp [h3])⟩
 simp at h3
 have hb1:=h3.1.2.2.1
 have hn2:=h3.1.1
 have hn3:=h3.1.2.1
 obtain ⟨N,hN,hN3⟩ : ∃ N : Nat,n.nodes = N ∧ N ≤ 130:=⟨n.nodes.toNat,by omega,by omega⟩
 have hside : ∀ k ∈ side,∃ j : Nat,k = j ∧ j < N:=fun k hk=>by
  obtain ⟨i,hi,rfl⟩:=List.getElem_of_mem hk
  have:=(h3.2.1 i hi)
  exact ⟨side[i].toNat,by omega,by omega⟩
 refine zae ?_
 refine zab ⟨54,[(1,ints side),(2,.pv (nC n)),(5,.rs 80 0 N)],[(80,some ⟨1,zda N [],0⟩)],96⟩ rfl ?_ ?_
 ·rw [zpH]
  simp [hN]
  refine ⟨by omega,?_⟩
  exact Le.keep rfl (Nat.le_refl _) (by simp [hN]) (by simp [hN])
 refine zaa ?_
 refine rk (s:=?s5) [1,2,5,18,19,20] [80] rfl ?o5 ?q5
 case o5=>simp; rfl
 refine zaf ?_
 refine zap (ι:=Nat) (fun i=>⟨54,[(1,ints side),(2,.pv (nC n)),(5,.rs 80 0 N),(18,ints side),(19,.I side.length),(20,.I i)],[(80,some ⟨1,zda N (side.take i),0⟩)],120⟩) (fun i=>i ≤ side.length) (fun i=>side.length - i) 0 (by simp) (Le.keep rfl (Nat.le_refl _) (by simp) (by simp)) ?_
 intro i hi
 refine rk (s:=?s6) [1,2,5,18,19,20,21] [80] rfl ?o6 ?q6
 case o6=>simp; rfl
 refine zaa ?_
 refine zad _ rfl (fun h7=>?_) fun h7=>?_
 ·simp at h7
  have hw : IntKind.i64.wrap ((i : Int) + 1) = (i : Int) + 1:=w64 (by omega) (by omega)
  obtain ⟨j,hj,hjN⟩:=hside _ (List.getElem_mem h7)
  have hset : (zda N (side.take i)).set j [AV.sc (.bool true)] = zda N (side.take (i + 1)):=by
   rw [List.take_succ_eq_append_getElem h7,hj]
   exact zpO _
  refine zae ?_
  refine zaa ?_
  refine zaf ?_
  refine rk (s:=?s8) [1,2,5,7,18,19,20] [80] rfl ?o8 ?q8
  case o8=>simp [h7,hj]; rfl
  refine zac (s:=?s9) rfl ?o9 ?q9
  case o9=>simp [hjN,ze9,hset]; rfl
  refine zac (s:=?s10) rfl ?o10 ?q10
  case o10=>simp [hw]; rfl
  exact ⟨i + 1,by omega,by omega,Le.go [(80,80)] [] rfl rfl (by simp) (by simp)⟩
 simp at h7
 obtain rfl : i = side.length:=by omega
 rw [List.take_of_length_le (Nat.le_refl _)]
 refine zao ?_
 refine hit ?_
 refine rk (s:=?s11) [1,2,5,8] [80] rfl ?o11 ?q11
 case o11=>simp; rfl
 refine zaa ?_
 refine rk (s:=?s12) [5,8,29,30,31] [80] rfl ?o12 ?q12
 case o12=>simp; rfl
 refine zaf ?_
 refine zap (ι:=Nat) (fun i=>⟨54,[(5,.rs 80 0 N),(8,.I (cutV (n.arcs.take i) side)),(29,eEs n.arcs),(30,.I n.arcs.length),(31,.I i)],[(80,some ⟨1,zda N side,0⟩)],168⟩) (fun i=>i ≤ n.arcs.length) (fun i=>n.arcs.length - i) 0 (by simp) (Le.go [(80,80)] [] rfl rfl (by simp [cutV]) (by simp)) ?_
 intro i hi
 have hcb:=zj6 (n:=n.nodes) (side:=side) (arcs:=n.arcs.take i) fun a ha=>h3.1.2.2.2 a (List.mem_of_mem_take ha)
 have htl:=List.length_take_le' i n.arcs
 refine rk (s:=?s13) [5,8,29,30,31,32] [80] rfl ?o13 ?q13
 case o13=>simp; rfl
 refine zaa ?_
 refine zad _ rfl (fun h7=>?_) fun h7=>?_
 ·simp at h7
  have hw : IntKind.i64.wrap ((i : Int) + 1) = (i : Int) + 1:=w64 (by omega) (by omega)
  have hcs:=zq3 n.arcs side i h7
  have hav:=h3.1.2.2.2 _ (List.getElem_mem h7)
  have hwv : IntKind.i64.wrap (cutV (n.arcs.take i) side + n.arcs[i].v) = cutV (n.arcs.take i) side + n.arcs[i].v:=w64 (by have:=hav.2.2.2.2.2.2.2.1; omega) (by have:=hav.2.2.2.2.2.2.2.2; omega)
  obtain ⟨x,hx⟩ : ∃ x,x = n.arcs[i]:=⟨_,rfl⟩
  rw [← hx] at hcs hav hwv
  obtain ⟨f,hf,hfN⟩ : ∃ f : Nat,x.f = f ∧ f < N:=⟨x.f.toNat,by have:=hav.1; omega,by have:=hav.1; have:=hav.2.1; omega⟩
  obtain ⟨u,hu,huN⟩ : ∃ u : Nat,x.t = u ∧ u < N:=⟨x.t.toNat,by have:=hav.2.2.1; omega,by have:=hav.2.2.1; have:=hav.2.2.2.1; omega⟩
  refine zae ?_
  refine zaI (ι:=Unit) (fun _=>⟨54,[(5,.rs 80 0 N),(8,.I (cutV (n.arcs.take (i + 1)) side)),(29,eEs n.arcs),(30,.I n.arcs.length),(31,.I i)],[(80,some ⟨1,zda N side,0⟩)],400⟩) (fun _=>True) ?_ fun _ _=>?_
  ·refine zaf ?_
   refine zab ⟨54,[(5,.rs 80 0 N),(8,.I (cutV (n.arcs.take i) side)),(10,.pv (eC x)),(29,eEs n.arcs),(30,.I n.arcs.length),(31,.I i)],[(80,some ⟨1,zda N side,0⟩)],208⟩ rfl ?_ ?_
   ·simp [h7,← hx]
    exact Le.go [(80,80)] [192] rfl rfl (by simp) (by simp)
   refine zab ⟨54,[(5,.rs 80 0 N),(8,.I (cutV (n.arcs.take i) side)),(10,.pv (eC x)),(29,eEs n.arcs),(30,.I n.arcs.length),(31,.I i),(47,.B (decide ((f : Int) ∈ side ∧ (u : Int) ∉ side)))],[(80,some ⟨1,zda N side,0⟩)],312⟩ rfl ?_ ?_
   ·simp [hf,hu,hfN,huN,ze9]
    refine zdC (fun hb=>?_) (fun hb=>?_) <;> (try rw [hb]) <;> (try simp at hb) <;> simp [hb,hu,huN,ze9]
    ·exact Le.go [(80,80)] [] rfl rfl (by simp [hb]) (by simp)
    ·exact Le.go [(80,80)] [] rfl rfl (by simp [hb]) (by simp)
   rw [← hf,← hu]
   refine zad _ rfl (fun h8=>?_) fun h8=>?_
   ·rw [decide_eq_true_eq] at h8
    rw [if_pos h8] at hcs
    refine zac (s:=?s14) rfl ?o14 ?q14
    case o14=>simp; rfl
    exact ⟨(),trivial,Le.go [(80,80)] [] rfl rfl (by simp [hcs,hwv]) (by simp)⟩
   ·rw [decide_eq_false_iff_not] at h8
    rw [if_neg h8] at hcs
    refine zae ?_
    exact ⟨(),trivial,Le.go [(80,80)] [] rfl rfl (by simp [hcs]) (by simp)⟩
  refine zac (s:=?s15) rfl ?o15 ?q15
  case o15=>simp; rfl
  exact ⟨i + 1,by omega,by omega,Le.go [(80,80)] [] rfl rfl (by simp [hw]) (by simp)⟩
 simp at h7
 obtain rfl : i = n.arcs.length:=by omega
 refine zao ?_
 refine hit ?_
 refine rk (s:=?s16) [4] [] rfl ?o16 ?q16
 case o16=>simp; rfl
 refine zag ?_
 exact ⟨.inr rfl,zan.one (by simp [h3])⟩
open Classical in
theorem zkv (n : Net) (side : List Int) (most : Int) (hl : n.arcs.length ≤ 1099511627776) (hs : side.length ≤ 140737488355328) : zaj Tryz.prog zfR [eN n,ints side,.I most] [] (.B (decide (zek n side most))) []:=by
 refine znB.acalls (Nat.le_of_ble_eq_true rfl) (Nat.le_of_ble_eq_true rfl) (Nat.le_refl _) ?_
 show awp _ 0 _ _ ⟨17,[(0,eN n),(1,ints side),(2,.I most)],[],16⟩
 refine rx (s:=?s1) [1,2,3] [] [16] rfl ?o1 ?q1
 case o1=>simp; rfl
 refine zab ⟨17,[(6,.B (decide (zek n side most)))],[],300⟩ rfl ?_ ?_
 ·have hc:=ziG n side hl hs
  simp
  refine zam (zhz n side hl hs) (by simp) ?_
  simp
  by_cases hv : zfa n side
  ·rw [if_pos hv] at hc
   simp [hv]
   refine zam hc (by simp) ?_
   simp
   exact Le.snap [] rfl rfl (by simp [zek,hv])
  ·simp [hv]
   exact Le.snap [] rfl rfl (by simp [zek,hv])
 refine zag ?_
 exact ⟨.inr rfl,zan.one (by simp)⟩
section
variable {P : Program} {np id : Nat} {h : Nat → Option Ent} {K : AV → List Nat → List (Nat × Option Ent) → Prop} {f : FuncId} {first capt args args' : List AV} {res : AV}
theorem zj2 {i j : Nat} {e1 e2 e1' e2' : Ent} {hs' : List (Option Ent)} (hij : i ≠ j) (h1 : h i = some e1) (h2 : h j = some e2) (he1 : zaw [(i,0),(j,1)] [] h 4 e1 = e1') (he2 : zaw [(i,0),(j,1)] [] h 4 e2 = e2')
  (hc : zaj P f args' [e1',e2'] res hs') (h8 : hs'.length ≤ 10) (he : (first ++ args ++ capt).map (conv [(i,0),(j,1)] [] h 4) = args')
  (hk : K (conv (swp [i,j] id) [] (fun _=>none) 4 res) [i,j] (hs'.zipIdx.map fun (e,k)=>((i :: j :: (List.range 8).map (id + ·)).getD k 0,e.map (zaw (swp [i,j] id) [] (fun _=>none) 4)))) : aK P np id .call (.fn (.func f) first capt :: args) h K :=
 ⟨[i,j],[],true,args',[e1',e2'],res,hs',by simp [hij],by simp,by simp,by rw [show [i,j].zipIdx = [(i,0),(j,1)] from rfl,he]; exact zbX _,by
  rw [show [i,j].zipIdx = [(i,0),(j,1)] from rfl]
  simp only [List.map_cons,List.map_nil,h1,h2,Option.map_some,he1,he2],hc,by simpa using h8,.inl rfl,by simpa [swp] using hk⟩
end
theorem zbF (k : Int) (h : 0 ≤ k) (h2 : k ≤ 1000000) : zaj Tryz.prog zbz [.I k] [] (.I (2 + 2 * k)) []:=by
 refine zmn.acalls (Nat.le_of_ble_eq_true rfl) (Nat.le_of_ble_eq_true rfl) (Nat.le_refl _) ?_
 show awp _ 0 _ _ ⟨6,[(0,.I k)],[],16⟩
 have hw1 : IntKind.i64.wrap (2 * k) = 2 * k:=w64 (by omega) (by omega)
 have hw2 : IntKind.i64.wrap (2 + 2 * k) = 2 + 2 * k:=w64 (by omega) (by omega)
 refine rx (s:=?s1) [0] [] [] rfl ?o1 ?q1
 case o1=>simp; rfl
 refine rx (s:=?s2) [2] [] [] rfl ?o2 ?q2
 case o2=>simp [hw1,hw2]; rfl
 refine zag ?_
 exact ⟨.inr rfl,zan.one (by simp)⟩
theorem zgc (k : Int) (h : 0 ≤ k) (h2 : k ≤ 1000000) : zaj Tryz.prog zez [.I k] [] (.I (3 + 2 * k)) []:=by
 refine zm8.acalls (Nat.le_of_ble_eq_true rfl) (Nat.le_of_ble_eq_true rfl) (Nat.le_refl _) ?_
 show awp _ 0 _ _ ⟨_,[(0,.I k)],[],16⟩
 have hw2 : IntKind.i64.wrap (2 + 2 * k + 1) = 3 + 2 * k:=by rw [w64 (by omega) (by omega)]; omega
 refine rx (s:=?s1) [0] [] [] rfl ?o1 ?q1
 case o1=>simp; rfl
 refine rx (s:=?s2) [2] [] [] rfl ?o2 ?q2
 case o2=>simp; refine zam (zbF k h h2) (by simp) ?_; simp [hw2]; rfl
 refine zag ?_
 exact ⟨.inr rfl,zan.one (by simp)⟩
abbrev outV (N : Int) (B n : Nat) : Ent:=⟨2,[[.I N,.rs B 0 n]],0⟩
theorem znP (N f t v : Int) (L : List Ed) (n : Nat) (hL : L.length = n) (hn : n ≤ 1000000) : zaj Tryz.prog zaE [.I f,.I t,.I v,.pt 0 0 0] [outV N 1 n,⟨3,za4 L,0⟩] (.tup []) [some (outV N 2 (n + 1)),none,some ⟨3,za4 (L ++ [⟨f,t,v⟩]),0⟩]:=by
 refine zhk.acalls (Nat.le_of_ble_eq_true rfl) (Nat.le_of_ble_eq_true rfl) (Nat.le_of_ble_eq_true rfl) ?_
 show awp _ 2 _ _ ⟨16,[(0,.I f),(1,.I t),(2,.I v),(3,.pt 0 0 0)],[(0,some (outV N 1 n)),(1,some ⟨3,za4 L,0⟩)],16⟩
 have htl : ∀ f : Ed → List AV,List.take n (List.map f L) = List.map f L:=fun f=>List.take_of_length_le (by simp [hL])
 refine zac (s:=?s1) rfl ?o1 ?q1
 case o1=>simp [hL,htl]; refine ⟨by omega,by omega,?_⟩; rfl
 refine ⟨.inl rfl,⟨[],rfl,[72],[],by simp [List.range,List.range.loop],by simp,by simp,by simp,?_⟩⟩
 simp [List.range,List.range.loop]
theorem ziS {φ : Ed → Int → Int} : ∀ {A : List Ed} {f : List Int} (i : Nat) (h1 : i < A.length) (h2 : i < f.length),sumF φ (A.take (i + 1)) (f.take (i + 1)) = sumF φ (A.take i) (f.take i) + φ A[i] f[i]
 | e :: A,v :: f,0,_,_=>by simp [sumF]
 | e :: A,v :: f,i + 1,h1,h2=>by
   have:=ziS (φ:=φ) (A:=A) (f:=f) i (by simpa using h1) (by simpa using h2)
   simp only [List.take_succ_cons,sumF,this,List.getElem_cons_succ]
   omega
def netG (A : List Ed) (f : List Int) (i : Nat) (x : Int) : Int:=inF (A.take i) (f.take i) x - outF (A.take i) (f.take i) x
variable {N : Nat} {A : List Ed} {f : List Int}
theorem zl3 (x : Int) : netG A f 0 x = 0:=by simp [netG,inF,outF,sumF]
theorem zmH {i : Nat} (h1 : i < A.length) (h2 : i < f.length) (x : Int) : netG A f (i + 1) x = netG A f i x + (if A[i].t = x then f[i] else 0) - if A[i].f = x then f[i] else 0:=by
 unfold netG inF outF
 rw [ziS i h1 h2,ziS i h1 h2]
 omega
theorem zrP (hl : f.length = A.length) (x : Int) : netG A f A.length x = - exF A f x:=by
 unfold netG exF
 rw [List.take_of_length_le (Nat.le_refl _),List.take_of_length_le (by omega)]
 omega
theorem zki (hl : f.length = A.length) (hb : ∀ j (h : j < f.length),0 ≤ f[j] ∧ f[j] ≤ 1048576) (x : Int) : ∀ i,i ≤ A.length → -(1048576 * (i : Int)) ≤ netG A f i x ∧ netG A f i x ≤ 1048576 * (i : Int)
 | 0,_=>by rw [zl3]; omega
 | i + 1,h=>by
   have ih:=zki hl hb x i (by omega)
   have h2:=hb i (by omega)
   rw [zmH (by omega) (by omega)]
   split <;> split <;> omega
def rowR (N : Nat) (g : Int → Int) : List Int:=(List.range N).map fun k : Nat=>g k
theorem zeg (N : Nat) (g : Int → Int) : (rowR N g).length = N:=by simp [rowR]
theorem zgw {g : Int → Int} {x : Int} (h0 : 0 ≤ x) (h1 : x < N) : (rowR N g)[x.toNat]? = some (g x):=by
 unfold rowR
 rw [List.getElem?_map,List.getElem?_range (by omega)]
 simp only [Option.map_some,Int.toNat_of_nonneg h0]
theorem zoa {g : Int → Int} {x v : Int} (h0 : 0 ≤ x) (h1 : x < N) : (rowR N g).set x.toNat v = rowR N fun y=>if y = x then v else g y:=by
 apply List.ext_getElem?
 intro j
 by_cases hj : j < N
 ·have e1:=zgw (N:=N) (g:=fun y=>if y = x then v else g y) (x:=(j : Int)) (by omega) (by omega)
  have e2:=zgw (N:=N) (g:=g) (x:=(j : Int)) (by omega) (by omega)
  simp only [Int.toNat_natCast] at e1 e2
  rw [List.getElem?_set,e1,e2,zeg]
  by_cases hx : x.toNat = j
  ·rw [if_pos hx,if_pos (by omega),if_pos (by omega)]
  ·rw [if_neg hx,if_neg (by omega)]
 ·rw [List.getElem?_eq_none (by rw [List.length_set,zeg]; omega),List.getElem?_eq_none (by rw [zeg]; omega)]
theorem zkh {g h : Int → Int} (e : ∀ x,g x = h x) : rowR N g = rowR N h:=by
 obtain rfl : g = h:=funext e
 rfl
theorem zpm {g : Gr} {p : Pol} {sinks : List Int} (hg : GrOk g) (hp : zbb g.size p) (hk : ∀ x ∈ sinks,0 ≤ x ∧ x < g.size) : zdm (2 + 2 * g.size).toNat (za1 g p (zat g p) sinks):=by
 have hs0:=hg.1.1
 have hse:=hp.2.1.nodup
 have hle:=zhi hg p.lv
 have hcl : (zat g p).length = g.size.toNat:=by unfold zat; rw [List.length_map,zjk]; rfl
 refine ⟨by omega,fun a ha=>?_⟩
 unfold za1 at ha
 rcases List.mem_append.1 ha with ha | ha
 ·rcases List.mem_append.1 ha with ha | ha
  ·rcases List.mem_append.1 ha with ha | ha
   ·obtain ⟨x,hx,rfl⟩:=List.mem_map.1 ha
    have h1:=List.mem_filter.1 hx
    have h2:=hse.2 x h1.1
    have h3 : 0 < (zat g p).getD x.toNat 0:=by simpa using h1.2
    simp only
    omega
   ·obtain ⟨i,hx,rfl⟩:=List.mem_map.1 ha
    have h1:=List.mem_filter.1 hx
    have h2:=List.mem_range.1 h1.1
    have h3 : 0 < (zat g p).getD i 0:=by simpa using h1.2
    simp only
    omega
  ·obtain ⟨x,hx,rfl⟩:=List.mem_map.1 ha
   have h2:=hk x (List.mem_filter.1 hx).1
   simp only
   omega
 ·obtain ⟨e,hx,rfl⟩:=List.mem_map.1 ha
  have h2:=hle.2 e (List.mem_filter.1 hx).1
  simp only
  omega
def arc1 (c : List Int) (x : Int) : List Ed:=if 0 < c.getD x.toNat 0 then [⟨0,2 + 2 * x,c.getD x.toNat 0⟩] else []
def arc2 (c : List Int) (i : Nat) : List Ed:=if 0 < c.getD i 0 then [⟨2 + 2 * (i : Int),3 + 2 * (i : Int),c.getD i 0 - 1⟩] else []
def arc3 (c : List Int) (x : Int) : List Ed:=if 0 < c.getD x.toNat 0 then [⟨2 + 2 * x,1,1⟩] else []
def arc4 (c : List Int) (e : Ed) : List Ed:=if 0 < c.getD e.f.toNat 0 then [⟨3 + 2 * e.f,2 + 2 * e.t,64⟩] else []
theorem zcw {α : Type} (q : α → Bool) (f : α → Ed) (l : List α) : (l.filter q).map f = l.flatMap fun x=>if q x = true then [f x] else []:=by
 induction l with
 | nil=>rfl
 | cons x l ih=>by_cases h : q x = true <;> simp [h,ih]
theorem zhB (g : Gr) (p : Pol) (c sinks : List Int) : za1 g p c sinks = p.seeds.flatMap (arc1 c) ++ (List.range c.length).flatMap (arc2 c) ++ sinks.flatMap (arc3 c) ++ (zai g p.lv).edges.flatMap (arc4 c):=by
 unfold za1
 rw [zcw,zcw,zcw,zcw]
 simp only [decide_eq_true_eq]
 rfl
theorem zgg {α : Type} (f : α → List Ed) (l : List α) (i : Nat) (h : i < l.length) : (l.take (i + 1)).flatMap f = (l.take i).flatMap f ++ f l[i]:=by
 rw [List.take_succ_eq_append_getElem h,List.flatMap_append]
 simp
theorem zde {α : Type} (f : α → List Ed) (hf : ∀ x,(f x).length ≤ 1) (l : List α) : (l.flatMap f).length ≤ l.length:=by
 induction l with
 | nil=>simp
 | cons x l ih=>rw [List.flatMap_cons,List.length_append,List.length_cons]; have:=hf x; omega
theorem zlk (c : List Int) (x : Int) : (arc1 c x).length ≤ 1:=by unfold arc1; split <;> simp
theorem zk0 (c : List Int) (x : Nat) : (arc2 c x).length ≤ 1:=by unfold arc2; split <;> simp
theorem zlx (c : List Int) (x : Int) : (arc3 c x).length ≤ 1:=by unfold arc3; split <;> simp
theorem zkw (c : List Int) (x : Ed) : (arc4 c x).length ≤ 1:=by unfold arc4; split <;> simp
theorem zc5 {α : Type} (f : α → List Ed) (hf : ∀ x,(f x).length ≤ 1) (l : List α) (i : Nat) : ((l.take i).flatMap f).length ≤ l.length:=Nat.le_trans (zde f hf _) (List.length_take_le' i l)
set_option maxRecDepth 100000 in
set_option maxHeartbeats 4000000 in
theorem zhT (g : Gr) (p : Pol) (sinks : List Int) (hg : GrOk g) (hp : zbb g.size p) (hr : Rise sinks 0 (g.size - 1)) (hs : p.seeds.length ≤ 64) (hsl : sinks.length ≤ 64) :
  zaj Tryz.prog zdV [eG g,eP p,ints sinks] [] (.tup [eN ⟨2 + 2 * g.size,za1 g p (zat g p) sinks⟩,.I 0]) []:=by
 refine zjN.acalls (Nat.le_of_ble_eq_true rfl) (Nat.le_of_ble_eq_true rfl) (Nat.le_refl _) ?_
 show awp _ 0 _ _ ⟨123,[(0,eG g),(1,eP p),(2,ints sinks)],[],16⟩
 have hsz:=hg.1.1
 have hsz2:=hg.1.2.1
 have hel:=hg.edges_le
 have hgl:=hg.gone_le
 have hchk:=zbW g p (by omega) (by omega) (by omega) (by have:=hp.2.2.2.1; omega)
 rw [if_pos hg,if_pos hp] at hchk
 have hcap:=ze6 g p hg (by omega)
 have hcb:=zec (g:=g) hp
 have hcl : (zat g p).length = g.size.toNat:=zaT
 rw [← hcl] at hcap
 have hlev:=zdO g p.lv (by omega) (by omega)
 rw [zhB]
 obtain ⟨C,hC⟩ : ∃ C,C = zat g p:=⟨_,rfl⟩
 rw [← hC] at hcap hcl hcb ⊢
 have hGe : ∀ e ∈ (zai g p.lv).edges,e ∈ g.edges:=fun e he=>(List.mem_filter.1 he).1
 have hGl : (zai g p.lv).edges.length ≤ 500:=Nat.le_trans (List.length_filter_le ..) hel
 obtain ⟨G,hG⟩ : ∃ G,G = zai g p.lv:=⟨_,rfl⟩
 rw [← hG] at hlev hGe hGl ⊢
 have hw1 : IntKind.i64.wrap (g.size - 1) = g.size - 1:=w64 (by omega) (by omega)
 have hfit : ∀ e ∈ G.edges,(0 ≤ e.f ∧ e.f < g.size) ∧ (0 ≤ e.t ∧ e.t < g.size):=fun e he=>by
  have:=hg.fits e (hGe e he)
  unfold Fits at this
  omega
 have hkey : ∀ k : Int,0 ≤ k → k < g.size → ∃ j : Nat,k = j ∧ j < C.length ∧ j < 64:=fun k h0 h1=>⟨k.toNat,by omega,by omega,by omega⟩
 have hseed : ∀ k ∈ p.seeds,∃ j : Nat,k = j ∧ j < C.length ∧ j < 64:=fun k hk=>by
  obtain ⟨i,hi,rfl⟩:=List.getElem_of_mem hk
  have:=hp.2.1 i hi
  exact hkey _ (by omega) (by omega)
 have hsink : ∀ k ∈ sinks,∃ j : Nat,k = j ∧ j < C.length ∧ j < 64:=fun k hk=>by
  obtain ⟨i,hi,rfl⟩:=List.getElem_of_mem hk
  have:=hr i hi
  exact hkey _ (by omega) (by omega)
 refine zab ⟨123,[(2,ints sinks),(3,.pv (gC g)),(4,.pv (pC p)),(6,.pt 32 0 0)],[(32,some ⟨2,[[.I 0,.nilS]],0⟩)],48⟩ rfl ?_ ?_
 ·simp
  exact Le.go [(32,32)] [16,24] rfl rfl (by simp) (by simp)
 refine zaa ?_
 refine rk (s:=?s2) [2,3,4,6,8] [32] rfl ?o2 ?q2
 case o2=>simp; refine zam hchk (by simp) ?_; simp; rfl
 refine rk (s:=?s3) [2,3,4,6,24] [32] rfl ?o3 ?q3
 case o3=>simp; rfl
 refine zad _ rfl (fun h4=>?_) fun h4=>zae ?_
 ·simp at h4
 refine zaa ?_
 refine rk (s:=?s5) [2,3,4,6,32] [32] rfl ?o5 ?q5
 case o5=>simp [hw1]; refine zam (zbQ sinks 0 (g.size - 1) (by omega)) (by simp) ?_; simp [hr]; rfl
 refine zad _ rfl (fun h6=>?_) fun h6=>zae ?_
 ·simp at h6
 refine rk (s:=?s7) [2,3,4,6,9] [32,176] rfl ?o7 ?q7
 case o7=>simp; refine zam (zbF g.size hsz (by omega)) (by simp) ?_; simp; rfl
 obtain ⟨N,hN⟩ : ∃ N : Int,N = 2 + 2 * g.size:=⟨_,rfl⟩
 simp only [← hN]
 refine rk (s:=?s8) [2,3,4,6,9,10] [32,176] rfl ?o8 ?q8
 case o8=>simp; rfl
 refine zab ⟨123,[(2,ints sinks),(3,.pv (gC g)),(4,.pv (pC p)),(6,.pt 32 0 0),(9,.pt 176 0 0),(10,.fn (.func zaE) [] [.pt 176 0 0]),(11,ints C)],[(32,some ⟨2,[[.I 0,.nilS]],0⟩),(176,some ⟨2,[[.I N,.nilS]],0⟩)],240⟩ rfl ?_ ?_
 ·simp
  refine za3 hcap (by simp) ?_
  simp [fcd]
  exact Le.go [(32,32),(176,176)] [224] rfl rfl (by simp [fcd,zal]) (by simp)
 have hb1 : (p.seeds.flatMap (arc1 C)).length ≤ 64:=Nat.le_trans (zde _ (zlk C) _) hs
 have hb2 : ((List.range C.length).flatMap (arc2 C)).length ≤ 64:=Nat.le_trans (zde _ (zk0 C) _) (by rw [List.length_range]; omega)
 have hb3 : (sinks.flatMap (arc3 C)).length ≤ 64:=Nat.le_trans (zde _ (zlx C) _) hsl
 have hb4 : (G.edges.flatMap (arc4 C)).length ≤ 500:=Nat.le_trans (zde _ (zkw C) _) hGl
 obtain ⟨X1,hX1⟩ : ∃ X,X = p.seeds.flatMap (arc1 C):=⟨_,rfl⟩
 obtain ⟨X2,hX2⟩ : ∃ X,X = (List.range C.length).flatMap (arc2 C):=⟨_,rfl⟩
 obtain ⟨X3,hX3⟩ : ∃ X,X = sinks.flatMap (arc3 C):=⟨_,rfl⟩
 obtain ⟨X4,hX4⟩ : ∃ X,X = G.edges.flatMap (arc4 C):=⟨_,rfl⟩
 obtain ⟨Z2,hZ2⟩ : ∃ Z,Z = X1 ++ X2:=⟨_,rfl⟩
 obtain ⟨Z3,hZ3⟩ : ∃ Z,Z = Z2 ++ X3:=⟨_,rfl⟩
 obtain ⟨Z4,hZ4⟩ : ∃ Z,Z = Z3 ++ X4:=⟨_,rfl⟩
 rw [← hX1] at hb1
 rw [← hX2] at hb2
 rw [← hX3] at hb3
 rw [← hX4] at hb4
 rw [← hX1,← hX2,← hX3,← hX4,← hZ2,← hZ3,← hZ4]
 have hz2 : Z2.length ≤ 128:=by rw [hZ2,List.length_append]; omega
 have hz3 : Z3.length ≤ 192:=by rw [hZ3,List.length_append]; omega
 refine zaa ?_
 refine rk (s:=?sa1) [2,3,4,6,9,10,11,43,44,45] [32,176] rfl ?oa1 ?qa1
 case oa1=>simp; rfl
 refine zaf ?_
 obtain ⟨Fa,Fa0,Fas,Fal,FaN⟩ : ∃ F : Nat → List Ed,F 0 = [] ∧ (∀ i (h : i < (p.seeds).length),F (i + 1) = F i ++ arc1 C (p.seeds)[i]) ∧ (∀ i,(F i).length ≤ 64) ∧ F (p.seeds).length = (p.seeds).flatMap (arc1 C) :=
  ⟨fun i=>((p.seeds).take i).flatMap (arc1 C),by simp,fun i h=>by simp only [zgg _ _ i h,List.append_assoc],fun i=>by have:=zc5 _ (zlk C) (p.seeds) i; exact Nat.le_trans this hs,by simp⟩
 rw [← hX1] at FaN
 refine zap (ι:=Nat) (fun i=>⟨123,[(2,ints sinks),(3,.pv (gC g)),(4,.pv (pC p)),(6,.pt 32 0 0),(9,.pt 176 0 0),(10,.fn (.func zaE) [] [.pt 176 0 0]),(11,ints C),(43,ints p.seeds),(44,.I p.seeds.length),(45,.I i)],[(32,some ⟨2,[[.I 0,.nilS]],0⟩),(176,some (outV N 16 (Fa i).length)),(16,some ⟨3,za4 (Fa i),0⟩)],272⟩) (fun i=>i ≤ p.seeds.length) (fun i=>p.seeds.length - i) 0 (Nat.zero_le _) (Le.lst [(32,32),(176,176)] [] [(16,3)] rfl (by simp) (by simp) (by simp) (by simp) (by simp) (by simp) (by simp) (by simp [Up]) (by simp [Fa0]; refine ⟨zaC.rfl' (by simp),zaC.row rfl (by omega) (by simp [UpL,Up])⟩)) ?_
 intro i hi
 refine rk (s:=?sa2) [2,3,4,6,9,10,11,43,44,45,46] [32,176,16] rfl ?oa2 ?qa2
 case oa2=>simp; rfl
 refine zaa ?_
 refine zad _ rfl (fun h7=>?_) fun h7=>?_
 ·simp at h7
  have hw : IntKind.i64.wrap ((i : Int) + 1) = (i : Int) + 1:=w64 (by omega) (by omega)
  have hFi:=Fal i
  obtain ⟨k,hk,hkC,hk64⟩:=hseed _ (List.getElem_mem h7)
  have hFn : Fa (i + 1) = Fa i ++ if 0 < C[k] then [⟨0,2 + 2 * (k : Int),C[k]⟩] else []:=by
   rw [Fas i h7,hk]
   unfold arc1
   simp [hkC]
  refine zae ?_
  refine zaI (ι:=Unit) (fun _=>⟨123,[(2,ints sinks),(3,.pv (gC g)),(4,.pv (pC p)),(6,.pt 32 0 0),(9,.pt 176 0 0),(10,.fn (.func zaE) [] [.pt 176 0 0]),(11,ints C),(43,ints p.seeds),(44,.I p.seeds.length),(45,.I i)],[(32,some ⟨2,[[.I 0,.nilS]],0⟩),(176,some (outV N 16 (Fa (i + 1)).length)),(16,some ⟨3,za4 (Fa (i + 1)),0⟩)],700⟩) (fun _=>True) ?_ fun _ _=>?_
  ·refine zaf ?_
   refine rk (s:=?sa3) [2,3,4,6,9,10,11,13,43,44,45] [32,176,16] rfl ?oa3 ?qa3
   case oa3=>simp [h7,hk]; rfl
   refine rk (s:=?sa4) [2,3,4,6,9,10,11,13,43,44,45,53] [32,176,16] rfl ?oa4 ?qa4
   case oa4=>simp [hkC]; rfl
   refine zad _ rfl (fun h8=>?_) fun h8=>?_
   ·simp at h8
    rw [if_pos h8] at hFn
    refine zc0 rfl ?_
    simp [hkC]
    refine zam (zbF k (by omega) (by omega)) (by simp) ?_
    simp [hkC]
    refine zj2 (i:=176) (j:=16) (by decide) rfl rfl (e1':=outV N 1 (Fa i).length) (e2':=⟨3,za4 (Fa i),0⟩) (by simp) (by simp [fcd]) (znP N 0 (2 + 2 * (k : Int)) C[k] (Fa i) _ rfl (by omega)) (by simp) (by simp) ?_
    simp [fcd]
    exact ⟨rfl,Le.go [(32,32),(176,176),(400,16)] [] rfl rfl (by simp [hFn]) (by simp [hFn,fcd])⟩
   ·simp at h8
    rw [if_neg (by omega)] at hFn
    refine zae ?_
    exact ⟨(),trivial,Le.go [(32,32),(176,176),(16,16)] [] rfl rfl (by simp [hFn]) (by simp [hFn,fcd])⟩
  refine zac (s:=?sa9) rfl ?oa9 ?qa9
  case oa9=>simp; rfl
  exact ⟨i + 1,by omega,by omega,Le.go [(32,32),(176,176),(16,16)] [] rfl rfl (by simp [hw]) (by simp [fcd])⟩
 simp at h7
 obtain rfl : i = p.seeds.length:=by omega
 rw [FaN]
 refine zao ?_
 refine hit ?_
 refine zaa ?_
 refine rk (s:=?sb1) [2,3,4,6,9,10,11,63,64,65] [32,176,16] rfl ?ob1 ?qb1
 case ob1=>simp; rfl
 refine zaf ?_
 obtain ⟨Fb,Fb0,Fbs,Fbl,FbN⟩ : ∃ F : Nat → List Ed,F 0 = X1 ∧ (∀ i (h : i < (List.range C.length).length),F (i + 1) = F i ++ arc2 C (List.range C.length)[i]) ∧ (∀ i,(F i).length ≤ 200) ∧ F (List.range C.length).length = X1 ++ (List.range C.length).flatMap (arc2 C) :=
  ⟨fun i=>X1 ++ ((List.range C.length).take i).flatMap (arc2 C),by simp,fun i h=>by simp only [zgg _ _ i h,List.append_assoc],fun i=>by have:=zc5 _ (zk0 C) (List.range C.length) i; rw [List.length_range] at this; rw [List.length_append]; omega,by simp⟩
 rw [List.length_range,← hX2,← hZ2] at FbN
 refine zap (ι:=Nat) (fun i=>⟨123,[(2,ints sinks),(3,.pv (gC g)),(4,.pv (pC p)),(6,.pt 32 0 0),(9,.pt 176 0 0),(10,.fn (.func zaE) [] [.pt 176 0 0]),(11,ints C),(63,ints C),(64,.I C.length),(65,.I i)],[(32,some ⟨2,[[.I 0,.nilS]],0⟩),(176,some (outV N 16 (Fb i).length)),(16,some ⟨3,za4 (Fb i),0⟩)],304⟩) (fun i=>i ≤ C.length) (fun i=>C.length - i) 0 (Nat.zero_le _) (Le.go [(32,32),(176,176),(16,16)] [] rfl rfl (by simp [Fb0]) (by simp [Fb0,fcd])) ?_
 intro i hi
 refine rk (s:=?sb2) [2,3,4,6,9,10,11,63,64,65,66] [32,176,16] rfl ?ob2 ?qb2
 case ob2=>simp; rfl
 refine zaa ?_
 refine zad _ rfl (fun h7=>?_) fun h7=>?_
 ·simp at h7
  have hw : IntKind.i64.wrap ((i : Int) + 1) = (i : Int) + 1:=w64 (by omega) (by omega)
  have hFi:=Fbl i
  have hkC:=h7
  have hFn : Fb (i + 1) = Fb i ++ if 0 < C[i] then [⟨2 + 2 * (i : Int),3 + 2 * (i : Int),C[i] - 1⟩] else []:=by
   rw [Fbs i (by simpa using h7)]
   unfold arc2
   simp [hkC]
  have hci:=hcb _ (List.getElem_mem h7)
  have hwc : IntKind.i64.wrap (C[i] - 1) = C[i] - 1:=w64 (by omega) (by omega)
  refine zae ?_
  refine zaI (ι:=Unit) (fun _=>⟨123,[(2,ints sinks),(3,.pv (gC g)),(4,.pv (pC p)),(6,.pt 32 0 0),(9,.pt 176 0 0),(10,.fn (.func zaE) [] [.pt 176 0 0]),(11,ints C),(63,ints C),(64,.I C.length),(65,.I i)],[(32,some ⟨2,[[.I 0,.nilS]],0⟩),(176,some (outV N 16 (Fb (i + 1)).length)),(16,some ⟨3,za4 (Fb (i + 1)),0⟩)],700⟩) (fun _=>True) ?_ fun _ _=>?_
  ·refine zaf ?_
   refine rk (s:=?sb3) [2,3,4,6,9,10,11,14,15,63,64,65] [32,176,16] rfl ?ob3 ?qb3
   case ob3=>simp [h7]; rfl
   refine rk (s:=?sb4) [2,3,4,6,9,10,11,14,15,63,64,65,71] [32,176,16] rfl ?ob4 ?qb4
   case ob4=>simp [hkC]; rfl
   refine zad _ rfl (fun h8=>?_) fun h8=>?_
   ·simp at h8
    rw [if_pos h8] at hFn
    refine zar rfl ?_
    simp [hkC]
    refine zam (zbF i (by omega) (by omega)) (by simp) ?_
    simp [hkC,hwc]
    refine zam (zgc i (by omega) (by omega)) (by simp) ?_
    simp [hkC,hwc]
    refine zj2 (i:=176) (j:=16) (by decide) rfl rfl (e1':=outV N 1 (Fb i).length) (e2':=⟨3,za4 (Fb i),0⟩) (by simp) (by simp [fcd]) (znP N (2 + 2 * (i : Int)) (3 + 2 * (i : Int)) (C[i] - 1) (Fb i) _ rfl (by omega)) (by simp) (by simp) ?_
    simp [fcd]
    exact Le.go [(32,32),(176,176),(424,16)] [] rfl rfl (by simp [hFn]) (by simp [hFn,fcd])
   ·simp at h8
    rw [if_neg (by omega)] at hFn
    refine zae ?_
    exact ⟨(),trivial,Le.go [(32,32),(176,176),(16,16)] [] rfl rfl (by simp [hFn]) (by simp [hFn,fcd])⟩
  refine zac (s:=?sb9) rfl ?ob9 ?qb9
  case ob9=>simp; rfl
  exact ⟨i + 1,by omega,by omega,Le.go [(32,32),(176,176),(16,16)] [] rfl rfl (by simp [hw]) (by simp [fcd])⟩
 simp at h7
 obtain rfl : i = C.length:=by omega
 rw [FbN]
 refine zao ?_
 refine hit ?_
 refine zaa ?_
 refine rk (s:=?sc1) [3,4,6,9,10,11,81,82,83] [32,176,16] rfl ?oc1 ?qc1
 case oc1=>simp; rfl
 refine zaf ?_
 obtain ⟨Fc,Fc0,Fcs,Fcl,FcN⟩ : ∃ F : Nat → List Ed,F 0 = Z2 ∧ (∀ i (h : i < (sinks).length),F (i + 1) = F i ++ arc3 C (sinks)[i]) ∧ (∀ i,(F i).length ≤ 300) ∧ F (sinks).length = Z2 ++ (sinks).flatMap (arc3 C) :=
  ⟨fun i=>Z2 ++ ((sinks).take i).flatMap (arc3 C),by simp,fun i h=>by simp only [zgg _ _ i h,List.append_assoc],fun i=>by have:=zc5 _ (zlx C) (sinks) i; simp only [List.length_append]; omega,by simp⟩
 rw [← hX3,← hZ3] at FcN
 refine zap (ι:=Nat) (fun i=>⟨123,[(3,.pv (gC g)),(4,.pv (pC p)),(6,.pt 32 0 0),(9,.pt 176 0 0),(10,.fn (.func zaE) [] [.pt 176 0 0]),(11,ints C),(81,ints sinks),(82,.I sinks.length),(83,.I i)],[(32,some ⟨2,[[.I 0,.nilS]],0⟩),(176,some (outV N 16 (Fc i).length)),(16,some ⟨3,za4 (Fc i),0⟩)],336⟩) (fun i=>i ≤ sinks.length) (fun i=>sinks.length - i) 0 (Nat.zero_le _) (Le.go [(32,32),(176,176),(16,16)] [] rfl rfl (by simp [Fc0]) (by simp [Fc0,fcd])) ?_
 intro i hi
 refine rk (s:=?sc2) [3,4,6,9,10,11,81,82,83,84] [32,176,16] rfl ?oc2 ?qc2
 case oc2=>simp; rfl
 refine zaa ?_
 refine zad _ rfl (fun h7=>?_) fun h7=>?_
 ·simp at h7
  have hw : IntKind.i64.wrap ((i : Int) + 1) = (i : Int) + 1:=w64 (by omega) (by omega)
  have hFi:=Fcl i
  obtain ⟨k,hk,hkC,hk64⟩:=hsink _ (List.getElem_mem h7)
  have hFn : Fc (i + 1) = Fc i ++ if 0 < C[k] then [⟨2 + 2 * (k : Int),1,1⟩] else []:=by
   rw [Fcs i h7,hk]
   unfold arc3
   simp [hkC]
  refine zae ?_
  refine zaI (ι:=Unit) (fun _=>⟨123,[(3,.pv (gC g)),(4,.pv (pC p)),(6,.pt 32 0 0),(9,.pt 176 0 0),(10,.fn (.func zaE) [] [.pt 176 0 0]),(11,ints C),(81,ints sinks),(82,.I sinks.length),(83,.I i)],[(32,some ⟨2,[[.I 0,.nilS]],0⟩),(176,some (outV N 16 (Fc (i + 1)).length)),(16,some ⟨3,za4 (Fc (i + 1)),0⟩)],700⟩) (fun _=>True) ?_ fun _ _=>?_
  ·refine zaf ?_
   refine rk (s:=?sc3) [3,4,6,9,10,11,17,81,82,83] [32,176,16] rfl ?oc3 ?qc3
   case oc3=>simp [h7,hk]; rfl
   refine rk (s:=?sc4) [3,4,6,9,10,11,17,81,82,83,91] [32,176,16] rfl ?oc4 ?qc4
   case oc4=>simp [hkC]; rfl
   refine zad _ rfl (fun h8=>?_) fun h8=>?_
   ·simp at h8
    rw [if_pos h8] at hFn
    refine zar rfl ?_
    simp [hkC]
    refine zam (zbF k (by omega) (by omega)) (by simp) ?_
    simp [hkC]
    refine zj2 (i:=176) (j:=16) (by decide) rfl rfl (e1':=outV N 1 (Fc i).length) (e2':=⟨3,za4 (Fc i),0⟩) (by simp) (by simp [fcd]) (znP N (2 + 2 * (k : Int)) 1 1 (Fc i) _ rfl (by omega)) (by simp) (by simp) ?_
    simp [fcd]
    exact Le.go [(32,32),(176,176),(432,16)] [] rfl rfl (by simp [hFn]) (by simp [hFn,fcd])
   ·simp at h8
    rw [if_neg (by omega)] at hFn
    refine zae ?_
    exact ⟨(),trivial,Le.go [(32,32),(176,176),(16,16)] [] rfl rfl (by simp [hFn]) (by simp [hFn,fcd])⟩
  refine zac (s:=?sc9) rfl ?oc9 ?qc9
  case oc9=>simp; rfl
  exact ⟨i + 1,by omega,by omega,Le.go [(32,32),(176,176),(16,16)] [] rfl rfl (by simp [hw]) (by simp [fcd])⟩
 simp at h7
 obtain rfl : i = sinks.length:=by omega
 rw [FcN]
 refine zao ?_
 refine hit ?_
 refine zaa ?_
 refine rk (s:=?sd1) [6,9,10,11,101,102,103] [32,176,16] rfl ?od1 ?qd1
 case od1=>simp; refine zam hlev (by simp) ?_; simp; rfl
 refine zaf ?_
 obtain ⟨Fd,Fd0,Fds,Fdl,FdN⟩ : ∃ F : Nat → List Ed,F 0 = Z3 ∧ (∀ i (h : i < (G.edges).length),F (i + 1) = F i ++ arc4 C (G.edges)[i]) ∧ (∀ i,(F i).length ≤ 900) ∧ F (G.edges).length = Z3 ++ (G.edges).flatMap (arc4 C) :=
  ⟨fun i=>Z3 ++ ((G.edges).take i).flatMap (arc4 C),by simp,fun i h=>by simp only [zgg _ _ i h,List.append_assoc],fun i=>by have:=zc5 _ (zkw C) (G.edges) i; simp only [List.length_append]; omega,by simp⟩
 rw [← hX4,← hZ4] at FdN
 refine zap (ι:=Nat) (fun i=>⟨123,[(6,.pt 32 0 0),(9,.pt 176 0 0),(10,.fn (.func zaE) [] [.pt 176 0 0]),(11,ints C),(101,eEs G.edges),(102,.I G.edges.length),(103,.I i)],[(32,some ⟨2,[[.I 0,.nilS]],0⟩),(176,some (outV N 16 (Fd i).length)),(16,some ⟨3,za4 (Fd i),0⟩)],400⟩) (fun i=>i ≤ G.edges.length) (fun i=>G.edges.length - i) 0 (Nat.zero_le _) (Le.go [(32,32),(176,176),(16,16)] [] rfl rfl (by simp [Fd0]) (by simp [Fd0,fcd])) ?_
 intro i hi
 refine rk (s:=?sd2) [6,9,10,11,101,102,103,104] [32,176,16] rfl ?od2 ?qd2
 case od2=>simp; rfl
 refine zaa ?_
 refine zad _ rfl (fun h7=>?_) fun h7=>?_
 ·simp at h7
  have hw : IntKind.i64.wrap ((i : Int) + 1) = (i : Int) + 1:=w64 (by omega) (by omega)
  have hFi:=Fdl i
  obtain ⟨x,hx⟩ : ∃ x,x = G.edges[i]:=⟨_,rfl⟩
  have hfx:=hfit _ (List.getElem_mem h7)
  rw [← hx] at hfx
  obtain ⟨k,hk,hkC,hk64⟩:=hkey x.f hfx.1.1 hfx.1.2
  obtain ⟨u,hu,huC,hu64⟩:=hkey x.t hfx.2.1 hfx.2.2
  have hFn : Fd (i + 1) = Fd i ++ if 0 < C[k] then [⟨3 + 2 * (k : Int),2 + 2 * (u : Int),64⟩] else []:=by
   rw [Fds i h7,← hx]
   unfold arc4
   rw [hk,hu]
   simp [hkC]
  refine zae ?_
  refine zaI (ι:=Unit) (fun _=>⟨123,[(6,.pt 32 0 0),(9,.pt 176 0 0),(10,.fn (.func zaE) [] [.pt 176 0 0]),(11,ints C),(101,eEs G.edges),(102,.I G.edges.length),(103,.I i)],[(32,some ⟨2,[[.I 0,.nilS]],0⟩),(176,some (outV N 16 (Fd (i + 1)).length)),(16,some ⟨3,za4 (Fd (i + 1)),0⟩)],700⟩) (fun _=>True) ?_ fun _ _=>?_
  ·refine zaf ?_
   refine zab ⟨123,[(6,.pt 32 0 0),(9,.pt 176 0 0),(10,.fn (.func zaE) [] [.pt 176 0 0]),(11,ints C),(19,.pv (eC x)),(101,eEs G.edges),(102,.I G.edges.length),(103,.I i)],[(32,some ⟨2,[[.I 0,.nilS]],0⟩),(176,some (outV N 16 (Fd i).length)),(16,some ⟨3,za4 (Fd i),0⟩)],440⟩ rfl ?_ ?_
   ·simp [h7,← hx]
    exact Le.go [(32,32),(176,176),(16,16)] [424] rfl rfl (by simp) (by simp [fcd])
   refine rk (s:=?sd4) [6,9,10,11,19,101,102,103,112] [32,176,16] rfl ?od4 ?qd4
   case od4=>simp [hk,hkC]; rfl
   refine zad _ rfl (fun h8=>?_) fun h8=>?_
   ·simp at h8
    rw [if_pos h8] at hFn
    refine zc0 rfl ?_
    simp [hk,hu]
    refine zam (zgc k (by omega) (by omega)) (by simp) ?_
    simp [hkC]
    refine zam (zbF u (by omega) (by omega)) (by simp) ?_
    simp [hkC]
    refine zj2 (i:=176) (j:=16) (by decide) rfl rfl (e1':=outV N 1 (Fd i).length) (e2':=⟨3,za4 (Fd i),0⟩) (by simp) (by simp [fcd]) (znP N (3 + 2 * (k : Int)) (2 + 2 * (u : Int)) 64 (Fd i) _ rfl (by omega)) (by simp) (by simp) ?_
    simp [fcd]
    exact ⟨rfl,Le.go [(32,32),(176,176),(544,16)] [] rfl rfl (by simp [hFn]) (by simp [hFn,fcd])⟩
   ·simp at h8
    rw [if_neg (by omega)] at hFn
    refine zae ?_
    exact ⟨(),trivial,Le.go [(32,32),(176,176),(16,16)] [] rfl rfl (by simp [hFn]) (by simp [hFn,fcd])⟩
  refine zac (s:=?sd9) rfl ?od9 ?qd9
  case od9=>simp; rfl
  exact ⟨i + 1,by omega,by omega,Le.go [(32,32),(176,176),(16,16)] [] rfl rfl (by simp [hw]) (by simp [fcd])⟩
 simp at h7
 obtain rfl : i = G.edges.length:=by omega
 rw [FdN]
 refine zao ?_
 refine hit ?_
 refine rk (s:=?sz) [6,7] [32,16] rfl ?oz ?qz
 case oz=>simp; rfl
 refine zag ?_
 exact ⟨.inr rfl,zan.out [] [16] rfl (by simp) (by simp) (by simp [hN,fcd,zal]) (by simp)⟩
instance (g : Gr) (lv f t : Int) : Decidable (znX g lv f t):=by unfold znX; infer_instance
theorem zd1 {a : List Int} {n : Int} (h : ∀ k ∈ a,0 ≤ k ∧ k < n) : Rise (zaG a) 0 (n - 1):=by
 intro i hi
 have hm:=zdt.1 (List.getElem_mem hi)
 have:=h _ hm.1
 refine ⟨by omega,by omega,fun hp=>?_⟩
 exact (List.pairwise_iff_getElem.1 (zgh a)) (i - 1) i (by omega) hi (by omega)
theorem zeS (a : List Int) : (zaG a).length ≤ 64:=Nat.le_trans (List.length_filter_le ..) (by simp)
theorem znK (g : Gr) (p : Pol) (sinks : List Int) (hg : GrOk g) (hs : p.seeds.length ≤ 64) (hsl : sinks.length ≤ 64) : (za1 g p (zat g p) sinks).length ≤ 1000:=by
 rw [zhB]
 have h1:=zde _ (zlk (zat g p)) p.seeds
 have h2:=zde _ (zk0 (zat g p)) (List.range (zat g p).length)
 have h3:=zde _ (zlx (zat g p)) sinks
 have h4:=zde _ (zkw (zat g p)) (zai g p.lv).edges
 have h5 : (zai g p.lv).edges.length ≤ g.edges.length:=List.length_filter_le ..
 have h6:=hg.edges_le
 have h7:=hg.1.2.1
 have h8:=hg.1.1
 rw [List.length_range] at h2
 have h9 : (zat g p).length = g.size.toNat:=zaT
 simp only [List.length_append]
 omega
def netN (g : Gr) : Nat:=(2 + 2 * g.size).toNat
theorem zh5 {g : Gr} (hg : GrOk g) : ((netN g : Nat) : Int) = 2 + 2 * g.size:=by unfold netN; have:=hg.1.1; omega
abbrev netA (g : Gr) (p : Pol) (ks : List Int) : List Ed:=za1 g p (zat g p) ks
def zaq (g : Gr) (p : Pol) (ks : List Int) : Prop:=maxF (netN g) (netA g p ks) = ks.length
theorem zgO {g : Gr} {p : Pol} {ks : List Int} (hg : GrOk g) (hp : zbb g.size p) (hk : ∀ x ∈ ks,0 ≤ x ∧ x < g.size) : zdm (netN g) (netA g p ks):=zpm hg hp hk
theorem zgz {g : Gr} {p : Pol} {ks : List Int} (hg : GrOk g) (hp : zbb g.size p) (hk : ∀ x ∈ ks,0 ≤ x ∧ x < g.size) (hs : p.seeds.length ≤ 64) (hsl : ks.length ≤ 64) : zby ⟨netN g,netA g p ks⟩:=by
 have h1:=zgO hg hp hk
 have h2 : (netA g p ks).length ≤ 1000:=znK g p ks hg hs hsl
 have h3:=hg.1.2.1
 have hN:=zh5 hg
 have h0:=hg.1.1
 have hcb : ∀ i : Nat,(zat g p).getD i 0 ≤ 1000:=fun i=>by
  rw [List.getD_eq_getElem?_getD]
  cases h : (zat g p)[i]? with
  | none=>simp
  | some v =>
    have hm:=List.mem_of_getElem? h
    unfold zat at hm
    obtain ⟨d,_,rfl⟩:=List.mem_map.1 hm
    exact (zfO hp d).2
 refine ⟨by simp only; omega,by simp only; omega,by simp only; omega,fun a ha=>?_⟩
 obtain ⟨q1,q2,q3,q4,q5,q6,q7,q8⟩:=h1.arc a ha
 refine ⟨q1,by simp only; omega,q3,by simp only; omega,q5,q6,q7,q8,?_⟩
 simp only [netA,za1] at ha
 rcases List.mem_append.1 ha with ha | ha
 ·rcases List.mem_append.1 ha with ha | ha
  ·rcases List.mem_append.1 ha with ha | ha
   ·obtain ⟨x,hx,rfl⟩:=List.mem_map.1 ha
    have:=hcb x.toNat
    simp only
    omega
   ·obtain ⟨i,hx,rfl⟩:=List.mem_map.1 ha
    have:=hcb i
    simp only
    omega
  ·obtain ⟨x,hx,rfl⟩:=List.mem_map.1 ha
   simp
 ·obtain ⟨e,hx,rfl⟩:=List.mem_map.1 ha
  simp
structure zmK (g : Gr) (p : Pol) (ks f : List Int) : Prop where
 ok : zaD (netN g) (netA g p ks) f
 most : ∀ f',zaD (netN g) (netA g p ks) f' → valF (netA g p ks) f' ≤ valF (netA g p ks) f
 val : valF (netA g p ks) f = maxF (netN g) (netA g p ks)
theorem zhf {ks : List Int} {n : Int} (h : Rise ks 0 (n - 1)) : ∀ x ∈ ks,0 ≤ x ∧ x < n:=fun x hx=>by
 have:=h.nodup.2 x hx
 omega
theorem zmc (side : List Int) : ∀ A : List Ed,cutV A side = capS (fun x=>decide (x ∈ side)) A
 | []=>rfl
 | e :: A=>by
   have h1 : cutV (e :: A) side = (if e.f ∈ side ∧ e.t ∉ side then e.v else 0) + cutV A side:=by simp [cutV]
   have h2 : capS (fun x=>decide (x ∈ side)) (e :: A) = (if decide (e.f ∈ side) = true ∧ decide (e.t ∈ side) = false then e.v else 0) + capS (fun x=>decide (x ∈ side)) A:=rfl
   rw [h1,h2,zmc side A]
   simp
section
variable {P : Program} {np id : Nat} {h : Nat → Option Ent} {K : AV → List Nat → List (Nat × Option Ent) → Prop} {f : FuncId} {first capt args args' : List AV} {res : AV}
end
def lowN : List Int → Int → Nat
 | [],_=>0
 | x :: l,k=>if x < k then lowN l k + 1 else 0
def putL (l : List Int) (k : Int) : List Int:=if l[lowN l k]? = some k then l else l.take (lowN l k) ++ k :: l.drop (lowN l k)
theorem zlg : ∀ (l : List Int) (k : Int),lowN l k ≤ l.length
 | [],_=>Nat.le_refl _
 | x :: l,k=>by unfold lowN; have:=zlg l k; split <;> simp <;> omega
theorem zmQ : ∀ {l : List Int} {k : Int} {i : Nat} (h : i < l.length),i < lowN l k → l[i] < k
 | x :: l,k,0,_,h=>by
   unfold lowN at h
   split at h
   ·simpa
   ·omega
 | x :: l,k,i + 1,hi,h=>by
   unfold lowN at h
   split at h
   ·simpa using zmQ (l:=l) (by simpa using hi) (by omega)
   ·omega
theorem ziY : ∀ {l : List Int} {k : Int} (h : lowN l k < l.length),¬ l[lowN l k] < k
 | x :: l,k,h=>by
   by_cases hx : x < k
   ·have e : lowN (x :: l) k = lowN l k + 1:=by simp [lowN,hx]
    simp only [e,List.getElem_cons_succ]
    exact ziY (by rw [e] at h; simpa using h)
   ·have e : lowN (x :: l) k = 0:=by simp [lowN,hx]
    simp only [e,List.getElem_cons_zero]
    exact hx
theorem zsa {l : List Int} {k : Int} {i : Nat} (hi : i ≤ l.length) (h1 : ∀ j (h : j < l.length),j < i → l[j] < k) (h2 : ∀ h : i < l.length,¬ l[i] < k) : lowN l k = i:=by
 rcases Nat.lt_trichotomy (lowN l k) i with h | h | h
 ·exact absurd (h1 _ (by omega) h) (ziY (by omega))
 ·exact h
 ·have hl:=zlg l k
  exact absurd (zmQ (by omega) h) (h2 (by omega))
theorem zrC (l : List Int) (k : Int) : (putL l k).length ≤ l.length + 1:=by
 unfold putL
 split
 ·omega
 ·simp; have:=zlg l k; omega
theorem zn8 {l : List Int} {k x : Int} : x ∈ putL l k ↔ x ∈ l ∨ x = k:=by
 unfold putL
 split
 ·rename_i h
  constructor
  ·exact .inl
  ·rintro (h1 | rfl)
   ·exact h1
   ·exact List.mem_of_getElem? h
 ·rw [List.mem_append,List.mem_cons]
  conv=>rhs; rw [← List.take_append_drop (lowN l k) l,List.mem_append]
  constructor
  ·rintro (h | rfl | h)
   ·exact .inl (.inl h)
   ·exact .inr rfl
   ·exact .inl (.inr h)
  ·rintro ((h | h) | rfl)
   ·exact .inl h
   ·exact .inr (.inr h)
   ·exact .inr (.inl rfl)
theorem zqn {l : List Int} {k : Int} (h : l.Pairwise (· < ·)) : (putL l k).Pairwise (· < ·):=by
 unfold putL
 split
 ·exact h
 ·rename_i hne
  have hd : ∀ y ∈ l.drop (lowN l k),k < y:=by
   intro y hy
   obtain ⟨i,hi,rfl⟩:=List.getElem_of_mem hy
   rw [List.length_drop] at hi
   rw [List.getElem_drop]
   have h0 : lowN l k < l.length:=by omega
   have h1:=ziY h0
   have h2 : l[lowN l k] ≠ k:=fun e=>hne (by rw [List.getElem?_eq_getElem h0,e])
   rcases Nat.eq_zero_or_pos i with rfl | hp
   ·simp only [Nat.add_zero]; omega
   ·have:=(List.pairwise_iff_getElem.1 h) (lowN l k) (lowN l k + i) h0 (by omega) (by omega)
    omega
  have ht : ∀ y ∈ l.take (lowN l k),y < k:=by
   intro y hy
   obtain ⟨i,hi,rfl⟩:=List.getElem_of_mem hy
   rw [List.length_take] at hi
   rw [List.getElem_take]
   exact zmQ (by omega) (by omega)
  rw [List.pairwise_append,List.pairwise_cons]
  refine ⟨h.sublist (List.take_sublist ..),⟨hd,h.sublist (List.drop_sublist ..)⟩,fun x hx y hy=>?_⟩
  rcases List.mem_cons.1 hy with rfl | hy
  ·exact ht x hx
  ·have:=ht x hx; have:=hd y hy; omega
theorem zeP {l : List Int} {n : Int} (h : l.Pairwise (· < ·)) (hr : ∀ k ∈ l,0 ≤ k ∧ k < n) : Rise l 0 (n - 1):=by
 intro i hi
 have:=hr _ (List.getElem_mem hi)
 refine ⟨by omega,by omega,fun hp=>?_⟩
 exact (List.pairwise_iff_getElem.1 h) (i - 1) i (by omega) hi (by omega)
theorem ztI (l : List Int) (k : Int) (hl : l.length ≤ 1000000) : zaj Tryz.prog zhg [ints l,.I k] [] (.rs 0 0 (putL l k).length) [some ⟨1,zah (putL l k),0⟩]:=by
 refine zoG.acalls (Nat.le_of_ble_eq_true rfl) (Nat.le_of_ble_eq_true rfl) (Nat.zero_le _) ?_
 show awp _ 0 _ _ ⟨45,[(0,ints l),(1,.I k)],[],16⟩
 refine rx (s:=?s1) [0,1] [] [] rfl ?o1 ?q1
 case o1=>simp; rfl
 refine rx (s:=?s2) [0,1,5] [] [] rfl ?o2 ?q2
 case o2=>simp; rfl
 refine zaI (ι:=Nat) (fun i=>⟨45,[(0,ints l),(1,.I k),(5,.I i)],[],200⟩) (fun i=>i = lowN l k) ?_ fun i hil=>?_
 ·refine zaf ?_
  refine zap (ι:=Nat) (fun i=>⟨45,[(0,ints l),(1,.I k),(5,.I i)],[],32⟩) (fun i=>i ≤ l.length ∧ ∀ j (h : j < l.length),j < i → l[j] < k) (fun i=>l.length - i) 0 (by simp) (Le.go [] [] rfl rfl (by simp) (by simp)) ?_
  rintro i ⟨hi,hp⟩
  refine zaa ?_
  refine zab ⟨45,[(0,ints l),(1,.I k),(5,.I i),(17,.B (decide (∃ h : i < l.length,l[i] < k)))],[],200⟩ rfl ?_ ?_
  ·by_cases h1 : i < l.length
   ·simp [h1]
    exact Le.snap [] rfl rfl (by simp [h1])
   ·have hno : ¬ ∃ h : i < l.length,l[i] < k:=fun ⟨h,_⟩=>h1 h
    rw [decide_eq_false hno]
    simp [h1]
    exact Le.snap [] rfl rfl (by simp)
  refine zad _ rfl (fun h2=>?_) fun h2=>?_
  ·rw [decide_eq_true_eq] at h2
   obtain ⟨h1,h2⟩:=h2
   have hw : IntKind.i64.wrap ((i : Int) + 1) = (i : Int) + 1:=w64 (by omega) (by omega)
   refine zae ?_
   refine zaf ?_
   refine zac (s:=?s5) rfl ?o5 ?q5
   case o5=>simp; rfl
   refine ⟨i + 1,⟨h1,fun j hj hji=>?_⟩,by omega,Le.go [] [] rfl rfl (by simp [hw]) (by simp)⟩
   rcases Nat.lt_succ_iff_lt_or_eq.1 hji with h | rfl
   ·exact hp j hj h
   ·exact h2
  ·rw [decide_eq_false_iff_not] at h2
   refine zao ?_
   refine hit ?_
   exact ⟨i,(zsa hi hp fun h h3=>h2 ⟨h,h3⟩).symm,Le.go [] [] rfl rfl (by simp) (by simp)⟩
 have hlo:=zlg l k
 rw [← hil] at hlo
 refine zaa ?_
 refine zab ⟨45,[(0,ints l),(1,.I k),(5,.I i),(31,.B (decide (l[i]? = some k)))],[],400⟩ rfl ?_ ?_
 ·by_cases h1 : i < l.length
  ·simp [h1]
   exact Le.snap [] rfl rfl (by simp [h1]; exact wkB (by rw [Bool.eq_iff_iff]; simp))
  ·have hno : ¬ l[i]? = some k:=by rw [List.getElem?_eq_none (by omega)]; simp
   rw [decide_eq_false hno]
   simp [h1]
   exact Le.snap [] rfl rfl (by simp)
 refine zad _ rfl (fun h2=>?_) fun h2=>?_
 ·rw [decide_eq_true_eq] at h2
  have hput : putL l k = l:=by unfold putL; rw [← hil,if_pos h2]
  rw [hput]
  refine rk (s:=?s6) [4] [408] rfl ?o6 ?q6
  case o6=>simp; refine ⟨by omega,by omega,?_⟩; rfl
  refine zag ?_
  exact ⟨.inr rfl,zan.out [408] [] rfl (by simp) (by simp) (by simp) (by simp [fcd])⟩
 rw [decide_eq_false_iff_not] at h2
 have hput : putL l k = l.take i ++ k :: l.drop i:=by unfold putL; rw [← hil,if_neg h2]
 have hpl : (putL l k).length = l.length + 1:=by rw [hput]; simp; omega
 have hpl2 : (putL l k).length = i + 1 + (l.length - i):=by omega
 refine zae ?_
 refine zaF ⟨45,[(4,.rs 480 0 (putL l k).length)],[(480,some ⟨1,zah (putL l k),0⟩)],600⟩ rfl ?_ ?_
 ·simp [hlo]
  refine ⟨by omega,by omega,by omega,by omega,by omega,by omega,rfl,Le.go [(480,480)] [] rfl rfl (by simp [hpl2]) (by simp [hput,fcd,List.take_of_length_le,hlo])⟩
 refine zag ?_
 exact ⟨.inr rfl,zan.out [480] [] rfl (by simp) (by simp) (by simp) (by simp [fcd])⟩
theorem zso (L : List Int) (a : Nat) {l : List Int} (h : 0 < l.length) : ofD L a l ∈ l:=by
 have:=zdF (L:=L) (a:=a) (n:=l.length) (by omega)
 obtain ⟨q,hq⟩ : ∃ q : Nat,(zau L a l.length).1 = q:=⟨(zau L a l.length).1.toNat,by omega⟩
 have hql : q < l.length:=by omega
 unfold ofD
 rw [hq]
 simp [hql]
theorem znZ (L : List Int) (a : Nat) (n : Int) (hl : L.length ≤ 400) (ha : a ≤ L.length) (h0 : 0 < n) (hn : n ≤ 1000000) : ∃ (x : Nat) (b : Nat),(b ≤ L.length ∧ (x : Int) < n) ∧ zaj Tryz.prog zax [.pt 0 0 0,.I n] [dice L a] (.I x) [some (dice L b)]:=by
 have:=zdF (L:=L) (a:=a) h0
 obtain ⟨q,hq⟩ : ∃ q : Nat,(zau L a n).1 = q:=⟨(zau L a n).1.toNat,by omega⟩
 exact ⟨q,_,⟨zbt ha,by omega⟩,by rw [← hq]; exact zkY L a n (by omega) ha (by omega)⟩
theorem Of_a (L : List Int) (a : Nat) (l : List Int) (hl : L.length ≤ 400) (ha : a ≤ L.length) (h0 : 0 < l.length) (hl2 : l.length ≤ 100) : ∃ (x : Int) (b : Nat),(b ≤ L.length ∧ x ∈ l) ∧ zaj Tryz.prog zcu [.pt 0 0 0,ints l] [dice L a] (.I x) [some (dice L b)] :=
 ⟨_,_,⟨zbt ha,zso L a h0⟩,zup L a l (by omega) ha h0 (by omega)⟩
theorem zt5 (L : List Int) (a : Nat) (n : Int) (hl : L.length ≤ 400) (ha : a ≤ L.length) (hn0 : 0 ≤ n) (hn : n ≤ 1000000) : ∃ (x : Bool) (b : Nat),b ≤ L.length ∧ zaj Tryz.prog zb7 [.pt 0 0 0,.I n] [dice L a] (.B x) [some (dice L b)] :=
 ⟨_,_,zbt ha,zr5 L a n (by omega) ha hn0 (by omega)⟩
section
variable {P : Program} {np id : Nat} {h : Nat → Option Ent} {K : AV → List Nat → List (Nat × Option Ent) → Prop} {f : FuncId} {first capt args args' : List AV} {res : AV}
theorem zq9 {j : Nat} {e ej : Ent} (hnp : np ≤ j) (hj : h j = some ej) (hc : zaj P f args' [] res [some e]) (he : (first ++ args ++ capt).map (conv [] [j] h 4) = args')
  (hk : K (conv (swp [] id) [] (fun _=>none) 4 res) [j] [(id,some (zaw (swp [] id) [] (fun _=>none) 4 e)),(j,some { ej with ro:=ej.rows.length })]) : aK P np id .call (.fn (.func f) first capt :: args) h K :=
 ⟨[],[j],true,args',[],res,[some e],by simp,by simp,by simpa using hnp,by rw [List.zipIdx_nil,he]; exact zbX _,rfl,hc,by simp,.inl rfl,by simpa [swp,hj] using hk⟩
end
def TabL (t : List Int) : Prop:=∀ i (h : i < t.length),1 ≤ t[i] ∧ t[i] ≤ 1000 ∧ (0 < i → t[i] ≤ t[i - 1])
theorem zpw {t : List Int} {v : Int} (h : TabL t) (h1 : 1 ≤ v) (h2 : v ≤ 1000) (h3 : ∀ x ∈ t,v ≤ x) : TabL (t ++ [v]):=by
 intro i hi
 rw [List.length_append,List.length_singleton] at hi
 by_cases hit : i < t.length
 ·rw [List.getElem_append_left hit]
  obtain ⟨a,b,c⟩:=h i hit
  refine ⟨a,b,fun hp=>?_⟩
  rw [List.getElem_append_left (by omega)]
  exact c hp
 ·obtain rfl : i = t.length:=by omega
  simp only [List.getElem_concat_length]
  refine ⟨h1,h2,fun hp=>?_⟩
  rw [List.getElem_append_left (by omega)]
  exact h3 _ (List.getElem_mem _)
set_option maxRecDepth 100000 in
set_option maxHeartbeats 4000000 in
theorem zk1 (L : List Int) (a : Nat) (g : Gr) (hl : L.length ≤ 400) (ha : a ≤ L.length) (h0 : 0 < g.size) (hn : g.size ≤ 1000) :
  ∃ x : Pol × Nat,(zbb g.size x.1 ∧ x.1.seeds.length ≤ 2 ∧ x.1.table.length ≤ 4 ∧ x.2 ≤ L.length) ∧ zaj Tryz.prog zbv [.pt 0 0 0,eG g] [dice L a] (eP x.1) [some (dice L x.2)]:=by
 refine zgV.acallsX (args:=[.pt 0 0 0,eG g]) (hs:=[dice L a]) (fun x=>eP x.1) (fun x=>[some (dice L x.2)]) (fun x : Pol × Nat=>zbb g.size x.1 ∧ x.1.seeds.length ≤ 2 ∧ x.1.table.length ≤ 4 ∧ x.2 ≤ L.length) (Nat.le_of_ble_eq_true rfl) (Nat.le_of_ble_eq_true rfl) (fun _=>by simp) ?_
 show awp _ 1 _ _ ⟨50,[(0,.pt 0 0 0),(1,eG g)],[(0,some (dice L a))],16⟩
 obtain ⟨k1,b1,⟨hb1,hk1⟩,hc1⟩:=znZ L a g.size hl ha h0 (by omega)
 obtain ⟨lv,b2,⟨hb2,hlv⟩,hc2⟩:=Of_a L b1 [1,1,2,3] hl hb1 (by simp) (by simp)
 have hlv' : 1 ≤ lv ∧ lv ≤ 3:=by simp at hlv; omega
 obtain ⟨o,b3,hb3,hc3⟩:=zt5 L b2 3 hl hb2 (by omega) (by omega)
 refine zab ⟨50,[(0,.pt 0 0 0),(3,.pv (gC g)),(4,.pt 24 0 0)],[(0,some (dice L a)),(24,some ⟨3,[[.nilS,.nilS,.I 0]],0⟩)],32⟩ rfl ?_ ?_
 ·simp
  exact Le.go [(0,0),(24,24)] [16] rfl rfl (by simp) (by simp)
 refine zab ⟨50,[(0,.pt 0 0 0),(3,.pv (gC g)),(4,.pt 24 0 0),(5,.pt 104 0 0)],[(0,some (dice L b2)),(24,some ⟨3,[[.nilS,.nilS,.I 0]],0⟩),(104,some ⟨3,[[.rs 17 0 1,.nilS,.I lv]],0⟩),(17,some ⟨1,zah [(k1 : Int)],0⟩)],120⟩ rfl ?_ ?_
 ·simp
  refine zba (i:=0) rfl (e':=dice L a) (by simp) hc1 (by simp) (by simp) ?_
  simp
  refine znH (i:=0) (j:=80) (by decide) (by decide) rfl rfl (e':=dice L b1) (by simp) hc2 (by simp) (by simp) ?_
  simp
  exact Le.go [(0,0),(24,24),(104,104),(64,17)] [] rfl rfl (by simp) (by simp)
 refine zaI (ι:=List Int × Nat) (fun s=>⟨50,[(0,.pt 0 0 0),(4,.pt 24 0 0),(5,.pt 104 0 0)],[(0,some (dice L s.2)),(24,some ⟨3,[[.nilS,.nilS,.I 0]],0⟩),(104,some ⟨3,[[.rs 17 0 s.1.length,.nilS,.I lv]],0⟩),(17,some ⟨1,zah s.1,0⟩)],300⟩)
  (fun s=>s.2 ≤ L.length ∧ s.1 ≠ [] ∧ s.1.length ≤ 2 ∧ s.1.Pairwise (· < ·) ∧ ∀ k ∈ s.1,0 ≤ k ∧ k < g.size) ?_ fun s hs=>?_
 ·refine zab ⟨50,[(0,.pt 0 0 0),(3,.pv (gC g)),(4,.pt 24 0 0),(5,.pt 104 0 0),(18,.B o)],[(0,some (dice L b3)),(24,some ⟨3,[[.nilS,.nilS,.I 0]],0⟩),(104,some ⟨3,[[.rs 17 0 1,.nilS,.I lv]],0⟩),(17,some ⟨1,zah [(k1 : Int)],0⟩)],136⟩ rfl ?_ ?_
  ·simp
   refine zba (i:=0) rfl (e':=dice L b2) (by simp) hc3 (by simp) (by simp) ?_
   simp
   exact Le.keep rfl (Nat.le_refl _) (by simp) (by simp)
  cases o with
  | true =>
    refine zad _ rfl (fun _=>?_) fun h=>by cases h
    obtain ⟨k2,b4,⟨hb4,hk2⟩,hc4⟩:=znZ L b3 g.size hl hb3 h0 (by omega)
    have hput:=ztI [(k1 : Int)] k2 (by simp)
    obtain ⟨S,hS⟩ : ∃ S,S = putL [(k1 : Int)] k2:=⟨_,rfl⟩
    rw [← hS] at hput
    refine zc0 rfl ?_
    simp
    refine zba (i:=0) rfl (e':=dice L b3) (by simp) hc4 (by simp) (by simp) ?_
    simp
    refine zq9 (j:=17) (by decide) rfl hput (by simp) ?_
    simp [fcd]
    refine ⟨rfl,S,b4,⟨hb4,?_,?_,?_,fun k hk=>?_⟩,Le.go [(0,0),(24,24),(104,104),(184,17)] [] rfl rfl (by simp) (by simp [fcd])⟩
    ·intro h
     have : (k1 : Int) ∈ S:=by rw [hS]; exact zn8.2 (.inl (by simp))
     rw [h] at this
     cases this
    ·rw [hS]; exact zrC _ _
    ·rw [hS]; exact zqn (by simp)
    ·rw [hS] at hk
     rcases zn8.1 hk with h | h
     ·simp at h; omega
     ·omega
  | false =>
    refine zad _ rfl (fun h=>by cases h) fun _=>?_
    refine zae ?_
    exact ⟨([(k1 : Int)],b3),⟨hb3,by simp,by simp,by simp,by simp; omega⟩,Le.go [(0,0),(24,24),(104,104),(17,17)] [] rfl rfl (by simp) (by simp)⟩
 obtain ⟨S,b4⟩:=s
 obtain ⟨hb4,hS1,hS2,hS3,hS4⟩:=hs
 simp only at hb4 hS1 hS2 hS3 hS4
 obtain ⟨v0,b5,⟨hb5,hv0⟩,hc5⟩:=Of_a L b4 [3,2,1,6,0] hl hb4 (by simp) (by simp)
 have hv0' : 0 ≤ v0 ∧ v0 ≤ 6:=by simp at hv0; omega
 have hwv : IntKind.i64.wrap (1 + v0) = 1 + v0:=w64 (by omega) (by omega)
 obtain ⟨n0,b6,⟨hb6,hn0⟩,hc6⟩:=znZ L b5 4 hl hb5 (by omega) (by omega)
 have hwn : IntKind.i64.wrap (1 + (n0 : Int)) = ((n0 + 1 : Nat) : Int):=by rw [w64 (by omega) (by omega)]; omega
 refine zab ⟨50,[(0,.pt 0 0 0),(4,.pt 24 0 0),(5,.pt 104 0 0),(6,.I (1 + v0))],[(0,some (dice L b5)),(24,some ⟨3,[[.nilS,.nilS,.I 0]],0⟩),(104,some ⟨3,[[.rs 17 0 S.length,.nilS,.I lv]],0⟩),(17,some ⟨1,zah S,0⟩)],400⟩ rfl ?_ ?_
 ·simp
  refine znH (i:=0) (j:=308) (by decide) (by decide) rfl rfl (e':=dice L b4) (by simp) hc5 (by simp) (by simp) ?_
  simp [hwv]
  exact Le.go [(0,0),(24,24),(104,104),(17,17)] [] rfl rfl (by simp) (by simp [fcd])
 refine zaa ?_
 refine zab ⟨50,[(0,.pt 0 0 0),(4,.pt 24 0 0),(5,.pt 104 0 0),(6,.I (1 + v0)),(7,.I (n0 + 1 : Nat))],[(0,some (dice L b6)),(24,some ⟨3,[[.nilS,.nilS,.I 0]],0⟩),(104,some ⟨3,[[.rs 17 0 S.length,.nilS,.I lv]],0⟩),(17,some ⟨1,zah S,0⟩)],432⟩ rfl ?_ ?_
 ·simp
  refine zba (i:=0) rfl (e':=dice L b5) (by simp) hc6 (by simp) (by simp) ?_
  simp [hwn]
  exact Le.go [(0,0),(24,24),(104,104),(17,17)] [] rfl rfl (by simp) (by simp [fcd])
 refine zaf ?_
 refine zap (ι:=(List Int × Int) × (Nat × Nat)) (fun s=>⟨50,[(0,.pt 0 0 0),(4,.pt 24 0 0),(5,.pt 104 0 0),(6,.I s.1.2),(7,.I s.2.1)],[(0,some (dice L s.2.2)),(24,some ⟨3,[[.nilS,.nilS,.I 0]],0⟩),(104,some ⟨3,[[.rs 17 0 S.length,.rs 18 0 s.1.1.length,.I lv]],0⟩),(17,some ⟨1,zah S,0⟩),(18,some ⟨1,zah s.1.1,0⟩)],432⟩)
  (fun s=>s.1.1.length + s.2.1 = n0 + 1 ∧ TabL s.1.1 ∧ (1 ≤ s.1.2 ∧ s.1.2 ≤ 7) ∧ (∀ x ∈ s.1.1,s.1.2 ≤ x) ∧ s.2.2 ≤ L.length) (fun s=>s.2.1) (([],1 + v0),(n0 + 1,b6)) ⟨by simp,fun i h=>by simp at h,⟨by simp only; omega,by simp only; omega⟩,by simp,hb6⟩
  (Le.lst [(0,0),(24,24),(104,104),(17,17)] [] [(18,1)] rfl (by simp) (by simp) (by simp) (by simp) (by simp) (by simp) (by simp) (by simp [Up]) (by simp [fcd]; exact ⟨zaC.rfl' (by simp),zaC.rfl' (by simp),zaC.row rfl (by omega) (by simp [UpL,Up]),zaC.rfl' (by simp)⟩)) ?_
 rintro ⟨⟨T,v⟩,n,b⟩ ⟨hTn,hT,hv,hTv,hb⟩
 simp only at hTn hT hv hTv hb
 refine zaa ?_
 refine rk (s:=?s7) [0,4,5,6,7,35] [0,24,104,17,18] rfl ?o7 ?q7
 case o7=>simp; rfl
 refine zad _ rfl (fun h8=>?_) fun h8=>?_
 ·simp at h8
  obtain ⟨m,rfl⟩ : ∃ m,n = m + 1:=⟨n - 1,by omega⟩
  have hwm : IntKind.i64.wrap (((m + 1 : Nat) : Int) - 1) = (m : Int):=by rw [w64 (by omega) (by omega)]; omega
  have hwm2 : IntKind.i64.wrap (m : Int) = (m : Int):=w64 (by omega) (by omega)
  obtain ⟨d,b',⟨hb',hd⟩,hc7⟩:=znZ L b 3 hl hb (by omega) (by omega)
  have hwd : IntKind.i64.wrap (v - (d : Int)) = v - (d : Int):=w64 (by omega) (by omega)
  have htl : ∀ f : Int → List AV,List.take T.length (List.map f T) = List.map f T:=fun f=>List.take_of_length_le (by simp)
  refine zae ?_
  refine zaa ?_
  refine zaf ?_
  refine zab ⟨50,[(0,.pt 0 0 0),(4,.pt 24 0 0),(5,.pt 104 0 0),(6,.I v),(7,.I (m + 1 : Nat))],[(0,some (dice L b)),(24,some ⟨3,[[.nilS,.nilS,.I 0]],0⟩),(104,some ⟨3,[[.rs 17 0 S.length,.rs 18 0 (T ++ [v]).length,.I lv]],0⟩),(17,some ⟨1,zah S,0⟩),(18,some ⟨1,zah (T ++ [v]),0⟩)],512⟩ rfl ?_ ?_
  ·simp [htl]
   refine ⟨by omega,by omega,?_⟩
   exact Le.go [(0,0),(24,24),(104,104),(17,17),(480,18)] [] rfl rfl (by simp) (by simp [fcd])
  refine zac (s:=?s9) rfl ?o9 ?q9
  case o9 =>
   simp
   refine zba (i:=0) rfl (e':=dice L b) (by simp) hc7 (by simp) (by simp) ?_
   simp [hwd]
   rfl
  refine zac (s:=?s10) rfl ?o10 ?q10
  case o10=>simp; rfl
  refine ⟨((T ++ [v],if 1 < v - d then v - d else 1),(m,b')),⟨by simp only [List.length_append,List.length_singleton]; omega,zpw hT hv.1 (by omega) hTv,⟨by simp only; split <;> omega,by simp only; split <;> omega⟩,fun x hx=>?_,hb'⟩,by simp only; omega,Le.go [(0,0),(24,24),(104,104),(17,17),(18,18)] [] rfl rfl (by simp [hwm2]) (by simp [fcd])⟩
  have : v ≤ x:=by
   rcases List.mem_append.1 hx with h | h
   ·exact hTv x h
   ·rw [List.mem_singleton] at h; omega
  simp only
  split <;> omega
 simp at h8
 obtain rfl : n = 0:=by omega
 refine zao ?_
 refine hit ?_
 refine rk (s:=?s11) [4] [0,24,17,18] rfl ?o11 ?q11
 case o11=>simp; rfl
 refine zag ?_
 refine zjs.mk (.inr rfl) (⟨S,T,lv⟩,b) ⟨⟨hS1,zeP hS3 hS4,by simp only; omega,by simp only; omega,hlv'.1,hlv'.2,hT⟩,hS2,by simp only; omega,hb⟩ ?_
 refine ⟨_,rfl,[],[17,18],by simp [List.range,List.range.loop],by simp,by simp,?_,?_⟩
 ·simp [List.range,List.range.loop,fcd,zal]
 ·simp [List.range,List.range.loop]
theorem zj3 : ∀ {a b : List Int},a.Pairwise (· < ·) → b.Pairwise (· < ·) → (∀ x,x ∈ a ↔ x ∈ b) → a = b
 | [],[],_,_,_=>rfl
 | [],y :: b,_,_,h=>by have:=(h y).2 (by simp); cases this
 | x :: a,[],_,_,h=>by have:=(h x).1 (by simp); cases this
 | x :: a,y :: b,ha,hb,h=>by
   have ha':=List.pairwise_cons.1 ha
   have hb':=List.pairwise_cons.1 hb
   have hxy : x = y:=by
    have h1:=(h x).1 (by simp)
    have h2:=(h y).2 (by simp)
    rcases List.mem_cons.1 h1 with e | e
    ·exact e
    ·rcases List.mem_cons.1 h2 with e2 | e2
     ·exact e2.symm
     ·have:=hb'.1 x e
      have:=ha'.1 y e2
      omega
   subst hxy
   congr 1
   refine zj3 ha'.2 hb'.2 fun z=>⟨fun hz=>?_,fun hz=>?_⟩
   ·rcases List.mem_cons.1 ((h z).1 (List.mem_cons_of_mem _ hz)) with rfl | e
    ·have:=ha'.1 z hz; omega
    ·exact e
   ·rcases List.mem_cons.1 ((h z).2 (List.mem_cons_of_mem _ hz)) with rfl | e
    ·have:=hb'.1 z hz; omega
    ·exact e
open Classical in
noncomputable def accR (g : Gr) (p : Pol) (o : List Int) : List Int:=o.foldl (fun acc k=>if zaq g p (zaG (acc ++ [k])) then acc ++ [k] else acc) []
variable {g : Gr} {p : Pol}
theorem zoe : accR g p [] = []:=rfl
open Classical in
theorem zbK {o : List Int} {k : Int} (h : zaq g p (zaG (accR g p o ++ [k]))) : accR g p (o ++ [k]) = accR g p o ++ [k]:=by
 have h2 : accR g p (o ++ [k]) = if zaq g p (zaG (accR g p o ++ [k])) then accR g p o ++ [k] else accR g p o:=by unfold accR; rw [List.foldl_append]; rfl
 rw [h2,if_pos h]
open Classical in
theorem zdQ {o : List Int} {k : Int} (h : ¬ zaq g p (zaG (accR g p o ++ [k]))) : accR g p (o ++ [k]) = accR g p o:=by
 have h2 : accR g p (o ++ [k]) = if zaq g p (zaG (accR g p o ++ [k])) then accR g p o ++ [k] else accR g p o:=by unfold accR; rw [List.foldl_append]; rfl
 rw [h2,if_neg h]
theorem zlT (o : List Int) (k : Int) : accR g p (o ++ [k]) = accR g p o ∨ accR g p (o ++ [k]) = accR g p o ++ [k]:=by
 by_cases h : zaq g p (zaG (accR g p o ++ [k]))
 ·exact .inr (zbK h)
 ·exact .inl (zdQ h)
theorem zdG : ∀ (n : Nat) (o : List Int),o.length = n → (accR g p o).Sublist o
 | 0,o,h=>by
   obtain rfl:=List.eq_nil_of_length_eq_zero h
   exact List.nil_sublist _
 | n + 1,o,h=>by
   have hne : o ≠ []:=fun e=>by rw [e] at h; cases h
   rw [← List.dropLast_concat_getLast hne]
   have ih:=zdG n o.dropLast (by rw [List.length_dropLast,h]; rfl)
   rcases zlT (g:=g) (p:=p) o.dropLast (o.getLast hne) with e | e
   ·rw [e]; exact ih.trans (List.sublist_append_left _ _)
   ·rw [e]; exact ih.append (List.Sublist.refl _)
theorem zcb {o : List Int} {x : Int} (h : x ∈ accR g p o) : x ∈ o:=(zdG _ o rfl).subset h
theorem znT (o : List Int) : (accR g p o).length ≤ o.length:=(zdG _ o rfl).length_le
open Classical in
noncomputable def zel (N : Nat) (A : List Ed) : List Int:=((List.range N).map fun k : Nat=>(k : Int)).filter fun k=>decide (∀ S : Int → Bool,S 0 = true → S 1 = false → capS S A = maxF N A → S k = true)
theorem zn2 {N : Nat} {A : List Ed} {f D : List Int} {by_ : Int → Stp} (hn : zdm N A) (hf : zaD N A f) (hm : ∀ f',zaD N A f' → valF A f' ≤ valF A f) (ht : zqU A f D by_) (h0 : (0 : Int) ∈ D) (h1 : (1 : Int) ∉ D) (hc : ze1 A f D) :
  ((List.range N).map fun k : Nat=>(k : Int)).filter (fun k=>decide (k ∈ D)) = zel N A:=by
 unfold zel
 refine List.filter_congr fun k _=>?_
 rw [decide_eq_decide]
 have hmf:=zfJ hf hm
 constructor
 ·intro hk S s0 s1 hS
  exact zkr hn hf ht s0 s1 (hS.trans hmf) k hk
 ·intro h
  have:=h (fun x=>decide (x ∈ D)) (by simpa using h0) (by simpa using h1) (by rw [hmf]; exact (zia hn hf h0 h1 hc).1.symm)
  simpa using this
open Classical in
noncomputable def refS (g : Gr) (p : Pol) (o : List Int) : List Int × List (Int × List Int) :=
 o.foldl (fun s k=>if zaq g p (zaG (s.1 ++ [k])) then (s.1 ++ [k],s.2) else (s.1,s.2 ++ [(k,zel (netN g) (netA g p (zaG (s.1 ++ [k]))))])) ([],[])
noncomputable def refR (g : Gr) (p : Pol) (o : List Int) : List (Int × List Int):=(refS g p o).2
open Classical in
theorem zjd (o : List Int) (k : Int) : refS g p (o ++ [k]) = if zaq g p (zaG ((refS g p o).1 ++ [k])) then ((refS g p o).1 ++ [k],(refS g p o).2) else ((refS g p o).1,(refS g p o).2 ++ [(k,zel (netN g) (netA g p (zaG ((refS g p o).1 ++ [k]))))]):=by
 unfold refS
 rw [List.foldl_append]
 rfl
theorem zkD : ∀ (n : Nat) (o : List Int),o.length = n → (refS g p o).1 = accR g p o
 | 0,o,h=>by
   obtain rfl:=List.eq_nil_of_length_eq_zero h
   rfl
 | n + 1,o,h=>by
   have hne : o ≠ []:=fun e=>by rw [e] at h; cases h
   rw [← List.dropLast_concat_getLast hne]
   have ih:=zkD n o.dropLast (by rw [List.length_dropLast,h]; rfl)
   rw [zjd,ih]
   split
   ·rename_i h1
    rw [zbK h1]
   ·rename_i h1
    rw [zdQ h1]
theorem zen {o : List Int} {k : Int} (h : zaq g p (zaG (accR g p o ++ [k]))) : refR g p (o ++ [k]) = refR g p o:=by
 unfold refR
 rw [zjd,zkD _ o rfl,if_pos h]
theorem zhr {o : List Int} {k : Int} (h : ¬ zaq g p (zaG (accR g p o ++ [k]))) : refR g p (o ++ [k]) = refR g p o ++ [(k,zel (netN g) (netA g p (zaG (accR g p o ++ [k]))))]:=by
 unfold refR
 rw [zjd,zkD _ o rfl,if_neg h]
structure zr7 (g : Gr) (p : Pol) (acc : List Int) (k : Int) (side : List Int) : Prop where
 no : ¬ zaq g p (zaG (acc ++ [k]))
 ok : zfa ⟨netN g,netA g p (zaG (acc ++ [k]))⟩ side
 cut : cutV (netA g p (zaG (acc ++ [k]))) side = maxF (netN g) (netA g p (zaG (acc ++ [k])))
 len : side.length ≤ 130
 eq : side = zel (netN g) (netA g p (zaG (acc ++ [k])))
structure zla (g : Gr) (p : Pol) (o : List Int) (R : List (Int × List Int)) : Prop where
 all : ∀ i (h : i < o.length),o[i] ∉ accR g p (o.take (i + 1)) → ∃ side,(o[i],side) ∈ R
 right : ∀ r ∈ R,∃ i,∃ h : i < o.length,o[i] = r.1 ∧ zr7 g p (accR g p (o.take i)) r.1 r.2
 len : R.length ≤ o.length
 eq : R = refR g p o
theorem zla.nil : zla g p [] []:=⟨fun i h=>absurd h (Nat.not_lt_zero _),(fun r h=>nomatch h),Nat.le_refl _,rfl⟩
theorem zla.yes {o : List Int} {k : Int} {R : List (Int × List Int)} (hr : zla g p o R) (h : zaq g p (zaG (accR g p o ++ [k]))) : zla g p (o ++ [k]) R:=by
 refine ⟨fun i hi hn=>?_,fun r hr'=>?_,Nat.le_trans hr.len (by simp),by rw [zen h]; exact hr.eq⟩
 ·rw [List.length_append,List.length_singleton] at hi
  by_cases hio : i < o.length
  ·rw [List.getElem_append_left hio] at hn ⊢
   rw [List.take_append_of_le_length (by omega)] at hn
   exact hr.all i hio hn
  ·obtain rfl : i = o.length:=by omega
   refine absurd ?_ hn
   rw [List.take_of_length_le (by simp),zbK h]
   simp
 ·obtain ⟨i,hi,h1,h2⟩:=hr.right r hr'
  refine ⟨i,by simp; omega,by rw [List.getElem_append_left hi]; exact h1,?_⟩
  rw [List.take_append_of_le_length (by omega)]
  exact h2
theorem zla.no {o : List Int} {k : Int} {R : List (Int × List Int)} {side : List Int} (hr : zla g p o R) (h : zr7 g p (accR g p o) k side) : zla g p (o ++ [k]) (R ++ [(k,side)]):=by
 refine ⟨fun i hi hn=>?_,fun r hr'=>?_,by have:=hr.len; simp; omega,by rw [zhr h.no,← hr.eq,← h.eq]⟩
 ·rw [List.length_append,List.length_singleton] at hi
  by_cases hio : i < o.length
  ·rw [List.getElem_append_left hio] at hn ⊢
   rw [List.take_append_of_le_length (by omega)] at hn
   obtain ⟨s,hs⟩:=hr.all i hio hn
   exact ⟨s,List.mem_append_left _ hs⟩
  ·obtain rfl : i = o.length:=by omega
   exact ⟨side,by simp⟩
 ·rcases List.mem_append.1 hr' with h3 | h3
  ·obtain ⟨i,hi,h1,h2⟩:=hr.right r h3
   refine ⟨i,by simp; omega,by rw [List.getElem_append_left hi]; exact h1,?_⟩
   rw [List.take_append_of_le_length (by omega)]
   exact h2
  ·rw [List.mem_singleton] at h3
   subst h3
   refine ⟨o.length,by simp,by simp,?_⟩
   rw [List.take_append_of_le_length (Nat.le_refl _),List.take_length]
   exact h
def inD (D : List Int) (n : Nat) : List Int:=((List.range n).map fun k : Nat=>(k : Int)).filter fun k=>decide (k ∈ D)
theorem zrD (D : List Int) (n : Nat) : inD D (n + 1) = inD D n ++ if (n : Int) ∈ D then [(n : Int)] else []:=by
 unfold inD
 rw [List.range_succ,List.map_append,List.filter_append]
 simp only [List.map_cons,List.map_nil,List.filter_cons,List.filter_nil]
 split <;> simp_all
theorem zpD {D : List Int} {n : Nat} {x : Int} : x ∈ inD D n ↔ (0 ≤ x ∧ x < n) ∧ x ∈ D:=by
 unfold inD
 rw [List.mem_filter,List.mem_map]
 constructor
 ·rintro ⟨⟨k,hk,rfl⟩,h⟩
  have:=List.mem_range.1 hk
  exact ⟨by omega,by simpa using h⟩
 ·rintro ⟨h,h2⟩
  exact ⟨⟨x.toNat,List.mem_range.2 (by omega),by omega⟩,by simpa using h2⟩
theorem zrw (D : List Int) (n : Nat) : (inD D n).Pairwise (· < ·):=by
 unfold inD
 refine List.Pairwise.filter _ ?_
 rw [List.pairwise_map]
 exact List.pairwise_lt_range.imp fun h=>by omega
theorem zsd (D : List Int) (n : Nat) : (inD D n).length ≤ n:=by
 unfold inD
 refine Nat.le_trans (List.length_filter_le ..) (by simp)
theorem zan.k2n {rs : List (Nat × Option (Bool × Nat))} {st : St} {vs : List AV} {res : AV} {e0 e1 e : Ent} (i : Nat) (hi : 2 ≤ i) (h1 : zeA st rs = some vs) (hw : Wk (conv [(0,0),(1,1),(i,2)] [] st.hp 4 (resV vs)) res)
  (h0 : (st.hp 0).map (zaw [(0,0),(1,1),(i,2)] [] st.hp 4) = some e0) (h2 : (st.hp 1).map (zaw [(0,0),(1,1),(i,2)] [] st.hp 4) = some e1) (he : (st.hp i).map (zaw [(0,0),(1,1),(i,2)] [] st.hp 4) = some e) : zan rs 2 st res [some e0,some e1,some e]:=by
 have e2 : List.range 2 ++ [i] = [0,1,i]:=rfl
 refine ⟨vs,h1,[i],[],?_,by simpa using hi,by simp,?_,?_⟩
 ·rw [e2]
  simp
  omega
 ·rw [e2]
  exact hw
 ·rw [e2]
  show [_,_,_] = _
  have h0' : Option.map (zaw (([0,1,i] : List Nat).zipIdx) [] st.hp 4) (st.hp 0) = some e0:=h0
  have h2' : Option.map (zaw (([0,1,i] : List Nat).zipIdx) [] st.hp 4) (st.hp 1) = some e1:=h2
  have he' : Option.map (zaw (([0,1,i] : List Nat).zipIdx) [] st.hp 4) (st.hp i) = some e:=he
  simp only [List.map_cons,List.map_nil,h0',h2',he']
theorem zan.k2 {rs : List (Nat × Option (Bool × Nat))} {st : St} {vs : List AV} {res : AV} {e0 e1 : Ent} (h1 : zeA st rs = some vs) (hw : Wk (conv [(0,0),(1,1)] [] st.hp 4 (resV vs)) res)
  (h0 : (st.hp 0).map (zaw [(0,0),(1,1)] [] st.hp 4) = some e0) (h2 : (st.hp 1).map (zaw [(0,0),(1,1)] [] st.hp 4) = some e1) : zan rs 2 st res [some e0,some e1] :=
 ⟨vs,h1,[],[],by decide,by simp,by simp,hw,by
  show [_,_] = _
  have h0' : Option.map (zaw ((List.range 2 ++ [] : List Nat).zipIdx) [] st.hp 4) (st.hp 0) = some e0:=h0
  have h2' : Option.map (zaw ((List.range 2 ++ [] : List Nat).zipIdx) [] st.hp 4) (st.hp 1) = some e1:=h2
  simp only [h0',h2']⟩
set_option maxRecDepth 100000 in
theorem zkB {N : Nat} {D b : List Int} {R : List (List AV)} (hR : MapF R (camF D b)) (k : Int) : zaj Tryz.prog zaH [.I k,.pt 0 0 0] [⟨1,[[.mp 1]],0⟩,⟨0,R,0⟩] (.B (decide (k ∈ D))) [some ⟨1,[[.mp 1]],0⟩,some ⟨0,R,0⟩]:=by
 refine zhI.acalls (Nat.le_of_ble_eq_true rfl) (Nat.le_of_ble_eq_true rfl) (Nat.le_refl _) ?_
 show awp _ 2 _ _ ⟨13,[(0,.I k),(1,.pt 0 0 0)],[(0,some ⟨1,[[.mp 1]],0⟩),(1,some ⟨0,R,0⟩)],16⟩
 have hfind:=hR.is.find
 have hsome:=zfM D b k
 have hgd : ∃ u v,(camF D b k).getD (toAV (Value.agg #[Value.int IntKind.i64 0,Value.bool false])) = .agg [.sc u,.sc v]:=by
  cases hc : camF D b k with
  | none=>exact ⟨_,_,zn1⟩
  | some x =>
    obtain ⟨u,v,rfl⟩:=ze7 _ _ _ _ hc
    exact ⟨u,v,rfl⟩
 obtain ⟨u,v,huv⟩:=hgd
 refine rk (s:=?s1) [0,1] [0,1] rfl ?o1 ?q1
 case o1=>simp; rfl
 refine zab ⟨13,[(5,.B (decide (k ∈ D)))],[(0,some ⟨1,[[.mp 1]],0⟩),(1,some ⟨0,R,0⟩)],200⟩ rfl ?_ ?_
 ·simp [hfind,hsome,huv]
  exact Le.go [(0,0),(1,1)] [] rfl rfl (by simp) (by simp [hR.conv'])
 refine zab ⟨13,[(3,.B (decide (k ∈ D)))],[(0,some ⟨1,[[.mp 1]],0⟩),(1,some ⟨0,R,0⟩)],300⟩ rfl ?_ ?_
 ·simp
  exact Le.go [(0,0),(1,1)] [] rfl rfl (by simp) (by simp [hR.conv'])
 refine zag ?_
 exact ⟨.inr rfl,zan.k2 rfl (by simp) (by simp) (by simp [hR.conv'])⟩
set_option maxRecDepth 100000 in
set_option maxHeartbeats 1000000 in
theorem zqs {D b : List Int} {R : List (List AV)} (hR : MapF R (camF D b)) (N : Nat) (hN : N ≤ 1000000) :
  zaj Tryz.prog zbT [.I N,.fn (.func zaH) [] [.pt 0 0 0]] [⟨1,[[.mp 1]],0⟩,⟨0,R,0⟩] (.rs 2 0 (inD D N).length) [some ⟨1,[[.mp 1]],0⟩,some ⟨0,R,0⟩,some ⟨1,zah (inD D N),0⟩]:=by
 refine zhC.acalls (Nat.le_of_ble_eq_true rfl) (Nat.le_of_ble_eq_true rfl) (by simp) ?_
 show awp _ 2 _ _ ⟨20,[(0,.I N),(1,.fn (.func zaH) [] [.pt 0 0 0])],[(0,some ⟨1,[[.mp 1]],0⟩),(1,some ⟨0,R,0⟩)],16⟩
 refine zab ⟨20,[(0,.I N),(1,.fn (.func zaH) [] [.pt 0 0 0])],[(0,some ⟨1,[[.mp 1]],0⟩),(1,some ⟨0,R,0⟩)],24⟩ rfl ?_ ?_
 ·simp
  exact Le.go [(0,0),(1,1)] [] rfl rfl (by simp) (by simp [hR.conv'])
 refine zab ⟨20,[(0,.I N),(1,.fn (.func zaH) [] [.pt 0 0 0]),(5,.rs 50 0 0)],[(0,some ⟨1,[[.mp 1]],0⟩),(1,some ⟨0,R,0⟩),(50,some ⟨1,[],0⟩)],100⟩ rfl ?_ ?_
 ·simp
  refine Le.lst [(0,0),(1,1)] [] [(50,1)] rfl (by simp) (by simp) (by simp) (by simp) (by simp) (by simp) (by simp) (by simp [Up,conv]) ?_
  simp [hR.conv']
  exact ⟨zaC.rfl' (Nat.zero_le _),zaC.rfl' (Nat.zero_le _)⟩
 refine zaa ?_
 refine zab ⟨20,[(1,.fn (.func zaH) [] [.pt 0 0 0]),(5,.rs 50 0 0),(7,.I N),(8,.I 0)],[(0,some ⟨1,[[.mp 1]],0⟩),(1,some ⟨0,R,0⟩),(50,some ⟨1,[],0⟩)],200⟩ rfl ?_ ?_
 ·simp
  exact Le.go [(0,0),(1,1),(50,50)] [] rfl rfl (by simp [conv]) (by simp [hR.conv'])
 refine zaf ?_
 refine zap (ι:=Nat) (fun k=>⟨20,[(1,.fn (.func zaH) [] [.pt 0 0 0]),(5,.rs 50 0 (inD D k).length),(7,.I N),(8,.I k)],[(0,some ⟨1,[[.mp 1]],0⟩),(1,some ⟨0,R,0⟩),(50,some ⟨1,zah (inD D k),0⟩)],200⟩) (fun k=>k ≤ N) (fun k=>N - k) 0 (Nat.zero_le _) (Le.go [(0,0),(1,1),(50,50)] [] rfl rfl (by simp [conv,inD]) (by simp [hR.conv',inD])) ?_
 intro k hk
 have hwl:=zsd D k
 refine zab ⟨20,[(1,.fn (.func zaH) [] [.pt 0 0 0]),(5,.rs 50 0 (inD D k).length),(7,.I N),(8,.I k),(9,.B (decide (k < N)))],[(0,some ⟨1,[[.mp 1]],0⟩),(1,some ⟨0,R,0⟩),(50,some ⟨1,zah (inD D k),0⟩)],300⟩ rfl ?_ ?_
 ·simp
  exact Le.go [(0,0),(1,1),(50,50)] [] rfl rfl (by simp [conv]) (by simp [hR.conv',fcd])
 refine zaa ?_
 refine zad _ rfl (fun h=>?_) fun h=>?_
 ·simp at h
  have hw2 : IntKind.i64.wrap ((k : Int) + 1) = (k : Int) + 1:=w64 (by omega) (by omega)
  have hnext:=zrD D k
  refine zae ?_
  refine zaI (ι:=Unit) (fun _=>⟨20,[(1,.fn (.func zaH) [] [.pt 0 0 0]),(5,.rs 50 0 (inD D (k + 1)).length),(7,.I N),(8,.I k)],[(0,some ⟨1,[[.mp 1]],0⟩),(1,some ⟨0,R,0⟩),(50,some ⟨1,zah (inD D (k + 1)),0⟩)],1000⟩) (fun _=>True) ?_ fun _ _=>?_
  ·rw [hnext]
   obtain ⟨W,hW⟩ : ∃ W,W = inD D k:=⟨_,rfl⟩
   rw [← hW] at hwl ⊢
   refine zaf ?_
   refine zab ⟨20,[(1,.fn (.func zaH) [] [.pt 0 0 0]),(5,.rs 50 0 W.length),(6,.I k),(7,.I N),(8,.I k)],[(0,some ⟨1,[[.mp 1]],0⟩),(1,some ⟨0,R,0⟩),(50,some ⟨1,zah W,0⟩)],400⟩ rfl ?_ ?_
   ·simp
    exact Le.go [(0,0),(1,1),(50,50)] [] rfl rfl (by simp [conv]) (by simp [hR.conv',fcd])
   refine zab ⟨20,[(1,.fn (.func zaH) [] [.pt 0 0 0]),(5,.rs 50 0 W.length),(6,.I k),(7,.I N),(8,.I k),(13,.B (decide ((k : Int) ∈ D)))],[(0,some ⟨1,[[.mp 1]],0⟩),(1,some ⟨0,R,0⟩),(50,some ⟨1,zah W,0⟩)],500⟩ rfl ?_ ?_
   ·simp
    refine zj2 (i:=0) (j:=1) (by decide) rfl rfl (by simp) (by simp [hR.conv']) (zkB (N:=N) hR k) (by simp) (by simp) ?_
    simp [hR.conv']
    exact Le.go [(0,0),(1,1),(50,50)] [] rfl rfl (by simp [conv]) (by simp [hR.conv',fcd])
   refine zad _ rfl (fun h5=>?_) fun h5=>?_
   ·rw [decide_eq_true_eq] at h5
    rw [if_pos h5]
    have hmw : ∀ g : Int → List AV,List.take W.length (List.map g W) = List.map g W:=fun g=>List.take_of_length_le (by simp)
    refine zar rfl ?_
    simp [hmw]
    exact ⟨by omega,by omega,Le.go [(0,0),(1,1),(524,50)] [] rfl rfl (by simp [conv]) (by simp [hR.conv',fcd])⟩
   ·rw [decide_eq_false_iff_not] at h5
    rw [if_neg h5,List.append_nil]
    refine zae ?_
    exact ⟨(),trivial,Le.go [(0,0),(1,1),(50,50)] [] rfl rfl (by simp [conv]) (by simp [hR.conv',fcd])⟩
  refine zar rfl ?_
  simp [hw2]
  exact ⟨k + 1,by omega,by omega,Le.go [(0,0),(1,1),(50,50)] [] rfl rfl (by simp [conv,hw2]) (by simp [hR.conv',fcd])⟩
 simp at h
 obtain rfl : k = N:=by omega
 refine zao ?_
 refine hit ?_
 refine zab ⟨20,[(4,.rs 50 0 (inD D k).length)],[(0,some ⟨1,[[.mp 1]],0⟩),(1,some ⟨0,R,0⟩),(50,some ⟨1,zah (inD D k),0⟩)],400⟩ rfl ?_ ?_
 ·simp
  exact Le.go [(0,0),(1,1),(50,50)] [] rfl rfl (by simp) (by simp [hR.conv',fcd])
 refine zag ?_
 exact ⟨.inr rfl,zan.k2n 50 (by omega) rfl (by simp) (by simp) (by simp [hR.conv']) (by simp [fcd])⟩
theorem WayA.last {A : List Ed} : ∀ {l : List Nat} {u w : Int},WayA A u l w → (u :: metA A l)[l.length]? = some w
 | [],u,w,h=>by
   have : u = w:=h
   simp [metA,this]
 | i :: l,u,w,h=>by
   have:=WayA.last h.2.2
   simpa [metA] using this
structure BalF (N : Nat) (A : List Ed) (f : List Int) : Prop where
 len : f.length = A.length
 nonneg : ∀ i,0 ≤ f.getD i 0
 bal : ∀ x : Int,2 ≤ x → x < N → exF A f x = 0
variable {N : Nat} {A : List Ed} {f g : List Int}
theorem zaD.balF (h : zaD N A f) : BalF N A f:=by
 have hf:=zdE.1 h.fit
 refine ⟨hf.1,fun i=>?_,fun x h2 h3=>?_⟩
 ·by_cases hi : i < A.length
  ·exact (hf.2 i hi).1
  ·rw [List.getD_eq_getElem?_getD,List.getElem?_eq_none (by rw [hf.1]; omega)]
   exact Int.le_refl _
 ·have:=h.bal x.toNat (by omega) (by omega)
  rw [Int.toNat_of_nonneg (by omega)] at this
  unfold exF
  omega
theorem zi8.balF (hf : BalF N A f) {l : List Nat} (h : zi8 A f g l 1) : BalF N A g ∧ exF A g 0 = exF A f 0 - 1:=by
 refine ⟨⟨h.len,h.nonneg,fun x h2 h3=>?_⟩,?_⟩
 ·rw [h.ex x,hf.bal x h2 h3,if_neg (by omega),if_neg (by omega)]
  rfl
 ·rw [h.ex 0,if_pos rfl,if_neg (by decide)]
  omega
structure zkc (N : Nat) (A : List Ed) (f g : List Int) (W : List (List Nat)) : Prop where
 bal : BalF N A g
 ex : exF A g 0 = exF A f 0 - W.length
 ways : ∀ w ∈ W,WayA A 0 w 1 ∧ (metA A w).Nodup
 used : ∀ i,g.getD i 0 + (sumN (List.count i) W : Int) ≤ f.getD i 0
theorem zkc.nil (hf : BalF N A f) : zkc N A f f []:=⟨hf,by simp,by simp,fun i=>by simp [sumN]⟩
theorem zkc.more {g' : List Int} {W : List (List Nat)} {l : List Nat} (h : zkc N A f g W) (hl : zi8 A g g' l 1) : zkc N A f g' (W ++ [l]):=by
 obtain ⟨b1,b2⟩:=hl.balF h.bal
 refine ⟨b1,by rw [b2,h.ex,List.length_append,List.length_singleton]; omega,fun w hw=>?_,fun i=>?_⟩
 ·rcases List.mem_append.1 hw with hw | hw
  ·exact h.ways w hw
  ·rw [List.mem_singleton] at hw
   subst hw
   exact ⟨hl.way,(List.nodup_cons.1 hl.met).2⟩
 ·have h1:=h.used i
  have h2:=hl.used i
  have h3 : sumN (List.count i) (W ++ [l]) = sumN (List.count i) W + l.count i:=by unfold sumN; simp
  rw [h3]
  omega
theorem zgi (S : Int → Bool) : ∀ A : List Ed,capS S A = (A.map fun e=>if S e.f = true ∧ S e.t = false then e.v else 0).sum
 | []=>rfl
 | e :: A=>by
   have ih:=zgi S A
   unfold capS at ih ⊢
   simp only [List.map_cons,sumF,List.sum_cons]
   rw [ih]
theorem zh2 {α : Type} {h : α → Int} : ∀ {l : List α},(∀ x ∈ l,h x = 0) → (l.map h).sum = 0
 | [],_=>rfl
 | x :: l,hx=>by
   rw [List.map_cons,List.sum_cons,hx x (List.mem_cons_self ..),zh2 fun y hy=>hx y (List.mem_cons_of_mem _ hy)]
   rfl
theorem zpT {α : Type} {h : α → Int} : ∀ {l : List α},(∀ x ∈ l,h x ≤ 1) → (l.map h).sum ≤ l.length
 | [],_=>Int.le_refl _
 | x :: l,hx=>by
   have ih:=zpT (l:=l) fun y hy=>hx y (List.mem_cons_of_mem _ hy)
   have h1:=hx x (List.mem_cons_self ..)
   rw [List.map_cons,List.sum_cons,List.length_cons]
   omega
theorem zgl {g : Gr} {p : Pol} {ks : List Int} (hg : GrOk g) (hp : zbb g.size p) (hk : ∀ x ∈ ks,0 ≤ x ∧ x < g.size) : maxF (netN g) (netA g p ks) ≤ ks.length:=by
 have hno:=zgO hg hp hk
 obtain ⟨f,hf,hv⟩:=zob hno
 rw [← hv]
 refine Int.le_trans (zd2 (S:=fun x=>decide (x ≠ 1)) hno hf (by simp) (by simp)) ?_
 rw [zgi]
 simp only [netA,za1,List.map_append,List.sum_append,List.map_map]
 have hle:=zhi hg p.lv
 rw [zh2,zh2,zh2 (l:=(zai g p.lv).edges.filter _)]
 ·have h1:=zpT (h:=(fun e : Ed=>if (decide (e.f ≠ 1)) = true ∧ (decide (e.t ≠ 1)) = false then e.v else 0) ∘ fun x : Int=>(⟨2 + 2 * x,1,1⟩ : Ed)) (l:=ks.filter fun x=>decide (0 < (zat g p).getD x.toNat 0)) fun x _=>by
   simp only [Function.comp]
   split <;> omega
  have h2:=List.length_filter_le (fun x=>decide (0 < (zat g p).getD x.toNat 0)) ks
  omega
 ·intro e he
  have:=hle.2 e (List.mem_filter.1 he).1
  simp only [Function.comp]
  rw [if_neg]
  simp
  omega
 ·intro i _
  simp only [Function.comp]
  rw [if_neg]
  simp
  omega
 ·intro x _
  simp only [Function.comp]
  rw [if_neg]
  simp
  omega
theorem zsr {N : Nat} {A : List Ed} {f : List Int} (hn : zdm N A) : exF A f 0 = valF A f:=by
 unfold exF valF
 rw [ziD hn]
 omega
def surG (A : List Ed) (f : List Int) (i : Nat) (x : Int) : Int:=- netG A f i x
variable {N : Nat} {A : List Ed} {f : List Int}
theorem zrc (hl : f.length = A.length) (x : Int) : surG A f A.length x = exF A f x:=by
 unfold surG
 rw [zrP hl]
 omega
set_option maxRecDepth 100000 in
set_option maxHeartbeats 4000000 in
theorem zjZ (hn : zby ⟨N,A⟩) (hfl : f.length = A.length) (hfb : ∀ j (h : j < f.length),0 ≤ f[j] ∧ f[j] ≤ 1048576) : zaj Tryz.prog zc9 [eN ⟨N,A⟩,ints f] [] (.rs 0 0 N) [some ⟨1,zah (rowR N (exF A f)),0⟩]:=by
 refine zkZ.acalls (Nat.le_of_ble_eq_true rfl) (Nat.le_of_ble_eq_true rfl) (Nat.zero_le _) ?_
 show awp _ 0 _ _ ⟨43,[(0,eN ⟨N,A⟩),(1,ints f)],[],16⟩
 obtain ⟨hn0,hn1,hal,hav⟩:=hn
 simp only at hn0 hn1 hal hav
 have hbd:=zki hfl hfb
 refine rx (s:=?s1) [1,2] [] [16] rfl ?o1 ?q1
 case o1=>simp; rfl
 refine zab ⟨43,[(1,ints f),(2,.pv (nC ⟨N,A⟩)),(5,.rs 48 0 N)],[(48,some ⟨1,zah (rowR N (surG A f 0)),0⟩)],64⟩ rfl ?_ ?_
 ·simp
  refine ⟨by omega,by omega,?_⟩
  have : rowR N (surG A f 0) = List.replicate N 0:=by
   unfold rowR surG
   simp only [zl3]
   simp [List.map_const']
  rw [this]
  exact Le.go [(48,48)] [] rfl rfl (by simp) (by simp)
 refine zaa ?_
 refine zab ⟨43,[(1,ints f),(5,.rs 48 0 N),(12,eEs A),(13,.I A.length),(14,.I 0)],[(48,some ⟨1,zah (rowR N (surG A f 0)),0⟩)],96⟩ rfl ?_ ?_
 ·simp
  exact Le.go [(48,48)] [] rfl rfl (by simp) (by simp [fcd])
 refine zaf ?_
 refine zap (ι:=Nat) (fun i=>⟨43,[(1,ints f),(5,.rs 48 0 N),(12,eEs A),(13,.I A.length),(14,.I i)],[(48,some ⟨1,zah (rowR N (surG A f i)),0⟩)],96⟩) (fun i=>i ≤ A.length) (fun i=>A.length - i) 0 (Nat.zero_le _) (Le.go [(48,48)] [] rfl rfl (by simp) (by simp [fcd])) ?_
 intro i hi
 refine zab ⟨43,[(1,ints f),(5,.rs 48 0 N),(12,eEs A),(13,.I A.length),(14,.I i),(15,.B (decide (i < A.length)))],[(48,some ⟨1,zah (rowR N (surG A f i)),0⟩)],104⟩ rfl ?_ ?_
 ·simp
  exact Le.go [(48,48)] [] rfl rfl (by simp) (by simp [fcd])
 refine zaa ?_
 refine zad _ rfl (fun h5=>?_) fun h5=>?_
 ·simp at h5
  have h8 : i < f.length:=by omega
  have hw1 : IntKind.i64.wrap ((i : Int) + 1) = (i : Int) + 1:=w64 (by omega) (by omega)
  obtain ⟨b1,b3⟩:=hfb i h8
  have heo:=hav _ (List.getElem_mem h5)
  have hsucc:=zmH h5 h8
  have hbe:=fun x=>hbd x i (by omega)
  obtain ⟨e,he⟩ : ∃ e,e = A[i]:=⟨_,rfl⟩
  obtain ⟨w,hw⟩ : ∃ w,w = f[i]:=⟨_,rfl⟩
  rw [← he,← hw] at hsucc
  rw [← hw] at b1 b3
  rw [← he] at heo
  obtain ⟨e1,e2,e3,e4,e5,_⟩:=heo
  have hg1 : A[i]? = some e:=by rw [List.getElem?_eq_getElem h5,he]
  have hg2 : f[i]? = some w:=by rw [List.getElem?_eq_getElem h8,hw]
  have h2N : e.f < (N : Int) ∧ e.t < (N : Int):=by omega
  have h1:=hbe e.f
  have h2:=hbe e.t
  have hwx : IntKind.i64.wrap (surG A f i e.f + w) = surG A f i e.f + w:=w64 (by unfold surG; omega) (by unfold surG; omega)
  have hwy : IntKind.i64.wrap (surG A f i e.t - w) = surG A f i e.t - w:=w64 (by unfold surG; omega) (by unfold surG; omega)
  have hr1:=zgw (N:=N) (g:=surG A f i) (x:=e.f) e1 (by omega)
  have hs1:=zoa (N:=N) (g:=surG A f i) (x:=e.f) (v:=surG A f i e.f + w) e1 (by omega)
  obtain ⟨g1,hg1d⟩ : ∃ g1 : Int → Int,g1 = fun y=>if y = e.f then surG A f i e.f + w else surG A f i y:=⟨_,rfl⟩
  rw [← hg1d] at hs1
  have hg1t : g1 e.t = surG A f i e.t:=by rw [hg1d]; exact if_neg fun h=>e5 h.symm
  have hr2:=zgw (N:=N) (g:=g1) (x:=e.t) e3 (by omega)
  rw [hg1t] at hr2
  have hs2:=zoa (N:=N) (g:=g1) (x:=e.t) (v:=surG A f i e.t - w) e3 (by omega)
  have hend : (rowR N fun y=>if y = e.t then surG A f i e.t - w else g1 y) = rowR N (surG A f (i + 1)):=zkh fun x=>by
   unfold surG at hg1d ⊢
   rw [hsucc,hg1d]
   simp only
   by_cases h3 : x = e.t
   ·rw [h3,if_pos rfl,if_pos rfl,if_neg e5]
    omega
   ·by_cases h4 : x = e.f
    ·rw [if_neg h3,if_pos h4,if_neg fun h=>h3 h.symm,if_pos h4.symm,h4]
     omega
    ·rw [if_neg h3,if_neg h4,if_neg fun h=>h3 h.symm,if_neg fun h=>h4 h.symm]
     omega
  rw [hend] at hs2
  refine zae ?_
  refine zaa ?_
  refine zaf ?_
  refine zab ⟨43,[(1,ints f),(5,.rs 48 0 N),(6,.I i),(7,.pv (eC e)),(12,eEs A),(13,.I A.length),(14,.I i)],[(48,some ⟨1,zah (rowR N (surG A f i)),0⟩)],152⟩ rfl ?_ ?_
  ·simp [h5,← he]
   exact Le.go [(48,48)] [128] rfl rfl (by simp) (by simp [fcd])
  refine zaF ⟨43,[(1,ints f),(5,.rs 48 0 N),(6,.I i),(7,.pv (eC e)),(12,eEs A),(13,.I A.length),(14,.I i)],[(48,some ⟨1,zah (rowR N g1),0⟩)],400⟩ rfl ?_ ?_
  ·simp [hg2,h8,← hw,hr1,e1,h2N,hwx,zaZ]
   exact ⟨rfl,Le.go [(48,48)] [] rfl rfl (by simp) (by simp [fcd,← hs1])⟩
  refine zc0 rfl ?_
  simp [hg2,h8,← hw,hr2,e3,h2N,hwy,zaZ]
  refine ⟨rfl,?_⟩
  refine zar rfl ?_
  simp
  exact ⟨i + 1,by omega,by omega,Le.go [(48,48)] [] rfl rfl (by simp [hw1]) (by simp [fcd,← hs2])⟩
 simp at h5
 obtain rfl : i = A.length:=by omega
 refine zao ?_
 refine hit ?_
 have hfin : rowR N (surG A f A.length) = rowR N (exF A f):=zkh fun x=>zrc hfl x
 rw [hfin]
 refine zab ⟨43,[(4,.rs 48 0 N)],[(48,some ⟨1,zah (rowR N (exF A f)),0⟩)],200⟩ rfl ?_ ?_
 ·simp
  exact Le.go [(48,48)] [] rfl rfl (by simp) (by simp [fcd])
 refine zag ?_
 exact ⟨.inr rfl,zan.out [48] [] rfl (by simp) (by simp) (by simp) (by simp [fcd])⟩
def zpQ (A : List Ed) (f : List Int) (i : Nat) : Prop:=0 ≤ f.getD i 0 ∧ f.getD i 0 ≤ (arcD A i).v
theorem zfo : zaD N A f ↔ f.length = A.length ∧ (∀ i,i < A.length → zpQ A f i) ∧ ∀ x : Nat,2 ≤ x → x < N → exF A f x = 0:=by
 constructor
 ·intro h
  have h1:=zdE.1 h.fit
  exact ⟨h1.1,h1.2,fun x h2 h3=>by have:=h.bal x h2 h3; unfold exF; omega⟩
 ·rintro ⟨h1,h2,h3⟩
  exact ⟨zdE.2 ⟨h1,h2⟩,fun x h4 h5=>by have:=h3 x h4 h5; unfold exF at this; omega⟩
theorem zsv (g : Int → Int) (N : Nat) : ((rowR N g).drop 2).any (fun x=>!decide (x = 0)) = true ↔ ¬ ∀ x : Nat,2 ≤ x → x < N → g x = 0:=by
 rw [List.any_eq_true]
 constructor
 ·rintro ⟨y,hy,h⟩ hall
  obtain ⟨j,hj,rfl⟩:=List.mem_iff_getElem.1 hy
  rw [List.length_drop,zeg] at hj
  have:=hall (2 + j) (by omega) (by omega)
  simp [rowR] at h
  exact h (by simpa using this)
 ·intro h
  obtain ⟨x,hx⟩:=Classical.not_forall.1 h
  obtain ⟨h1,hx⟩:=Classical.not_imp.1 hx
  obtain ⟨h2,hx⟩:=Classical.not_imp.1 hx
  refine ⟨g x,List.mem_iff_getElem.2 ⟨x - 2,by rw [List.length_drop,zeg]; omega,?_⟩,by simpa using hx⟩
  simp [rowR,show 2 + (x - 2) = x by omega]
theorem zhY (x : Int) : zaj Tryz.prog zcU [.I x] [] (.B (!decide (x = 0))) []:=by
 refine zjG.acalls (Nat.le_of_ble_eq_true rfl) (Nat.le_of_ble_eq_true rfl) (Nat.le_refl _) ?_
 show awp _ 0 _ _ ⟨5,[(0,.I x)],[],16⟩
 refine rx (s:=?s1) [0] [] [] rfl ?o1 ?q1
 case o1=>simp; rfl
 refine zab ⟨5,[(2,.B (!decide (x = 0)))],[],100⟩ rfl ?_ ?_
 ·simp
  exact Le.go [] [] rfl rfl (by simp <;> exact wkB (by rw [Bool.eq_iff_iff]; simp)) (by simp)
 refine zag ?_
 exact ⟨.inr rfl,zan.one (by simp)⟩
set_option maxRecDepth 100000 in
set_option maxHeartbeats 4000000 in
open Classical in
theorem zgF (hn : zby ⟨N,A⟩) (hl : f.length ≤ 1099511627776) : zaj Tryz.prog zd7 [eN ⟨N,A⟩,ints f] [] (.B (decide (zaD N A f))) []:=by
 refine znd.acalls (Nat.le_of_ble_eq_true rfl) (Nat.le_of_ble_eq_true rfl) (Nat.le_refl _) ?_
 show awp _ 0 _ _ ⟨41,[(0,eN ⟨N,A⟩),(1,ints f)],[],16⟩
 have hchk:=zd8 ⟨N,A⟩ (by have:=hn.2.2.1; simp only at this ⊢; omega)
 rw [if_pos hn] at hchk
 have hn':=hn
 obtain ⟨hn0,hn1,hal,hav⟩:=hn
 simp only at hn0 hn1 hal hav
 refine rx (s:=?s1) [1,2] [] [16] rfl ?o1 ?q1
 case o1=>simp; rfl
 refine zaa ?_
 refine zab ⟨41,[(1,ints f),(2,.pv (nC ⟨N,A⟩)),(17,.B (!decide (f.length = A.length)))],[],120⟩ rfl ?_ ?_
 ·simp
  refine zam hchk (by simp) ?_
  simp
  exact Le.go [] [] rfl rfl (by simp <;> exact wkB (by rw [Bool.eq_iff_iff]; simp <;> omega)) (by simp)
 refine zad _ rfl (fun h3=>?_) fun h3=>?_
 ·simp at h3
  refine rx (s:=?s4) [4] [] [] rfl ?o4 ?q4
  case o4=>simp; rfl
  refine zag ?_
  have hno : ¬ zaD N A f:=fun h=>h3 (zfo.1 h).1
  exact ⟨.inr rfl,zan.one (by simp [hno])⟩
 simp at h3
 refine zae ?_
 refine zaa ?_
 refine rx (s:=?s5) [1,2,19,20,21] [] [] rfl ?o5 ?q5
 case o5=>simp; rfl
 refine zaf ?_
 refine zap (ι:=Nat) (fun i=>⟨41,[(1,ints f),(2,.pv (nC ⟨N,A⟩)),(19,eEs A),(20,.I A.length),(21,.I i)],[],152⟩) (fun i=>i ≤ A.length ∧ ∀ k,k < i → zpQ A f k) (fun i=>A.length - i) 0 (by simp) (Le.go [] [] rfl rfl (by simp) (by simp)) ?_
 rintro i ⟨hi,hp⟩
 refine rx (s:=?s6) [1,2,19,20,21,22] [] [] rfl ?o6 ?q6
 case o6=>simp; rfl
 refine zaa ?_
 refine zad _ rfl (fun h7=>?_) fun h7=>?_
 ·simp at h7
  have hw1 : IntKind.i64.wrap ((i : Int) + 1) = (i : Int) + 1:=w64 (by omega) (by omega)
  have hif : i < f.length:=by omega
  obtain ⟨e,he⟩ : ∃ e,e = A[i]:=⟨_,rfl⟩
  obtain ⟨w,hw⟩ : ∃ w,w = f[i]:=⟨_,rfl⟩
  have hfa : zpQ A f i ↔ 0 ≤ w ∧ w ≤ e.v:=by
   unfold zpQ arcD
   rw [List.getD_eq_getElem?_getD,List.getElem?_eq_getElem hif,Option.getD_some,List.getD_eq_getElem?_getD,List.getElem?_eq_getElem h7,Option.getD_some,he,hw]
  refine zae ?_
  refine zaa ?_
  refine zaf ?_
  refine zab ⟨41,[(1,ints f),(2,.pv (nC ⟨N,A⟩)),(5,.I i),(6,.pv (eC e)),(19,eEs A),(20,.I A.length),(21,.I i)],[],300⟩ rfl ?_ ?_
  ·simp [h7,← he]
   exact Le.go [] [184] rfl rfl (by simp) (by simp)
  refine zaF ⟨41,[(1,ints f),(2,.pv (nC ⟨N,A⟩)),(19,eEs A),(20,.I A.length),(21,.I i),(33,.B (!decide (0 ≤ w ∧ w ≤ e.v)))],[],400⟩ rfl ?_ ?_
  ·simp [hif,← hw]
   refine zam (zbq w 0 e.v) (by simp) ?_
   simp
   exact ⟨rfl,Le.go [] [] rfl rfl (by simp <;> exact wkB (by rw [Bool.eq_iff_iff]; simp)) (by simp)⟩
  refine zad _ rfl (fun h10=>?_) fun h10=>?_
  ·have h10' : ¬ (0 ≤ w ∧ w ≤ e.v):=by simp at h10; omega
   refine rx (s:=?s11) [4] [] [] rfl ?o11 ?q11
   case o11=>simp; rfl
   refine zag ?_
   have hno : ¬ zaD N A f:=fun h=>h10' (hfa.1 ((zfo.1 h).2.1 i h7))
   exact ⟨.inr rfl,zan.one (by simp [hno])⟩
  have h10' : 0 ≤ w ∧ w ≤ e.v:=by simpa using h10
  refine zae ?_
  refine zar rfl ?_
  simp
  refine ⟨i + 1,⟨by omega,fun k hk=>?_⟩,by omega,Le.go [] [] rfl rfl (by simp [hw1]) (by simp)⟩
  rcases Nat.lt_succ_iff_lt_or_eq.1 hk with h | h
  ·exact hp k h
  ·rw [h]; exact hfa.2 h10'
 simp at h7
 obtain rfl : i = A.length:=by omega
 have hfb : ∀ j (h : j < f.length),0 ≤ f[j] ∧ f[j] ≤ 1048576:=fun j hj=>by
  have h1:=hp j (by omega)
  unfold zpQ at h1
  have e1 : f.getD j 0 = f[j]:=by rw [List.getD_eq_getElem?_getD,List.getElem?_eq_getElem hj,Option.getD_some]
  have e2 : arcD A j = A[j]'(by omega):=by unfold arcD; rw [List.getD_eq_getElem?_getD,List.getElem?_eq_getElem (by omega),Option.getD_some]
  rw [e1,e2] at h1
  have h2:=(hav _ (List.getElem_mem (show j < A.length by omega))).2.2.2.2.2.2.2.2
  omega
 refine zao ?_
 refine hit ?_
 have hsur:=zjZ hn' h3 hfb
 have hcf:=zeE zcU [] (fun x=>!decide (x = 0)) ((rowR N (exF A f)).drop 2) (by rw [List.length_drop,zeg]; omega) (fun ρ sn h k=>by simp) (fun e _=>zhY e)
 have hiff : zaD N A f ↔ ((rowR N (exF A f)).drop 2).any (fun x=>!decide (x = 0)) = false:=by
  rw [← Bool.not_eq_true,zsv,Classical.not_not,zfo]
  exact ⟨fun h=>h.2.2,fun h=>⟨h3,hp,h⟩⟩
 obtain ⟨l,hld⟩ : ∃ l,l = rowR N (exF A f):=⟨_,rfl⟩
 have hll : l.length = N:=by rw [hld,zeg]
 rw [← hld] at hsur hcf hiff
 obtain ⟨b,hb⟩ : ∃ b,b = (l.drop 2).any (fun x=>!decide (x = 0)):=⟨_,rfl⟩
 rw [← hb] at hcf hiff
 refine zab ⟨41,[(4,.B (!b))],[],300⟩ rfl ?_ ?_
 ·simp
  refine za3 hsur (by simp) ?_
  simp
  refine ztH 2 (i:=176) rfl rfl (by omega) ?_
  simp
  have h2N : 2 + (N - 2) ≤ N:=by omega
  refine zhE [176] hcf (by simp [fcd,hll,h2N]; exact List.take_of_length_le (by simp; omega)) (.sc _) ?_
  simp
  exact Le.go [] [] rfl rfl (by simp) (by simp)
 refine zag ?_
 exact ⟨.inr rfl,zan.one (by simp [hiff])⟩
set_option maxRecDepth 100000 in
open Classical in
theorem zgp (hn : zby ⟨N,A⟩) (hl : f.length ≤ 1099511627776) : zaj Tryz.prog zep [eN ⟨N,A⟩,ints f] [] (.I (if zaD N A f then valF A f else 0)) []:=by
 refine znA.acalls (Nat.le_of_ble_eq_true rfl) (Nat.le_of_ble_eq_true rfl) (Nat.le_refl _) ?_
 show awp _ 0 _ _ ⟨14,[(0,eN ⟨N,A⟩),(1,ints f)],[],16⟩
 have hvl:=zgF hn hl
 refine rx (s:=?s1) [1,2] [] [16] rfl ?o1 ?q1
 case o1=>simp; rfl
 refine zaa ?_
 refine rx (s:=?s2) [1,2,8] [] [] rfl ?o2 ?q2
 case o2=>simp; refine zam hvl (by simp) ?_; simp; rfl
 refine zad _ rfl (fun h3=>?_) fun h3=>?_
 ·simp at h3
  refine rx (s:=?s4) [4] [] [] rfl ?o4 ?q4
  case o4=>simp; rfl
  refine zag ?_
  exact ⟨.inr rfl,zan.one (by simp [h3])⟩
 simp at h3
 have h31:=zdE.1 h3.fit
 have hav:=hn.2.2.2
 simp only at hav
 have hfb : ∀ j (h : j < f.length),0 ≤ f[j] ∧ f[j] ≤ 1048576:=fun j hj=>by
  have h1:=h31.2 j (by omega)
  have e1 : f.getD j 0 = f[j]:=by rw [List.getD_eq_getElem?_getD,List.getElem?_eq_getElem hj,Option.getD_some]
  have e2 : arcD A j = A[j]'(by omega):=by unfold arcD; rw [List.getD_eq_getElem?_getD,List.getElem?_eq_getElem (by omega),Option.getD_some]
  rw [e1,e2] at h1
  have h2:=(hav _ (List.getElem_mem (show j < A.length by omega))).2.2.2.2.2.2.2.2
  omega
 have hsur:=zjZ hn h31.1 hfb
 have hv:=zsr (f:=f) (zfk hn)
 have hn0:=hn.1
 simp only at hn0
 have hr:=zgw (N:=N) (g:=exF A f) (x:=0) (Int.le_refl _) (by omega)
 rw [hv] at hr
 obtain ⟨l,hld⟩ : ∃ l,l = rowR N (exF A f):=⟨_,rfl⟩
 rw [← hld] at hsur hr
 simp only [Int.toNat_zero] at hr
 refine zae ?_
 refine zab ⟨14,[(4,.I (valF A f))],[],300⟩ rfl ?_ ?_
 ·simp
  refine za3 hsur (by simp) ?_
  have h0N : 0 < (N : Int):=by omega
  simp [hr,h0N]
  exact ⟨by omega,Le.go [] [] rfl rfl (by simp) (by simp)⟩
 refine zag ?_
 exact ⟨.inr rfl,zan.one (by simp [h3])⟩
end Go.Proofs.YteiabadhhhckfaaGreat
