/- Texts of this claim,merged. -/
import Derived.Test.YthmaflecfppoiaaGreatRp12
import Derived.Test.YthmaflecfppoiaaGreatRp11
import Derived.Test.YthmaflecfppoiaaGreatRp10
import Derived.Test.YthmaflecfppoiaaGreatRp9
set_option linter.unusedSimpArgs false
set_option linter.unusedVariables false
set_option linter.unusedSectionVars false
namespace Go.Proofs.YthmaflecfppoiaaGreat
open Go
section
variable {P : Program} {np id : Nat} {h : Nat → Option Ent} {K : AV → List Nat → List (Nat × Option Ent) → Prop} {f : FuncId} {first capt args args' : List AV} {res : AV}
theorem zml {i j : Nat} {e1 e2 e1' e2' : Ent} {hs' : List (Option Ent)} (hij : i ≠ j) (h1 : h i = some e1) (h2 : h j = some e2) (he1 : zax [(i,0),(j,1)] [] h 4 e1 = e1') (he2 : zax [(i,0),(j,1)] [] h 4 e2 = e2')
  (hc : zai P f args' [e1',e2'] res hs') (h8 : hs'.length ≤ 10) (he : (first ++ args ++ capt).map (conv [(i,0),(j,1)] [] h 4) = args')
  (hk : K (conv (swp [i,j] id) [] (fun _=>none) 4 res) [i,j] (hs'.zipIdx.map fun (e,k)=>((i :: j :: (List.range 8).map (id + ·)).getD k 0,e.map (zax (swp [i,j] id) [] (fun _=>none) 4)))) : aK P np id .call (.fn (.func f) first capt :: args) h K :=
 ⟨[i,j],[],true,args',[e1',e2'],res,hs',by simp [hij],by simp,by simp,by rw [show [i,j].zipIdx = [(i,0),(j,1)] from rfl,he]; exact zbM _,by
  rw [show [i,j].zipIdx = [(i,0),(j,1)] from rfl]
  simp only [List.map_cons,List.map_nil,h1,h2,Option.map_some,he1,he2],hc,by simpa using h8,.inl rfl,by simpa [swp] using hk⟩
end
theorem zb2 (k : Int) (h : 0 ≤ k) (h2 : k ≤ 1000000) : zai Tryz.prog zbQ [.I k] [] (.I (2 + 2 * k)) []:=by
 refine zpk.acalls (nbz rfl) (nbz rfl) (Nat.le_refl _) ?_
 show awp _ 0 _ _ ⟨6,[(0,.I k)],[],16⟩
 have hw1 : IntKind.i64.wrap (2 * k) = 2 * k:=w64 (by omega) (by omega)
 have hw2 : IntKind.i64.wrap (2 + 2 * k) = 2 + 2 * k:=w64 (by omega) (by omega)
 refine rx (s:=?s1) [0] [] [] rfl ?o1 ?q1
 case o1=>simp; rfl
 refine rx (s:=?s2) [2] [] [] rfl ?o2 ?q2
 case o2=>simp [hw1,hw2]; rfl
 refine zag ?_
 exact ⟨.inr rfl,zak.one (by simp)⟩
theorem zhP (k : Int) (h : 0 ≤ k) (h2 : k ≤ 1000000) : zai Tryz.prog zfE [.I k] [] (.I (3 + 2 * k)) []:=by
 refine zqx.acalls (nbz rfl) (nbz rfl) (Nat.le_refl _) ?_
 show awp _ 0 _ _ ⟨_,[(0,.I k)],[],16⟩
 have hw2 : IntKind.i64.wrap (2 + 2 * k + 1) = 3 + 2 * k:=by rw [w64 (by omega) (by omega)]; omega
 refine rx (s:=?s1) [0] [] [] rfl ?o1 ?q1
 case o1=>simp; rfl
 refine rx (s:=?s2) [2] [] [] rfl ?o2 ?q2
 case o2=>simp; refine zaj (zb2 k h h2) (by simp) ?_; simp [hw2]; rfl
 refine zag ?_
 exact ⟨.inr rfl,zak.one (by simp)⟩
theorem zdE (k : Int) (h : 0 ≤ k) (h2 : k ≤ 1000000) : zai Tryz.prog zcG [.I k] [] (.I (2 + 2 * k)) []:=by
 refine zph.acalls (nbz rfl) (nbz rfl) (Nat.le_refl _) ?_
 show awp _ 0 _ _ ⟨_,[(0,.I k)],[],16⟩
 have hw1 : IntKind.i64.wrap (2 * k) = 2 * k:=w64 (by omega) (by omega)
 have hw2 : IntKind.i64.wrap (2 + 2 * k) = 2 + 2 * k:=w64 (by omega) (by omega)
 refine rx (s:=?s1) [0] [] [] rfl ?o1 ?q1
 case o1=>simp; rfl
 refine rx (s:=?s2) [2] [] [] rfl ?o2 ?q2
 case o2=>simp [hw1,hw2]; rfl
 refine zag ?_
 exact ⟨.inr rfl,zak.one (by simp)⟩
theorem zh1 (k : Int) (h : 0 ≤ k) (h2 : k ≤ 1000000) : zai Tryz.prog zfr [.I k] [] (.I (3 + 2 * k)) []:=by
 refine zpO.acalls (nbz rfl) (nbz rfl) (Nat.le_refl _) ?_
 show awp _ 0 _ _ ⟨_,[(0,.I k)],[],16⟩
 have hw1 : IntKind.i64.wrap (2 * k) = 2 * k:=w64 (by omega) (by omega)
 have hw2 : IntKind.i64.wrap (3 + 2 * k) = 3 + 2 * k:=w64 (by omega) (by omega)
 refine rx (s:=?s1) [0] [] [] rfl ?o1 ?q1
 case o1=>simp; rfl
 refine rx (s:=?s2) [2] [] [] rfl ?o2 ?q2
 case o2=>simp [hw1,hw2]; rfl
 refine zag ?_
 exact ⟨.inr rfl,zak.one (by simp)⟩
abbrev outV (N : Int) (B n : Nat) : Ent:=⟨2,[[.I N,.rs B 0 n]],0⟩
theorem zri (N f t v : Int) (L : List Ed) (n : Nat) (hL : L.length = n) (hn : n ≤ 1000000) : zai Tryz.prog zaJ [.I f,.I t,.I v,.pt 0 0 0] [outV N 1 n,⟨3,za8 L,0⟩] (.tup []) [some (outV N 2 (n + 1)),none,some ⟨3,za8 (L ++ [⟨f,t,v⟩]),0⟩]:=by
 refine ziZ.acalls (nbz rfl) (nbz rfl) (nbz rfl) ?_
 show awp _ 2 _ _ ⟨16,[(0,.I f),(1,.I t),(2,.I v),(3,.pt 0 0 0)],[(0,some (outV N 1 n)),(1,some ⟨3,za8 L,0⟩)],16⟩
 have htl : ∀ f : Ed → List AV,List.take n (List.map f L) = List.map f L:=fun f=>List.take_of_length_le (by simp [hL])
 refine zad (s:=?s1) rfl ?o1 ?q1
 case o1=>simp [hL,htl]; refine ⟨by omega,by omega,?_⟩; rfl
 refine ⟨.inl rfl,⟨[],rfl,[72],[],by simp [List.range,List.range.loop],by simp,by simp,by simp,?_⟩⟩
 simp [List.range,List.range.loop]
def arc1 (c : List Int) (x : Int) : List Ed:=if 0 < c.getD x.toNat 0 then [⟨0,2 + 2 * x,c.getD x.toNat 0⟩] else []
def arc2 (c : List Int) (i : Nat) : List Ed:=if 0 < c.getD i 0 then [⟨2 + 2 * (i : Int),3 + 2 * (i : Int),c.getD i 0 - 1⟩] else []
def arc3 (c : List Int) (x : Int) : List Ed:=if 0 < c.getD x.toNat 0 then [⟨2 + 2 * x,1,1⟩] else []
def arc4 (c : List Int) (e : Ed) : List Ed:=if 0 < c.getD e.f.toNat 0 then [⟨3 + 2 * e.f,2 + 2 * e.t,64⟩] else []
theorem zcY {α : Type} (q : α → Bool) (f : α → Ed) (l : List α) : (l.filter q).map f = l.flatMap fun x=>if q x = true then [f x] else []:=by
 induction l with
 | nil=>rfl
 | cons x l ih=>by_cases h : q x = true <;> simp [h,ih]
theorem zgk (g : Gr) (p : Pol) (c sinks : List Int) : zba g p c sinks = p.seeds.flatMap (arc1 c) ++ (List.range c.length).flatMap (arc2 c) ++ sinks.flatMap (arc3 c) ++ (zam g p.lv).edges.flatMap (arc4 c):=by
 unfold zba
 rw [zcY,zcY,zcY,zcY]
 simp only [decide_eq_true_eq]
 rfl
theorem zdM {α : Type} (f : α → List Ed) (l : List α) (i : Nat) (h : i < l.length) : (l.take (i + 1)).flatMap f = (l.take i).flatMap f ++ f l[i]:=by
 rw [List.take_succ_eq_append_getElem h,List.flatMap_append]
 simp
theorem zce {α : Type} (f : α → List Ed) (hf : ∀ x,(f x).length ≤ 1) (l : List α) : (l.flatMap f).length ≤ l.length:=by
 induction l with
 | nil=>simp
 | cons x l ih=>rw [List.flatMap_cons,List.length_append,List.length_cons]; have:=hf x; omega
theorem zis (c : List Int) (x : Int) : (arc1 c x).length ≤ 1:=by unfold arc1; split <;> simp
theorem zim (c : List Int) (x : Nat) : (arc2 c x).length ≤ 1:=by unfold arc2; split <;> simp
theorem zii (c : List Int) (x : Int) : (arc3 c x).length ≤ 1:=by unfold arc3; split <;> simp
theorem zik (c : List Int) (x : Ed) : (arc4 c x).length ≤ 1:=by unfold arc4; split <;> simp
theorem zbB {α : Type} (f : α → List Ed) (hf : ∀ x,(f x).length ≤ 1) (l : List α) (i : Nat) : ((l.take i).flatMap f).length ≤ l.length:=Nat.le_trans (zce f hf _) (List.length_take_le' i l)
set_option maxRecDepth 100000 in
set_option maxHeartbeats 4000000 in
theorem zjO (g : Gr) (p : Pol) (sinks : List Int) (hg : GrOk g) (hp : zaY g.size p) (hr : Rise sinks 0 (g.size - 1)) (hs : p.seeds.length ≤ 64) (hsl : sinks.length ≤ 64) :
  zai Tryz.prog zeV [eG g,eP p,ints sinks] [] (.tup [eN ⟨2 + 2 * g.size,zba g p (zaO g p) sinks⟩,.I 0]) []:=by
 refine zlT.acalls (nbz rfl) (nbz rfl) (Nat.le_refl _) ?_
 show awp _ 0 _ _ ⟨123,[(0,eG g),(1,eP p),(2,ints sinks)],[],16⟩
 have hsz:=hg.1.1
 have hsz2:=hg.1.2.1
 have hel:=hg.edges_le
 have hgl:=hg.gone_le
 have hchk:=zck g p (by omega) (by omega) (by omega) (by have:=hp.2.2.2.1; omega)
 rw [if_pos hg,if_pos hp] at hchk
 have hcap:=zk8 g p hg (by omega)
 have hcb:=zla (g:=g) hp
 have hcl : (zaO g p).length = g.size.toNat:=zb1
 rw [← hcl] at hcap
 have hlev:=zdx g p.lv (by omega) (by omega)
 rw [zgk]
 obtain ⟨C,hC⟩ : ∃ C,C = zaO g p:=⟨_,rfl⟩
 rw [← hC] at hcap hcl hcb ⊢
 have hGe : ∀ e ∈ (zam g p.lv).edges,e ∈ g.edges:=fun e he=>(List.mem_filter.1 he).1
 have hGl : (zam g p.lv).edges.length ≤ 500:=Nat.le_trans (List.length_filter_le ..) hel
 obtain ⟨G,hG⟩ : ∃ G,G = zam g p.lv:=⟨_,rfl⟩
 rw [← hG] at hlev hGe hGl ⊢
 have hw1 : IntKind.i64.wrap (g.size - 1) = g.size - 1:=w64 (by omega) (by omega)
 have hfit : ∀ e ∈ G.edges,(0 ≤ e.f ∧ e.f < g.size) ∧ (0 ≤ e.t ∧ e.t < g.size):=fun e he=>by
  have:=hg.fits e (hGe e he)
  unfold Fits at this
  omega
 have hkey : ∀ k : Int,0 ≤ k → k < g.size → ∃ j : Nat,k = j ∧ j < C.length ∧ j < 64:=fun k h0 h1=>⟨k.toNat,by omega,by omega,by omega⟩
 have hseed : ∀ k ∈ p.seeds,∃ j : Nat,k = j ∧ j < C.length ∧ j < 64:=fun k hk=>by
  obtain ⟨i,hi,rfl⟩:=List.getElem_of_mem hk
  have:=hp.2.1 i hi
  exact hkey _ (by omega) (by omega)
 have hsink : ∀ k ∈ sinks,∃ j : Nat,k = j ∧ j < C.length ∧ j < 64:=fun k hk=>by
  obtain ⟨i,hi,rfl⟩:=List.getElem_of_mem hk
  have:=hr i hi
  exact hkey _ (by omega) (by omega)
 refine zaa ⟨123,[(2,ints sinks),(3,.pv (gC g)),(4,.pv (pC p)),(6,.pt 32 0 0)],[(32,some ⟨2,[[.I 0,.nilS]],0⟩)],48⟩ rfl ?_ ?_
 ·simp
  exact LeH [(32,32)] [16,24]
 refine zab ?_
 refine rk (s:=?s2) [2,3,4,6,8] [32] rfl ?o2 ?q2
 case o2=>simp; refine zaj hchk (by simp) ?_; simp; rfl
 refine rk (s:=?s3) [2,3,4,6,24] [32] rfl ?o3 ?q3
 case o3=>simp; rfl
 refine zac _ rfl (fun h4=>?_) fun h4=>zae ?_
 ·simp at h4
 refine zab ?_
 refine rk (s:=?s5) [2,3,4,6,32] [32] rfl ?o5 ?q5
 case o5=>simp [hw1]; refine zaj (zeh sinks 0 (g.size - 1) (by omega)) (by simp) ?_; simp [hr]; rfl
 refine zac _ rfl (fun h6=>?_) fun h6=>zae ?_
 ·simp at h6
 refine rk (s:=?s7) [2,3,4,6,9] [32,176] rfl ?o7 ?q7
 case o7=>simp; refine zaj (zb2 g.size hsz (by omega)) (by simp) ?_; simp; rfl
 obtain ⟨N,hN⟩ : ∃ N : Int,N = 2 + 2 * g.size:=⟨_,rfl⟩
 simp only [← hN]
 refine rk (s:=?s8) [2,3,4,6,9,10] [32,176] rfl ?o8 ?q8
 case o8=>simp; rfl
 refine zaa ⟨123,[(2,ints sinks),(3,.pv (gC g)),(4,.pv (pC p)),(6,.pt 32 0 0),(9,.pt 176 0 0),(10,.fn (.func zaJ) [] [.pt 176 0 0]),(11,ints C)],[(32,some ⟨2,[[.I 0,.nilS]],0⟩),(176,some ⟨2,[[.I N,.nilS]],0⟩)],240⟩ rfl ?_ ?_
 ·simp
  refine za0 hcap (by simp) ?_
  simp [fcd]
  exact Le.go [(32,32),(176,176)] [224] rfl rfl (by simp [fcd,zal]) (by simp)
 have hb1 : (p.seeds.flatMap (arc1 C)).length ≤ 64:=Nat.le_trans (zce _ (zis C) _) hs
 have hb2 : ((List.range C.length).flatMap (arc2 C)).length ≤ 64:=Nat.le_trans (zce _ (zim C) _) (by rw [List.length_range]; omega)
 have hb3 : (sinks.flatMap (arc3 C)).length ≤ 64:=Nat.le_trans (zce _ (zii C) _) hsl
 have hb4 : (G.edges.flatMap (arc4 C)).length ≤ 500:=Nat.le_trans (zce _ (zik C) _) hGl
 obtain ⟨X1,hX1⟩ : ∃ X,X = p.seeds.flatMap (arc1 C):=⟨_,rfl⟩
 obtain ⟨X2,hX2⟩ : ∃ X,X = (List.range C.length).flatMap (arc2 C):=⟨_,rfl⟩
 obtain ⟨X3,hX3⟩ : ∃ X,X = sinks.flatMap (arc3 C):=⟨_,rfl⟩
 obtain ⟨X4,hX4⟩ : ∃ X,X = G.edges.flatMap (arc4 C):=⟨_,rfl⟩
 obtain ⟨Z2,hZ2⟩ : ∃ Z,Z = X1 ++ X2:=⟨_,rfl⟩
 obtain ⟨Z3,hZ3⟩ : ∃ Z,Z = Z2 ++ X3:=⟨_,rfl⟩
 obtain ⟨Z4,hZ4⟩ : ∃ Z,Z = Z3 ++ X4:=⟨_,rfl⟩
 rw [← hX1] at hb1
 rw [← hX2] at hb2
 rw [← hX3] at hb3
 rw [← hX4] at hb4
 rw [← hX1,← hX2,← hX3,← hX4,← hZ2,← hZ3,← hZ4]
 have hz2 : Z2.length ≤ 128:=by rw [hZ2,List.length_append]; omega
 have hz3 : Z3.length ≤ 192:=by rw [hZ3,List.length_append]; omega
 refine zab ?_
 refine rk (s:=?sa1) [2,3,4,6,9,10,11,43,44,45] [32,176] rfl ?oa1 ?qa1
 case oa1=>simp; rfl
 refine zaf ?_
 obtain ⟨Fa,Fa0,Fas,Fal,FaN⟩ : ∃ F : Nat → List Ed,F 0 = [] ∧ (∀ i (h : i < (p.seeds).length),F (i + 1) = F i ++ arc1 C (p.seeds)[i]) ∧ (∀ i,(F i).length ≤ 64) ∧ F (p.seeds).length = (p.seeds).flatMap (arc1 C) :=
  ⟨fun i=>((p.seeds).take i).flatMap (arc1 C),by simp,fun i h=>by simp only [zdM _ _ i h,List.append_assoc],fun i=>by have:=zbB _ (zis C) (p.seeds) i; exact Nat.le_trans this hs,by simp⟩
 rw [← hX1] at FaN
 refine zao (ι:=Nat) (fun i=>⟨123,[(2,ints sinks),(3,.pv (gC g)),(4,.pv (pC p)),(6,.pt 32 0 0),(9,.pt 176 0 0),(10,.fn (.func zaJ) [] [.pt 176 0 0]),(11,ints C),(43,ints p.seeds),(44,.I p.seeds.length),(45,.I i)],[(32,some ⟨2,[[.I 0,.nilS]],0⟩),(176,some (outV N 16 (Fa i).length)),(16,some ⟨3,za8 (Fa i),0⟩)],272⟩) (fun i=>i ≤ p.seeds.length) (fun i=>p.seeds.length - i) 0 (Nat.zero_le _) (Le.lst [(32,32),(176,176)] [] [(16,3)] rfl (by simp) (by simp) (by simp) (by simp) (by simp) (by simp) (by simp) (by simp [Up]) (by simp [Fa0]; refine ⟨zaI.rfl' (by simp),zaI.row rfl (by omega) (by simp [UpL,Up])⟩)) ?_
 intro i hi
 refine rk (s:=?sa2) [2,3,4,6,9,10,11,43,44,45,46] [32,176,16] rfl ?oa2 ?qa2
 case oa2=>simp; rfl
 refine zab ?_
 refine zac _ rfl (fun h7=>?_) fun h7=>?_
 ·simp at h7
  have hw : IntKind.i64.wrap ((i : Int) + 1) = (i : Int) + 1:=w64 (by omega) (by omega)
  have hFi:=Fal i
  obtain ⟨k,hk,hkC,hk64⟩:=hseed _ (List.getElem_mem h7)
  have hFn : Fa (i + 1) = Fa i ++ if 0 < C[k] then [⟨0,2 + 2 * (k : Int),C[k]⟩] else []:=by
   rw [Fas i h7,hk]
   unfold arc1
   simp [hkC]
  refine zae ?_
  refine zaL (ι:=Unit) (fun _=>⟨123,[(2,ints sinks),(3,.pv (gC g)),(4,.pv (pC p)),(6,.pt 32 0 0),(9,.pt 176 0 0),(10,.fn (.func zaJ) [] [.pt 176 0 0]),(11,ints C),(43,ints p.seeds),(44,.I p.seeds.length),(45,.I i)],[(32,some ⟨2,[[.I 0,.nilS]],0⟩),(176,some (outV N 16 (Fa (i + 1)).length)),(16,some ⟨3,za8 (Fa (i + 1)),0⟩)],700⟩) (fun _=>True) ?_ fun _ _=>?_
  ·refine zaf ?_
   refine rk (s:=?sa3) [2,3,4,6,9,10,11,13,43,44,45] [32,176,16] rfl ?oa3 ?qa3
   case oa3=>simp [h7,hk]; rfl
   refine rk (s:=?sa4) [2,3,4,6,9,10,11,13,43,44,45,53] [32,176,16] rfl ?oa4 ?qa4
   case oa4=>simp [hkC]; rfl
   refine zac _ rfl (fun h8=>?_) fun h8=>?_
   ·simp at h8
    rw [if_pos h8] at hFn
    refine zbF rfl ?_
    simp [hkC]
    refine zaj (zb2 k (by omega) (by omega)) (by simp) ?_
    simp [hkC]
    refine zml (i:=176) (j:=16) (by decide) rfl rfl (e1':=outV N 1 (Fa i).length) (e2':=⟨3,za8 (Fa i),0⟩) (by simp) (by simp [fcd]) (zri N 0 (2 + 2 * (k : Int)) C[k] (Fa i) _ rfl (by omega)) (by simp) (by simp) ?_
    simp [fcd]
    exact ⟨rfl,Le.go [(32,32),(176,176),(400,16)] [] rfl rfl (by simp [hFn]) (by simp [hFn,fcd])⟩
   ·simp at h8
    rw [if_neg (by omega)] at hFn
    refine zae ?_
    exact ⟨(),trivial,Le.go [(32,32),(176,176),(16,16)] [] rfl rfl (by simp [hFn]) (by simp [hFn,fcd])⟩
  refine zad (s:=?sa9) rfl ?oa9 ?qa9
  case oa9=>simp; rfl
  exact ⟨i + 1,by omega,by omega,Le.go [(32,32),(176,176),(16,16)] [] rfl rfl (by simp [hw]) (by simp [fcd])⟩
 simp at h7
 obtain rfl : i = p.seeds.length:=by omega
 rw [FaN]
 refine zan ?_
 refine hit ?_
 refine zab ?_
 refine rk (s:=?sb1) [2,3,4,6,9,10,11,63,64,65] [32,176,16] rfl ?ob1 ?qb1
 case ob1=>simp; rfl
 refine zaf ?_
 obtain ⟨Fb,Fb0,Fbs,Fbl,FbN⟩ : ∃ F : Nat → List Ed,F 0 = X1 ∧ (∀ i (h : i < (List.range C.length).length),F (i + 1) = F i ++ arc2 C (List.range C.length)[i]) ∧ (∀ i,(F i).length ≤ 200) ∧ F (List.range C.length).length = X1 ++ (List.range C.length).flatMap (arc2 C) :=
  ⟨fun i=>X1 ++ ((List.range C.length).take i).flatMap (arc2 C),by simp,fun i h=>by simp only [zdM _ _ i h,List.append_assoc],fun i=>by have:=zbB _ (zim C) (List.range C.length) i; rw [List.length_range] at this; rw [List.length_append]; omega,by simp⟩
 rw [List.length_range,← hX2,← hZ2] at FbN
 refine zao (ι:=Nat) (fun i=>⟨123,[(2,ints sinks),(3,.pv (gC g)),(4,.pv (pC p)),(6,.pt 32 0 0),(9,.pt 176 0 0),(10,.fn (.func zaJ) [] [.pt 176 0 0]),(11,ints C),(63,ints C),(64,.I C.length),(65,.I i)],[(32,some ⟨2,[[.I 0,.nilS]],0⟩),(176,some (outV N 16 (Fb i).length)),(16,some ⟨3,za8 (Fb i),0⟩)],304⟩) (fun i=>i ≤ C.length) (fun i=>C.length - i) 0 (Nat.zero_le _) (Le.go [(32,32),(176,176),(16,16)] [] rfl rfl (by simp [Fb0]) (by simp [Fb0,fcd])) ?_
 intro i hi
 refine rk (s:=?sb2) [2,3,4,6,9,10,11,63,64,65,66] [32,176,16] rfl ?ob2 ?qb2
 case ob2=>simp; rfl
 refine zab ?_
 refine zac _ rfl (fun h7=>?_) fun h7=>?_
 ·simp at h7
  have hw : IntKind.i64.wrap ((i : Int) + 1) = (i : Int) + 1:=w64 (by omega) (by omega)
  have hFi:=Fbl i
  have hkC:=h7
  have hFn : Fb (i + 1) = Fb i ++ if 0 < C[i] then [⟨2 + 2 * (i : Int),3 + 2 * (i : Int),C[i] - 1⟩] else []:=by
   rw [Fbs i (by simpa using h7)]
   unfold arc2
   simp [hkC]
  have hci:=hcb _ (List.getElem_mem h7)
  have hwc : IntKind.i64.wrap (C[i] - 1) = C[i] - 1:=w64 (by omega) (by omega)
  refine zae ?_
  refine zaL (ι:=Unit) (fun _=>⟨123,[(2,ints sinks),(3,.pv (gC g)),(4,.pv (pC p)),(6,.pt 32 0 0),(9,.pt 176 0 0),(10,.fn (.func zaJ) [] [.pt 176 0 0]),(11,ints C),(63,ints C),(64,.I C.length),(65,.I i)],[(32,some ⟨2,[[.I 0,.nilS]],0⟩),(176,some (outV N 16 (Fb (i + 1)).length)),(16,some ⟨3,za8 (Fb (i + 1)),0⟩)],700⟩) (fun _=>True) ?_ fun _ _=>?_
  ·refine zaf ?_
   refine rk (s:=?sb3) [2,3,4,6,9,10,11,14,15,63,64,65] [32,176,16] rfl ?ob3 ?qb3
   case ob3=>simp [h7]; rfl
   refine rk (s:=?sb4) [2,3,4,6,9,10,11,14,15,63,64,65,71] [32,176,16] rfl ?ob4 ?qb4
   case ob4=>simp [hkC]; rfl
   refine zac _ rfl (fun h8=>?_) fun h8=>?_
   ·simp at h8
    rw [if_pos h8] at hFn
    refine zas rfl ?_
    simp [hkC]
    refine zaj (zb2 i (by omega) (by omega)) (by simp) ?_
    simp [hkC,hwc]
    refine zaj (zhP i (by omega) (by omega)) (by simp) ?_
    simp [hkC,hwc]
    refine zml (i:=176) (j:=16) (by decide) rfl rfl (e1':=outV N 1 (Fb i).length) (e2':=⟨3,za8 (Fb i),0⟩) (by simp) (by simp [fcd]) (zri N (2 + 2 * (i : Int)) (3 + 2 * (i : Int)) (C[i] - 1) (Fb i) _ rfl (by omega)) (by simp) (by simp) ?_
    simp [fcd]
    exact Le.go [(32,32),(176,176),(424,16)] [] rfl rfl (by simp [hFn]) (by simp [hFn,fcd])
   ·simp at h8
    rw [if_neg (by omega)] at hFn
    refine zae ?_
    exact ⟨(),trivial,Le.go [(32,32),(176,176),(16,16)] [] rfl rfl (by simp [hFn]) (by simp [hFn,fcd])⟩
  refine zad (s:=?sb9) rfl ?ob9 ?qb9
  case ob9=>simp; rfl
  exact ⟨i + 1,by omega,by omega,Le.go [(32,32),(176,176),(16,16)] [] rfl rfl (by simp [hw]) (by simp [fcd])⟩
 simp at h7
 obtain rfl : i = C.length:=by omega
 rw [FbN]
 refine zan ?_
 refine hit ?_
 refine zab ?_
 refine rk (s:=?sc1) [3,4,6,9,10,11,81,82,83] [32,176,16] rfl ?oc1 ?qc1
 case oc1=>simp; rfl
 refine zaf ?_
 obtain ⟨Fc,Fc0,Fcs,Fcl,FcN⟩ : ∃ F : Nat → List Ed,F 0 = Z2 ∧ (∀ i (h : i < (sinks).length),F (i + 1) = F i ++ arc3 C (sinks)[i]) ∧ (∀ i,(F i).length ≤ 300) ∧ F (sinks).length = Z2 ++ (sinks).flatMap (arc3 C) :=
  ⟨fun i=>Z2 ++ ((sinks).take i).flatMap (arc3 C),by simp,fun i h=>by simp only [zdM _ _ i h,List.append_assoc],fun i=>by have:=zbB _ (zii C) (sinks) i; simp only [List.length_append]; omega,by simp⟩
 rw [← hX3,← hZ3] at FcN
 refine zao (ι:=Nat) (fun i=>⟨123,[(3,.pv (gC g)),(4,.pv (pC p)),(6,.pt 32 0 0),(9,.pt 176 0 0),(10,.fn (.func zaJ) [] [.pt 176 0 0]),(11,ints C),(81,ints sinks),(82,.I sinks.length),(83,.I i)],[(32,some ⟨2,[[.I 0,.nilS]],0⟩),(176,some (outV N 16 (Fc i).length)),(16,some ⟨3,za8 (Fc i),0⟩)],336⟩) (fun i=>i ≤ sinks.length) (fun i=>sinks.length - i) 0 (Nat.zero_le _) (Le.go [(32,32),(176,176),(16,16)] [] rfl rfl (by simp [Fc0]) (by simp [Fc0,fcd])) ?_
 intro i hi
 refine rk (s:=?sc2) [3,4,6,9,10,11,81,82,83,84] [32,176,16] rfl ?oc2 ?qc2
 case oc2=>simp; rfl
 refine zab ?_
 refine zac _ rfl (fun h7=>?_) fun h7=>?_
 ·simp at h7
  have hw : IntKind.i64.wrap ((i : Int) + 1) = (i : Int) + 1:=w64 (by omega) (by omega)
  have hFi:=Fcl i
  obtain ⟨k,hk,hkC,hk64⟩:=hsink _ (List.getElem_mem h7)
  have hFn : Fc (i + 1) = Fc i ++ if 0 < C[k] then [⟨2 + 2 * (k : Int),1,1⟩] else []:=by
   rw [Fcs i h7,hk]
   unfold arc3
   simp [hkC]
  refine zae ?_
  refine zaL (ι:=Unit) (fun _=>⟨123,[(3,.pv (gC g)),(4,.pv (pC p)),(6,.pt 32 0 0),(9,.pt 176 0 0),(10,.fn (.func zaJ) [] [.pt 176 0 0]),(11,ints C),(81,ints sinks),(82,.I sinks.length),(83,.I i)],[(32,some ⟨2,[[.I 0,.nilS]],0⟩),(176,some (outV N 16 (Fc (i + 1)).length)),(16,some ⟨3,za8 (Fc (i + 1)),0⟩)],700⟩) (fun _=>True) ?_ fun _ _=>?_
  ·refine zaf ?_
   refine rk (s:=?sc3) [3,4,6,9,10,11,17,81,82,83] [32,176,16] rfl ?oc3 ?qc3
   case oc3=>simp [h7,hk]; rfl
   refine rk (s:=?sc4) [3,4,6,9,10,11,17,81,82,83,91] [32,176,16] rfl ?oc4 ?qc4
   case oc4=>simp [hkC]; rfl
   refine zac _ rfl (fun h8=>?_) fun h8=>?_
   ·simp at h8
    rw [if_pos h8] at hFn
    refine zas rfl ?_
    simp [hkC]
    refine zaj (zb2 k (by omega) (by omega)) (by simp) ?_
    simp [hkC]
    refine zml (i:=176) (j:=16) (by decide) rfl rfl (e1':=outV N 1 (Fc i).length) (e2':=⟨3,za8 (Fc i),0⟩) (by simp) (by simp [fcd]) (zri N (2 + 2 * (k : Int)) 1 1 (Fc i) _ rfl (by omega)) (by simp) (by simp) ?_
    simp [fcd]
    exact Le.go [(32,32),(176,176),(432,16)] [] rfl rfl (by simp [hFn]) (by simp [hFn,fcd])
   ·simp at h8
    rw [if_neg (by omega)] at hFn
    refine zae ?_
    exact ⟨(),trivial,Le.go [(32,32),(176,176),(16,16)] [] rfl rfl (by simp [hFn]) (by simp [hFn,fcd])⟩
  refine zad (s:=?sc9) rfl ?oc9 ?qc9
  case oc9=>simp; rfl
  exact ⟨i + 1,by omega,by omega,Le.go [(32,32),(176,176),(16,16)] [] rfl rfl (by simp [hw]) (by simp [fcd])⟩
 simp at h7
 obtain rfl : i = sinks.length:=by omega
 rw [FcN]
 refine zan ?_
 refine hit ?_
 refine zab ?_
 refine rk (s:=?sd1) [6,9,10,11,101,102,103] [32,176,16] rfl ?od1 ?qd1
 case od1=>simp; refine zaj hlev (by simp) ?_; simp; rfl
 refine zaf ?_
 obtain ⟨Fd,Fd0,Fds,Fdl,FdN⟩ : ∃ F : Nat → List Ed,F 0 = Z3 ∧ (∀ i (h : i < (G.edges).length),F (i + 1) = F i ++ arc4 C (G.edges)[i]) ∧ (∀ i,(F i).length ≤ 900) ∧ F (G.edges).length = Z3 ++ (G.edges).flatMap (arc4 C) :=
  ⟨fun i=>Z3 ++ ((G.edges).take i).flatMap (arc4 C),by simp,fun i h=>by simp only [zdM _ _ i h,List.append_assoc],fun i=>by have:=zbB _ (zik C) (G.edges) i; simp only [List.length_append]; omega,by simp⟩
 rw [← hX4,← hZ4] at FdN
 refine zao (ι:=Nat) (fun i=>⟨123,[(6,.pt 32 0 0),(9,.pt 176 0 0),(10,.fn (.func zaJ) [] [.pt 176 0 0]),(11,ints C),(101,eEs G.edges),(102,.I G.edges.length),(103,.I i)],[(32,some ⟨2,[[.I 0,.nilS]],0⟩),(176,some (outV N 16 (Fd i).length)),(16,some ⟨3,za8 (Fd i),0⟩)],400⟩) (fun i=>i ≤ G.edges.length) (fun i=>G.edges.length - i) 0 (Nat.zero_le _) (Le.go [(32,32),(176,176),(16,16)] [] rfl rfl (by simp [Fd0]) (by simp [Fd0,fcd])) ?_
 intro i hi
 refine rk (s:=?sd2) [6,9,10,11,101,102,103,104] [32,176,16] rfl ?od2 ?qd2
 case od2=>simp; rfl
 refine zab ?_
 refine zac _ rfl (fun h7=>?_) fun h7=>?_
 ·simp at h7
  have hw : IntKind.i64.wrap ((i : Int) + 1) = (i : Int) + 1:=w64 (by omega) (by omega)
  have hFi:=Fdl i
  obtain ⟨x,hx⟩ : ∃ x,x = G.edges[i]:=⟨_,rfl⟩
  have hfx:=hfit _ (List.getElem_mem h7)
  rw [← hx] at hfx
  obtain ⟨k,hk,hkC,hk64⟩:=hkey x.f hfx.1.1 hfx.1.2
  obtain ⟨u,hu,huC,hu64⟩:=hkey x.t hfx.2.1 hfx.2.2
  have hFn : Fd (i + 1) = Fd i ++ if 0 < C[k] then [⟨3 + 2 * (k : Int),2 + 2 * (u : Int),64⟩] else []:=by
   rw [Fds i h7,← hx]
   unfold arc4
   rw [hk,hu]
   simp [hkC]
  refine zae ?_
  refine zaL (ι:=Unit) (fun _=>⟨123,[(6,.pt 32 0 0),(9,.pt 176 0 0),(10,.fn (.func zaJ) [] [.pt 176 0 0]),(11,ints C),(101,eEs G.edges),(102,.I G.edges.length),(103,.I i)],[(32,some ⟨2,[[.I 0,.nilS]],0⟩),(176,some (outV N 16 (Fd (i + 1)).length)),(16,some ⟨3,za8 (Fd (i + 1)),0⟩)],700⟩) (fun _=>True) ?_ fun _ _=>?_
  ·refine zaf ?_
   refine zaa ⟨123,[(6,.pt 32 0 0),(9,.pt 176 0 0),(10,.fn (.func zaJ) [] [.pt 176 0 0]),(11,ints C),(19,.pv (eC x)),(101,eEs G.edges),(102,.I G.edges.length),(103,.I i)],[(32,some ⟨2,[[.I 0,.nilS]],0⟩),(176,some (outV N 16 (Fd i).length)),(16,some ⟨3,za8 (Fd i),0⟩)],440⟩ rfl ?_ ?_
   ·simp [h7,← hx]
    exact LeI [(32,32),(176,176),(16,16)] [424]
   refine rk (s:=?sd4) [6,9,10,11,19,101,102,103,112] [32,176,16] rfl ?od4 ?qd4
   case od4=>simp [hk,hkC]; rfl
   refine zac _ rfl (fun h8=>?_) fun h8=>?_
   ·simp at h8
    rw [if_pos h8] at hFn
    refine zbF rfl ?_
    simp [hk,hu]
    refine zaj (zhP k (by omega) (by omega)) (by simp) ?_
    simp [hkC]
    refine zaj (zb2 u (by omega) (by omega)) (by simp) ?_
    simp [hkC]
    refine zml (i:=176) (j:=16) (by decide) rfl rfl (e1':=outV N 1 (Fd i).length) (e2':=⟨3,za8 (Fd i),0⟩) (by simp) (by simp [fcd]) (zri N (3 + 2 * (k : Int)) (2 + 2 * (u : Int)) 64 (Fd i) _ rfl (by omega)) (by simp) (by simp) ?_
    simp [fcd]
    exact ⟨rfl,Le.go [(32,32),(176,176),(544,16)] [] rfl rfl (by simp [hFn]) (by simp [hFn,fcd])⟩
   ·simp at h8
    rw [if_neg (by omega)] at hFn
    refine zae ?_
    exact ⟨(),trivial,Le.go [(32,32),(176,176),(16,16)] [] rfl rfl (by simp [hFn]) (by simp [hFn,fcd])⟩
  refine zad (s:=?sd9) rfl ?od9 ?qd9
  case od9=>simp; rfl
  exact ⟨i + 1,by omega,by omega,Le.go [(32,32),(176,176),(16,16)] [] rfl rfl (by simp [hw]) (by simp [fcd])⟩
 simp at h7
 obtain rfl : i = G.edges.length:=by omega
 rw [FdN]
 refine zan ?_
 refine hit ?_
 refine rk (s:=?sz) [6,7] [32,16] rfl ?oz ?qz
 case oz=>simp; rfl
 refine zag ?_
 exact ⟨.inr rfl,zak.out [] [16] rfl (by simp) (by simp) (by simp [hN,fcd,zal]) (by simp)⟩
set_option maxRecDepth 100000 in
set_option maxHeartbeats 4000000 in
theorem zdO (g : Gr) (p : Pol) (sinks : List Int) (hg : GrOk g) (hp : zaY g.size p) (hr : Rise sinks 0 (g.size - 1)) (hs : p.seeds.length ≤ 64) (hsl : sinks.length ≤ 64) :
  zai Tryz.prog zcs [eG g,eP p,ints sinks] [] (.tup [eN ⟨2 + 2 * g.size,zba g p (zaO g p) sinks⟩,.I 0]) []:=by
 refine zlV.acalls (nbz rfl) (nbz rfl) (Nat.le_refl _) ?_
 show awp _ 0 _ _ ⟨158,[(0,eG g),(1,eP p),(2,ints sinks)],[],16⟩
 have hsz:=hg.1.1
 have hsz2:=hg.1.2.1
 have hel:=hg.edges_le
 have hgl:=hg.gone_le
 have hchk:=zdy g p (by omega) (by omega) (by omega) (by have:=hp.2.2.2.1; omega)
 rw [if_pos hg,if_pos hp] at hchk
 have hcb:=zla (g:=g) hp
 have hcl : (zaO g p).length = g.size.toNat:=zb1
 have hlev:=zdw g p.lv (by omega) (by omega)
 rw [zgk]
 have hGe : ∀ e ∈ (zam g p.lv).edges,e ∈ g.edges:=fun e he=>(List.mem_filter.1 he).1
 have hGl : (zam g p.lv).edges.length ≤ 500:=Nat.le_trans (List.length_filter_le ..) hel
 have hall:=zgB (zam g p.lv) p.seeds (hg.level p.lv) (by omega)
 have hcap:=zoR (zam g p.lv) p (hg.level p.lv) (by omega)
 have hcc : zaO (zam g p.lv) p = zaO g p:=by unfold zaO; rw [zol]
 rw [hcc] at hcap
 have hDC : ∀ k : Nat,k < g.size.toNat → ∀ (h1 : k < (zbJ (zam g p.lv) p.seeds).length) (h2 : k < (zaO g p).length),0 ≤ (zbJ (zam g p.lv) p.seeds)[k] ↔ 0 < (zaO g p)[k]:=fun k hk h1 h2=>by
  have:=zoO hp (d:=(zbJ (zam g p.lv) p.seeds)[k])
  rw [← this]
  simp [zaO]
 have hDl : (zbJ (zam g p.lv) p.seeds).length = g.size.toNat:=by simp [zbJ,zam]
 have hGs : (zam g p.lv).size = g.size:=rfl
 rw [hGs] at hall hcap
 rw [← hcl] at hcap
 rw [← hDl] at hall
 obtain ⟨C,hC⟩ : ∃ C,C = zaO g p:=⟨_,rfl⟩
 obtain ⟨D,hD⟩ : ∃ D,D = zbJ (zam g p.lv) p.seeds:=⟨_,rfl⟩
 rw [← hC] at hcap hcl hcb ⊢
 rw [← hD] at hall hDl
 simp only [← hC,← hD] at hDC
 have hDk : ∀ k : Nat,k < C.length → k < D.length:=fun k hk=>by omega
 have hDC' : ∀ (k : Nat) (h2 : k < C.length),0 ≤ D[k]'(hDk k h2) ↔ 0 < C[k]:=fun k h2=>hDC k (by omega) (hDk k h2) h2
 obtain ⟨G,hG⟩ : ∃ G,G = zam g p.lv:=⟨_,rfl⟩
 rw [← hG] at hlev hGe hGl hall hcap hGs ⊢
 have hfit : ∀ e ∈ G.edges,(0 ≤ e.f ∧ e.f < g.size) ∧ (0 ≤ e.t ∧ e.t < g.size):=fun e he=>by
  have:=hg.fits e (hGe e he)
  unfold Fits at this
  omega
 have hkey : ∀ k : Int,0 ≤ k → k < g.size → ∃ j : Nat,k = j ∧ j < C.length ∧ j < 64:=fun k h0 h1=>⟨k.toNat,by omega,by omega,by omega⟩
 have hseed : ∀ k ∈ p.seeds,∃ j : Nat,k = j ∧ j < C.length ∧ j < 64:=fun k hk=>by
  obtain ⟨i,hi,rfl⟩:=List.getElem_of_mem hk
  have:=hp.2.1 i hi
  exact hkey _ (by omega) (by omega)
 have hsink : ∀ k ∈ sinks,∃ j : Nat,k = j ∧ j < C.length ∧ j < 64:=fun k hk=>by
  obtain ⟨i,hi,rfl⟩:=List.getElem_of_mem hk
  have:=hr i hi
  exact hkey _ (by omega) (by omega)
 have hw3 : IntKind.i64.wrap (2 * g.size) = 2 * g.size:=w64 (by omega) (by omega)
 have hw4 : IntKind.i64.wrap (2 + 2 * g.size) = 2 + 2 * g.size:=w64 (by omega) (by omega)
 refine zaa ⟨158,[(2,ints sinks),(3,.pt 16 0 0),(4,.pv (pC p)),(6,.pt 32 0 0)],[(16,some ⟨3,[gC g],0⟩),(32,some ⟨2,[[.I 0,.nilS]],0⟩)],48⟩ rfl ?_ ?_
 ·simp
  exact LeH [(16,16),(32,32)] [24]
 refine zab ?_
 refine rk (s:=?s2) [2,3,4,6,8] [16,32] rfl ?o2 ?q2
 case o2=>simp; refine zaj hchk (by simp) ?_; simp; rfl
 refine rk (s:=?s3) [2,3,4,6,22] [16,32] rfl ?o3 ?q3
 case o3=>simp; rfl
 refine zac _ rfl (fun h4=>?_) fun h4=>zae ?_
 ·simp at h4
 refine zab ?_
 refine rk (s:=?s5) [2,3,4,6,29] [16,32] rfl ?o5 ?q5
 case o5=>simp; refine zaj (zge sinks g.size (by omega)) (by simp) ?_; simp [hr]; rfl
 refine zac _ rfl (fun h6=>?_) fun h6=>zae ?_
 ·simp at h6
 refine zaa ⟨158,[(2,ints sinks),(3,.pv (gC G)),(4,.pv (pC p)),(6,.pt 32 0 0)],[(32,some ⟨2,[[.I 0,.nilS]],0⟩)],176⟩ rfl ?_ ?_
 ·simp
  refine zaj hlev (by simp) ?_
  simp
  exact LeH [(32,32)] [16]
 refine zaq ⟨158,[(2,ints sinks),(3,.pv (gC G)),(4,.pv (pC p)),(6,.pt 32 0 0),(9,ints D),(10,ints C)],[(32,some ⟨2,[[.I 0,.nilS]],0⟩)],248⟩ rfl ?_ ?_
 ·simp
  refine za0 hall (by simp) ?_
  simp [fcd]
  refine za0 hcap (by simp) ?_
  simp [fcd]
  exact ⟨rfl,Le.go [(32,32)] [200,224] rfl rfl (by simp [fcd,zal]) (by simp)⟩
 refine rk (s:=?s7) [2,3,4,6,9,10,11] [32,288] rfl ?o7 ?q7
 case o7=>simp [hGs,hw3,hw4]; rfl
 obtain ⟨N,hN⟩ : ∃ N : Int,N = 2 + 2 * g.size:=⟨_,rfl⟩
 simp only [← hN]
 have hb1 : (p.seeds.flatMap (arc1 C)).length ≤ 64:=Nat.le_trans (zce _ (zis C) _) hs
 have hb2 : ((List.range C.length).flatMap (arc2 C)).length ≤ 64:=Nat.le_trans (zce _ (zim C) _) (by rw [List.length_range]; omega)
 have hb3 : (sinks.flatMap (arc3 C)).length ≤ 64:=Nat.le_trans (zce _ (zii C) _) hsl
 have hb4 : (G.edges.flatMap (arc4 C)).length ≤ 500:=Nat.le_trans (zce _ (zik C) _) hGl
 obtain ⟨X1,hX1⟩ : ∃ X,X = p.seeds.flatMap (arc1 C):=⟨_,rfl⟩
 obtain ⟨X2,hX2⟩ : ∃ X,X = (List.range C.length).flatMap (arc2 C):=⟨_,rfl⟩
 obtain ⟨X3,hX3⟩ : ∃ X,X = sinks.flatMap (arc3 C):=⟨_,rfl⟩
 obtain ⟨X4,hX4⟩ : ∃ X,X = G.edges.flatMap (arc4 C):=⟨_,rfl⟩
 obtain ⟨Z2,hZ2⟩ : ∃ Z,Z = X1 ++ X2:=⟨_,rfl⟩
 obtain ⟨Z3,hZ3⟩ : ∃ Z,Z = Z2 ++ X3:=⟨_,rfl⟩
 obtain ⟨Z4,hZ4⟩ : ∃ Z,Z = Z3 ++ X4:=⟨_,rfl⟩
 rw [← hX1] at hb1
 rw [← hX2] at hb2
 rw [← hX3] at hb3
 rw [← hX4] at hb4
 rw [← hX1,← hX2,← hX3,← hX4,← hZ2,← hZ3,← hZ4]
 have hz2 : Z2.length ≤ 128:=by rw [hZ2,List.length_append]; omega
 have hz3 : Z3.length ≤ 192:=by rw [hZ3,List.length_append]; omega
 refine zab ?_
 refine rk (s:=?sa1) [2,3,4,6,9,10,11,12] [32,288] rfl ?oa1 ?qa1
 case oa1=>simp; rfl
 refine zaf ?_
 obtain ⟨Fa,Fa0,Fas,Fal,FaN⟩ : ∃ F : Nat → List Ed,F 0 = [] ∧ (∀ i (h : i < (p.seeds).length),F (i + 1) = F i ++ arc1 C (p.seeds)[i]) ∧ (∀ i,(F i).length ≤ 64) ∧ F (p.seeds).length = (p.seeds).flatMap (arc1 C) :=
  ⟨fun i=>((p.seeds).take i).flatMap (arc1 C),by simp,fun i h=>by simp only [zdM _ _ i h,List.append_assoc],fun i=>by have:=zbB _ (zis C) (p.seeds) i; exact Nat.le_trans this hs,by simp⟩
 rw [← hX1] at FaN
 refine zao (ι:=Nat) (fun i=>⟨158,[(2,ints sinks),(3,.pv (gC G)),(4,.pv (pC p)),(6,.pt 32 0 0),(9,ints D),(10,ints C),(11,.pt 288 0 0),(12,.I i)],[(32,some ⟨2,[[.I 0,.nilS]],0⟩),(288,some (outV N 16 (Fa i).length)),(16,some ⟨3,za8 (Fa i),0⟩)],312⟩) (fun i=>i ≤ p.seeds.length) (fun i=>p.seeds.length - i) 0 (Nat.zero_le _) (Le.lst [(32,32),(288,288)] [] [(16,3)] rfl (by simp) (by simp) (by simp) (by simp) (by simp) (by simp) (by simp) (by simp [Up]) (by simp [Fa0]; refine ⟨zaI.rfl' (by simp),zaI.row rfl (by omega) (by simp [UpL,Up])⟩)) ?_
 intro i hi
 refine zab ?_
 refine rk (s:=?sa2) [2,3,4,6,9,10,11,12,51] [32,288,16] rfl ?oa2 ?qa2
 case oa2=>simp; rfl
 refine zac _ rfl (fun h7=>?_) fun h7=>?_
 ·simp at h7
  have hw : IntKind.i64.wrap ((i : Int) + 1) = (i : Int) + 1:=w64 (by omega) (by omega)
  have hFi:=Fal i
  obtain ⟨k,hk,hkC,hk64⟩:=hseed _ (List.getElem_mem h7)
  have hFn : Fa (i + 1) = Fa i ++ if 0 < C[k] then [⟨0,2 + 2 * (k : Int),C[k]⟩] else []:=by
   rw [Fas i h7,hk]
   unfold arc1
   simp [hkC]
  have hkD:=hDk _ hkC
  have hdc:=hDC' _ hkC
  refine zae ?_
  refine zaL (ι:=Unit) (fun _=>⟨158,[(2,ints sinks),(3,.pv (gC G)),(4,.pv (pC p)),(6,.pt 32 0 0),(9,ints D),(10,ints C),(11,.pt 288 0 0),(12,.I i)],[(32,some ⟨2,[[.I 0,.nilS]],0⟩),(288,some (outV N 16 (Fa (i + 1)).length)),(16,some ⟨3,za8 (Fa (i + 1)),0⟩)],800⟩) (fun _=>True) ?_ fun _ _=>?_
  ·refine zaf ?_
   refine rk (s:=?sa3) [2,3,4,6,9,10,11,12,13] [32,288,16] rfl ?oa3 ?qa3
   case oa3=>simp [h7,hk]; rfl
   refine rk (s:=?sa4) [2,3,4,6,9,10,11,12,13,63] [32,288,16] rfl ?oa4 ?qa4
   case oa4=>simp [hkD]; rfl
   refine zac _ rfl (fun h8=>?_) fun h8=>?_
   ·simp at h8
    rw [if_pos (hdc.1 h8)] at hFn
    have htl : ∀ f : Ed → List AV,List.take (Fa i).length (List.map f (Fa i)) = List.map f (Fa i):=fun f=>List.take_of_length_le (by simp)
    refine zbF rfl ?_
    simp [hkC]
    refine zaj (zdE k (by omega) (by omega)) (by simp) ?_
    simp [htl,hkC]
    refine ⟨by omega,by omega,?_⟩
    exact ⟨rfl,Le.go [(32,32),(288,288),(520,16)] [] rfl rfl (by simp [hFn]) (by simp [hFn,fcd])⟩
   ·simp at h8
    rw [if_neg (by omega)] at hFn
    refine zae ?_
    exact ⟨(),trivial,Le.go [(32,32),(288,288),(16,16)] [] rfl rfl (by simp [hFn]) (by simp [hFn,fcd])⟩
  refine zad (s:=?sa9) rfl ?oa9 ?qa9
  case oa9=>simp; rfl
  exact ⟨i + 1,by omega,by omega,Le.go [(32,32),(288,288),(16,16)] [] rfl rfl (by simp [hw]) (by simp [fcd])⟩
 simp at h7
 obtain rfl : i = p.seeds.length:=by omega
 rw [FaN]
 refine zan ?_
 refine hit ?_
 refine zab ?_
 refine rk (s:=?sb1) [2,3,6,9,10,11,14] [32,288,16] rfl ?ob1 ?qb1
 case ob1=>simp; rfl
 refine zaf ?_
 obtain ⟨Fb,Fb0,Fbs,Fbl,FbN⟩ : ∃ F : Nat → List Ed,F 0 = X1 ∧ (∀ i (h : i < (List.range C.length).length),F (i + 1) = F i ++ arc2 C (List.range C.length)[i]) ∧ (∀ i,(F i).length ≤ 200) ∧ F (List.range C.length).length = X1 ++ (List.range C.length).flatMap (arc2 C) :=
  ⟨fun i=>X1 ++ ((List.range C.length).take i).flatMap (arc2 C),by simp,fun i h=>by simp only [zdM _ _ i h,List.append_assoc],fun i=>by have:=zbB _ (zim C) (List.range C.length) i; rw [List.length_range] at this; rw [List.length_append]; omega,by simp⟩
 rw [List.length_range,← hX2,← hZ2] at FbN
 refine zao (ι:=Nat) (fun i=>⟨158,[(2,ints sinks),(3,.pv (gC G)),(6,.pt 32 0 0),(9,ints D),(10,ints C),(11,.pt 288 0 0),(14,.I i)],[(32,some ⟨2,[[.I 0,.nilS]],0⟩),(288,some (outV N 16 (Fb i).length)),(16,some ⟨3,za8 (Fb i),0⟩)],360⟩) (fun i=>i ≤ C.length) (fun i=>C.length - i) 0 (Nat.zero_le _) (Le.go [(32,32),(288,288),(16,16)] [] rfl rfl (by simp [Fb0]) (by simp [Fb0,fcd])) ?_
 intro i hi
 refine zab ?_
 refine rk (s:=?sb2) [2,3,6,9,10,11,14,79] [32,288,16] rfl ?ob2 ?qb2
 case ob2=>simp; rfl
 refine zac _ rfl (fun h7=>?_) fun h7=>?_
 ·simp [hGs] at h7
  have hw : IntKind.i64.wrap ((i : Int) + 1) = (i : Int) + 1:=w64 (by omega) (by omega)
  have hFi:=Fbl i
  have hkC : i < C.length:=by omega
  have hFn : Fb (i + 1) = Fb i ++ if 0 < C[i] then [⟨2 + 2 * (i : Int),3 + 2 * (i : Int),C[i] - 1⟩] else []:=by
   rw [Fbs i (by simpa using hkC)]
   unfold arc2
   simp [hkC]
  have hci:=hcb _ (List.getElem_mem hkC)
  have hwc : IntKind.i64.wrap (C[i] - 1) = C[i] - 1:=w64 (by omega) (by omega)
  have hkD:=hDk _ hkC
  have hdc:=hDC' _ hkC
  refine zae ?_
  refine zaL (ι:=Unit) (fun _=>⟨158,[(2,ints sinks),(3,.pv (gC G)),(6,.pt 32 0 0),(9,ints D),(10,ints C),(11,.pt 288 0 0),(14,.I i)],[(32,some ⟨2,[[.I 0,.nilS]],0⟩),(288,some (outV N 16 (Fb (i + 1)).length)),(16,some ⟨3,za8 (Fb (i + 1)),0⟩)],800⟩) (fun _=>True) ?_ fun _ _=>?_
  ·refine zaf ?_
   refine rk (s:=?sb3) [2,3,6,9,10,11,14,86] [32,288,16] rfl ?ob3 ?qb3
   case ob3=>simp [hkD]; rfl
   refine zac _ rfl (fun h8=>?_) fun h8=>?_
   ·simp at h8
    rw [if_pos (hdc.1 h8)] at hFn
    have htl : ∀ f : Ed → List AV,List.take (Fb i).length (List.map f (Fb i)) = List.map f (Fb i):=fun f=>List.take_of_length_le (by simp)
    refine zbF rfl ?_
    simp [hkC,hwc]
    refine zaj (zdE i (by omega) (by omega)) (by simp) ?_
    simp [htl,hkC,hwc]
    refine zaj (zh1 i (by omega) (by omega)) (by simp) ?_
    simp [htl,hkC,hwc]
    refine ⟨by omega,by omega,?_⟩
    exact ⟨rfl,Le.go [(32,32),(288,288),(536,16)] [] rfl rfl (by simp [hFn]) (by simp [hFn,fcd])⟩
   ·simp at h8
    rw [if_neg (by omega)] at hFn
    refine zae ?_
    exact ⟨(),trivial,Le.go [(32,32),(288,288),(16,16)] [] rfl rfl (by simp [hFn]) (by simp [hFn,fcd])⟩
  refine zad (s:=?sb9) rfl ?ob9 ?qb9
  case ob9=>simp; rfl
  exact ⟨i + 1,by omega,by omega,Le.go [(32,32),(288,288),(16,16)] [] rfl rfl (by simp [hw]) (by simp [fcd])⟩
 simp [hGs] at h7
 obtain rfl : i = C.length:=by omega
 rw [FbN]
 refine zan ?_
 refine hit ?_
 refine zab ?_
 refine rk (s:=?sc1) [2,3,6,9,11,15] [32,288,16] rfl ?oc1 ?qc1
 case oc1=>simp; rfl
 refine zaf ?_
 obtain ⟨Fc,Fc0,Fcs,Fcl,FcN⟩ : ∃ F : Nat → List Ed,F 0 = Z2 ∧ (∀ i (h : i < (sinks).length),F (i + 1) = F i ++ arc3 C (sinks)[i]) ∧ (∀ i,(F i).length ≤ 300) ∧ F (sinks).length = Z2 ++ (sinks).flatMap (arc3 C) :=
  ⟨fun i=>Z2 ++ ((sinks).take i).flatMap (arc3 C),by simp,fun i h=>by simp only [zdM _ _ i h,List.append_assoc],fun i=>by have:=zbB _ (zii C) (sinks) i; simp only [List.length_append]; omega,by simp⟩
 rw [← hX3,← hZ3] at FcN
 refine zao (ι:=Nat) (fun i=>⟨158,[(2,ints sinks),(3,.pv (gC G)),(6,.pt 32 0 0),(9,ints D),(11,.pt 288 0 0),(15,.I i)],[(32,some ⟨2,[[.I 0,.nilS]],0⟩),(288,some (outV N 16 (Fc i).length)),(16,some ⟨3,za8 (Fc i),0⟩)],400⟩) (fun i=>i ≤ sinks.length) (fun i=>sinks.length - i) 0 (Nat.zero_le _) (Le.go [(32,32),(288,288),(16,16)] [] rfl rfl (by simp [Fc0]) (by simp [Fc0,fcd])) ?_
 intro i hi
 refine zab ?_
 refine rk (s:=?sc2) [2,3,6,9,11,15,105] [32,288,16] rfl ?oc2 ?qc2
 case oc2=>simp; rfl
 refine zac _ rfl (fun h7=>?_) fun h7=>?_
 ·simp at h7
  have hw : IntKind.i64.wrap ((i : Int) + 1) = (i : Int) + 1:=w64 (by omega) (by omega)
  have hFi:=Fcl i
  obtain ⟨k,hk,hkC,hk64⟩:=hsink _ (List.getElem_mem h7)
  have hFn : Fc (i + 1) = Fc i ++ if 0 < C[k] then [⟨2 + 2 * (k : Int),1,1⟩] else []:=by
   rw [Fcs i h7,hk]
   unfold arc3
   simp [hkC]
  have hkD:=hDk _ hkC
  have hdc:=hDC' _ hkC
  refine zae ?_
  refine zaL (ι:=Unit) (fun _=>⟨158,[(2,ints sinks),(3,.pv (gC G)),(6,.pt 32 0 0),(9,ints D),(11,.pt 288 0 0),(15,.I i)],[(32,some ⟨2,[[.I 0,.nilS]],0⟩),(288,some (outV N 16 (Fc (i + 1)).length)),(16,some ⟨3,za8 (Fc (i + 1)),0⟩)],800⟩) (fun _=>True) ?_ fun _ _=>?_
  ·refine zaf ?_
   refine rk (s:=?sc3) [2,3,6,9,11,15,115] [32,288,16] rfl ?oc3 ?qc3
   case oc3=>simp [h7,hk,hkD]; rfl
   refine zac _ rfl (fun h8=>?_) fun h8=>?_
   ·simp at h8
    rw [if_pos (hdc.1 h8)] at hFn
    have htl : ∀ f : Ed → List AV,List.take (Fc i).length (List.map f (Fc i)) = List.map f (Fc i):=fun f=>List.take_of_length_le (by simp)
    refine zbF rfl ?_
    simp [h7,hk]
    refine zaj (zdE k (by omega) (by omega)) (by simp) ?_
    simp [htl,h7,hk]
    refine ⟨by omega,by omega,?_⟩
    exact ⟨rfl,Le.go [(32,32),(288,288),(568,16)] [] rfl rfl (by simp [hFn]) (by simp [hFn,fcd])⟩
   ·simp at h8
    rw [if_neg (by omega)] at hFn
    refine zae ?_
    exact ⟨(),trivial,Le.go [(32,32),(288,288),(16,16)] [] rfl rfl (by simp [hFn]) (by simp [hFn,fcd])⟩
  refine zad (s:=?sc9) rfl ?oc9 ?qc9
  case oc9=>simp; rfl
  exact ⟨i + 1,by omega,by omega,Le.go [(32,32),(288,288),(16,16)] [] rfl rfl (by simp [hw]) (by simp [fcd])⟩
 simp at h7
 obtain rfl : i = sinks.length:=by omega
 rw [FcN]
 refine zan ?_
 refine hit ?_
 refine zab ?_
 refine rk (s:=?sd1) [3,6,9,11,16] [32,288,16] rfl ?od1 ?qd1
 case od1=>simp; rfl
 refine zaf ?_
 obtain ⟨Fd,Fd0,Fds,Fdl,FdN⟩ : ∃ F : Nat → List Ed,F 0 = Z3 ∧ (∀ i (h : i < (G.edges).length),F (i + 1) = F i ++ arc4 C (G.edges)[i]) ∧ (∀ i,(F i).length ≤ 900) ∧ F (G.edges).length = Z3 ++ (G.edges).flatMap (arc4 C) :=
  ⟨fun i=>Z3 ++ ((G.edges).take i).flatMap (arc4 C),by simp,fun i h=>by simp only [zdM _ _ i h,List.append_assoc],fun i=>by have:=zbB _ (zik C) (G.edges) i; simp only [List.length_append]; omega,by simp⟩
 rw [← hX4,← hZ4] at FdN
 refine zao (ι:=Nat) (fun i=>⟨158,[(3,.pv (gC G)),(6,.pt 32 0 0),(9,ints D),(11,.pt 288 0 0),(16,.I i)],[(32,some ⟨2,[[.I 0,.nilS]],0⟩),(288,some (outV N 16 (Fd i).length)),(16,some ⟨3,za8 (Fd i),0⟩)],440⟩) (fun i=>i ≤ G.edges.length) (fun i=>G.edges.length - i) 0 (Nat.zero_le _) (Le.go [(32,32),(288,288),(16,16)] [] rfl rfl (by simp [Fd0]) (by simp [Fd0,fcd])) ?_
 intro i hi
 refine zab ?_
 refine rk (s:=?sd2) [3,6,9,11,16,131] [32,288,16] rfl ?od2 ?qd2
 case od2=>simp; rfl
 refine zac _ rfl (fun h7=>?_) fun h7=>?_
 ·simp at h7
  have hw : IntKind.i64.wrap ((i : Int) + 1) = (i : Int) + 1:=w64 (by omega) (by omega)
  have hFi:=Fdl i
  obtain ⟨x,hx⟩ : ∃ x,x = G.edges[i]:=⟨_,rfl⟩
  have hfx:=hfit _ (List.getElem_mem h7)
  rw [← hx] at hfx
  obtain ⟨k,hk,hkC,hk64⟩:=hkey x.f hfx.1.1 hfx.1.2
  obtain ⟨u,hu,huC,hu64⟩:=hkey x.t hfx.2.1 hfx.2.2
  have hFn : Fd (i + 1) = Fd i ++ if 0 < C[k] then [⟨3 + 2 * (k : Int),2 + 2 * (u : Int),64⟩] else []:=by
   rw [Fds i h7,← hx]
   unfold arc4
   rw [hk,hu]
   simp [hkC]
  have hkD:=hDk _ hkC
  have hdc:=hDC' _ hkC
  refine zae ?_
  refine zaL (ι:=Unit) (fun _=>⟨158,[(3,.pv (gC G)),(6,.pt 32 0 0),(9,ints D),(11,.pt 288 0 0),(16,.I i)],[(32,some ⟨2,[[.I 0,.nilS]],0⟩),(288,some (outV N 16 (Fd (i + 1)).length)),(16,some ⟨3,za8 (Fd (i + 1)),0⟩)],800⟩) (fun _=>True) ?_ fun _ _=>?_
  ·refine zaf ?_
   refine zaa ⟨158,[(3,.pv (gC G)),(6,.pt 32 0 0),(9,ints D),(11,.pt 288 0 0),(16,.I i),(17,.pv (eC x))],[(32,some ⟨2,[[.I 0,.nilS]],0⟩),(288,some (outV N 16 (Fd i).length)),(16,some ⟨3,za8 (Fd i),0⟩)],536⟩ rfl ?_ ?_
   ·simp [h7,← hx]
    exact LeI [(32,32),(288,288),(16,16)] [520]
   refine rk (s:=?sd4) [3,6,9,11,16,17,144] [32,288,16] rfl ?od4 ?qd4
   case od4=>simp [hk,hkD]; rfl
   refine zac _ rfl (fun h8=>?_) fun h8=>?_
   ·simp at h8
    rw [if_pos (hdc.1 h8)] at hFn
    have htl : ∀ f : Ed → List AV,List.take (Fd i).length (List.map f (Fd i)) = List.map f (Fd i):=fun f=>List.take_of_length_le (by simp)
    refine zbF rfl ?_
    simp [hk,hu]
    refine zaj (zh1 k (by omega) (by omega)) (by simp) ?_
    simp [htl,hk,hu]
    refine zaj (zdE u (by omega) (by omega)) (by simp) ?_
    simp [htl,hk,hu]
    refine ⟨by omega,by omega,?_⟩
    exact ⟨rfl,Le.go [(32,32),(288,288),(664,16)] [] rfl rfl (by simp [hFn]) (by simp [hFn,fcd])⟩
   ·simp at h8
    rw [if_neg (by omega)] at hFn
    refine zae ?_
    exact ⟨(),trivial,Le.go [(32,32),(288,288),(16,16)] [] rfl rfl (by simp [hFn]) (by simp [hFn,fcd])⟩
  refine zad (s:=?sd9) rfl ?od9 ?qd9
  case od9=>simp; rfl
  exact ⟨i + 1,by omega,by omega,Le.go [(32,32),(288,288),(16,16)] [] rfl rfl (by simp [hw]) (by simp [fcd])⟩
 simp at h7
 obtain rfl : i = G.edges.length:=by omega
 rw [FdN]
 refine zan ?_
 refine hit ?_
 refine rk (s:=?sz) [6,7] [32,16] rfl ?oz ?qz
 case oz=>simp; rfl
 refine zag ?_
 exact ⟨.inr rfl,zak.out [] [16] rfl (by simp) (by simp) (by simp [hN,fcd,zal]) (by simp)⟩
instance (g : Gr) (lv f t : Int) : Decidable (zrf g lv f t):=by unfold zrf; infer_instance
theorem zdb {a : List Int} {n : Int} (h : ∀ k ∈ a,0 ≤ k ∧ k < n) : Rise (zav a) 0 (n - 1):=by
 intro i hi
 have hm:=zc3.1 (List.getElem_mem hi)
 have:=h _ hm.1
 refine ⟨by omega,by omega,fun hp=>?_⟩
 exact (List.pairwise_iff_getElem.1 (zgO a)) (i - 1) i (by omega) hi (by omega)
theorem zbr (a : List Int) : (zav a).length ≤ 64:=Nat.le_trans (List.length_filter_le ..) (by simp)
theorem zp3 (g : Gr) (p : Pol) (sinks : List Int) (hg : GrOk g) (hs : p.seeds.length ≤ 64) (hsl : sinks.length ≤ 64) : (zba g p (zaO g p) sinks).length ≤ 1000:=by
 rw [zgk]
 have h1:=zce _ (zis (zaO g p)) p.seeds
 have h2:=zce _ (zim (zaO g p)) (List.range (zaO g p).length)
 have h3:=zce _ (zii (zaO g p)) sinks
 have h4:=zce _ (zik (zaO g p)) (zam g p.lv).edges
 have h5 : (zam g p.lv).edges.length ≤ g.edges.length:=List.length_filter_le ..
 have h6:=hg.edges_le
 have h7:=hg.1.2.1
 have h8:=hg.1.1
 rw [List.length_range] at h2
 have h9 : (zaO g p).length = g.size.toNat:=zb1
 simp only [List.length_append]
 omega
def netN (g : Gr) : Nat:=(2 + 2 * g.size).toNat
theorem zfD {g : Gr} (hg : GrOk g) : ((netN g : Nat) : Int) = 2 + 2 * g.size:=by unfold netN; have:=hg.1.1; omega
abbrev netA (g : Gr) (p : Pol) (ks : List Int) : List Ed:=zba g p (zaO g p) ks
def zat (g : Gr) (p : Pol) (ks : List Int) : Prop:=maxF (netN g) (netA g p ks) = ks.length
theorem zkd {g : Gr} {p : Pol} {ks : List Int} (hg : GrOk g) (hp : zaY g.size p) (hk : ∀ x ∈ ks,0 ≤ x ∧ x < g.size) : zen (netN g) (netA g p ks):=zrN hg hp hk
theorem zfo {g : Gr} {p : Pol} {ks : List Int} (hg : GrOk g) (hp : zaY g.size p) (hk : ∀ x ∈ ks,0 ≤ x ∧ x < g.size) (hs : p.seeds.length ≤ 64) (hsl : ks.length ≤ 64) : za5 ⟨netN g,netA g p ks⟩:=by
 have h1:=zkd hg hp hk
 have h2 : (netA g p ks).length ≤ 1000:=zp3 g p ks hg hs hsl
 have h3:=hg.1.2.1
 have hN:=zfD hg
 have h0:=hg.1.1
 have hcb : ∀ i : Nat,(zaO g p).getD i 0 ≤ 1000:=fun i=>by
  rw [List.getD_eq_getElem?_getD]
  cases h : (zaO g p)[i]? with
  | none=>simp
  | some v =>
    have hm:=List.mem_of_getElem? h
    unfold zaO at hm
    obtain ⟨d,_,rfl⟩:=List.mem_map.1 hm
    exact (zhs hp d).2
 refine ⟨by simp only; omega,by simp only; omega,by simp only; omega,fun a ha=>?_⟩
 obtain ⟨q1,q2,q3,q4,q5,q6,q7,q8⟩:=h1.arc a ha
 refine ⟨q1,by simp only; omega,q3,by simp only; omega,q5,q6,q7,q8,?_⟩
 simp only [netA,zba] at ha
 rcases List.mem_append.1 ha with ha | ha
 ·rcases List.mem_append.1 ha with ha | ha
  ·rcases List.mem_append.1 ha with ha | ha
   ·obtain ⟨x,hx,rfl⟩:=List.mem_map.1 ha
    have:=hcb x.toNat
    simp only
    omega
   ·obtain ⟨i,hx,rfl⟩:=List.mem_map.1 ha
    have:=hcb i
    simp only
    omega
  ·obtain ⟨x,hx,rfl⟩:=List.mem_map.1 ha
   simp
 ·obtain ⟨e,hx,rfl⟩:=List.mem_map.1 ha
  simp
structure zcH (g : Gr) (p : Pol) (ks f : List Int) : Prop where
 ok : zaA (netN g) (netA g p ks) f
 most : ∀ f',zaA (netN g) (netA g p ks) f' → valF (netA g p ks) f' ≤ valF (netA g p ks) f
 val : valF (netA g p ks) f = maxF (netN g) (netA g p ks)
theorem zgv {ks : List Int} {n : Int} (h : Rise ks 0 (n - 1)) : ∀ x ∈ ks,0 ≤ x ∧ x < n:=fun x hx=>by
 have:=h.nodup.2 x hx
 omega
set_option maxRecDepth 100000 in
set_option maxHeartbeats 4000000 in
open Classical in
theorem zrn (g : Gr) (p : Pol) (ks : List Int) (hg : GrOk g) (hp : zaY g.size p) (hr : Rise ks 0 (g.size - 1)) (hs : p.seeds.length ≤ 64) (hsl : ks.length ≤ 64) :
  ∃ f,zcH g p ks f ∧ zai Tryz.prog zdY [eG g,eP p,ints ks] [] (.tup [eN ⟨netN g,netA g p ks⟩,.rs 0 0 (netA g p ks).length,.B (decide (zat g p ks))]) [some ⟨1,zah f,0⟩]:=by
 have hnet:=zdO g p ks hg hp hr hs hsl
 rw [← zfD hg] at hnet
 have hnv:=zfo hg hp (zgv hr) hs hsl
 obtain ⟨f,⟨hf1,hf2⟩,hmax⟩:=zwB _ _ hnv
 have hval:=zfS hnv hf1
 have hmf:=zgi hf1 hf2
 refine ⟨f,⟨hf1,hf2,hmf.symm⟩,?_⟩
 have hcs : zat g p ks ↔ valF (netA g p ks) f = ks.length:=by unfold zat; rw [hmf]
 have hfl:=hf1.fit.len
 obtain ⟨A,hA⟩ : ∃ A,A = netA g p ks:=⟨_,rfl⟩
 obtain ⟨N,hN⟩ : ∃ N,N = netN g:=⟨_,rfl⟩
 rw [show zba g p (zaO g p) ks = A from hA.symm,← hN] at hnet
 rw [← hA,← hN] at hmax hval
 rw [← hA] at hcs hfl ⊢
 rw [← hN]
 refine zmV.acalls (nbz rfl) (nbz rfl) (Nat.zero_le _) ?_
 show awp _ 0 _ _ ⟨33,[(0,eG g),(1,eP p),(2,ints ks)],[],16⟩
 have htake : ∀ g : Int → List AV,List.take A.length (List.map g f) = List.map g f:=fun g=>List.take_of_length_le (by simp; omega)
 refine rx (s:=?s1) [2,3,4,6] [32] [16,24] rfl ?o1 ?q1
 case o1=>simp; rfl
 refine rx (s:=?s2) [2,6,9] [32] [112] rfl ?o2 ?q2
 case o2=>simp; refine zaj hnet (by simp) ?_; simp; rfl
 refine zaa ⟨33,[(2,ints ks),(6,.pt 32 0 0),(9,.pv (nC ⟨N,A⟩)),(11,.rs 33 0 A.length)],[(32,some ⟨2,[[.I 0,.sc (.slice none 0 0)]],0⟩),(33,some ⟨1,zah f,0⟩)],300⟩ rfl ?_ ?_
 ·simp
  refine za0 hmax (by simp) ?_
  simp
  exact LeI [(32,32),(144,33)] []
 refine zaq ⟨33,[(6,.pt 32 0 0),(7,.rs 33 0 A.length),(8,.B (decide (zat g p ks)))],[(32,some ⟨2,[nC ⟨N,A⟩],0⟩),(33,some ⟨1,zah f,0⟩)],600⟩ rfl ?_ ?_
 ·simp
  refine zle [33] hval (by simp [fcd,htake,hfl]) (.sc _) ?_
  simp [zar]
  exact ⟨rfl,Le.go [(32,32),(33,33)] [] rfl rfl (by simp <;> exact wkB (by rw [Bool.eq_iff_iff]; simp [hcs])) (by simp [fcd])⟩
 refine zag ?_
 exact ⟨.inr rfl,zak.out [33] [] rfl (by simp) (by simp) (by simp) (by simp [fcd])⟩
theorem zkk (side : List Int) : ∀ A : List Ed,cutV A side = capS (fun x=>decide (x ∈ side)) A
 | []=>rfl
 | e :: A=>by
   have h1 : cutV (e :: A) side = (if e.f ∈ side ∧ e.t ∉ side then e.v else 0) + cutV A side:=by simp [cutV]
   have h2 : capS (fun x=>decide (x ∈ side)) (e :: A) = (if decide (e.f ∈ side) = true ∧ decide (e.t ∈ side) = false then e.v else 0) + capS (fun x=>decide (x ∈ side)) A:=rfl
   rw [h1,h2,zkk side A]
   simp
section
variable {P : Program} {np id : Nat} {h : Nat → Option Ent} {K : AV → List Nat → List (Nat × Option Ent) → Prop} {f : FuncId} {first capt args args' : List AV} {res : AV}
end
def lowN : List Int → Int → Nat
 | [],_=>0
 | x :: l,k=>if x < k then lowN l k + 1 else 0
def putL (l : List Int) (k : Int) : List Int:=if l[lowN l k]? = some k then l else l.take (lowN l k) ++ k :: l.drop (lowN l k)
theorem znu : ∀ (l : List Int) (k : Int),lowN l k ≤ l.length
 | [],_=>Nat.le_refl _
 | x :: l,k=>by unfold lowN; have:=znu l k; split <;> simp <;> omega
theorem zqu : ∀ {l : List Int} {k : Int} {i : Nat} (h : i < l.length),i < lowN l k → l[i] < k
 | x :: l,k,0,_,h=>by
   unfold lowN at h
   split at h
   ·simpa
   ·omega
 | x :: l,k,i + 1,hi,h=>by
   unfold lowN at h
   split at h
   ·simpa using zqu (l:=l) (by simpa using hi) (by omega)
   ·omega
theorem zkJ : ∀ {l : List Int} {k : Int} (h : lowN l k < l.length),¬ l[lowN l k] < k
 | x :: l,k,h=>by
   by_cases hx : x < k
   ·have e : lowN (x :: l) k = lowN l k + 1:=by simp [lowN,hx]
    simp only [e,List.getElem_cons_succ]
    exact zkJ (by rw [e] at h; simpa using h)
   ·have e : lowN (x :: l) k = 0:=by simp [lowN,hx]
    simp only [e,List.getElem_cons_zero]
    exact hx
theorem zvj {l : List Int} {k : Int} {i : Nat} (hi : i ≤ l.length) (h1 : ∀ j (h : j < l.length),j < i → l[j] < k) (h2 : ∀ h : i < l.length,¬ l[i] < k) : lowN l k = i:=by
 rcases Nat.lt_trichotomy (lowN l k) i with h | h | h
 ·exact absurd (h1 _ (by omega) h) (zkJ (by omega))
 ·exact h
 ·have hl:=znu l k
  exact absurd (zqu (by omega) h) (h2 (by omega))
theorem zuA (l : List Int) (k : Int) : (putL l k).length ≤ l.length + 1:=by
 unfold putL
 split
 ·omega
 ·simp; have:=znu l k; omega
theorem znX {l : List Int} {k x : Int} : x ∈ putL l k ↔ x ∈ l ∨ x = k:=by
 unfold putL
 split
 ·rename_i h
  constructor
  ·exact .inl
  ·rintro (h1 | rfl)
   ·exact h1
   ·exact List.mem_of_getElem? h
 ·rw [List.mem_append,List.mem_cons]
  conv=>rhs; rw [← List.take_append_drop (lowN l k) l,List.mem_append]
  constructor
  ·rintro (h | rfl | h)
   ·exact .inl (.inl h)
   ·exact .inr rfl
   ·exact .inl (.inr h)
  ·rintro ((h | h) | rfl)
   ·exact .inl h
   ·exact .inr (.inr h)
   ·exact .inr (.inl rfl)
theorem zoE {l : List Int} {k : Int} (h : l.Pairwise (· < ·)) : (putL l k).Pairwise (· < ·):=by
 unfold putL
 split
 ·exact h
 ·rename_i hne
  have hd : ∀ y ∈ l.drop (lowN l k),k < y:=by
   intro y hy
   obtain ⟨i,hi,rfl⟩:=List.getElem_of_mem hy
   rw [List.length_drop] at hi
   rw [List.getElem_drop]
   have h0 : lowN l k < l.length:=by omega
   have h1:=zkJ h0
   have h2 : l[lowN l k] ≠ k:=fun e=>hne (by rw [List.getElem?_eq_getElem h0,e])
   rcases Nat.eq_zero_or_pos i with rfl | hp
   ·simp only [Nat.add_zero]; omega
   ·have:=(List.pairwise_iff_getElem.1 h) (lowN l k) (lowN l k + i) h0 (by omega) (by omega)
    omega
  have ht : ∀ y ∈ l.take (lowN l k),y < k:=by
   intro y hy
   obtain ⟨i,hi,rfl⟩:=List.getElem_of_mem hy
   rw [List.length_take] at hi
   rw [List.getElem_take]
   exact zqu (by omega) (by omega)
  rw [List.pairwise_append,List.pairwise_cons]
  refine ⟨h.sublist (List.take_sublist ..),⟨hd,h.sublist (List.drop_sublist ..)⟩,fun x hx y hy=>?_⟩
  rcases List.mem_cons.1 hy with rfl | hy
  ·exact ht x hx
  ·have:=ht x hx; have:=hd y hy; omega
theorem zgp {l : List Int} {n : Int} (h : l.Pairwise (· < ·)) (hr : ∀ k ∈ l,0 ≤ k ∧ k < n) : Rise l 0 (n - 1):=by
 intro i hi
 have:=hr _ (List.getElem_mem hi)
 refine ⟨by omega,by omega,fun hp=>?_⟩
 exact (List.pairwise_iff_getElem.1 h) (i - 1) i (by omega) hi (by omega)
theorem zpf (l : List Int) (k : Int) (hl : l.length ≤ 1000000) : zai Tryz.prog zcf [ints l,.I k] [] (.rs 0 0 (putL l k).length) [some ⟨1,zah (putL l k),0⟩]:=by
 refine zso.acalls (nbz rfl) (nbz rfl) (Nat.zero_le _) ?_
 show awp _ 0 _ _ ⟨45,[(0,ints l),(1,.I k)],[],16⟩
 refine rx (s:=?s1) [0,1] [] [] rfl ?o1 ?q1
 case o1=>simp; rfl
 refine rx (s:=?s2) [0,1,5] [] [] rfl ?o2 ?q2
 case o2=>simp; rfl
 refine zaL (ι:=Nat) (fun i=>⟨45,[(0,ints l),(1,.I k),(5,.I i)],[],200⟩) (fun i=>i = lowN l k) ?_ fun i hil=>?_
 ·refine zaf ?_
  refine zao (ι:=Nat) (fun i=>⟨45,[(0,ints l),(1,.I k),(5,.I i)],[],32⟩) (fun i=>i ≤ l.length ∧ ∀ j (h : j < l.length),j < i → l[j] < k) (fun i=>l.length - i) 0 (by simp) (LeH [] []) ?_
  rintro i ⟨hi,hp⟩
  refine zab ?_
  refine zaa ⟨45,[(0,ints l),(1,.I k),(5,.I i),(17,.B (decide (∃ h : i < l.length,l[i] < k)))],[],200⟩ rfl ?_ ?_
  ·by_cases h1 : i < l.length
   ·simp [h1]
    exact Le.snap [] rfl rfl (by simp [h1])
   ·have hno : ¬ ∃ h : i < l.length,l[i] < k:=fun ⟨h,_⟩=>h1 h
    rw [decide_eq_false hno]
    simp [h1]
    exact Le.snap [] rfl rfl (by simp)
  refine zac _ rfl (fun h2=>?_) fun h2=>?_
  ·rw [decide_eq_true_eq] at h2
   obtain ⟨h1,h2⟩:=h2
   have hw : IntKind.i64.wrap ((i : Int) + 1) = (i : Int) + 1:=w64 (by omega) (by omega)
   refine zae ?_
   refine zaf ?_
   refine zad (s:=?s5) rfl ?o5 ?q5
   case o5=>simp; rfl
   refine ⟨i + 1,⟨h1,fun j hj hji=>?_⟩,by omega,Le.go [] [] rfl rfl (by simp [hw]) (by simp)⟩
   rcases Nat.lt_succ_iff_lt_or_eq.1 hji with h | rfl
   ·exact hp j hj h
   ·exact h2
  ·rw [decide_eq_false_iff_not] at h2
   refine zan ?_
   refine hit ?_
   exact ⟨i,(zvj hi hp fun h h3=>h2 ⟨h,h3⟩).symm,LeH [] []⟩
 have hlo:=znu l k
 rw [← hil] at hlo
 refine zab ?_
 refine zaa ⟨45,[(0,ints l),(1,.I k),(5,.I i),(31,.B (decide (l[i]? = some k)))],[],400⟩ rfl ?_ ?_
 ·by_cases h1 : i < l.length
  ·simp [h1]
   exact Le.snap [] rfl rfl (by simp [h1]; exact wkB (by rw [Bool.eq_iff_iff]; simp))
  ·have hno : ¬ l[i]? = some k:=by rw [List.getElem?_eq_none (by omega)]; simp
   rw [decide_eq_false hno]
   simp [h1]
   exact Le.snap [] rfl rfl (by simp)
 refine zac _ rfl (fun h2=>?_) fun h2=>?_
 ·rw [decide_eq_true_eq] at h2
  have hput : putL l k = l:=by unfold putL; rw [← hil,if_pos h2]
  rw [hput]
  refine rk (s:=?s6) [4] [408] rfl ?o6 ?q6
  case o6=>simp; refine ⟨by omega,by omega,?_⟩; rfl
  refine zag ?_
  exact ⟨.inr rfl,zak.out [408] [] rfl (by simp) (by simp) (by simp) (by simp [fcd])⟩
 rw [decide_eq_false_iff_not] at h2
 have hput : putL l k = l.take i ++ k :: l.drop i:=by unfold putL; rw [← hil,if_neg h2]
 have hpl : (putL l k).length = l.length + 1:=by rw [hput]; simp; omega
 have hpl2 : (putL l k).length = i + 1 + (l.length - i):=by omega
 refine zae ?_
 refine zaq ⟨45,[(4,.rs 480 0 (putL l k).length)],[(480,some ⟨1,zah (putL l k),0⟩)],600⟩ rfl ?_ ?_
 ·simp [hlo]
  refine ⟨by omega,by omega,by omega,by omega,by omega,by omega,rfl,Le.go [(480,480)] [] rfl rfl (by simp [hpl2]) (by simp [hput,fcd,List.take_of_length_le,hlo])⟩
 refine zag ?_
 exact ⟨.inr rfl,zak.out [480] [] rfl (by simp) (by simp) (by simp) (by simp [fcd])⟩
theorem zvE (L : List Int) (a : Nat) {l : List Int} (h : 0 < l.length) : ofD L a l ∈ l:=by
 have:=zeG (L:=L) (a:=a) (n:=l.length) (by omega)
 obtain ⟨q,hq⟩ : ∃ q : Nat,(zaz L a l.length).1 = q:=⟨(zaz L a l.length).1.toNat,by omega⟩
 have hql : q < l.length:=by omega
 unfold ofD
 rw [hq]
 simp [hql]
theorem zoB (L : List Int) (a : Nat) (n : Int) (hl : L.length ≤ 400) (ha : a ≤ L.length) (h0 : 0 < n) (hn : n ≤ 1000000) : ∃ (x : Nat) (b : Nat),(b ≤ L.length ∧ (x : Int) < n) ∧ zai Tryz.prog zaD [.pt 0 0 0,.I n] [dice L a] (.I x) [some (dice L b)]:=by
 have:=zeG (L:=L) (a:=a) h0
 obtain ⟨q,hq⟩ : ∃ q : Nat,(zaz L a n).1 = q:=⟨(zaz L a n).1.toNat,by omega⟩
 exact ⟨q,_,⟨zbS ha,by omega⟩,by rw [← hq]; exact znF L a n (by omega) ha (by omega)⟩
theorem Of_a (L : List Int) (a : Nat) (l : List Int) (hl : L.length ≤ 400) (ha : a ≤ L.length) (h0 : 0 < l.length) (hl2 : l.length ≤ 100) : ∃ (x : Int) (b : Nat),(b ≤ L.length ∧ x ∈ l) ∧ zai Tryz.prog zcX [.pt 0 0 0,ints l] [dice L a] (.I x) [some (dice L b)] :=
 ⟨_,_,⟨zbS ha,zvE L a h0⟩,zxE L a l (by omega) ha h0 (by omega)⟩
theorem zxh (L : List Int) (a : Nat) (n : Int) (hl : L.length ≤ 400) (ha : a ≤ L.length) (hn0 : 0 ≤ n) (hn : n ≤ 1000000) : ∃ (x : Bool) (b : Nat),b ≤ L.length ∧ zai Tryz.prog zcv [.pt 0 0 0,.I n] [dice L a] (.B x) [some (dice L b)] :=
 ⟨_,_,zbS ha,zuZ L a n (by omega) ha hn0 (by omega)⟩
section
variable {P : Program} {np id : Nat} {h : Nat → Option Ent} {K : AV → List Nat → List (Nat × Option Ent) → Prop} {f : FuncId} {first capt args args' : List AV} {res : AV}
theorem zq5 {j : Nat} {e ej : Ent} (hnp : np ≤ j) (hj : h j = some ej) (hc : zai P f args' [] res [some e]) (he : (first ++ args ++ capt).map (conv [] [j] h 4) = args')
  (hk : K (conv (swp [] id) [] (fun _=>none) 4 res) [j] [(id,some (zax (swp [] id) [] (fun _=>none) 4 e)),(j,some { ej with ro:=ej.rows.length })]) : aK P np id .call (.fn (.func f) first capt :: args) h K :=
 ⟨[],[j],true,args',[],res,[some e],by simp,by simp,by simpa using hnp,by rw [List.zipIdx_nil,he]; exact zbM _,rfl,hc,by simp,.inl rfl,by simpa [swp,hj] using hk⟩
end
def TabL (t : List Int) : Prop:=∀ i (h : i < t.length),1 ≤ t[i] ∧ t[i] ≤ 1000 ∧ (0 < i → t[i] ≤ t[i - 1])
theorem zsM {t : List Int} {v : Int} (h : TabL t) (h1 : 1 ≤ v) (h2 : v ≤ 1000) (h3 : ∀ x ∈ t,v ≤ x) : TabL (t ++ [v]):=by
 intro i hi
 rw [List.length_append,List.length_singleton] at hi
 by_cases hit : i < t.length
 ·rw [List.getElem_append_left hit]
  obtain ⟨a,b,c⟩:=h i hit
  refine ⟨a,b,fun hp=>?_⟩
  rw [List.getElem_append_left (by omega)]
  exact c hp
 ·obtain rfl : i = t.length:=by omega
  simp only [List.getElem_concat_length]
  refine ⟨h1,h2,fun hp=>?_⟩
  rw [List.getElem_append_left (by omega)]
  exact h3 _ (List.getElem_mem _)
theorem zmh : ∀ {a b : List Int},a.Pairwise (· < ·) → b.Pairwise (· < ·) → (∀ x,x ∈ a ↔ x ∈ b) → a = b
 | [],[],_,_,_=>rfl
 | [],y :: b,_,_,h=>by have:=(h y).2 (by simp); cases this
 | x :: a,[],_,_,h=>by have:=(h x).1 (by simp); cases this
 | x :: a,y :: b,ha,hb,h=>by
   have ha':=List.pairwise_cons.1 ha
   have hb':=List.pairwise_cons.1 hb
   have hxy : x = y:=by
    have h1:=(h x).1 (by simp)
    have h2:=(h y).2 (by simp)
    rcases List.mem_cons.1 h1 with e | e
    ·exact e
    ·rcases List.mem_cons.1 h2 with e2 | e2
     ·exact e2.symm
     ·have:=hb'.1 x e
      have:=ha'.1 y e2
      omega
   subst hxy
   congr 1
   refine zmh ha'.2 hb'.2 fun z=>⟨fun hz=>?_,fun hz=>?_⟩
   ·rcases List.mem_cons.1 ((h z).1 (List.mem_cons_of_mem _ hz)) with rfl | e
    ·have:=ha'.1 z hz; omega
    ·exact e
   ·rcases List.mem_cons.1 ((h z).2 (List.mem_cons_of_mem _ hz)) with rfl | e
    ·have:=hb'.1 z hz; omega
    ·exact e
theorem zh9 {a : List Int} {k : Int} (h0 : 0 ≤ k) (h1 : k < 64) : putL (zav a) k = zav (a ++ [k]):=by
 refine zmh (zoE (zgO a)) (zgO _) fun x=>?_
 rw [znX,zc3,zc3,List.mem_append,List.mem_singleton]
 constructor
 ·rintro (h | rfl)
  ·exact ⟨.inl h.1,h.2⟩
  ·exact ⟨.inr rfl,h0,h1⟩
 ·rintro ⟨h | h,h2⟩
  ·exact .inl ⟨h,h2⟩
  ·exact .inr h
open Classical in
noncomputable def accR (g : Gr) (p : Pol) (o : List Int) : List Int:=o.foldl (fun acc k=>if zat g p (zav (acc ++ [k])) then acc ++ [k] else acc) []
variable {g : Gr} {p : Pol}
theorem zjV : accR g p [] = []:=rfl
open Classical in
theorem zbV {o : List Int} {k : Int} (h : zat g p (zav (accR g p o ++ [k]))) : accR g p (o ++ [k]) = accR g p o ++ [k]:=by
 have h2 : accR g p (o ++ [k]) = if zat g p (zav (accR g p o ++ [k])) then accR g p o ++ [k] else accR g p o:=by unfold accR; rw [List.foldl_append]; rfl
 rw [h2,if_pos h]
open Classical in
theorem zhw {o : List Int} {k : Int} (h : ¬ zat g p (zav (accR g p o ++ [k]))) : accR g p (o ++ [k]) = accR g p o:=by
 have h2 : accR g p (o ++ [k]) = if zat g p (zav (accR g p o ++ [k])) then accR g p o ++ [k] else accR g p o:=by unfold accR; rw [List.foldl_append]; rfl
 rw [h2,if_neg h]
theorem zoD (o : List Int) (k : Int) : accR g p (o ++ [k]) = accR g p o ∨ accR g p (o ++ [k]) = accR g p o ++ [k]:=by
 by_cases h : zat g p (zav (accR g p o ++ [k]))
 ·exact .inr (zbV h)
 ·exact .inl (zhw h)
theorem zd7 : ∀ (n : Nat) (o : List Int),o.length = n → (accR g p o).Sublist o
 | 0,o,h=>by
   obtain rfl:=List.eq_nil_of_length_eq_zero h
   exact List.nil_sublist _
 | n + 1,o,h=>by
   have hne : o ≠ []:=fun e=>by rw [e] at h; cases h
   rw [← List.dropLast_concat_getLast hne]
   have ih:=zd7 n o.dropLast (by rw [List.length_dropLast,h]; rfl)
   rcases zoD (g:=g) (p:=p) o.dropLast (o.getLast hne) with e | e
   ·rw [e]; exact ih.trans (List.sublist_append_left _ _)
   ·rw [e]; exact ih.append (List.Sublist.refl _)
theorem zea {o : List Int} {x : Int} (h : x ∈ accR g p o) : x ∈ o:=(zd7 _ o rfl).subset h
theorem znx (o : List Int) : (accR g p o).length ≤ o.length:=(zd7 _ o rfl).length_le
open Classical in
noncomputable def zfa (N : Nat) (A : List Ed) : List Int:=((List.range N).map fun k : Nat=>(k : Int)).filter fun k=>decide (∀ S : Int → Bool,S 0 = true → S 1 = false → capS S A = maxF N A → S k = true)
theorem zmY {N : Nat} {A : List Ed} {f D : List Int} {by_ : Int → Stp} (hn : zen N A) (hf : zaA N A f) (hm : ∀ f',zaA N A f' → valF A f' ≤ valF A f) (ht : zp4 A f D by_) (h0 : (0 : Int) ∈ D) (h1 : (1 : Int) ∉ D) (hc : zeX A f D) :
  ((List.range N).map fun k : Nat=>(k : Int)).filter (fun k=>decide (k ∈ D)) = zfa N A:=by
 unfold zfa
 refine List.filter_congr fun k _=>?_
 rw [decide_eq_decide]
 have hmf:=zgi hf hm
 constructor
 ·intro hk S s0 s1 hS
  exact zmp hn hf ht s0 s1 (hS.trans hmf) k hk
 ·intro h
  have:=h (fun x=>decide (x ∈ D)) (by simpa using h0) (by simpa using h1) (by rw [hmf]; exact (zgI hn hf h0 h1 hc).1.symm)
  simpa using this
open Classical in
noncomputable def refS (g : Gr) (p : Pol) (o : List Int) : List Int × List (Int × List Int) :=
 o.foldl (fun s k=>if zat g p (zav (s.1 ++ [k])) then (s.1 ++ [k],s.2) else (s.1,s.2 ++ [(k,zfa (netN g) (netA g p (zav (s.1 ++ [k]))))])) ([],[])
noncomputable def refR (g : Gr) (p : Pol) (o : List Int) : List (Int × List Int):=(refS g p o).2
open Classical in
theorem zkZ (o : List Int) (k : Int) : refS g p (o ++ [k]) = if zat g p (zav ((refS g p o).1 ++ [k])) then ((refS g p o).1 ++ [k],(refS g p o).2) else ((refS g p o).1,(refS g p o).2 ++ [(k,zfa (netN g) (netA g p (zav ((refS g p o).1 ++ [k]))))]):=by
 unfold refS
 rw [List.foldl_append]
 rfl
theorem znR : ∀ (n : Nat) (o : List Int),o.length = n → (refS g p o).1 = accR g p o
 | 0,o,h=>by
   obtain rfl:=List.eq_nil_of_length_eq_zero h
   rfl
 | n + 1,o,h=>by
   have hne : o ≠ []:=fun e=>by rw [e] at h; cases h
   rw [← List.dropLast_concat_getLast hne]
   have ih:=znR n o.dropLast (by rw [List.length_dropLast,h]; rfl)
   rw [zkZ,ih]
   split
   ·rename_i h1
    rw [zbV h1]
   ·rename_i h1
    rw [zhw h1]
theorem zhZ {o : List Int} {k : Int} (h : zat g p (zav (accR g p o ++ [k]))) : refR g p (o ++ [k]) = refR g p o:=by
 unfold refR
 rw [zkZ,znR _ o rfl,if_pos h]
theorem zk1 {o : List Int} {k : Int} (h : ¬ zat g p (zav (accR g p o ++ [k]))) : refR g p (o ++ [k]) = refR g p o ++ [(k,zfa (netN g) (netA g p (zav (accR g p o ++ [k]))))]:=by
 unfold refR
 rw [zkZ,znR _ o rfl,if_neg h]
structure zuR (g : Gr) (p : Pol) (acc : List Int) (k : Int) (side : List Int) : Prop where
 no : ¬ zat g p (zav (acc ++ [k]))
 ok : zct ⟨netN g,netA g p (zav (acc ++ [k]))⟩ side
 cut : cutV (netA g p (zav (acc ++ [k]))) side = maxF (netN g) (netA g p (zav (acc ++ [k])))
 len : side.length ≤ 130
 eq : side = zfa (netN g) (netA g p (zav (acc ++ [k])))
structure zhG (g : Gr) (p : Pol) (o : List Int) (R : List (Int × List Int)) : Prop where
 all : ∀ i (h : i < o.length),o[i] ∉ accR g p (o.take (i + 1)) → ∃ side,(o[i],side) ∈ R
 right : ∀ r ∈ R,∃ i,∃ h : i < o.length,o[i] = r.1 ∧ zuR g p (accR g p (o.take i)) r.1 r.2
 len : R.length ≤ o.length
 eq : R = refR g p o
theorem zhG.nil : zhG g p [] []:=⟨fun i h=>absurd h (Nat.not_lt_zero _),(fun r h=>nomatch h),Nat.le_refl _,rfl⟩
theorem zhG.yes {o : List Int} {k : Int} {R : List (Int × List Int)} (hr : zhG g p o R) (h : zat g p (zav (accR g p o ++ [k]))) : zhG g p (o ++ [k]) R:=by
 refine ⟨fun i hi hn=>?_,fun r hr'=>?_,Nat.le_trans hr.len (by simp),by rw [zhZ h]; exact hr.eq⟩
 ·rw [List.length_append,List.length_singleton] at hi
  by_cases hio : i < o.length
  ·rw [List.getElem_append_left hio] at hn ⊢
   rw [List.take_append_of_le_length (by omega)] at hn
   exact hr.all i hio hn
  ·obtain rfl : i = o.length:=by omega
   refine absurd ?_ hn
   rw [List.take_of_length_le (by simp),zbV h]
   simp
 ·obtain ⟨i,hi,h1,h2⟩:=hr.right r hr'
  refine ⟨i,by simp; omega,by rw [List.getElem_append_left hi]; exact h1,?_⟩
  rw [List.take_append_of_le_length (by omega)]
  exact h2
theorem zhG.no {o : List Int} {k : Int} {R : List (Int × List Int)} {side : List Int} (hr : zhG g p o R) (h : zuR g p (accR g p o) k side) : zhG g p (o ++ [k]) (R ++ [(k,side)]):=by
 refine ⟨fun i hi hn=>?_,fun r hr'=>?_,by have:=hr.len; simp; omega,by rw [zk1 h.no,← hr.eq,← h.eq]⟩
 ·rw [List.length_append,List.length_singleton] at hi
  by_cases hio : i < o.length
  ·rw [List.getElem_append_left hio] at hn ⊢
   rw [List.take_append_of_le_length (by omega)] at hn
   obtain ⟨s,hs⟩:=hr.all i hio hn
   exact ⟨s,List.mem_append_left _ hs⟩
  ·obtain rfl : i = o.length:=by omega
   exact ⟨side,by simp⟩
 ·rcases List.mem_append.1 hr' with h3 | h3
  ·obtain ⟨i,hi,h1,h2⟩:=hr.right r h3
   refine ⟨i,by simp; omega,by rw [List.getElem_append_left hi]; exact h1,?_⟩
   rw [List.take_append_of_le_length (by omega)]
   exact h2
  ·rw [List.mem_singleton] at h3
   subst h3
   refine ⟨o.length,by simp,by simp,?_⟩
   rw [List.take_append_of_le_length (Nat.le_refl _),List.take_length]
   exact h
def inD (D : List Int) (n : Nat) : List Int:=((List.range n).map fun k : Nat=>(k : Int)).filter fun k=>decide (k ∈ D)
theorem zm3 (D : List Int) (n : Nat) : inD D (n + 1) = inD D n ++ if (n : Int) ∈ D then [(n : Int)] else []:=by
 unfold inD
 rw [List.range_succ,List.map_append,List.filter_append]
 simp only [List.map_cons,List.map_nil,List.filter_cons,List.filter_nil]
 split <;> simp_all
theorem znE {D : List Int} {n : Nat} {x : Int} : x ∈ inD D n ↔ (0 ≤ x ∧ x < n) ∧ x ∈ D:=by
 unfold inD
 rw [List.mem_filter,List.mem_map]
 constructor
 ·rintro ⟨⟨k,hk,rfl⟩,h⟩
  have:=List.mem_range.1 hk
  exact ⟨by omega,by simpa using h⟩
 ·rintro ⟨h,h2⟩
  exact ⟨⟨x.toNat,List.mem_range.2 (by omega),by omega⟩,by simpa using h2⟩
theorem zrc (D : List Int) (n : Nat) : (inD D n).Pairwise (· < ·):=by
 unfold inD
 refine List.Pairwise.filter _ ?_
 rw [List.pairwise_map]
 exact List.pairwise_lt_range.imp fun h=>by omega
theorem zqb (D : List Int) (n : Nat) : (inD D n).length ≤ n:=by
 unfold inD
 refine Nat.le_trans (List.length_filter_le ..) (by simp)
set_option maxRecDepth 100000 in
set_option maxHeartbeats 4000000 in
theorem ztW (N : Nat) (A : List Ed) (hn : za5 ⟨N,A⟩) :
  ∃ side : List Int,(zct ⟨N,A⟩ side ∧ cutV A side = maxF N A ∧ side.length ≤ 130 ∧ side = zfa N A) ∧ zai Tryz.prog zeS [eN ⟨N,A⟩] [] (.tup [.rs 0 0 side.length,.I 0]) [some ⟨1,zah side,0⟩]:=by
 have hno:=zeE hn
 obtain ⟨f,⟨hf1,hf2⟩,hmax⟩:=zwB N A hn
 have hfl:=hf1.fit.len
 obtain ⟨⟨D,b⟩,⟨hb,hcl⟩,hcall⟩:=zmt N A f hn hfl
 simp only at hb hcl hcall
 have h1D : (1 : Int) ∉ D:=fun hm=>by
  obtain ⟨l,hl⟩:=hb.chain hm
  have h1:=hl.push hno hf1 (v:=1) (by omega) fun s hs=>by
   obtain ⟨i,hi,rfl⟩:=List.mem_iff_getElem.1 hs
   have:=(hl.at_ i hi).2.1
   omega
  have h2:=hf2 _ h1.1
  omega
 have hgr:=(zgI hno hf1 hb.mem0 h1D hcl).1
 have hmf:=zgi hf1 hf2
 have hn':=hn
 obtain ⟨hn0,hn1,hal,hav⟩:=hn
 simp only at hn0 hn1 hal hav
 have hmD : ∀ x,x ∈ inD D N ↔ x ∈ D:=fun x=>by
  rw [znE]
  exact ⟨fun h=>h.2,fun h=>⟨hb.rng x h,h⟩⟩
 have hside : zct ⟨N,A⟩ (inD D N):=⟨hn',zgp (zrc D N) fun k hk=>by have:=(znE.1 hk).1; simp only; omega,(hmD 0).2 hb.mem0,fun h=>h1D ((hmD 1).1 h)⟩
 have hcut : cutV A (inD D N) = maxF N A:=by
  rw [zkk,hmf,hgr]
  congr 1
  funext x
  exact decide_eq_decide.2 (hmD x)
 refine ⟨inD D N,⟨hside,hcut,Nat.le_trans (zqb D N) (by omega),zmY hno hf1 hf2 hb.tree hb.mem0 h1D hcl⟩,?_⟩
 have hblen:=hb.len
 have hbk : ∀ k : Nat,1 ≤ k → k < N → b[k]? = some (b.getD k 0) ∧ (b.getD k 0 = 0 ↔ (k : Int) ∉ D):=fun k h1 h2=>by
  refine ⟨by rw [List.getD_eq_getElem?_getD,List.getElem?_eq_getElem (by omega),Option.getD_some],fun h hm=>?_,fun h=>?_⟩
  ·have:=hb.inn k hm (by omega)
   simp only [Int.toNat_natCast] at this
   exact this h
  ·have:=hb.out k (by omega) h
   simpa using this
 have htake : ∀ g : Int → List AV,List.take A.length (List.map g f) = List.map g f:=fun g=>List.take_of_length_le (by simp; omega)
 refine zlN.acalls (nbz rfl) (nbz rfl) (Nat.zero_le _) ?_
 show awp _ 0 _ _ ⟨37,[(0,eN ⟨N,A⟩)],[],16⟩
 refine rx (s:=?s1) [1] [] [16] rfl ?o1 ?q1
 case o1=>simp; rfl
 refine zaa ⟨37,[(1,.pv (nC ⟨N,A⟩)),(4,.rs 33 0 A.length),(5,.I 0)],[(33,some ⟨1,zah f,0⟩)],100⟩ rfl ?_ ?_
 ·simp
  refine za0 hmax (by simp) ?_
  simp
  exact LeI [(48,33)] []
 refine zab ?_
 refine zaa ⟨37,[(1,.pv (nC ⟨N,A⟩)),(4,.rs 33 0 A.length),(15,.B false)],[(33,some ⟨1,zah f,0⟩)],200⟩ rfl ?_ ?_
 ·simp
  exact LeI [(33,33)] []
 refine zac _ rfl (fun h=>by cases h) fun _=>?_
 refine zae ?_
 refine zaa ⟨37,[(1,.pv (nC ⟨N,A⟩)),(6,.rs 34 0 N)],[(34,some ⟨1,zah b,0⟩)],300⟩ rfl ?_ ?_
 ·simp
  refine ziE [33] hcall (by simp [fcd,htake,hfl]) (.rs _ _ _) zro ?_
  simp
  exact LeI [(216,34)] []
 have hi1 : inD D 1 = [0]:=by
  rw [zm3]
  have : ((0 : Nat) : Int) ∈ D:=hb.mem0
  rw [if_pos this]
  rfl
 refine zaa ⟨37,[(1,.pv (nC ⟨N,A⟩)),(6,.rs 34 0 N),(7,.rs 35 0 (inD D 1).length)],[(34,some ⟨1,zah b,0⟩),(35,some ⟨1,zah (inD D 1),0⟩)],400⟩ rfl ?_ ?_
 ·rw [hi1]
  simp
  exact LeI [(34,34),(300,35)] []
 refine zab ?_
 refine zaa ⟨37,[(1,.pv (nC ⟨N,A⟩)),(6,.rs 34 0 N),(7,.rs 35 0 (inD D 1).length),(8,.I 1)],[(34,some ⟨1,zah b,0⟩),(35,some ⟨1,zah (inD D 1),0⟩)],500⟩ rfl ?_ ?_
 ·simp
  exact LeI [(34,34),(35,35)] []
 refine zaf ?_
 refine zao (ι:=Nat) (fun k=>⟨37,[(1,.pv (nC ⟨N,A⟩)),(6,.rs 34 0 N),(7,.rs 35 0 (inD D k).length),(8,.I k)],[(34,some ⟨1,zah b,0⟩),(35,some ⟨1,zah (inD D k),0⟩)],500⟩) (fun k=>1 ≤ k ∧ k ≤ N) (fun k=>N - k) 1 (by omega) (LeI [(34,34),(35,35)] []) ?_
 rintro k ⟨hk1,hk2⟩
 have hdl:=zqb D k
 refine zab ?_
 refine zaa ⟨37,[(1,.pv (nC ⟨N,A⟩)),(6,.rs 34 0 N),(7,.rs 35 0 (inD D k).length),(8,.I k),(24,.B (decide (k < N)))],[(34,some ⟨1,zah b,0⟩),(35,some ⟨1,zah (inD D k),0⟩)],600⟩ rfl ?_ ?_
 ·simp
  exact LeI [(34,34),(35,35)] []
 refine zac _ rfl (fun h10=>?_) fun h10=>?_
 ·simp at h10
  obtain ⟨hbe,hbi⟩:=hbk k hk1 h10
  obtain ⟨y,hy⟩ : ∃ y,y = b.getD k 0:=⟨_,rfl⟩
  rw [← hy] at hbe hbi
  have hsu:=zm3 D k
  have hw1 : IntKind.i64.wrap ((k : Int) + 1) = (k : Int) + 1:=w64 (by omega) (by omega)
  refine zae ?_
  refine zaL (ι:=Unit) (fun _=>⟨37,[(1,.pv (nC ⟨N,A⟩)),(6,.rs 34 0 N),(7,.rs 35 0 (inD D (k + 1)).length),(8,.I k)],[(34,some ⟨1,zah b,0⟩),(35,some ⟨1,zah (inD D (k + 1)),0⟩)],1000⟩) (fun _=>True) ?_ fun _ _=>?_
  ·refine zaf ?_
   refine zaa ⟨37,[(1,.pv (nC ⟨N,A⟩)),(6,.rs 34 0 N),(7,.rs 35 0 (inD D k).length),(8,.I k),(31,.B (!decide (y = 0)))],[(34,some ⟨1,zah b,0⟩),(35,some ⟨1,zah (inD D k),0⟩)],700⟩ rfl ?_ ?_
   ·simp [hbe,h10]
    exact Le.go [(34,34),(35,35)] [] rfl rfl (by simp <;> exact wkB (by rw [Bool.eq_iff_iff]; simp)) (by simp [fcd])
   refine zac _ rfl (fun h12=>?_) fun h12=>?_
   ·simp at h12
    rw [if_pos (Decidable.byContradiction fun h=>h12 (hbi.2 h))] at hsu
    rw [hsu]
    obtain ⟨E,hE⟩ : ∃ E,E = inD D k:=⟨_,rfl⟩
    rw [← hE] at hdl ⊢
    have htk : ∀ g : Int → List AV,List.take E.length (List.map g E) = List.map g E:=fun g=>List.take_of_length_le (by simp)
    refine zas rfl ?_
    simp [htk]
    exact ⟨by omega,by omega,LeI [(34,34),(724,35)] []⟩
   ·simp at h12
    rw [if_neg (hbi.1 h12),List.append_nil] at hsu
    rw [hsu]
    refine zae ?_
    exact ⟨(),trivial,LeI [(34,34),(35,35)] []⟩
  refine zad (s:=?s10) rfl ?o10 ?q10
  case o10=>simp; rfl
  exact ⟨k + 1,by omega,by omega,Le.go [(34,34),(35,35)] [] rfl rfl (by simp [hw1]) (by simp [fcd])⟩
 simp at h10
 obtain rfl : k = N:=by omega
 refine zan ?_
 refine hit ?_
 refine zaa ⟨37,[(2,.rs 35 0 (inD D k).length),(3,.I 0)],[(35,some ⟨1,zah (inD D k),0⟩)],700⟩ rfl ?_ ?_
 ·simp
  exact LeI [(35,35)] []
 refine zag ?_
 exact ⟨.inr rfl,zak.out [35] [] rfl (by simp) (by simp) (by simp) (by simp [fcd])⟩
abbrev zaG (R : List (Int × List Int)) : List (List AV):=R.map fun r=>[.I r.1,ints r.2]
abbrev eAcc (acc flow : List Int) (R : List (Int × List Int)) : AV:=.agg [ints acc,ints flow,.vs 2 false (zaG R)]
structure RSt where
 i : Nat
 R : List (Int × List Int)
set_option maxRecDepth 100000 in
set_option maxHeartbeats 4000000 in
open Classical in
theorem zv4 (g : Gr) (p : Pol) (hg : GrOk g) (hp : zaY g.size p) (hs : p.seeds.length ≤ 64) :
  ∃ x : List (Int × List Int) × List Int,(zhG g p (ordL (zam g p.lv) p.seeds) x.1 ∧ zcH g p (zav (accR g p (ordL (zam g p.lv) p.seeds))) x.2) ∧
    zai Tryz.prog zef [eG g,eP p] [] (.tup [eAcc (accR g p (ordL (zam g p.lv) p.seeds)) x.2 x.1,.I 0]) []:=by
 refine zmg.acallsX (args:=[eG g,eP p]) (hs:=[]) (fun x=>.tup [eAcc (accR g p (ordL (zam g p.lv) p.seeds)) x.2 x.1,.I 0]) (fun _=>[]) (fun x : List (Int × List Int) × List Int=>zhG g p (ordL (zam g p.lv) p.seeds) x.1 ∧ zcH g p (zav (accR g p (ordL (zam g p.lv) p.seeds))) x.2) (nbz rfl) (nbz rfl) (fun _=>Nat.le_refl _) ?_
 show awp _ 0 _ _ ⟨84,[(0,eG g),(1,eP p)],[],16⟩
 have hsz:=hg.1.1
 have hsz2:=hg.1.2.1
 have hel:=hg.edges_le
 have hgl:=hg.gone_le
 have hchk:=zdy g p (by omega) (by omega) (by omega) (by have:=hp.2.2.2.1; omega)
 rw [if_pos hg,if_pos hp] at hchk
 have hlev:=zdw g p.lv (by omega) (by omega)
 have hord:=zg6 (g:=zam g p.lv) (S:=p.seeds) (hg.level p.lv) (by omega)
 obtain ⟨o,ho⟩ : ∃ o,o = ordL (zam g p.lv) p.seeds:=⟨_,rfl⟩
 have hor : ∀ k ∈ o,0 ≤ k ∧ k < g.size:=fun k hk=>by rw [ho] at hk; have h:=zb3 hk; exact h
 have hon : o.Nodup:=by rw [ho]; exact zbf _ _
 rw [← ho] at hord ⊢
 have hol : o.length ≤ 64:=by
  have:=zbC (b:=(List.range g.size.toNat).map fun i : Nat=>(i : Int)) hon fun x hx=>by
   have:=hor x hx
   exact List.mem_map.2 ⟨x.toNat,List.mem_range.2 (by omega),by omega⟩
  simp at this
  omega
 have hjr : ∀ a : List Int,(∀ x ∈ a,0 ≤ x ∧ x < g.size) → Rise (zav a) 0 (g.size - 1):=fun a h=>zdb h
 have hj0 : zav [] = []:=rfl
 refine rx (s:=?s1) [2,3,4] [32] [16,24] rfl ?o1 ?q1
 case o1=>simp; rfl
 refine zab ?_
 refine rx (s:=?s2) [2,3,4,6] [32] [] rfl ?o2 ?q2
 case o2=>simp; refine zaj hchk (by simp) ?_; simp; rfl
 refine rx (s:=?s3) [2,3,4,6,21] [32] [] rfl ?o3 ?q3
 case o3=>simp; rfl
 refine zac _ rfl (fun h=>by cases h) fun _=>?_
 refine zae ?_
 refine zaa ⟨84,[(2,.pv (gC g)),(3,.pv (pC p)),(4,.pt 32 0 0),(7,.pt 40 0 0)],[(32,some ⟨3,[[.nilS,.nilS,.nilS]],0⟩),(40,some ⟨3,[[.nilS,.nilS,.nilS]],0⟩)],200⟩ rfl ?_ ?_
 ·simp
  exact LeH [(32,32),(96,40)] []
 refine zaa ⟨84,[(2,.pv (gC g)),(3,.pv (pC p)),(4,.pt 32 0 0),(7,.pt 40 0 0),(8,.vs 1 false [])],[(32,some ⟨3,[[.nilS,.nilS,.nilS]],0⟩),(40,some ⟨3,[[.nilS,.nilS,.nilS]],0⟩)],300⟩ rfl ?_ ?_
 ·simp
  exact LeH [(32,32),(40,40)] []
 refine zaq ⟨84,[(2,.pv (gC g)),(3,.pv (pC p)),(4,.pt 32 0 0),(7,.pt 40 0 0),(8,.vs 1 false []),(9,ints o)],[(32,some ⟨3,[[.nilS,.nilS,.nilS]],0⟩),(40,some ⟨3,[[.nilS,.nilS,.nilS]],0⟩)],400⟩ rfl ?_ ?_
 ·simp
  refine zaj hlev (by simp) ?_
  simp
  refine za0 hord (by simp) ?_
  simp
  exact ⟨rfl,Le.go [(32,32),(40,40)] [348] rfl rfl (by simp [fcd,zal]) (by simp)⟩
 refine zab ?_
 refine zaa ⟨84,[(2,.pv (gC g)),(3,.pv (pC p)),(4,.pt 32 0 0),(7,.pt 40 0 0),(8,.vs 1 false []),(9,ints o),(10,.I 0)],[(32,some ⟨3,[[.nilS,.nilS,.nilS]],0⟩),(40,some ⟨3,[[.nilS,.nilS,.nilS]],0⟩)],500⟩ rfl ?_ ?_
 ·simp
  exact LeH [(32,32),(40,40)] []
 refine zaf ?_
 refine zao (ι:=RSt) (fun s=>⟨84,[(2,.pv (gC g)),(3,.pv (pC p)),(4,.pt 32 0 0),(7,.pt 40 0 0),(8,ints (zav (accR g p (o.take s.i)))),(9,ints o),(10,.I s.i)],
   [(32,some ⟨3,[[.nilS,.nilS,.nilS]],0⟩),(40,some ⟨3,[[.rs 41 0 (accR g p (o.take s.i)).length,.nilS,.rs 42 0 s.R.length]],0⟩),(41,some ⟨1,zah (accR g p (o.take s.i)),0⟩),(42,some ⟨2,zaG s.R,0⟩)],500⟩)
  (fun s=>s.i ≤ o.length ∧ zhG g p (o.take s.i) s.R) (fun s=>o.length - s.i) ⟨0,[]⟩ ⟨Nat.zero_le _,zhG.nil⟩
  (Le.lst [(32,32),(40,40)] [] [(41,1),(42,2)] rfl (by simp) (by simp) (by simp) (by simp) (by simp) (by simp) (by simp) (by simp [Up,zjV,hj0]; exact .refl _) (by simp [zjV,fcd]; exact ⟨zaI.rfl' (by simp),zaI.row rfl (by omega) (by simp [UpL,Up,Wk.refl])⟩)) ?_
 rintro ⟨i,R⟩ ⟨hi,hR⟩
 simp only at hi hR
 obtain ⟨acc,hacc⟩ : ∃ acc,acc = accR g p (o.take i):=⟨_,rfl⟩
 have hai : ∀ x ∈ acc,0 ≤ x ∧ x < g.size:=fun x hx=>hor x (List.mem_of_mem_take (zea (hacc ▸ hx)))
 have hal : acc.length ≤ 64:=by
  have h1:=znx (g:=g) (p:=p) (o.take i)
  rw [← hacc] at h1
  exact Nat.le_trans h1 (Nat.le_trans (List.length_take_le' i o) hol)
 have hRl:=hR.len
 have hRl2:=List.length_take_le' i o
 rw [← hacc]
 refine zab ?_
 refine zaa ⟨84,[(2,.pv (gC g)),(3,.pv (pC p)),(4,.pt 32 0 0),(7,.pt 40 0 0),(8,ints (zav acc)),(9,ints o),(10,.I i),(34,.B (decide (i < o.length)))],
   [(32,some ⟨3,[[.nilS,.nilS,.nilS]],0⟩),(40,some ⟨3,[[.rs 41 0 acc.length,.nilS,.rs 42 0 R.length]],0⟩),(41,some ⟨1,zah acc,0⟩),(42,some ⟨2,zaG R,0⟩)],600⟩ rfl ?_ ?_
 ·simp
  exact LeI [(32,32),(40,40),(41,41),(42,42)] []
 refine zac _ rfl (fun h11=>?_) fun h11=>?_
 ·simp at h11
  have hw1 : IntKind.i64.wrap ((i : Int) + 1) = (i : Int) + 1:=w64 (by omega) (by omega)
  obtain ⟨k,hk⟩ : ∃ k,k = o[i]:=⟨_,rfl⟩
  have hkr:=hor _ (List.getElem_mem h11)
  rw [← hk] at hkr
  have hts : o.take (i + 1) = o.take i ++ [k]:=by rw [List.take_succ_eq_append_getElem h11,hk]
  have hput:=zpf (zav acc) k (by have:=zbr acc; omega)
  rw [zh9 hkr.1 (by omega)] at hput
  have hks : ∀ x ∈ acc ++ [k],0 ≤ x ∧ x < g.size:=fun x hx=>by
   rcases List.mem_append.1 hx with h | h
   ·exact hai x h
   ·rw [List.mem_singleton] at h; subst h; exact hkr
  have hrise:=hjr _ hks
  have hJl:=zbr (acc ++ [k])
  obtain ⟨f,hf,hsv⟩:=zrn g p (zav (acc ++ [k])) hg hp hrise hs hJl
  have hnv:=zfo hg hp (zgv hrise) hs hJl
  obtain ⟨side,⟨hsd1,hsd2,hsd3,hsd4⟩,hnear⟩:=ztW _ _ hnv
  have hyes:=zbV (g:=g) (p:=p) (o:=o.take i) (k:=k)
  have hno:=zhw (g:=g) (p:=p) (o:=o.take i) (k:=k)
  rw [← hacc,← hts] at hyes hno
  have hRy:=hR.yes (k:=k)
  have hRn:=fun h=>hR.no (k:=k) (side:=side) h
  rw [← hacc,← hts] at hRy hRn
  obtain ⟨J,hJ⟩ : ∃ J,J = zav (acc ++ [k]):=⟨_,rfl⟩
  rw [← hJ] at hput hsv hnear hsd1 hsd2 hsd4 hyes hno hRy hf
  refine zae ?_
  refine zaL (ι:=RSt) (fun s=>⟨84,[(2,.pv (gC g)),(3,.pv (pC p)),(4,.pt 32 0 0),(7,.pt 40 0 0),(8,ints (zav (accR g p (o.take (i + 1))))),(9,ints o),(10,.I i)],
   [(32,some ⟨3,[[.nilS,.nilS,.nilS]],0⟩),(40,some ⟨3,[[.rs 41 0 (accR g p (o.take (i + 1))).length,.nilS,.rs 42 0 s.R.length]],0⟩),(41,some ⟨1,zah (accR g p (o.take (i + 1))),0⟩),(42,some ⟨2,zaG s.R,0⟩)],3000⟩)
   (fun s=>zhG g p (o.take (i + 1)) s.R) ?_ fun s hs'=>?_
  ·refine zaf ?_
   refine zaa ⟨84,[(2,.pv (gC g)),(3,.pv (pC p)),(4,.pt 32 0 0),(7,.pt 40 0 0),(8,ints (zav acc)),(9,ints o),(10,.I i),(11,.I k)],
    [(32,some ⟨3,[[.nilS,.nilS,.nilS]],0⟩),(40,some ⟨3,[[.rs 41 0 acc.length,.nilS,.rs 42 0 R.length]],0⟩),(41,some ⟨1,zah acc,0⟩),(42,some ⟨2,zaG R,0⟩)],700⟩ rfl ?_ ?_
   ·simp [h11,← hk]
    exact LeI [(32,32),(40,40),(41,41),(42,42)] []
   refine zaq ⟨84,[(2,.pv (gC g)),(3,.pv (pC p)),(4,.pt 32 0 0),(7,.pt 40 0 0),(8,ints (zav acc)),(9,ints o),(10,.I i),(11,.I k),(12,.pv (nC ⟨netN g,netA g p J⟩)),(14,.B (decide (zat g p J)))],
    [(32,some ⟨3,[[.nilS,.nilS,.nilS]],0⟩),(40,some ⟨3,[[.rs 41 0 acc.length,.nilS,.rs 42 0 R.length]],0⟩),(41,some ⟨1,zah acc,0⟩),(42,some ⟨2,zaG R,0⟩)],900⟩ rfl ?_ ?_
   ·simp
    refine za0 hput (by simp) ?_
    simp
    refine zq5 (j:=732) (by decide) rfl hsv (by simp [fcd,zal]) ?_
    simp
    exact ⟨rfl,Le.go [(32,32),(40,40),(41,41),(42,42)] [780,732,740] rfl rfl (by simp [zal]) (by simp [fcd])⟩
   refine zab ?_
   refine zaa ⟨84,[(2,.pv (gC g)),(3,.pv (pC p)),(4,.pt 32 0 0),(7,.pt 40 0 0),(8,ints (zav acc)),(9,ints o),(10,.I i),(11,.I k),(12,.pv (nC ⟨netN g,netA g p J⟩)),(51,.B (decide (zat g p J)))],
    [(32,some ⟨3,[[.nilS,.nilS,.nilS]],0⟩),(40,some ⟨3,[[.rs 41 0 acc.length,.nilS,.rs 42 0 R.length]],0⟩),(41,some ⟨1,zah acc,0⟩),(42,some ⟨2,zaG R,0⟩)],1000⟩ rfl ?_ ?_
   ·simp
    exact LeI [(32,32),(40,40),(41,41),(42,42)] []
   refine zac _ rfl (fun h15=>?_) fun h15=>?_
   ·have h15' : zat g p J:=of_decide_eq_true h15
    have hy:=hyes h15'
    have hRy':=hRy h15'
    refine zaa ⟨84,[(2,.pv (gC g)),(3,.pv (pC p)),(4,.pt 32 0 0),(7,.pt 40 0 0),(8,ints J),(9,ints o),(10,.I i)],
     [(32,some ⟨3,[[.nilS,.nilS,.nilS]],0⟩),(40,some ⟨3,[[.rs 41 0 (acc ++ [k]).length,.nilS,.rs 42 0 R.length]],0⟩),(41,some ⟨1,zah (acc ++ [k]),0⟩),(42,some ⟨2,zaG R,0⟩)],1200⟩ rfl ?_ ?_
    ·simp [zal]
     refine ⟨by omega,by omega,?_⟩
     refine za0 hput (by simp) ?_
     simp [zar]
     exact Le.go [(32,32),(40,40),(1032,41),(42,42)] [1056] rfl rfl (by simp [fcd,zal]) (by simp [fcd])
    refine zan ?_
    refine hit ?_
    exact ⟨⟨i,R⟩,hRy',Le.go [(32,32),(40,40),(41,41),(42,42)] [] rfl rfl (by simp [hy,← hJ]) (by simp [hy,fcd])⟩
   ·have h15' : ¬ zat g p J:=of_decide_eq_false h15
    have hn':=hno h15'
    have hRn':=hRn ⟨by rw [← hJ]; exact h15',by rw [← hJ]; exact hsd1,by rw [← hJ]; exact hsd2,hsd3,by rw [← hJ]; exact hsd4⟩
    refine zae ?_
    refine zaa ⟨84,[(2,.pv (gC g)),(3,.pv (pC p)),(4,.pt 32 0 0),(7,.pt 40 0 0),(8,ints (zav acc)),(9,ints o),(10,.I i),(11,.I k),(15,ints side)],
     [(32,some ⟨3,[[.nilS,.nilS,.nilS]],0⟩),(40,some ⟨3,[[.rs 41 0 acc.length,.nilS,.rs 42 0 R.length]],0⟩),(41,some ⟨1,zah acc,0⟩),(42,some ⟨2,zaG R,0⟩)],1200⟩ rfl ?_ ?_
    ·simp
     refine za0 hnear (by simp) ?_
     simp
     exact Le.go [(32,32),(40,40),(41,41),(42,42)] [1008] rfl rfl (by simp [fcd,zal]) (by simp [fcd])
    have htR : ∀ h : Int × List Int → List AV,List.take R.length (List.map h R) = List.map h R:=fun h=>List.take_of_length_le (by simp)
    refine zas rfl ?_
    simp [htR,zar]
    exact ⟨by omega,by omega,⟨i,R ++ [(k,side)]⟩,hRn',Le.go [(32,32),(40,40),(41,41),(1248,42)] [] rfl rfl (by simp [hn']) (by simp [hn',fcd])⟩
  refine zad (s:=?s30) rfl ?o30 ?q30
  case o30=>simp; rfl
  exact ⟨⟨i + 1,s.R⟩,⟨h11,hs'⟩,Nat.sub_lt_sub_left h11 (Nat.lt_succ_self i),Le.go [(32,32),(40,40),(41,41),(42,42)] [] rfl rfl (by simp [hw1]) (by simp [fcd])⟩
 simp at h11
 obtain rfl : i = o.length:=by omega
 rw [List.take_length] at hacc hR
 obtain ⟨f,hf,hsv⟩:=zrn g p (zav acc) hg hp (hjr _ hai) hs (zbr acc)
 refine zan ?_
 refine hit ?_
 have hfl:=hf.ok.fit.len
 have htf : ∀ h : Int → List AV,List.take (netA g p (zav acc)).length (List.map h f) = List.map h f:=fun h=>List.take_of_length_le (by simp; omega)
 refine zaa ⟨84,[(4,.pt 32 0 0),(7,.pt 40 0 0)],
   [(32,some ⟨3,[[.nilS,.nilS,.nilS]],0⟩),(40,some ⟨3,[[ints acc,ints f,.vs 2 false (zaG R)]],0⟩)],1200⟩ rfl ?_ ?_
 ·simp
  refine za0 hsv (by simp) ?_
  simp [zar]
  exact Le.go [(32,32),(40,40)] [41,42,624] rfl rfl (by simp) (by simp [fcd,zal,htf,hfl])
 refine zaa ⟨84,[(4,.pt 32 0 0),(5,.I 0)],[(32,some ⟨3,[[ints acc,ints f,.vs 2 false (zaG R)]],0⟩)],1400⟩ rfl ?_ ?_
 ·simp [zar]
  exact LeI [(32,32)] []
 refine zag ?_
 exact zgh.mk (.inr rfl) (R,f) ⟨hR,by rw [← hacc]; exact hf⟩ (zak.out [] [] rfl (by simp) (by simp) (by simp [← hacc]) (by simp))
theorem WayA.mem {A : List Ed} : ∀ {l : List Nat} {u w : Int},WayA A u l w → ∀ j ∈ l,j < A.length
 | i :: l,u,w,hw,j,hj=>by
   rcases List.mem_cons.1 hj with rfl | hj
   ·exact hw.1
   ·exact WayA.mem hw.2.2 j hj
theorem zj4.few {N : Nat} {A : List Ed} {f g : List Int} {l : List Nat} {w : Int} (hn : zen N A) (h : zj4 A f g l w) : l.length + 1 ≤ N:=by
 have:=zbC (b:=(List.range N).map fun i : Nat=>(i : Int)) h.met fun x hx=>by
  rcases List.mem_cons.1 hx with rfl | hx
  ·have:=hn.two
   exact List.mem_map.2 ⟨0,List.mem_range.2 (by omega),rfl⟩
  ·obtain ⟨j,hj,rfl⟩:=List.mem_map.1 hx
   have ha:=hn.arc _ (zd0 (h.way.mem j hj))
   exact List.mem_map.2 ⟨(arcD A j).t.toNat,List.mem_range.2 (by omega),by omega⟩
 simpa [metA] using this
def zgX (l : List (Int × AV)) : List (List AV):=l.map fun p=>[.sc (.int .i64 p.1),p.2]
theorem zhe (n : Int) : ∀ l : List (Int × AV),zew n (zgX l) = (l.find? (fun p=>p.1 = n)).map (·.2)
 | []=>rfl
 | (k,x) :: l=>by
   have ih:=zhe n l
   simp only [zgX] at ih
   simp only [zgX,List.map_cons,zew,List.find?_cons]
   by_cases h : n = k
   ·simp [h]
   ·have h' : ¬ k = n:=fun e=>h e.symm
    simp [h,h',ih]
def MapR (rows : List (List AV)) (φ : Int → Option AV) : Prop:=∃ l : List (Int × AV),rows = zgX l ∧ (l.map (·.1)).Nodup ∧ ∀ n,zew n rows = φ n
theorem MapR.find {rows : List (List AV)} {φ : Int → Option AV} (h : MapR rows φ) (n : Int) : zew n rows = φ n:=by
 obtain ⟨_,_,_,h⟩:=h
 exact h n
theorem MapR.nil : MapR [] fun _=>none:=⟨[],rfl,by simp,fun _=>rfl⟩
theorem zmm (n : Int) (y : AV) : ∀ l : List (Int × AV),∃ l',mset n y (zgX l) = zgX l' ∧ (∀ k,k ∈ l'.map (·.1) ↔ k = n ∨ k ∈ l.map (·.1)) ∧ ((l.map (·.1)).Nodup → (l'.map (·.1)).Nodup) ∧ ∀ k,zew k (zgX l') = if k = n then some y else zew k (zgX l)
 | []=>⟨[(n,y)],rfl,by simp,by simp,fun k=>by simp [zgX,zew]⟩
 | (i,x) :: l=>by
   by_cases h : n = i
   ·subst h
    refine ⟨(n,y) :: l,by simp [zgX,mset],by simp,by simp,fun k=>?_⟩
    simp only [zgX,List.map_cons,zew]
    split <;> rfl
   ·obtain ⟨l',h1,h2,h3,h4⟩:=zmm n y l
    refine ⟨(i,x) :: l',?_,fun k=>?_,fun hn=>?_,fun k=>?_⟩
    ·simp only [zgX] at h1
     simp [zgX,mset,h,h1]
    ·simp only [List.map_cons,List.mem_cons,h2]
     constructor
     ·rintro (h | h | h) <;> simp [h]
     ·rintro (h | h | h) <;> simp [h]
    ·rw [List.map_cons,List.nodup_cons] at hn ⊢
     exact ⟨fun hm=>((h2 i).1 hm).elim (fun e=>h e.symm) hn.1,h3 hn.2⟩
    ·have h4:=h4 k
     simp only [zgX] at h4
     simp only [zgX,List.map_cons,zew,h4]
     by_cases hk : k = i
     ·subst hk
      simp [show ¬ k = n from fun e=>h e.symm]
     ·simp [hk]
theorem MapR.set {rows : List (List AV)} {φ : Int → Option AV} (h : MapR rows φ) (n : Int) (y : AV) : MapR (mset n y rows) fun k=>if k = n then some y else φ k:=by
 obtain ⟨l,rfl,hn,hf⟩:=h
 obtain ⟨l',h1,_,h3,h4⟩:=zmm n y l
 exact ⟨l',h1,h3 hn,fun k=>by rw [h1,h4,hf]⟩
end Go.Proofs.YthmaflecfppoiaaGreat
