/- Texts of this claim,merged. -/
import Derived.Test.YthmaflecfppoiaaGreatRq12
import Derived.Test.YthmaflecfppoiaaGreatRq11
import Derived.Test.YthmaflecfppoiaaGreatRq10
import Derived.Test.YthmaflecfppoiaaGreatRq9
set_option linter.unusedSimpArgs false
set_option linter.unusedVariables false
set_option linter.unusedSectionVars false
namespace Go.Proofs.YthmaflecfppoiaaGreat
open Go
section
variable {P : Program} {np id : Nat} {h : Nat→Option Ent} {K : AV→List Nat→List (Nat × Option Ent)→Prop} {f : FuncId} {first capt args args' : List AV} {res : AV}
theorem zmm {i j : Nat} {e1 e2 e1' e2' : Ent} {hs' : List (Option Ent)} (hij : i≠j) (h1 : h i=some e1) (h2 : h j=some e2) (he1 : zax [(i,0),(j,1)] [] h 4 e1=e1') (he2 : zax [(i,0),(j,1)] [] h 4 e2=e2')
  (hc : zai P f args' [e1',e2'] res hs') (h8 : hs'.length≤10) (he : (first++args++capt).map (conv [(i,0),(j,1)] [] h 4)=args')
  (hk : K (conv (swp [i,j] id) [] (fun _=>none) 4 res) [i,j] (hs'.zipIdx.map fun (e,k)=>((i::j::(List.range 8).map (id + ·)).getD k 0,e.map (zax (swp [i,j] id) [] (fun _=>none) 4)))) : aK P np id .call (.fn (.func f) first capt::args) h K :=
 ⟨[i,j],[],true,args',[e1',e2'],res,hs',by simp [hij],by simp,by simp,by rw [show [i,j].zipIdx=[(i,0),(j,1)] from rfl,he]; exact zbU _,by
  rw [show [i,j].zipIdx=[(i,0),(j,1)] from rfl]
  simp only [List.map_cons,List.map_nil,h1,h2,Option.map_some,he1,he2],hc,by simpa using h8,.inl rfl,by simpa [swp] using hk⟩
end
theorem zb4 (k : Int) (h : 0≤k) (h2 : k≤1000000) : zai Tryz.prog zbQ [.I k] [] (.I (2+2*k)) []:=by
 refine zpo.acalls (nbz rfl) (nbz rfl) (Nat.le_refl _) ?_
 show awp _ 0 _ _ ⟨6,[(0,.I k)],[],16⟩
 have hw1 : IntKind.i64.wrap (2*k)=2*k:=w64 (by omega) (by omega)
 have hw2 : IntKind.i64.wrap (2+2*k)=2+2*k:=w64 (by omega) (by omega)
 refine rx (s:=?s1) [0] [] [] rfl ?o1 ?q1
 case o1=>simp; rfl
 refine rx (s:=?s2) [2] [] [] rfl ?o2 ?q2
 case o2=>simp [hw1,hw2]; rfl
 refine zag ?_
 exact ⟨.inr rfl,zak.one (by simp)⟩
theorem zhS (k : Int) (h : 0≤k) (h2 : k≤1000000) : zai Tryz.prog zfy [.I k] [] (.I (3+2*k)) []:=by
 refine zqH.acalls (nbz rfl) (nbz rfl) (Nat.le_refl _) ?_
 show awp _ 0 _ _ ⟨_,[(0,.I k)],[],16⟩
 have hw2 : IntKind.i64.wrap (2+2*k+1)=3+2*k:=by rw [w64 (by omega) (by omega)]; omega
 refine rx (s:=?s1) [0] [] [] rfl ?o1 ?q1
 case o1=>simp; rfl
 refine rx (s:=?s2) [2] [] [] rfl ?o2 ?q2
 case o2=>simp; refine zaj (zb4 k h h2) (by simp) ?_; simp [hw2]; rfl
 refine zag ?_
 exact ⟨.inr rfl,zak.one (by simp)⟩
theorem zdB (k : Int) (h : 0≤k) (h2 : k≤1000000) : zai Tryz.prog zcO [.I k] [] (.I (2+2*k)) []:=by
 refine zpK.acalls (nbz rfl) (nbz rfl) (Nat.le_refl _) ?_
 show awp _ 0 _ _ ⟨_,[(0,.I k)],[],16⟩
 have hw1 : IntKind.i64.wrap (2*k)=2*k:=w64 (by omega) (by omega)
 have hw2 : IntKind.i64.wrap (2+2*k)=2+2*k:=w64 (by omega) (by omega)
 refine rx (s:=?s1) [0] [] [] rfl ?o1 ?q1
 case o1=>simp; rfl
 refine rx (s:=?s2) [2] [] [] rfl ?o2 ?q2
 case o2=>simp [hw1,hw2]; rfl
 refine zag ?_
 exact ⟨.inr rfl,zak.one (by simp)⟩
theorem zhL (k : Int) (h : 0≤k) (h2 : k≤1000000) : zai Tryz.prog zfG [.I k] [] (.I (3+2*k)) []:=by
 refine zqr.acalls (nbz rfl) (nbz rfl) (Nat.le_refl _) ?_
 show awp _ 0 _ _ ⟨_,[(0,.I k)],[],16⟩
 have hw1 : IntKind.i64.wrap (2*k)=2*k:=w64 (by omega) (by omega)
 have hw2 : IntKind.i64.wrap (3+2*k)=3+2*k:=w64 (by omega) (by omega)
 refine rx (s:=?s1) [0] [] [] rfl ?o1 ?q1
 case o1=>simp; rfl
 refine rx (s:=?s2) [2] [] [] rfl ?o2 ?q2
 case o2=>simp [hw1,hw2]; rfl
 refine zag ?_
 exact ⟨.inr rfl,zak.one (by simp)⟩
abbrev outV (N : Int) (B n : Nat) : Ent:=⟨2,[[.I N,.rs B 0 n]],0⟩
theorem zrv (N f t v : Int) (L : List Ed) (n : Nat) (hL : L.length=n) (hn : n≤1000000) : zai Tryz.prog zaI [.I f,.I t,.I v,.pt 0 0 0] [outV N 1 n,⟨3,za6 L,0⟩] (.tup []) [some (outV N 2 (n+1)),none,some ⟨3,za6 (L++[⟨f,t,v⟩]),0⟩]:=by
 refine zi5.acalls (nbz rfl) (nbz rfl) (nbz rfl) ?_
 show awp _ 2 _ _ ⟨16,[(0,.I f),(1,.I t),(2,.I v),(3,.pt 0 0 0)],[(0,some (outV N 1 n)),(1,some ⟨3,za6 L,0⟩)],16⟩
 have htl : ∀ f : Ed→List AV,List.take n (List.map f L)=List.map f L:=fun f=>List.take_of_length_le (by simp [hL])
 refine zae (s:=?s1) rfl ?o1 ?q1
 case o1=>simp [hL,htl]; refine ⟨by omega,by omega,?_⟩; rfl
 refine ⟨.inl rfl,⟨[],rfl,[72],[],by simp [List.range,List.range.loop],by simp,by simp,by simp,?_⟩⟩
 simp [List.range,List.range.loop]
def arc1 (c : List Int) (x : Int) : List Ed:=if 0<c.getD x.toNat 0 then [⟨0,2+2*x,c.getD x.toNat 0⟩] else []
def arc2 (c : List Int) (i : Nat) : List Ed:=if 0<c.getD i 0 then [⟨2+2*(i : Int),3+2*(i : Int),c.getD i 0 - 1⟩] else []
def arc3 (c : List Int) (x : Int) : List Ed:=if 0<c.getD x.toNat 0 then [⟨2+2*x,1,1⟩] else []
def arc4 (c : List Int) (e : Ed) : List Ed:=if 0<c.getD e.f.toNat 0 then [⟨3+2*e.f,2+2*e.t,64⟩] else []
theorem zcX {α : Type} (q : α→Bool) (f : α→Ed) (l : List α) : (l.filter q).map f=l.flatMap fun x=>if q x=true then [f x] else []:=by
 induction l with
 | nil=>rfl
 | cons x l ih=>by_cases h : q x=true <;> simp [h,ih]
theorem zgu (g : Gr) (p : Pol) (c sinks : List Int) : za9 g p c sinks=p.seeds.flatMap (arc1 c)++(List.range c.length).flatMap (arc2 c)++sinks.flatMap (arc3 c)++(zao g p.lv).edges.flatMap (arc4 c):=by
 unfold za9
 rw [zcX,zcX,zcX,zcX]
 simp only [decide_eq_true_eq]
 rfl
theorem zdL {α : Type} (f : α→List Ed) (l : List α) (i : Nat) (h : i<l.length) : (l.take (i+1)).flatMap f=(l.take i).flatMap f++f l[i]:=by
 rw [List.take_succ_eq_append_getElem h,List.flatMap_append]
 simp
theorem zci {α : Type} (f : α→List Ed) (hf : ∀ x,(f x).length≤1) (l : List α) : (l.flatMap f).length≤l.length:=by
 induction l with
 | nil=>simp
 | cons x l ih=>rw [List.flatMap_cons,List.length_append,List.length_cons]; have:=hf x; omega
theorem zhE (c : List Int) (x : Int) : (arc1 c x).length≤1:=by unfold arc1; split <;> simp
theorem zh4 (c : List Int) (x : Nat) : (arc2 c x).length≤1:=by unfold arc2; split <;> simp
theorem zis (c : List Int) (x : Int) : (arc3 c x).length≤1:=by unfold arc3; split <;> simp
theorem zhF (c : List Int) (x : Ed) : (arc4 c x).length≤1:=by unfold arc4; split <;> simp
theorem zbD {α : Type} (f : α→List Ed) (hf : ∀ x,(f x).length≤1) (l : List α) (i : Nat) : ((l.take i).flatMap f).length≤l.length:=Nat.le_trans (zci f hf _) (List.length_take_le' i l)
set_option maxRecDepth 100000 in
set_option maxHeartbeats 4000000 in
theorem zjS (g : Gr) (p : Pol) (sinks : List Int) (hg : GrOk g) (hp : za3 g.size p) (hr : Rise sinks 0 (g.size - 1)) (hs : p.seeds.length≤64) (hsl : sinks.length≤64) :
  zai Tryz.prog zfa [eG g,eP p,ints sinks] [] (.tup [eN ⟨2+2*g.size,za9 g p (zaP g p) sinks⟩,.I 0]) []:=by
 refine zlI.acalls (nbz rfl) (nbz rfl) (Nat.le_refl _) ?_
 show awp _ 0 _ _ ⟨123,[(0,eG g),(1,eP p),(2,ints sinks)],[],16⟩
 have hsz:=hg.1.1
 have hsz2:=hg.1.2.1
 have hel:=hg.edges_le
 have hgl:=hg.gone_le
 have hchk:=zdv g p (by omega) (by omega) (by omega) (by have:=hp.2.2.2.1; omega)
 rw [if_pos hg,if_pos hp] at hchk
 have hcap:=zll g p hg (by omega)
 have hcb:=zkT (g:=g) hp
 have hcl : (zaP g p).length=g.size.toNat:=zb1
 rw [← hcl] at hcap
 have hlev:=zdz g p.lv (by omega) (by omega)
 rw [zgu]
 obtain ⟨C,hC⟩ : ∃ C,C=zaP g p:=⟨_,rfl⟩
 rw [← hC] at hcap hcl hcb ⊢
 have hGe : ∀ e∈(zao g p.lv).edges,e∈g.edges:=fun e he=>(List.mem_filter.1 he).1
 have hGl : (zao g p.lv).edges.length≤500:=Nat.le_trans (List.length_filter_le ..) hel
 obtain ⟨G,hG⟩ : ∃ G,G=zao g p.lv:=⟨_,rfl⟩
 rw [← hG] at hlev hGe hGl ⊢
 have hw1 : IntKind.i64.wrap (g.size - 1)=g.size - 1:=w64 (by omega) (by omega)
 have hfit : ∀ e∈G.edges,(0≤e.f∧e.f<g.size)∧(0≤e.t∧e.t<g.size):=fun e he=>by
  have:=hg.fits e (hGe e he)
  unfold Fits at this
  omega
 have hkey : ∀ k : Int,0≤k→k<g.size → ∃ j : Nat,k=j∧j<C.length∧j<64:=fun k h0 h1=>⟨k.toNat,by omega,by omega,by omega⟩
 have hseed : ∀ k∈p.seeds,∃ j : Nat,k=j∧j<C.length∧j<64:=fun k hk=>by
  obtain ⟨i,hi,rfl⟩:=List.getElem_of_mem hk
  have:=hp.2.1 i hi
  exact hkey _ (by omega) (by omega)
 have hsink : ∀ k∈sinks,∃ j : Nat,k=j∧j<C.length∧j<64:=fun k hk=>by
  obtain ⟨i,hi,rfl⟩:=List.getElem_of_mem hk
  have:=hr i hi
  exact hkey _ (by omega) (by omega)
 refine zaa ⟨123,[(2,ints sinks),(3,.pv (gC g)),(4,.pv (pC p)),(6,.pt 32 0 0)],[(32,some ⟨2,[[.I 0,.nilS]],0⟩)],48⟩ rfl ?_ ?_
 ·simp
  exact LeH [(32,32)] [16,24]
 refine zab ?_
 refine rk (s:=?s2) [2,3,4,6,8] [32] rfl ?o2 ?q2
 case o2=>simp; refine zaj hchk (by simp) ?_; simp; rfl
 refine rk (s:=?s3) [2,3,4,6,24] [32] rfl ?o3 ?q3
 case o3=>simp; rfl
 refine zac _ rfl (fun h4=>?_) fun h4=>zad ?_
 ·simp at h4
 refine zab ?_
 refine rk (s:=?s5) [2,3,4,6,32] [32] rfl ?o5 ?q5
 case o5=>simp [hw1]; refine zaj (zeA sinks 0 (g.size - 1) (by omega)) (by simp) ?_; simp [hr]; rfl
 refine zac _ rfl (fun h6=>?_) fun h6=>zad ?_
 ·simp at h6
 refine rk (s:=?s7) [2,3,4,6,9] [32,176] rfl ?o7 ?q7
 case o7=>simp; refine zaj (zb4 g.size hsz (by omega)) (by simp) ?_; simp; rfl
 obtain ⟨N,hN⟩ : ∃ N : Int,N=2+2*g.size:=⟨_,rfl⟩
 simp only [← hN]
 refine rk (s:=?s8) [2,3,4,6,9,10] [32,176] rfl ?o8 ?q8
 case o8=>simp; rfl
 refine zaa ⟨123,[(2,ints sinks),(3,.pv (gC g)),(4,.pv (pC p)),(6,.pt 32 0 0),(9,.pt 176 0 0),(10,.fn (.func zaI) [] [.pt 176 0 0]),(11,ints C)],[(32,some ⟨2,[[.I 0,.nilS]],0⟩),(176,some ⟨2,[[.I N,.nilS]],0⟩)],240⟩ rfl ?_ ?_
 ·simp
  refine zaY hcap (by simp) ?_
  simp [fcd]
  exact Le.go [(32,32),(176,176)] [224] rfl rfl (by simp [fcd,zap]) (by simp)
 have hb1 : (p.seeds.flatMap (arc1 C)).length≤64:=Nat.le_trans (zci _ (zhE C) _) hs
 have hb2 : ((List.range C.length).flatMap (arc2 C)).length≤64:=Nat.le_trans (zci _ (zh4 C) _) (by rw [List.length_range]; omega)
 have hb3 : (sinks.flatMap (arc3 C)).length≤64:=Nat.le_trans (zci _ (zis C) _) hsl
 have hb4 : (G.edges.flatMap (arc4 C)).length≤500:=Nat.le_trans (zci _ (zhF C) _) hGl
 obtain ⟨X1,hX1⟩ : ∃ X,X=p.seeds.flatMap (arc1 C):=⟨_,rfl⟩
 obtain ⟨X2,hX2⟩ : ∃ X,X=(List.range C.length).flatMap (arc2 C):=⟨_,rfl⟩
 obtain ⟨X3,hX3⟩ : ∃ X,X=sinks.flatMap (arc3 C):=⟨_,rfl⟩
 obtain ⟨X4,hX4⟩ : ∃ X,X=G.edges.flatMap (arc4 C):=⟨_,rfl⟩
 obtain ⟨Z2,hZ2⟩ : ∃ Z,Z=X1++X2:=⟨_,rfl⟩
 obtain ⟨Z3,hZ3⟩ : ∃ Z,Z=Z2++X3:=⟨_,rfl⟩
 obtain ⟨Z4,hZ4⟩ : ∃ Z,Z=Z3++X4:=⟨_,rfl⟩
 rw [← hX1] at hb1
 rw [← hX2] at hb2
 rw [← hX3] at hb3
 rw [← hX4] at hb4
 rw [← hX1,← hX2,← hX3,← hX4,← hZ2,← hZ3,← hZ4]
 have hz2 : Z2.length≤128:=by rw [hZ2,List.length_append]; omega
 have hz3 : Z3.length≤192:=by rw [hZ3,List.length_append]; omega
 refine zab ?_
 refine rk (s:=?sa1) [2,3,4,6,9,10,11,43,44,45] [32,176] rfl ?oa1 ?qa1
 case oa1=>simp; rfl
 refine zaf ?_
 obtain ⟨Fa,Fa0,Fas,Fal,FaN⟩ : ∃ F : Nat→List Ed,F 0=[]∧(∀ i (h : i<(p.seeds).length),F (i+1)=F i++arc1 C (p.seeds)[i])∧(∀ i,(F i).length≤64)∧F (p.seeds).length=(p.seeds).flatMap (arc1 C) :=
  ⟨fun i=>((p.seeds).take i).flatMap (arc1 C),by simp,fun i h=>by simp only [zdL _ _ i h,List.append_assoc],fun i=>by have:=zbD _ (zhE C) (p.seeds) i; exact Nat.le_trans this hs,by simp⟩
 rw [← hX1] at FaN
 refine zan (ι:=Nat) (fun i=>⟨123,[(2,ints sinks),(3,.pv (gC g)),(4,.pv (pC p)),(6,.pt 32 0 0),(9,.pt 176 0 0),(10,.fn (.func zaI) [] [.pt 176 0 0]),(11,ints C),(43,ints p.seeds),(44,.I p.seeds.length),(45,.I i)],[(32,some ⟨2,[[.I 0,.nilS]],0⟩),(176,some (outV N 16 (Fa i).length)),(16,some ⟨3,za6 (Fa i),0⟩)],272⟩) (fun i=>i≤p.seeds.length) (fun i=>p.seeds.length - i) 0 (Nat.zero_le _) (Le.lst [(32,32),(176,176)] [] [(16,3)] rfl (by simp) (by simp) (by simp) (by simp) (by simp) (by simp) (by simp) (by simp [Up]) (by simp [Fa0]; refine ⟨zaH.rfl' (by simp),zaH.row rfl (by omega) (by simp [UpL,Up])⟩)) ?_
 intro i hi
 refine rk (s:=?sa2) [2,3,4,6,9,10,11,43,44,45,46] [32,176,16] rfl ?oa2 ?qa2
 case oa2=>simp; rfl
 refine zab ?_
 refine zac _ rfl (fun h7=>?_) fun h7=>?_
 ·simp at h7
  have hw : IntKind.i64.wrap ((i : Int)+1)=(i : Int)+1:=w64 (by omega) (by omega)
  have hFi:=Fal i
  obtain ⟨k,hk,hkC,hk64⟩:=hseed _ (List.getElem_mem h7)
  have hFn : Fa (i+1)=Fa i++if 0<C[k] then [⟨0,2+2*(k : Int),C[k]⟩] else []:=by
   rw [Fas i h7,hk]
   unfold arc1
   simp [hkC]
  refine zad ?_
  refine zaK (ι:=Unit) (fun _=>⟨123,[(2,ints sinks),(3,.pv (gC g)),(4,.pv (pC p)),(6,.pt 32 0 0),(9,.pt 176 0 0),(10,.fn (.func zaI) [] [.pt 176 0 0]),(11,ints C),(43,ints p.seeds),(44,.I p.seeds.length),(45,.I i)],[(32,some ⟨2,[[.I 0,.nilS]],0⟩),(176,some (outV N 16 (Fa (i+1)).length)),(16,some ⟨3,za6 (Fa (i+1)),0⟩)],700⟩) (fun _=>True) ?_ fun _ _=>?_
  ·refine zaf ?_
   refine rk (s:=?sa3) [2,3,4,6,9,10,11,13,43,44,45] [32,176,16] rfl ?oa3 ?qa3
   case oa3=>simp [h7,hk]; rfl
   refine rk (s:=?sa4) [2,3,4,6,9,10,11,13,43,44,45,53] [32,176,16] rfl ?oa4 ?qa4
   case oa4=>simp [hkC]; rfl
   refine zac _ rfl (fun h8=>?_) fun h8=>?_
   ·simp at h8
    rw [if_pos h8] at hFn
    refine zbG rfl ?_
    simp [hkC]
    refine zaj (zb4 k (by omega) (by omega)) (by simp) ?_
    simp [hkC]
    refine zmm (i:=176) (j:=16) (by decide) rfl rfl (e1':=outV N 1 (Fa i).length) (e2':=⟨3,za6 (Fa i),0⟩) (by simp) (by simp [fcd]) (zrv N 0 (2+2*(k : Int)) C[k] (Fa i) _ rfl (by omega)) (by simp) (by simp) ?_
    simp [fcd]
    exact ⟨rfl,Le.go [(32,32),(176,176),(400,16)] [] rfl rfl (by simp [hFn]) (by simp [hFn,fcd])⟩
   ·simp at h8
    rw [if_neg (by omega)] at hFn
    refine zad ?_
    exact ⟨(),trivial,Le.go [(32,32),(176,176),(16,16)] [] rfl rfl (by simp [hFn]) (by simp [hFn,fcd])⟩
  refine zae (s:=?sa9) rfl ?oa9 ?qa9
  case oa9=>simp; rfl
  exact ⟨i+1,by omega,by omega,Le.go [(32,32),(176,176),(16,16)] [] rfl rfl (by simp [hw]) (by simp [fcd])⟩
 simp at h7
 obtain rfl : i=p.seeds.length:=by omega
 rw [FaN]
 refine zal ?_
 refine hit ?_
 refine zab ?_
 refine rk (s:=?sb1) [2,3,4,6,9,10,11,63,64,65] [32,176,16] rfl ?ob1 ?qb1
 case ob1=>simp; rfl
 refine zaf ?_
 obtain ⟨Fb,Fb0,Fbs,Fbl,FbN⟩ : ∃ F : Nat→List Ed,F 0=X1∧(∀ i (h : i<(List.range C.length).length),F (i+1)=F i++arc2 C (List.range C.length)[i])∧(∀ i,(F i).length≤200)∧F (List.range C.length).length=X1++(List.range C.length).flatMap (arc2 C) :=
  ⟨fun i=>X1++((List.range C.length).take i).flatMap (arc2 C),by simp,fun i h=>by simp only [zdL _ _ i h,List.append_assoc],fun i=>by have:=zbD _ (zh4 C) (List.range C.length) i; rw [List.length_range] at this; rw [List.length_append]; omega,by simp⟩
 rw [List.length_range,← hX2,← hZ2] at FbN
 refine zan (ι:=Nat) (fun i=>⟨123,[(2,ints sinks),(3,.pv (gC g)),(4,.pv (pC p)),(6,.pt 32 0 0),(9,.pt 176 0 0),(10,.fn (.func zaI) [] [.pt 176 0 0]),(11,ints C),(63,ints C),(64,.I C.length),(65,.I i)],[(32,some ⟨2,[[.I 0,.nilS]],0⟩),(176,some (outV N 16 (Fb i).length)),(16,some ⟨3,za6 (Fb i),0⟩)],304⟩) (fun i=>i≤C.length) (fun i=>C.length - i) 0 (Nat.zero_le _) (Le.go [(32,32),(176,176),(16,16)] [] rfl rfl (by simp [Fb0]) (by simp [Fb0,fcd])) ?_
 intro i hi
 refine rk (s:=?sb2) [2,3,4,6,9,10,11,63,64,65,66] [32,176,16] rfl ?ob2 ?qb2
 case ob2=>simp; rfl
 refine zab ?_
 refine zac _ rfl (fun h7=>?_) fun h7=>?_
 ·simp at h7
  have hw : IntKind.i64.wrap ((i : Int)+1)=(i : Int)+1:=w64 (by omega) (by omega)
  have hFi:=Fbl i
  have hkC:=h7
  have hFn : Fb (i+1)=Fb i++if 0<C[i] then [⟨2+2*(i : Int),3+2*(i : Int),C[i] - 1⟩] else []:=by
   rw [Fbs i (by simpa using h7)]
   unfold arc2
   simp [hkC]
  have hci:=hcb _ (List.getElem_mem h7)
  have hwc : IntKind.i64.wrap (C[i] - 1)=C[i] - 1:=w64 (by omega) (by omega)
  refine zad ?_
  refine zaK (ι:=Unit) (fun _=>⟨123,[(2,ints sinks),(3,.pv (gC g)),(4,.pv (pC p)),(6,.pt 32 0 0),(9,.pt 176 0 0),(10,.fn (.func zaI) [] [.pt 176 0 0]),(11,ints C),(63,ints C),(64,.I C.length),(65,.I i)],[(32,some ⟨2,[[.I 0,.nilS]],0⟩),(176,some (outV N 16 (Fb (i+1)).length)),(16,some ⟨3,za6 (Fb (i+1)),0⟩)],700⟩) (fun _=>True) ?_ fun _ _=>?_
  ·refine zaf ?_
   refine rk (s:=?sb3) [2,3,4,6,9,10,11,14,15,63,64,65] [32,176,16] rfl ?ob3 ?qb3
   case ob3=>simp [h7]; rfl
   refine rk (s:=?sb4) [2,3,4,6,9,10,11,14,15,63,64,65,71] [32,176,16] rfl ?ob4 ?qb4
   case ob4=>simp [hkC]; rfl
   refine zac _ rfl (fun h8=>?_) fun h8=>?_
   ·simp at h8
    rw [if_pos h8] at hFn
    refine zar rfl ?_
    simp [hkC]
    refine zaj (zb4 i (by omega) (by omega)) (by simp) ?_
    simp [hkC,hwc]
    refine zaj (zhS i (by omega) (by omega)) (by simp) ?_
    simp [hkC,hwc]
    refine zmm (i:=176) (j:=16) (by decide) rfl rfl (e1':=outV N 1 (Fb i).length) (e2':=⟨3,za6 (Fb i),0⟩) (by simp) (by simp [fcd]) (zrv N (2+2*(i : Int)) (3+2*(i : Int)) (C[i] - 1) (Fb i) _ rfl (by omega)) (by simp) (by simp) ?_
    simp [fcd]
    exact Le.go [(32,32),(176,176),(424,16)] [] rfl rfl (by simp [hFn]) (by simp [hFn,fcd])
   ·simp at h8
    rw [if_neg (by omega)] at hFn
    refine zad ?_
    exact ⟨(),trivial,Le.go [(32,32),(176,176),(16,16)] [] rfl rfl (by simp [hFn]) (by simp [hFn,fcd])⟩
  refine zae (s:=?sb9) rfl ?ob9 ?qb9
  case ob9=>simp; rfl
  exact ⟨i+1,by omega,by omega,Le.go [(32,32),(176,176),(16,16)] [] rfl rfl (by simp [hw]) (by simp [fcd])⟩
 simp at h7
 obtain rfl : i=C.length:=by omega
 rw [FbN]
 refine zal ?_
 refine hit ?_
 refine zab ?_
 refine rk (s:=?sc1) [3,4,6,9,10,11,81,82,83] [32,176,16] rfl ?oc1 ?qc1
 case oc1=>simp; rfl
 refine zaf ?_
 obtain ⟨Fc,Fc0,Fcs,Fcl,FcN⟩ : ∃ F : Nat→List Ed,F 0=Z2∧(∀ i (h : i<(sinks).length),F (i+1)=F i++arc3 C (sinks)[i])∧(∀ i,(F i).length≤300)∧F (sinks).length=Z2++(sinks).flatMap (arc3 C) :=
  ⟨fun i=>Z2++((sinks).take i).flatMap (arc3 C),by simp,fun i h=>by simp only [zdL _ _ i h,List.append_assoc],fun i=>by have:=zbD _ (zis C) (sinks) i; simp only [List.length_append]; omega,by simp⟩
 rw [← hX3,← hZ3] at FcN
 refine zan (ι:=Nat) (fun i=>⟨123,[(3,.pv (gC g)),(4,.pv (pC p)),(6,.pt 32 0 0),(9,.pt 176 0 0),(10,.fn (.func zaI) [] [.pt 176 0 0]),(11,ints C),(81,ints sinks),(82,.I sinks.length),(83,.I i)],[(32,some ⟨2,[[.I 0,.nilS]],0⟩),(176,some (outV N 16 (Fc i).length)),(16,some ⟨3,za6 (Fc i),0⟩)],336⟩) (fun i=>i≤sinks.length) (fun i=>sinks.length - i) 0 (Nat.zero_le _) (Le.go [(32,32),(176,176),(16,16)] [] rfl rfl (by simp [Fc0]) (by simp [Fc0,fcd])) ?_
 intro i hi
 refine rk (s:=?sc2) [3,4,6,9,10,11,81,82,83,84] [32,176,16] rfl ?oc2 ?qc2
 case oc2=>simp; rfl
 refine zab ?_
 refine zac _ rfl (fun h7=>?_) fun h7=>?_
 ·simp at h7
  have hw : IntKind.i64.wrap ((i : Int)+1)=(i : Int)+1:=w64 (by omega) (by omega)
  have hFi:=Fcl i
  obtain ⟨k,hk,hkC,hk64⟩:=hsink _ (List.getElem_mem h7)
  have hFn : Fc (i+1)=Fc i++if 0<C[k] then [⟨2+2*(k : Int),1,1⟩] else []:=by
   rw [Fcs i h7,hk]
   unfold arc3
   simp [hkC]
  refine zad ?_
  refine zaK (ι:=Unit) (fun _=>⟨123,[(3,.pv (gC g)),(4,.pv (pC p)),(6,.pt 32 0 0),(9,.pt 176 0 0),(10,.fn (.func zaI) [] [.pt 176 0 0]),(11,ints C),(81,ints sinks),(82,.I sinks.length),(83,.I i)],[(32,some ⟨2,[[.I 0,.nilS]],0⟩),(176,some (outV N 16 (Fc (i+1)).length)),(16,some ⟨3,za6 (Fc (i+1)),0⟩)],700⟩) (fun _=>True) ?_ fun _ _=>?_
  ·refine zaf ?_
   refine rk (s:=?sc3) [3,4,6,9,10,11,17,81,82,83] [32,176,16] rfl ?oc3 ?qc3
   case oc3=>simp [h7,hk]; rfl
   refine rk (s:=?sc4) [3,4,6,9,10,11,17,81,82,83,91] [32,176,16] rfl ?oc4 ?qc4
   case oc4=>simp [hkC]; rfl
   refine zac _ rfl (fun h8=>?_) fun h8=>?_
   ·simp at h8
    rw [if_pos h8] at hFn
    refine zar rfl ?_
    simp [hkC]
    refine zaj (zb4 k (by omega) (by omega)) (by simp) ?_
    simp [hkC]
    refine zmm (i:=176) (j:=16) (by decide) rfl rfl (e1':=outV N 1 (Fc i).length) (e2':=⟨3,za6 (Fc i),0⟩) (by simp) (by simp [fcd]) (zrv N (2+2*(k : Int)) 1 1 (Fc i) _ rfl (by omega)) (by simp) (by simp) ?_
    simp [fcd]
    exact Le.go [(32,32),(176,176),(432,16)] [] rfl rfl (by simp [hFn]) (by simp [hFn,fcd])
   ·simp at h8
    rw [if_neg (by omega)] at hFn
    refine zad ?_
    exact ⟨(),trivial,Le.go [(32,32),(176,176),(16,16)] [] rfl rfl (by simp [hFn]) (by simp [hFn,fcd])⟩
  refine zae (s:=?sc9) rfl ?oc9 ?qc9
  case oc9=>simp; rfl
  exact ⟨i+1,by omega,by omega,Le.go [(32,32),(176,176),(16,16)] [] rfl rfl (by simp [hw]) (by simp [fcd])⟩
 simp at h7
 obtain rfl : i=sinks.length:=by omega
 rw [FcN]
 refine zal ?_
 refine hit ?_
 refine zab ?_
 refine rk (s:=?sd1) [6,9,10,11,101,102,103] [32,176,16] rfl ?od1 ?qd1
 case od1=>simp; refine zaj hlev (by simp) ?_; simp; rfl
 refine zaf ?_
 obtain ⟨Fd,Fd0,Fds,Fdl,FdN⟩ : ∃ F : Nat→List Ed,F 0=Z3∧(∀ i (h : i<(G.edges).length),F (i+1)=F i++arc4 C (G.edges)[i])∧(∀ i,(F i).length≤900)∧F (G.edges).length=Z3++(G.edges).flatMap (arc4 C) :=
  ⟨fun i=>Z3++((G.edges).take i).flatMap (arc4 C),by simp,fun i h=>by simp only [zdL _ _ i h,List.append_assoc],fun i=>by have:=zbD _ (zhF C) (G.edges) i; simp only [List.length_append]; omega,by simp⟩
 rw [← hX4,← hZ4] at FdN
 refine zan (ι:=Nat) (fun i=>⟨123,[(6,.pt 32 0 0),(9,.pt 176 0 0),(10,.fn (.func zaI) [] [.pt 176 0 0]),(11,ints C),(101,eEs G.edges),(102,.I G.edges.length),(103,.I i)],[(32,some ⟨2,[[.I 0,.nilS]],0⟩),(176,some (outV N 16 (Fd i).length)),(16,some ⟨3,za6 (Fd i),0⟩)],400⟩) (fun i=>i≤G.edges.length) (fun i=>G.edges.length - i) 0 (Nat.zero_le _) (Le.go [(32,32),(176,176),(16,16)] [] rfl rfl (by simp [Fd0]) (by simp [Fd0,fcd])) ?_
 intro i hi
 refine rk (s:=?sd2) [6,9,10,11,101,102,103,104] [32,176,16] rfl ?od2 ?qd2
 case od2=>simp; rfl
 refine zab ?_
 refine zac _ rfl (fun h7=>?_) fun h7=>?_
 ·simp at h7
  have hw : IntKind.i64.wrap ((i : Int)+1)=(i : Int)+1:=w64 (by omega) (by omega)
  have hFi:=Fdl i
  obtain ⟨x,hx⟩ : ∃ x,x=G.edges[i]:=⟨_,rfl⟩
  have hfx:=hfit _ (List.getElem_mem h7)
  rw [← hx] at hfx
  obtain ⟨k,hk,hkC,hk64⟩:=hkey x.f hfx.1.1 hfx.1.2
  obtain ⟨u,hu,huC,hu64⟩:=hkey x.t hfx.2.1 hfx.2.2
  have hFn : Fd (i+1)=Fd i++if 0<C[k] then [⟨3+2*(k : Int),2+2*(u : Int),64⟩] else []:=by
   rw [Fds i h7,← hx]
   unfold arc4
   rw [hk,hu]
   simp [hkC]
  refine zad ?_
  refine zaK (ι:=Unit) (fun _=>⟨123,[(6,.pt 32 0 0),(9,.pt 176 0 0),(10,.fn (.func zaI) [] [.pt 176 0 0]),(11,ints C),(101,eEs G.edges),(102,.I G.edges.length),(103,.I i)],[(32,some ⟨2,[[.I 0,.nilS]],0⟩),(176,some (outV N 16 (Fd (i+1)).length)),(16,some ⟨3,za6 (Fd (i+1)),0⟩)],700⟩) (fun _=>True) ?_ fun _ _=>?_
  ·refine zaf ?_
   refine zaa ⟨123,[(6,.pt 32 0 0),(9,.pt 176 0 0),(10,.fn (.func zaI) [] [.pt 176 0 0]),(11,ints C),(19,.pv (eC x)),(101,eEs G.edges),(102,.I G.edges.length),(103,.I i)],[(32,some ⟨2,[[.I 0,.nilS]],0⟩),(176,some (outV N 16 (Fd i).length)),(16,some ⟨3,za6 (Fd i),0⟩)],440⟩ rfl ?_ ?_
   ·simp [h7,← hx]
    exact LeI [(32,32),(176,176),(16,16)] [424]
   refine rk (s:=?sd4) [6,9,10,11,19,101,102,103,112] [32,176,16] rfl ?od4 ?qd4
   case od4=>simp [hk,hkC]; rfl
   refine zac _ rfl (fun h8=>?_) fun h8=>?_
   ·simp at h8
    rw [if_pos h8] at hFn
    refine zbG rfl ?_
    simp [hk,hu]
    refine zaj (zhS k (by omega) (by omega)) (by simp) ?_
    simp [hkC]
    refine zaj (zb4 u (by omega) (by omega)) (by simp) ?_
    simp [hkC]
    refine zmm (i:=176) (j:=16) (by decide) rfl rfl (e1':=outV N 1 (Fd i).length) (e2':=⟨3,za6 (Fd i),0⟩) (by simp) (by simp [fcd]) (zrv N (3+2*(k : Int)) (2+2*(u : Int)) 64 (Fd i) _ rfl (by omega)) (by simp) (by simp) ?_
    simp [fcd]
    exact ⟨rfl,Le.go [(32,32),(176,176),(544,16)] [] rfl rfl (by simp [hFn]) (by simp [hFn,fcd])⟩
   ·simp at h8
    rw [if_neg (by omega)] at hFn
    refine zad ?_
    exact ⟨(),trivial,Le.go [(32,32),(176,176),(16,16)] [] rfl rfl (by simp [hFn]) (by simp [hFn,fcd])⟩
  refine zae (s:=?sd9) rfl ?od9 ?qd9
  case od9=>simp; rfl
  exact ⟨i+1,by omega,by omega,Le.go [(32,32),(176,176),(16,16)] [] rfl rfl (by simp [hw]) (by simp [fcd])⟩
 simp at h7
 obtain rfl : i=G.edges.length:=by omega
 rw [FdN]
 refine zal ?_
 refine hit ?_
 refine rk (s:=?sz) [6,7] [32,16] rfl ?oz ?qz
 case oz=>simp; rfl
 refine zag ?_
 exact ⟨.inr rfl,zak.out [] [16] rfl (by simp) (by simp) (by simp [hN,fcd,zap]) (by simp)⟩
set_option maxRecDepth 100000 in
set_option maxHeartbeats 4000000 in
theorem zdT (g : Gr) (p : Pol) (sinks : List Int) (hg : GrOk g) (hp : za3 g.size p) (hr : Rise sinks 0 (g.size - 1)) (hs : p.seeds.length≤64) (hsl : sinks.length≤64) :
  zai Tryz.prog zct [eG g,eP p,ints sinks] [] (.tup [eN ⟨2+2*g.size,za9 g p (zaP g p) sinks⟩,.I 0]) []:=by
 refine zlV.acalls (nbz rfl) (nbz rfl) (Nat.le_refl _) ?_
 show awp _ 0 _ _ ⟨158,[(0,eG g),(1,eP p),(2,ints sinks)],[],16⟩
 have hsz:=hg.1.1
 have hsz2:=hg.1.2.1
 have hel:=hg.edges_le
 have hgl:=hg.gone_le
 have hchk:=zeY g p (by omega) (by omega) (by omega) (by have:=hp.2.2.2.1; omega)
 rw [if_pos hg,if_pos hp] at hchk
 have hcb:=zkT (g:=g) hp
 have hcl : (zaP g p).length=g.size.toNat:=zb1
 have hlev:=zdy g p.lv (by omega) (by omega)
 rw [zgu]
 have hGe : ∀ e∈(zao g p.lv).edges,e∈g.edges:=fun e he=>(List.mem_filter.1 he).1
 have hGl : (zao g p.lv).edges.length≤500:=Nat.le_trans (List.length_filter_le ..) hel
 have hall:=zgg (zao g p.lv) p.seeds (hg.level p.lv) (by omega)
 have hcap:=zpp (zao g p.lv) p (hg.level p.lv) (by omega)
 have hcc : zaP (zao g p.lv) p=zaP g p:=by unfold zaP; rw [zov]
 rw [hcc] at hcap
 have hDC : ∀ k : Nat,k<g.size.toNat → ∀ (h1 : k<(zbL (zao g p.lv) p.seeds).length) (h2 : k<(zaP g p).length),0≤(zbL (zao g p.lv) p.seeds)[k]↔0<(zaP g p)[k]:=fun k hk h1 h2=>by
  have:=zo3 hp (d:=(zbL (zao g p.lv) p.seeds)[k])
  rw [← this]
  simp [zaP]
 have hDl : (zbL (zao g p.lv) p.seeds).length=g.size.toNat:=by simp [zbL,zao]
 have hGs : (zao g p.lv).size=g.size:=rfl
 rw [hGs] at hall hcap
 rw [← hcl] at hcap
 rw [← hDl] at hall
 obtain ⟨C,hC⟩ : ∃ C,C=zaP g p:=⟨_,rfl⟩
 obtain ⟨D,hD⟩ : ∃ D,D=zbL (zao g p.lv) p.seeds:=⟨_,rfl⟩
 rw [← hC] at hcap hcl hcb ⊢
 rw [← hD] at hall hDl
 simp only [← hC,← hD] at hDC
 have hDk : ∀ k : Nat,k<C.length→k<D.length:=fun k hk=>by omega
 have hDC' : ∀ (k : Nat) (h2 : k<C.length),0≤D[k]'(hDk k h2)↔0<C[k]:=fun k h2=>hDC k (by omega) (hDk k h2) h2
 obtain ⟨G,hG⟩ : ∃ G,G=zao g p.lv:=⟨_,rfl⟩
 rw [← hG] at hlev hGe hGl hall hcap hGs ⊢
 have hfit : ∀ e∈G.edges,(0≤e.f∧e.f<g.size)∧(0≤e.t∧e.t<g.size):=fun e he=>by
  have:=hg.fits e (hGe e he)
  unfold Fits at this
  omega
 have hkey : ∀ k : Int,0≤k→k<g.size → ∃ j : Nat,k=j∧j<C.length∧j<64:=fun k h0 h1=>⟨k.toNat,by omega,by omega,by omega⟩
 have hseed : ∀ k∈p.seeds,∃ j : Nat,k=j∧j<C.length∧j<64:=fun k hk=>by
  obtain ⟨i,hi,rfl⟩:=List.getElem_of_mem hk
  have:=hp.2.1 i hi
  exact hkey _ (by omega) (by omega)
 have hsink : ∀ k∈sinks,∃ j : Nat,k=j∧j<C.length∧j<64:=fun k hk=>by
  obtain ⟨i,hi,rfl⟩:=List.getElem_of_mem hk
  have:=hr i hi
  exact hkey _ (by omega) (by omega)
 have hw3 : IntKind.i64.wrap (2*g.size)=2*g.size:=w64 (by omega) (by omega)
 have hw4 : IntKind.i64.wrap (2+2*g.size)=2+2*g.size:=w64 (by omega) (by omega)
 refine zaa ⟨158,[(2,ints sinks),(3,.pt 16 0 0),(4,.pv (pC p)),(6,.pt 32 0 0)],[(16,some ⟨3,[gC g],0⟩),(32,some ⟨2,[[.I 0,.nilS]],0⟩)],48⟩ rfl ?_ ?_
 ·simp
  exact LeH [(16,16),(32,32)] [24]
 refine zab ?_
 refine rk (s:=?s2) [2,3,4,6,8] [16,32] rfl ?o2 ?q2
 case o2=>simp; refine zaj hchk (by simp) ?_; simp; rfl
 refine rk (s:=?s3) [2,3,4,6,22] [16,32] rfl ?o3 ?q3
 case o3=>simp; rfl
 refine zac _ rfl (fun h4=>?_) fun h4=>zad ?_
 ·simp at h4
 refine zab ?_
 refine rk (s:=?s5) [2,3,4,6,29] [16,32] rfl ?o5 ?q5
 case o5=>simp; refine zaj (zgq sinks g.size (by omega)) (by simp) ?_; simp [hr]; rfl
 refine zac _ rfl (fun h6=>?_) fun h6=>zad ?_
 ·simp at h6
 refine zaa ⟨158,[(2,ints sinks),(3,.pv (gC G)),(4,.pv (pC p)),(6,.pt 32 0 0)],[(32,some ⟨2,[[.I 0,.nilS]],0⟩)],176⟩ rfl ?_ ?_
 ·simp
  refine zaj hlev (by simp) ?_
  simp
  exact LeH [(32,32)] [16]
 refine zaq ⟨158,[(2,ints sinks),(3,.pv (gC G)),(4,.pv (pC p)),(6,.pt 32 0 0),(9,ints D),(10,ints C)],[(32,some ⟨2,[[.I 0,.nilS]],0⟩)],248⟩ rfl ?_ ?_
 ·simp
  refine zaY hall (by simp) ?_
  simp [fcd]
  refine zaY hcap (by simp) ?_
  simp [fcd]
  exact ⟨rfl,Le.go [(32,32)] [200,224] rfl rfl (by simp [fcd,zap]) (by simp)⟩
 refine rk (s:=?s7) [2,3,4,6,9,10,11] [32,288] rfl ?o7 ?q7
 case o7=>simp [hGs,hw3,hw4]; rfl
 obtain ⟨N,hN⟩ : ∃ N : Int,N=2+2*g.size:=⟨_,rfl⟩
 simp only [← hN]
 have hb1 : (p.seeds.flatMap (arc1 C)).length≤64:=Nat.le_trans (zci _ (zhE C) _) hs
 have hb2 : ((List.range C.length).flatMap (arc2 C)).length≤64:=Nat.le_trans (zci _ (zh4 C) _) (by rw [List.length_range]; omega)
 have hb3 : (sinks.flatMap (arc3 C)).length≤64:=Nat.le_trans (zci _ (zis C) _) hsl
 have hb4 : (G.edges.flatMap (arc4 C)).length≤500:=Nat.le_trans (zci _ (zhF C) _) hGl
 obtain ⟨X1,hX1⟩ : ∃ X,X=p.seeds.flatMap (arc1 C):=⟨_,rfl⟩
 obtain ⟨X2,hX2⟩ : ∃ X,X=(List.range C.length).flatMap (arc2 C):=⟨_,rfl⟩
 obtain ⟨X3,hX3⟩ : ∃ X,X=sinks.flatMap (arc3 C):=⟨_,rfl⟩
 obtain ⟨X4,hX4⟩ : ∃ X,X=G.edges.flatMap (arc4 C):=⟨_,rfl⟩
 obtain ⟨Z2,hZ2⟩ : ∃ Z,Z=X1++X2:=⟨_,rfl⟩
 obtain ⟨Z3,hZ3⟩ : ∃ Z,Z=Z2++X3:=⟨_,rfl⟩
 obtain ⟨Z4,hZ4⟩ : ∃ Z,Z=Z3++X4:=⟨_,rfl⟩
 rw [← hX1] at hb1
 rw [← hX2] at hb2
 rw [← hX3] at hb3
 rw [← hX4] at hb4
 rw [← hX1,← hX2,← hX3,← hX4,← hZ2,← hZ3,← hZ4]
 have hz2 : Z2.length≤128:=by rw [hZ2,List.length_append]; omega
 have hz3 : Z3.length≤192:=by rw [hZ3,List.length_append]; omega
 refine zab ?_
 refine rk (s:=?sa1) [2,3,4,6,9,10,11,12] [32,288] rfl ?oa1 ?qa1
 case oa1=>simp; rfl
 refine zaf ?_
 obtain ⟨Fa,Fa0,Fas,Fal,FaN⟩ : ∃ F : Nat→List Ed,F 0=[]∧(∀ i (h : i<(p.seeds).length),F (i+1)=F i++arc1 C (p.seeds)[i])∧(∀ i,(F i).length≤64)∧F (p.seeds).length=(p.seeds).flatMap (arc1 C) :=
  ⟨fun i=>((p.seeds).take i).flatMap (arc1 C),by simp,fun i h=>by simp only [zdL _ _ i h,List.append_assoc],fun i=>by have:=zbD _ (zhE C) (p.seeds) i; exact Nat.le_trans this hs,by simp⟩
 rw [← hX1] at FaN
 refine zan (ι:=Nat) (fun i=>⟨158,[(2,ints sinks),(3,.pv (gC G)),(4,.pv (pC p)),(6,.pt 32 0 0),(9,ints D),(10,ints C),(11,.pt 288 0 0),(12,.I i)],[(32,some ⟨2,[[.I 0,.nilS]],0⟩),(288,some (outV N 16 (Fa i).length)),(16,some ⟨3,za6 (Fa i),0⟩)],312⟩) (fun i=>i≤p.seeds.length) (fun i=>p.seeds.length - i) 0 (Nat.zero_le _) (Le.lst [(32,32),(288,288)] [] [(16,3)] rfl (by simp) (by simp) (by simp) (by simp) (by simp) (by simp) (by simp) (by simp [Up]) (by simp [Fa0]; refine ⟨zaH.rfl' (by simp),zaH.row rfl (by omega) (by simp [UpL,Up])⟩)) ?_
 intro i hi
 refine zab ?_
 refine rk (s:=?sa2) [2,3,4,6,9,10,11,12,51] [32,288,16] rfl ?oa2 ?qa2
 case oa2=>simp; rfl
 refine zac _ rfl (fun h7=>?_) fun h7=>?_
 ·simp at h7
  have hw : IntKind.i64.wrap ((i : Int)+1)=(i : Int)+1:=w64 (by omega) (by omega)
  have hFi:=Fal i
  obtain ⟨k,hk,hkC,hk64⟩:=hseed _ (List.getElem_mem h7)
  have hFn : Fa (i+1)=Fa i++if 0<C[k] then [⟨0,2+2*(k : Int),C[k]⟩] else []:=by
   rw [Fas i h7,hk]
   unfold arc1
   simp [hkC]
  have hkD:=hDk _ hkC
  have hdc:=hDC' _ hkC
  refine zad ?_
  refine zaK (ι:=Unit) (fun _=>⟨158,[(2,ints sinks),(3,.pv (gC G)),(4,.pv (pC p)),(6,.pt 32 0 0),(9,ints D),(10,ints C),(11,.pt 288 0 0),(12,.I i)],[(32,some ⟨2,[[.I 0,.nilS]],0⟩),(288,some (outV N 16 (Fa (i+1)).length)),(16,some ⟨3,za6 (Fa (i+1)),0⟩)],800⟩) (fun _=>True) ?_ fun _ _=>?_
  ·refine zaf ?_
   refine rk (s:=?sa3) [2,3,4,6,9,10,11,12,13] [32,288,16] rfl ?oa3 ?qa3
   case oa3=>simp [h7,hk]; rfl
   refine rk (s:=?sa4) [2,3,4,6,9,10,11,12,13,63] [32,288,16] rfl ?oa4 ?qa4
   case oa4=>simp [hkD]; rfl
   refine zac _ rfl (fun h8=>?_) fun h8=>?_
   ·simp at h8
    rw [if_pos (hdc.1 h8)] at hFn
    have htl : ∀ f : Ed→List AV,List.take (Fa i).length (List.map f (Fa i))=List.map f (Fa i):=fun f=>List.take_of_length_le (by simp)
    refine zbG rfl ?_
    simp [hkC]
    refine zaj (zdB k (by omega) (by omega)) (by simp) ?_
    simp [htl,hkC]
    refine ⟨by omega,by omega,?_⟩
    exact ⟨rfl,Le.go [(32,32),(288,288),(520,16)] [] rfl rfl (by simp [hFn]) (by simp [hFn,fcd])⟩
   ·simp at h8
    rw [if_neg (by omega)] at hFn
    refine zad ?_
    exact ⟨(),trivial,Le.go [(32,32),(288,288),(16,16)] [] rfl rfl (by simp [hFn]) (by simp [hFn,fcd])⟩
  refine zae (s:=?sa9) rfl ?oa9 ?qa9
  case oa9=>simp; rfl
  exact ⟨i+1,by omega,by omega,Le.go [(32,32),(288,288),(16,16)] [] rfl rfl (by simp [hw]) (by simp [fcd])⟩
 simp at h7
 obtain rfl : i=p.seeds.length:=by omega
 rw [FaN]
 refine zal ?_
 refine hit ?_
 refine zab ?_
 refine rk (s:=?sb1) [2,3,6,9,10,11,14] [32,288,16] rfl ?ob1 ?qb1
 case ob1=>simp; rfl
 refine zaf ?_
 obtain ⟨Fb,Fb0,Fbs,Fbl,FbN⟩ : ∃ F : Nat→List Ed,F 0=X1∧(∀ i (h : i<(List.range C.length).length),F (i+1)=F i++arc2 C (List.range C.length)[i])∧(∀ i,(F i).length≤200)∧F (List.range C.length).length=X1++(List.range C.length).flatMap (arc2 C) :=
  ⟨fun i=>X1++((List.range C.length).take i).flatMap (arc2 C),by simp,fun i h=>by simp only [zdL _ _ i h,List.append_assoc],fun i=>by have:=zbD _ (zh4 C) (List.range C.length) i; rw [List.length_range] at this; rw [List.length_append]; omega,by simp⟩
 rw [List.length_range,← hX2,← hZ2] at FbN
 refine zan (ι:=Nat) (fun i=>⟨158,[(2,ints sinks),(3,.pv (gC G)),(6,.pt 32 0 0),(9,ints D),(10,ints C),(11,.pt 288 0 0),(14,.I i)],[(32,some ⟨2,[[.I 0,.nilS]],0⟩),(288,some (outV N 16 (Fb i).length)),(16,some ⟨3,za6 (Fb i),0⟩)],360⟩) (fun i=>i≤C.length) (fun i=>C.length - i) 0 (Nat.zero_le _) (Le.go [(32,32),(288,288),(16,16)] [] rfl rfl (by simp [Fb0]) (by simp [Fb0,fcd])) ?_
 intro i hi
 refine zab ?_
 refine rk (s:=?sb2) [2,3,6,9,10,11,14,79] [32,288,16] rfl ?ob2 ?qb2
 case ob2=>simp; rfl
 refine zac _ rfl (fun h7=>?_) fun h7=>?_
 ·simp [hGs] at h7
  have hw : IntKind.i64.wrap ((i : Int)+1)=(i : Int)+1:=w64 (by omega) (by omega)
  have hFi:=Fbl i
  have hkC : i<C.length:=by omega
  have hFn : Fb (i+1)=Fb i++if 0<C[i] then [⟨2+2*(i : Int),3+2*(i : Int),C[i] - 1⟩] else []:=by
   rw [Fbs i (by simpa using hkC)]
   unfold arc2
   simp [hkC]
  have hci:=hcb _ (List.getElem_mem hkC)
  have hwc : IntKind.i64.wrap (C[i] - 1)=C[i] - 1:=w64 (by omega) (by omega)
  have hkD:=hDk _ hkC
  have hdc:=hDC' _ hkC
  refine zad ?_
  refine zaK (ι:=Unit) (fun _=>⟨158,[(2,ints sinks),(3,.pv (gC G)),(6,.pt 32 0 0),(9,ints D),(10,ints C),(11,.pt 288 0 0),(14,.I i)],[(32,some ⟨2,[[.I 0,.nilS]],0⟩),(288,some (outV N 16 (Fb (i+1)).length)),(16,some ⟨3,za6 (Fb (i+1)),0⟩)],800⟩) (fun _=>True) ?_ fun _ _=>?_
  ·refine zaf ?_
   refine rk (s:=?sb3) [2,3,6,9,10,11,14,86] [32,288,16] rfl ?ob3 ?qb3
   case ob3=>simp [hkD]; rfl
   refine zac _ rfl (fun h8=>?_) fun h8=>?_
   ·simp at h8
    rw [if_pos (hdc.1 h8)] at hFn
    have htl : ∀ f : Ed→List AV,List.take (Fb i).length (List.map f (Fb i))=List.map f (Fb i):=fun f=>List.take_of_length_le (by simp)
    refine zbG rfl ?_
    simp [hkC,hwc]
    refine zaj (zdB i (by omega) (by omega)) (by simp) ?_
    simp [htl,hkC,hwc]
    refine zaj (zhL i (by omega) (by omega)) (by simp) ?_
    simp [htl,hkC,hwc]
    refine ⟨by omega,by omega,?_⟩
    exact ⟨rfl,Le.go [(32,32),(288,288),(536,16)] [] rfl rfl (by simp [hFn]) (by simp [hFn,fcd])⟩
   ·simp at h8
    rw [if_neg (by omega)] at hFn
    refine zad ?_
    exact ⟨(),trivial,Le.go [(32,32),(288,288),(16,16)] [] rfl rfl (by simp [hFn]) (by simp [hFn,fcd])⟩
  refine zae (s:=?sb9) rfl ?ob9 ?qb9
  case ob9=>simp; rfl
  exact ⟨i+1,by omega,by omega,Le.go [(32,32),(288,288),(16,16)] [] rfl rfl (by simp [hw]) (by simp [fcd])⟩
 simp [hGs] at h7
 obtain rfl : i=C.length:=by omega
 rw [FbN]
 refine zal ?_
 refine hit ?_
 refine zab ?_
 refine rk (s:=?sc1) [2,3,6,9,11,15] [32,288,16] rfl ?oc1 ?qc1
 case oc1=>simp; rfl
 refine zaf ?_
 obtain ⟨Fc,Fc0,Fcs,Fcl,FcN⟩ : ∃ F : Nat→List Ed,F 0=Z2∧(∀ i (h : i<(sinks).length),F (i+1)=F i++arc3 C (sinks)[i])∧(∀ i,(F i).length≤300)∧F (sinks).length=Z2++(sinks).flatMap (arc3 C) :=
  ⟨fun i=>Z2++((sinks).take i).flatMap (arc3 C),by simp,fun i h=>by simp only [zdL _ _ i h,List.append_assoc],fun i=>by have:=zbD _ (zis C) (sinks) i; simp only [List.length_append]; omega,by simp⟩
 rw [← hX3,← hZ3] at FcN
 refine zan (ι:=Nat) (fun i=>⟨158,[(2,ints sinks),(3,.pv (gC G)),(6,.pt 32 0 0),(9,ints D),(11,.pt 288 0 0),(15,.I i)],[(32,some ⟨2,[[.I 0,.nilS]],0⟩),(288,some (outV N 16 (Fc i).length)),(16,some ⟨3,za6 (Fc i),0⟩)],400⟩) (fun i=>i≤sinks.length) (fun i=>sinks.length - i) 0 (Nat.zero_le _) (Le.go [(32,32),(288,288),(16,16)] [] rfl rfl (by simp [Fc0]) (by simp [Fc0,fcd])) ?_
 intro i hi
 refine zab ?_
 refine rk (s:=?sc2) [2,3,6,9,11,15,105] [32,288,16] rfl ?oc2 ?qc2
 case oc2=>simp; rfl
 refine zac _ rfl (fun h7=>?_) fun h7=>?_
 ·simp at h7
  have hw : IntKind.i64.wrap ((i : Int)+1)=(i : Int)+1:=w64 (by omega) (by omega)
  have hFi:=Fcl i
  obtain ⟨k,hk,hkC,hk64⟩:=hsink _ (List.getElem_mem h7)
  have hFn : Fc (i+1)=Fc i++if 0<C[k] then [⟨2+2*(k : Int),1,1⟩] else []:=by
   rw [Fcs i h7,hk]
   unfold arc3
   simp [hkC]
  have hkD:=hDk _ hkC
  have hdc:=hDC' _ hkC
  refine zad ?_
  refine zaK (ι:=Unit) (fun _=>⟨158,[(2,ints sinks),(3,.pv (gC G)),(6,.pt 32 0 0),(9,ints D),(11,.pt 288 0 0),(15,.I i)],[(32,some ⟨2,[[.I 0,.nilS]],0⟩),(288,some (outV N 16 (Fc (i+1)).length)),(16,some ⟨3,za6 (Fc (i+1)),0⟩)],800⟩) (fun _=>True) ?_ fun _ _=>?_
  ·refine zaf ?_
   refine rk (s:=?sc3) [2,3,6,9,11,15,115] [32,288,16] rfl ?oc3 ?qc3
   case oc3=>simp [h7,hk,hkD]; rfl
   refine zac _ rfl (fun h8=>?_) fun h8=>?_
   ·simp at h8
    rw [if_pos (hdc.1 h8)] at hFn
    have htl : ∀ f : Ed→List AV,List.take (Fc i).length (List.map f (Fc i))=List.map f (Fc i):=fun f=>List.take_of_length_le (by simp)
    refine zbG rfl ?_
    simp [h7,hk]
    refine zaj (zdB k (by omega) (by omega)) (by simp) ?_
    simp [htl,h7,hk]
    refine ⟨by omega,by omega,?_⟩
    exact ⟨rfl,Le.go [(32,32),(288,288),(568,16)] [] rfl rfl (by simp [hFn]) (by simp [hFn,fcd])⟩
   ·simp at h8
    rw [if_neg (by omega)] at hFn
    refine zad ?_
    exact ⟨(),trivial,Le.go [(32,32),(288,288),(16,16)] [] rfl rfl (by simp [hFn]) (by simp [hFn,fcd])⟩
  refine zae (s:=?sc9) rfl ?oc9 ?qc9
  case oc9=>simp; rfl
  exact ⟨i+1,by omega,by omega,Le.go [(32,32),(288,288),(16,16)] [] rfl rfl (by simp [hw]) (by simp [fcd])⟩
 simp at h7
 obtain rfl : i=sinks.length:=by omega
 rw [FcN]
 refine zal ?_
 refine hit ?_
 refine zab ?_
 refine rk (s:=?sd1) [3,6,9,11,16] [32,288,16] rfl ?od1 ?qd1
 case od1=>simp; rfl
 refine zaf ?_
 obtain ⟨Fd,Fd0,Fds,Fdl,FdN⟩ : ∃ F : Nat→List Ed,F 0=Z3∧(∀ i (h : i<(G.edges).length),F (i+1)=F i++arc4 C (G.edges)[i])∧(∀ i,(F i).length≤900)∧F (G.edges).length=Z3++(G.edges).flatMap (arc4 C) :=
  ⟨fun i=>Z3++((G.edges).take i).flatMap (arc4 C),by simp,fun i h=>by simp only [zdL _ _ i h,List.append_assoc],fun i=>by have:=zbD _ (zhF C) (G.edges) i; simp only [List.length_append]; omega,by simp⟩
 rw [← hX4,← hZ4] at FdN
 refine zan (ι:=Nat) (fun i=>⟨158,[(3,.pv (gC G)),(6,.pt 32 0 0),(9,ints D),(11,.pt 288 0 0),(16,.I i)],[(32,some ⟨2,[[.I 0,.nilS]],0⟩),(288,some (outV N 16 (Fd i).length)),(16,some ⟨3,za6 (Fd i),0⟩)],440⟩) (fun i=>i≤G.edges.length) (fun i=>G.edges.length - i) 0 (Nat.zero_le _) (Le.go [(32,32),(288,288),(16,16)] [] rfl rfl (by simp [Fd0]) (by simp [Fd0,fcd])) ?_
 intro i hi
 refine zab ?_
 refine rk (s:=?sd2) [3,6,9,11,16,131] [32,288,16] rfl ?od2 ?qd2
 case od2=>simp; rfl
 refine zac _ rfl (fun h7=>?_) fun h7=>?_
 ·simp at h7
  have hw : IntKind.i64.wrap ((i : Int)+1)=(i : Int)+1:=w64 (by omega) (by omega)
  have hFi:=Fdl i
  obtain ⟨x,hx⟩ : ∃ x,x=G.edges[i]:=⟨_,rfl⟩
  have hfx:=hfit _ (List.getElem_mem h7)
  rw [← hx] at hfx
  obtain ⟨k,hk,hkC,hk64⟩:=hkey x.f hfx.1.1 hfx.1.2
  obtain ⟨u,hu,huC,hu64⟩:=hkey x.t hfx.2.1 hfx.2.2
  have hFn : Fd (i+1)=Fd i++if 0<C[k] then [⟨3+2*(k : Int),2+2*(u : Int),64⟩] else []:=by
   rw [Fds i h7,← hx]
   unfold arc4
   rw [hk,hu]
   simp [hkC]
  have hkD:=hDk _ hkC
  have hdc:=hDC' _ hkC
  refine zad ?_
  refine zaK (ι:=Unit) (fun _=>⟨158,[(3,.pv (gC G)),(6,.pt 32 0 0),(9,ints D),(11,.pt 288 0 0),(16,.I i)],[(32,some ⟨2,[[.I 0,.nilS]],0⟩),(288,some (outV N 16 (Fd (i+1)).length)),(16,some ⟨3,za6 (Fd (i+1)),0⟩)],800⟩) (fun _=>True) ?_ fun _ _=>?_
  ·refine zaf ?_
   refine zaa ⟨158,[(3,.pv (gC G)),(6,.pt 32 0 0),(9,ints D),(11,.pt 288 0 0),(16,.I i),(17,.pv (eC x))],[(32,some ⟨2,[[.I 0,.nilS]],0⟩),(288,some (outV N 16 (Fd i).length)),(16,some ⟨3,za6 (Fd i),0⟩)],536⟩ rfl ?_ ?_
   ·simp [h7,← hx]
    exact LeI [(32,32),(288,288),(16,16)] [520]
   refine rk (s:=?sd4) [3,6,9,11,16,17,144] [32,288,16] rfl ?od4 ?qd4
   case od4=>simp [hk,hkD]; rfl
   refine zac _ rfl (fun h8=>?_) fun h8=>?_
   ·simp at h8
    rw [if_pos (hdc.1 h8)] at hFn
    have htl : ∀ f : Ed→List AV,List.take (Fd i).length (List.map f (Fd i))=List.map f (Fd i):=fun f=>List.take_of_length_le (by simp)
    refine zbG rfl ?_
    simp [hk,hu]
    refine zaj (zhL k (by omega) (by omega)) (by simp) ?_
    simp [htl,hk,hu]
    refine zaj (zdB u (by omega) (by omega)) (by simp) ?_
    simp [htl,hk,hu]
    refine ⟨by omega,by omega,?_⟩
    exact ⟨rfl,Le.go [(32,32),(288,288),(664,16)] [] rfl rfl (by simp [hFn]) (by simp [hFn,fcd])⟩
   ·simp at h8
    rw [if_neg (by omega)] at hFn
    refine zad ?_
    exact ⟨(),trivial,Le.go [(32,32),(288,288),(16,16)] [] rfl rfl (by simp [hFn]) (by simp [hFn,fcd])⟩
  refine zae (s:=?sd9) rfl ?od9 ?qd9
  case od9=>simp; rfl
  exact ⟨i+1,by omega,by omega,Le.go [(32,32),(288,288),(16,16)] [] rfl rfl (by simp [hw]) (by simp [fcd])⟩
 simp at h7
 obtain rfl : i=G.edges.length:=by omega
 rw [FdN]
 refine zal ?_
 refine hit ?_
 refine rk (s:=?sz) [6,7] [32,16] rfl ?oz ?qz
 case oz=>simp; rfl
 refine zag ?_
 exact ⟨.inr rfl,zak.out [] [16] rfl (by simp) (by simp) (by simp [hN,fcd,zap]) (by simp)⟩
instance (g : Gr) (lv f t : Int) : Decidable (zrt g lv f t):=by unfold zrt; infer_instance
theorem zde {a : List Int} {n : Int} (h : ∀ k∈a,0≤k∧k<n) : Rise (zau a) 0 (n - 1):=by
 intro i hi
 have hm:=zdN.1 (List.getElem_mem hi)
 have:=h _ hm.1
 refine ⟨by omega,by omega,fun hp=>?_⟩
 exact (List.pairwise_iff_getElem.1 (zgH a)) (i - 1) i (by omega) hi (by omega)
theorem zbN (a : List Int) : (zau a).length≤64:=Nat.le_trans (List.length_filter_le ..) (by simp)
theorem zpU (g : Gr) (p : Pol) (sinks : List Int) (hg : GrOk g) (hs : p.seeds.length≤64) (hsl : sinks.length≤64) : (za9 g p (zaP g p) sinks).length≤1000:=by
 rw [zgu]
 have h1:=zci _ (zhE (zaP g p)) p.seeds
 have h2:=zci _ (zh4 (zaP g p)) (List.range (zaP g p).length)
 have h3:=zci _ (zis (zaP g p)) sinks
 have h4:=zci _ (zhF (zaP g p)) (zao g p.lv).edges
 have h5 : (zao g p.lv).edges.length≤g.edges.length:=List.length_filter_le ..
 have h6:=hg.edges_le
 have h7:=hg.1.2.1
 have h8:=hg.1.1
 rw [List.length_range] at h2
 have h9 : (zaP g p).length=g.size.toNat:=zb1
 simp only [List.length_append]
 omega
def netN (g : Gr) : Nat:=(2+2*g.size).toNat
theorem zfk {g : Gr} (hg : GrOk g) : ((netN g : Nat) : Int)=2+2*g.size:=by unfold netN; have:=hg.1.1; omega
abbrev netA (g : Gr) (p : Pol) (ks : List Int) : List Ed:=za9 g p (zaP g p) ks
def zas (g : Gr) (p : Pol) (ks : List Int) : Prop:=maxF (netN g) (netA g p ks)=ks.length
theorem zkH {g : Gr} {p : Pol} {ks : List Int} (hg : GrOk g) (hp : za3 g.size p) (hk : ∀ x∈ks,0≤x∧x<g.size) : zew (netN g) (netA g p ks):=zsb hg hp hk
theorem zfp {g : Gr} {p : Pol} {ks : List Int} (hg : GrOk g) (hp : za3 g.size p) (hk : ∀ x∈ks,0≤x∧x<g.size) (hs : p.seeds.length≤64) (hsl : ks.length≤64) : za2 ⟨netN g,netA g p ks⟩:=by
 have h1:=zkH hg hp hk
 have h2 : (netA g p ks).length≤1000:=zpU g p ks hg hs hsl
 have h3:=hg.1.2.1
 have hN:=zfk hg
 have h0:=hg.1.1
 have hcb : ∀ i : Nat,(zaP g p).getD i 0≤1000:=fun i=>by
  rw [List.getD_eq_getElem?_getD]
  cases h : (zaP g p)[i]? with
  | none=>simp
  | some v =>
    have hm:=List.mem_of_getElem? h
    unfold zaP at hm
    obtain ⟨d,_,rfl⟩:=List.mem_map.1 hm
    exact (zhj hp d).2
 refine ⟨by simp only; omega,by simp only; omega,by simp only; omega,fun a ha=>?_⟩
 obtain ⟨q1,q2,q3,q4,q5,q6,q7,q8⟩:=h1.arc a ha
 refine ⟨q1,by simp only; omega,q3,by simp only; omega,q5,q6,q7,q8,?_⟩
 simp only [netA,za9] at ha
 rcases List.mem_append.1 ha with ha | ha
 ·rcases List.mem_append.1 ha with ha | ha
  ·rcases List.mem_append.1 ha with ha | ha
   ·obtain ⟨x,hx,rfl⟩:=List.mem_map.1 ha
    have:=hcb x.toNat
    simp only
    omega
   ·obtain ⟨i,hx,rfl⟩:=List.mem_map.1 ha
    have:=hcb i
    simp only
    omega
  ·obtain ⟨x,hx,rfl⟩:=List.mem_map.1 ha
   simp
 ·obtain ⟨e,hx,rfl⟩:=List.mem_map.1 ha
  simp
structure zdP (g : Gr) (p : Pol) (ks f : List Int) : Prop where
 ok : zaz (netN g) (netA g p ks) f
 most : ∀ f',zaz (netN g) (netA g p ks) f'→valF (netA g p ks) f'≤valF (netA g p ks) f
 val : valF (netA g p ks) f=maxF (netN g) (netA g p ks)
theorem zgi {ks : List Int} {n : Int} (h : Rise ks 0 (n - 1)) : ∀ x∈ks,0≤x∧x<n:=fun x hx=>by
 have:=h.nodup.2 x hx
 omega
set_option maxRecDepth 100000 in
set_option maxHeartbeats 4000000 in
open Classical in
theorem zrk (g : Gr) (p : Pol) (ks : List Int) (hg : GrOk g) (hp : za3 g.size p) (hr : Rise ks 0 (g.size - 1)) (hs : p.seeds.length≤64) (hsl : ks.length≤64) :
  ∃ f,zdP g p ks f∧zai Tryz.prog zd4 [eG g,eP p,ints ks] [] (.tup [eN ⟨netN g,netA g p ks⟩,.rs 0 0 (netA g p ks).length,.B (decide (zas g p ks))]) [some ⟨1,zah f,0⟩]:=by
 have hnet:=zdT g p ks hg hp hr hs hsl
 rw [← zfk hg] at hnet
 have hnv:=zfp hg hp (zgi hr) hs hsl
 obtain ⟨f,⟨hf1,hf2⟩,hmax⟩:=zwS _ _ hnv
 have hval:=zfT hnv hf1
 have hmf:=zgj hf1 hf2
 refine ⟨f,⟨hf1,hf2,hmf.symm⟩,?_⟩
 have hcs : zas g p ks↔valF (netA g p ks) f=ks.length:=by unfold zas; rw [hmf]
 have hfl:=hf1.fit.len
 obtain ⟨A,hA⟩ : ∃ A,A=netA g p ks:=⟨_,rfl⟩
 obtain ⟨N,hN⟩ : ∃ N,N=netN g:=⟨_,rfl⟩
 rw [show za9 g p (zaP g p) ks=A from hA.symm,← hN] at hnet
 rw [← hA,← hN] at hmax hval
 rw [← hA] at hcs hfl ⊢
 rw [← hN]
 refine znI.acalls (nbz rfl) (nbz rfl) (Nat.zero_le _) ?_
 show awp _ 0 _ _ ⟨33,[(0,eG g),(1,eP p),(2,ints ks)],[],16⟩
 have htake : ∀ g : Int→List AV,List.take A.length (List.map g f)=List.map g f:=fun g=>List.take_of_length_le (by simp; omega)
 refine rx (s:=?s1) [2,3,4,6] [32] [16,24] rfl ?o1 ?q1
 case o1=>simp; rfl
 refine rx (s:=?s2) [2,6,9] [32] [112] rfl ?o2 ?q2
 case o2=>simp; refine zaj hnet (by simp) ?_; simp; rfl
 refine zaa ⟨33,[(2,ints ks),(6,.pt 32 0 0),(9,.pv (nC ⟨N,A⟩)),(11,.rs 33 0 A.length)],[(32,some ⟨2,[[.I 0,.sc (.slice none 0 0)]],0⟩),(33,some ⟨1,zah f,0⟩)],300⟩ rfl ?_ ?_
 ·simp
  refine zaY hmax (by simp) ?_
  simp
  exact LeI [(32,32),(144,33)] []
 refine zaq ⟨33,[(6,.pt 32 0 0),(7,.rs 33 0 A.length),(8,.B (decide (zas g p ks)))],[(32,some ⟨2,[nC ⟨N,A⟩],0⟩),(33,some ⟨1,zah f,0⟩)],600⟩ rfl ?_ ?_
 ·simp
  refine zli [33] hval (by simp [fcd,htake,hfl]) (.sc _) ?_
  simp [zay]
  exact ⟨rfl,Le.go [(32,32),(33,33)] [] rfl rfl (by simp <;> exact wkB (by rw [Bool.eq_iff_iff]; simp [hcs])) (by simp [fcd])⟩
 refine zag ?_
 exact ⟨.inr rfl,zak.out [33] [] rfl (by simp) (by simp) (by simp) (by simp [fcd])⟩
theorem zkF (side : List Int) : ∀ A : List Ed,cutV A side=capS (fun x=>decide (x∈side)) A
 | []=>rfl
 | e::A=>by
   have h1 : cutV (e::A) side=(if e.f∈side∧e.t∉side then e.v else 0)+cutV A side:=by simp [cutV]
   have h2 : capS (fun x=>decide (x∈side)) (e::A)=(if decide (e.f∈side)=true∧decide (e.t∈side)=false then e.v else 0)+capS (fun x=>decide (x∈side)) A:=rfl
   rw [h1,h2,zkF side A]
   simp
section
variable {P : Program} {np id : Nat} {h : Nat→Option Ent} {K : AV→List Nat→List (Nat × Option Ent)→Prop} {f : FuncId} {first capt args args' : List AV} {res : AV}
end
def lowN : List Int→Int→Nat
 | [],_=>0
 | x::l,k=>if x<k then lowN l k+1 else 0
def putL (l : List Int) (k : Int) : List Int:=if l[lowN l k]? = some k then l else l.take (lowN l k)++k::l.drop (lowN l k)
theorem znC : ∀ (l : List Int) (k : Int),lowN l k≤l.length
 | [],_=>Nat.le_refl _
 | x::l,k=>by unfold lowN; have:=znC l k; split <;> simp <;> omega
theorem zqi : ∀ {l : List Int} {k : Int} {i : Nat} (h : i<l.length),i<lowN l k→l[i]<k
 | x::l,k,0,_,h=>by
   unfold lowN at h
   split at h
   ·simpa
   ·omega
 | x::l,k,i+1,hi,h=>by
   unfold lowN at h
   split at h
   ·simpa using zqi (l:=l) (by simpa using hi) (by omega)
   ·omega
theorem zly : ∀ {l : List Int} {k : Int} (h : lowN l k<l.length),¬ l[lowN l k]<k
 | x::l,k,h=>by
   by_cases hx : x<k
   ·have e : lowN (x::l) k=lowN l k+1:=by simp [lowN,hx]
    simp only [e,List.getElem_cons_succ]
    exact zly (by rw [e] at h; simpa using h)
   ·have e : lowN (x::l) k=0:=by simp [lowN,hx]
    simp only [e,List.getElem_cons_zero]
    exact hx
theorem zvv {l : List Int} {k : Int} {i : Nat} (hi : i≤l.length) (h1 : ∀ j (h : j<l.length),j<i→l[j]<k) (h2 : ∀ h : i<l.length,¬ l[i]<k) : lowN l k=i:=by
 rcases Nat.lt_trichotomy (lowN l k) i with h | h | h
 ·exact absurd (h1 _ (by omega) h) (zly (by omega))
 ·exact h
 ·have hl:=znC l k
  exact absurd (zqi (by omega) h) (h2 (by omega))
theorem zuM (l : List Int) (k : Int) : (putL l k).length≤l.length+1:=by
 unfold putL
 split
 ·omega
 ·simp; have:=znC l k; omega
theorem zmR {l : List Int} {k x : Int} : x∈putL l k↔x∈l∨x=k:=by
 unfold putL
 split
 ·rename_i h
  constructor
  ·exact .inl
  ·rintro (h1 | rfl)
   ·exact h1
   ·exact List.mem_of_getElem? h
 ·rw [List.mem_append,List.mem_cons]
  conv=>rhs; rw [← List.take_append_drop (lowN l k) l,List.mem_append]
  constructor
  ·rintro (h | rfl | h)
   ·exact .inl (.inl h)
   ·exact .inr rfl
   ·exact .inl (.inr h)
  ·rintro ((h | h) | rfl)
   ·exact .inl h
   ·exact .inr (.inr h)
   ·exact .inr (.inl rfl)
theorem zos {l : List Int} {k : Int} (h : l.Pairwise (· < ·)) : (putL l k).Pairwise (· < ·):=by
 unfold putL
 split
 ·exact h
 ·rename_i hne
  have hd : ∀ y∈l.drop (lowN l k),k<y:=by
   intro y hy
   obtain ⟨i,hi,rfl⟩:=List.getElem_of_mem hy
   rw [List.length_drop] at hi
   rw [List.getElem_drop]
   have h0 : lowN l k<l.length:=by omega
   have h1:=zly h0
   have h2 : l[lowN l k]≠k:=fun e=>hne (by rw [List.getElem?_eq_getElem h0,e])
   rcases Nat.eq_zero_or_pos i with rfl | hp
   ·simp only [Nat.add_zero]; omega
   ·have:=(List.pairwise_iff_getElem.1 h) (lowN l k) (lowN l k+i) h0 (by omega) (by omega)
    omega
  have ht : ∀ y∈l.take (lowN l k),y<k:=by
   intro y hy
   obtain ⟨i,hi,rfl⟩:=List.getElem_of_mem hy
   rw [List.length_take] at hi
   rw [List.getElem_take]
   exact zqi (by omega) (by omega)
  rw [List.pairwise_append,List.pairwise_cons]
  refine ⟨h.sublist (List.take_sublist ..),⟨hd,h.sublist (List.drop_sublist ..)⟩,fun x hx y hy=>?_⟩
  rcases List.mem_cons.1 hy with rfl | hy
  ·exact ht x hx
  ·have:=ht x hx; have:=hd y hy; omega
theorem zf1 {l : List Int} {n : Int} (h : l.Pairwise (· < ·)) (hr : ∀ k∈l,0≤k∧k<n) : Rise l 0 (n - 1):=by
 intro i hi
 have:=hr _ (List.getElem_mem hi)
 refine ⟨by omega,by omega,fun hp=>?_⟩
 exact (List.pairwise_iff_getElem.1 h) (i - 1) i (by omega) hi (by omega)
theorem zrG (l : List Int) (k : Int) (hl : l.length≤1000000) : zai Tryz.prog zcL [ints l,.I k] [] (.rs 0 0 (putL l k).length) [some ⟨1,zah (putL l k),0⟩]:=by
 refine zrN.acalls (nbz rfl) (nbz rfl) (Nat.zero_le _) ?_
 show awp _ 0 _ _ ⟨45,[(0,ints l),(1,.I k)],[],16⟩
 refine rx (s:=?s1) [0,1] [] [] rfl ?o1 ?q1
 case o1=>simp; rfl
 refine rx (s:=?s2) [0,1,5] [] [] rfl ?o2 ?q2
 case o2=>simp; rfl
 refine zaK (ι:=Nat) (fun i=>⟨45,[(0,ints l),(1,.I k),(5,.I i)],[],200⟩) (fun i=>i=lowN l k) ?_ fun i hil=>?_
 ·refine zaf ?_
  refine zan (ι:=Nat) (fun i=>⟨45,[(0,ints l),(1,.I k),(5,.I i)],[],32⟩) (fun i=>i≤l.length ∧ ∀ j (h : j<l.length),j<i→l[j]<k) (fun i=>l.length - i) 0 (by simp) (LeH [] []) ?_
  rintro i ⟨hi,hp⟩
  refine zab ?_
  refine zaa ⟨45,[(0,ints l),(1,.I k),(5,.I i),(17,.B (decide (∃ h : i<l.length,l[i]<k)))],[],200⟩ rfl ?_ ?_
  ·by_cases h1 : i<l.length
   ·simp [h1]
    exact Le.snap [] rfl rfl (by simp [h1])
   ·have hno : ¬ ∃ h : i<l.length,l[i]<k:=fun ⟨h,_⟩=>h1 h
    rw [decide_eq_false hno]
    simp [h1]
    exact Le.snap [] rfl rfl (by simp)
  refine zac _ rfl (fun h2=>?_) fun h2=>?_
  ·rw [decide_eq_true_eq] at h2
   obtain ⟨h1,h2⟩:=h2
   have hw : IntKind.i64.wrap ((i : Int)+1)=(i : Int)+1:=w64 (by omega) (by omega)
   refine zad ?_
   refine zaf ?_
   refine zae (s:=?s5) rfl ?o5 ?q5
   case o5=>simp; rfl
   refine ⟨i+1,⟨h1,fun j hj hji=>?_⟩,by omega,Le.go [] [] rfl rfl (by simp [hw]) (by simp)⟩
   rcases Nat.lt_succ_iff_lt_or_eq.1 hji with h | rfl
   ·exact hp j hj h
   ·exact h2
  ·rw [decide_eq_false_iff_not] at h2
   refine zal ?_
   refine hit ?_
   exact ⟨i,(zvv hi hp fun h h3=>h2 ⟨h,h3⟩).symm,LeH [] []⟩
 have hlo:=znC l k
 rw [← hil] at hlo
 refine zab ?_
 refine zaa ⟨45,[(0,ints l),(1,.I k),(5,.I i),(31,.B (decide (l[i]? = some k)))],[],400⟩ rfl ?_ ?_
 ·by_cases h1 : i<l.length
  ·simp [h1]
   exact Le.snap [] rfl rfl (by simp [h1]; exact wkB (by rw [Bool.eq_iff_iff]; simp))
  ·have hno : ¬ l[i]? = some k:=by rw [List.getElem?_eq_none (by omega)]; simp
   rw [decide_eq_false hno]
   simp [h1]
   exact Le.snap [] rfl rfl (by simp)
 refine zac _ rfl (fun h2=>?_) fun h2=>?_
 ·rw [decide_eq_true_eq] at h2
  have hput : putL l k=l:=by unfold putL; rw [← hil,if_pos h2]
  rw [hput]
  refine rk (s:=?s6) [4] [408] rfl ?o6 ?q6
  case o6=>simp; refine ⟨by omega,by omega,?_⟩; rfl
  refine zag ?_
  exact ⟨.inr rfl,zak.out [408] [] rfl (by simp) (by simp) (by simp) (by simp [fcd])⟩
 rw [decide_eq_false_iff_not] at h2
 have hput : putL l k=l.take i++k::l.drop i:=by unfold putL; rw [← hil,if_neg h2]
 have hpl : (putL l k).length=l.length+1:=by rw [hput]; simp; omega
 have hpl2 : (putL l k).length=i+1+(l.length - i):=by omega
 refine zad ?_
 refine zaq ⟨45,[(4,.rs 480 0 (putL l k).length)],[(480,some ⟨1,zah (putL l k),0⟩)],600⟩ rfl ?_ ?_
 ·simp [hlo]
  refine ⟨by omega,by omega,by omega,by omega,by omega,by omega,rfl,Le.go [(480,480)] [] rfl rfl (by simp [hpl2]) (by simp [hput,fcd,List.take_of_length_le,hlo])⟩
 refine zag ?_
 exact ⟨.inr rfl,zak.out [480] [] rfl (by simp) (by simp) (by simp) (by simp [fcd])⟩
theorem zvR (L : List Int) (a : Nat) {l : List Int} (h : 0<l.length) : ofD L a l∈l:=by
 have:=zeQ (L:=L) (a:=a) (n:=l.length) (by omega)
 obtain ⟨q,hq⟩ : ∃ q : Nat,(zaA L a l.length).1=q:=⟨(zaA L a l.length).1.toNat,by omega⟩
 have hql : q<l.length:=by omega
 unfold ofD
 rw [hq]
 simp [hql]
theorem zh3 (L : List Int) (a : Nat) (n : Int) (hl : L.length≤400) (ha : a≤L.length) (h0 : 0<n) (hn : n≤1000000) : ∃ (x : Nat) (b : Nat),(b≤L.length∧(x : Int)<n)∧zai Tryz.prog zav [.pt 0 0 0,.I n] [dice L a] (.I x) [some (dice L b)]:=by
 have:=zeQ (L:=L) (a:=a) h0
 obtain ⟨q,hq⟩ : ∃ q : Nat,(zaA L a n).1=q:=⟨(zaA L a n).1.toNat,by omega⟩
 exact ⟨q,_,⟨zbW ha,by omega⟩,by rw [← hq]; exact znN L a n (by omega) ha (by omega)⟩
theorem Of_a (L : List Int) (a : Nat) (l : List Int) (hl : L.length≤400) (ha : a≤L.length) (h0 : 0<l.length) (hl2 : l.length≤100) : ∃ (x : Int) (b : Nat),(b≤L.length∧x∈l)∧zai Tryz.prog zc3 [.pt 0 0 0,ints l] [dice L a] (.I x) [some (dice L b)] :=
 ⟨_,_,⟨zbW ha,zvR L a h0⟩,zxH L a l (by omega) ha h0 (by omega)⟩
theorem zwM (L : List Int) (a : Nat) (n : Int) (hl : L.length≤400) (ha : a≤L.length) (hn0 : 0≤n) (hn : n≤1000000) : ∃ (x : Bool) (b : Nat),b≤L.length∧zai Tryz.prog zb3 [.pt 0 0 0,.I n] [dice L a] (.B x) [some (dice L b)] :=
 ⟨_,_,zbW ha,zvj L a n (by omega) ha hn0 (by omega)⟩
section
variable {P : Program} {np id : Nat} {h : Nat→Option Ent} {K : AV→List Nat→List (Nat × Option Ent)→Prop} {f : FuncId} {first capt args args' : List AV} {res : AV}
theorem zrA {j : Nat} {e ej : Ent} (hnp : np≤j) (hj : h j=some ej) (hc : zai P f args' [] res [some e]) (he : (first++args++capt).map (conv [] [j] h 4)=args')
  (hk : K (conv (swp [] id) [] (fun _=>none) 4 res) [j] [(id,some (zax (swp [] id) [] (fun _=>none) 4 e)),(j,some { ej with ro:=ej.rows.length })]) : aK P np id .call (.fn (.func f) first capt::args) h K :=
 ⟨[],[j],true,args',[],res,[some e],by simp,by simp,by simpa using hnp,by rw [List.zipIdx_nil,he]; exact zbU _,rfl,hc,by simp,.inl rfl,by simpa [swp,hj] using hk⟩
end
def TabL (t : List Int) : Prop:=∀ i (h : i<t.length),1≤t[i]∧t[i]≤1000∧(0<i→t[i]≤t[i - 1])
theorem ztZ {t : List Int} {v : Int} (h : TabL t) (h1 : 1≤v) (h2 : v≤1000) (h3 : ∀ x∈t,v≤x) : TabL (t++[v]):=by
 intro i hi
 rw [List.length_append,List.length_singleton] at hi
 by_cases hit : i<t.length
 ·rw [List.getElem_append_left hit]
  obtain ⟨a,b,c⟩:=h i hit
  refine ⟨a,b,fun hp=>?_⟩
  rw [List.getElem_append_left (by omega)]
  exact c hp
 ·obtain rfl : i=t.length:=by omega
  simp only [List.getElem_concat_length]
  refine ⟨h1,h2,fun hp=>?_⟩
  rw [List.getElem_append_left (by omega)]
  exact h3 _ (List.getElem_mem _)
set_option maxRecDepth 100000 in
set_option maxHeartbeats 4000000 in
theorem zuE (L : List Int) (a : Nat) (g : Gr) (hl : L.length≤400) (ha : a≤L.length) (h0 : 0<g.size) (hn : g.size≤1000) :
  ∃ x : Pol × Nat,(za3 g.size x.1∧x.1.seeds.length≤2∧x.1.table.length≤4∧x.2≤L.length)∧zai Tryz.prog zdu [.pt 0 0 0,eG g] [dice L a] (eP x.1) [some (dice L x.2)]:=by
 refine ziA.acallsX (args:=[.pt 0 0 0,eG g]) (hs:=[dice L a]) (fun x=>eP x.1) (fun x=>[some (dice L x.2)]) (fun x : Pol × Nat=>za3 g.size x.1∧x.1.seeds.length≤2∧x.1.table.length≤4∧x.2≤L.length) (nbz rfl) (nbz rfl) (fun _=>by simp) ?_
 show awp _ 1 _ _ ⟨50,[(0,.pt 0 0 0),(1,eG g)],[(0,some (dice L a))],16⟩
 obtain ⟨k1,b1,⟨hb1,hk1⟩,hc1⟩:=zh3 L a g.size hl ha h0 (by omega)
 obtain ⟨lv,b2,⟨hb2,hlv⟩,hc2⟩:=Of_a L b1 [1,1,2,3] hl hb1 (by simp) (by simp)
 have hlv' : 1≤lv∧lv≤3:=by simp at hlv; omega
 obtain ⟨o,b3,hb3,hc3⟩:=zwM L b2 3 hl hb2 (by omega) (by omega)
 refine zaa ⟨50,[(0,.pt 0 0 0),(3,.pv (gC g)),(4,.pt 24 0 0)],[(0,some (dice L a)),(24,some ⟨3,[[.nilS,.nilS,.I 0]],0⟩)],32⟩ rfl ?_ ?_
 ·simp
  exact LeH [(0,0),(24,24)] [16]
 refine zaa ⟨50,[(0,.pt 0 0 0),(3,.pv (gC g)),(4,.pt 24 0 0),(5,.pt 104 0 0)],[(0,some (dice L b2)),(24,some ⟨3,[[.nilS,.nilS,.I 0]],0⟩),(104,some ⟨3,[[.rs 17 0 1,.nilS,.I lv]],0⟩),(17,some ⟨1,zah [(k1 : Int)],0⟩)],120⟩ rfl ?_ ?_
 ·simp
  refine zbk (i:=0) rfl (e':=dice L a) (by simp) hc1 (by simp) (by simp) ?_
  simp
  refine znx (i:=0) (j:=80) (by decide) (by decide) rfl rfl (e':=dice L b1) (by simp) hc2 (by simp) (by simp) ?_
  simp
  exact LeH [(0,0),(24,24),(104,104),(64,17)] []
 refine zaK (ι:=List Int × Nat) (fun s=>⟨50,[(0,.pt 0 0 0),(4,.pt 24 0 0),(5,.pt 104 0 0)],[(0,some (dice L s.2)),(24,some ⟨3,[[.nilS,.nilS,.I 0]],0⟩),(104,some ⟨3,[[.rs 17 0 s.1.length,.nilS,.I lv]],0⟩),(17,some ⟨1,zah s.1,0⟩)],300⟩)
  (fun s=>s.2≤L.length∧s.1≠[]∧s.1.length≤2∧s.1.Pairwise (· < ·) ∧ ∀ k∈s.1,0≤k∧k<g.size) ?_ fun s hs=>?_
 ·refine zaa ⟨50,[(0,.pt 0 0 0),(3,.pv (gC g)),(4,.pt 24 0 0),(5,.pt 104 0 0),(18,.B o)],[(0,some (dice L b3)),(24,some ⟨3,[[.nilS,.nilS,.I 0]],0⟩),(104,some ⟨3,[[.rs 17 0 1,.nilS,.I lv]],0⟩),(17,some ⟨1,zah [(k1 : Int)],0⟩)],136⟩ rfl ?_ ?_
  ·simp
   refine zbk (i:=0) rfl (e':=dice L b2) (by simp) hc3 (by simp) (by simp) ?_
   simp
   exact Le.keep rfl (Nat.le_refl _) (by simp) (by simp)
  cases o with
  | true =>
    refine zac _ rfl (fun _=>?_) fun h=>by cases h
    obtain ⟨k2,b4,⟨hb4,hk2⟩,hc4⟩:=zh3 L b3 g.size hl hb3 h0 (by omega)
    have hput:=zrG [(k1 : Int)] k2 (by simp)
    obtain ⟨S,hS⟩ : ∃ S,S=putL [(k1 : Int)] k2:=⟨_,rfl⟩
    rw [← hS] at hput
    refine zbG rfl ?_
    simp
    refine zbk (i:=0) rfl (e':=dice L b3) (by simp) hc4 (by simp) (by simp) ?_
    simp
    refine zrA (j:=17) (by decide) rfl hput (by simp) ?_
    simp [fcd]
    refine ⟨rfl,S,b4,⟨hb4,?_,?_,?_,fun k hk=>?_⟩,LeI [(0,0),(24,24),(104,104),(184,17)] []⟩
    ·intro h
     have : (k1 : Int)∈S:=by rw [hS]; exact zmR.2 (.inl (by simp))
     rw [h] at this
     cases this
    ·rw [hS]; exact zuM _ _
    ·rw [hS]; exact zos (by simp)
    ·rw [hS] at hk
     rcases zmR.1 hk with h | h
     ·simp at h; omega
     ·omega
  | false =>
    refine zac _ rfl (fun h=>by cases h) fun _=>?_
    refine zad ?_
    exact ⟨([(k1 : Int)],b3),⟨hb3,by simp,by simp,by simp,by simp; omega⟩,LeH [(0,0),(24,24),(104,104),(17,17)] []⟩
 obtain ⟨S,b4⟩:=s
 obtain ⟨hb4,hS1,hS2,hS3,hS4⟩:=hs
 simp only at hb4 hS1 hS2 hS3 hS4
 obtain ⟨v0,b5,⟨hb5,hv0⟩,hc5⟩:=Of_a L b4 [3,2,1,6,0] hl hb4 (by simp) (by simp)
 have hv0' : 0≤v0∧v0≤6:=by simp at hv0; omega
 have hwv : IntKind.i64.wrap (1+v0)=1+v0:=w64 (by omega) (by omega)
 obtain ⟨n0,b6,⟨hb6,hn0⟩,hc6⟩:=zh3 L b5 4 hl hb5 (by omega) (by omega)
 have hwn : IntKind.i64.wrap (1+(n0 : Int))=((n0+1 : Nat) : Int):=by rw [w64 (by omega) (by omega)]; omega
 refine zaa ⟨50,[(0,.pt 0 0 0),(4,.pt 24 0 0),(5,.pt 104 0 0),(6,.I (1+v0))],[(0,some (dice L b5)),(24,some ⟨3,[[.nilS,.nilS,.I 0]],0⟩),(104,some ⟨3,[[.rs 17 0 S.length,.nilS,.I lv]],0⟩),(17,some ⟨1,zah S,0⟩)],400⟩ rfl ?_ ?_
 ·simp
  refine znx (i:=0) (j:=308) (by decide) (by decide) rfl rfl (e':=dice L b4) (by simp) hc5 (by simp) (by simp) ?_
  simp [hwv]
  exact LeI [(0,0),(24,24),(104,104),(17,17)] []
 refine zab ?_
 refine zaa ⟨50,[(0,.pt 0 0 0),(4,.pt 24 0 0),(5,.pt 104 0 0),(6,.I (1+v0)),(7,.I (n0+1 : Nat))],[(0,some (dice L b6)),(24,some ⟨3,[[.nilS,.nilS,.I 0]],0⟩),(104,some ⟨3,[[.rs 17 0 S.length,.nilS,.I lv]],0⟩),(17,some ⟨1,zah S,0⟩)],432⟩ rfl ?_ ?_
 ·simp
  refine zbk (i:=0) rfl (e':=dice L b5) (by simp) hc6 (by simp) (by simp) ?_
  simp [hwn]
  exact LeI [(0,0),(24,24),(104,104),(17,17)] []
 refine zaf ?_
 refine zan (ι:=(List Int × Int) × (Nat × Nat)) (fun s=>⟨50,[(0,.pt 0 0 0),(4,.pt 24 0 0),(5,.pt 104 0 0),(6,.I s.1.2),(7,.I s.2.1)],[(0,some (dice L s.2.2)),(24,some ⟨3,[[.nilS,.nilS,.I 0]],0⟩),(104,some ⟨3,[[.rs 17 0 S.length,.rs 18 0 s.1.1.length,.I lv]],0⟩),(17,some ⟨1,zah S,0⟩),(18,some ⟨1,zah s.1.1,0⟩)],432⟩)
  (fun s=>s.1.1.length+s.2.1=n0+1∧TabL s.1.1∧(1≤s.1.2∧s.1.2≤7)∧(∀ x∈s.1.1,s.1.2≤x)∧s.2.2≤L.length) (fun s=>s.2.1) (([],1+v0),(n0+1,b6)) ⟨by simp,fun i h=>by simp at h,⟨by simp only; omega,by simp only; omega⟩,by simp,hb6⟩
  (Le.lst [(0,0),(24,24),(104,104),(17,17)] [] [(18,1)] rfl (by simp) (by simp) (by simp) (by simp) (by simp) (by simp) (by simp) (by simp [Up]) (by simp [fcd]; exact ⟨zaH.rfl' (by simp),zaH.rfl' (by simp),zaH.row rfl (by omega) (by simp [UpL,Up]),zaH.rfl' (by simp)⟩)) ?_
 rintro ⟨⟨T,v⟩,n,b⟩ ⟨hTn,hT,hv,hTv,hb⟩
 simp only at hTn hT hv hTv hb
 refine zab ?_
 refine rk (s:=?s7) [0,4,5,6,7,35] [0,24,104,17,18] rfl ?o7 ?q7
 case o7=>simp; rfl
 refine zac _ rfl (fun h8=>?_) fun h8=>?_
 ·simp at h8
  obtain ⟨m,rfl⟩ : ∃ m,n=m+1:=⟨n - 1,by omega⟩
  have hwm : IntKind.i64.wrap (((m+1 : Nat) : Int) - 1)=(m : Int):=by rw [w64 (by omega) (by omega)]; omega
  have hwm2 : IntKind.i64.wrap (m : Int)=(m : Int):=w64 (by omega) (by omega)
  obtain ⟨d,b',⟨hb',hd⟩,hc7⟩:=zh3 L b 3 hl hb (by omega) (by omega)
  have hwd : IntKind.i64.wrap (v - (d : Int))=v - (d : Int):=w64 (by omega) (by omega)
  have htl : ∀ f : Int→List AV,List.take T.length (List.map f T)=List.map f T:=fun f=>List.take_of_length_le (by simp)
  refine zad ?_
  refine zab ?_
  refine zaf ?_
  refine zaa ⟨50,[(0,.pt 0 0 0),(4,.pt 24 0 0),(5,.pt 104 0 0),(6,.I v),(7,.I (m+1 : Nat))],[(0,some (dice L b)),(24,some ⟨3,[[.nilS,.nilS,.I 0]],0⟩),(104,some ⟨3,[[.rs 17 0 S.length,.rs 18 0 (T++[v]).length,.I lv]],0⟩),(17,some ⟨1,zah S,0⟩),(18,some ⟨1,zah (T++[v]),0⟩)],512⟩ rfl ?_ ?_
  ·simp [htl]
   refine ⟨by omega,by omega,?_⟩
   exact LeI [(0,0),(24,24),(104,104),(17,17),(480,18)] []
  refine zae (s:=?s9) rfl ?o9 ?q9
  case o9 =>
   simp
   refine zbk (i:=0) rfl (e':=dice L b) (by simp) hc7 (by simp) (by simp) ?_
   simp [hwd]
   rfl
  refine zae (s:=?s10) rfl ?o10 ?q10
  case o10=>simp; rfl
  refine ⟨((T++[v],if 1<v - d then v - d else 1),(m,b')),⟨by simp only [List.length_append,List.length_singleton]; omega,ztZ hT hv.1 (by omega) hTv,⟨by simp only; split <;> omega,by simp only; split <;> omega⟩,fun x hx=>?_,hb'⟩,by simp only; omega,Le.go [(0,0),(24,24),(104,104),(17,17),(18,18)] [] rfl rfl (by simp [hwm2]) (by simp [fcd])⟩
  have : v≤x:=by
   rcases List.mem_append.1 hx with h | h
   ·exact hTv x h
   ·rw [List.mem_singleton] at h; omega
  simp only
  split <;> omega
 simp at h8
 obtain rfl : n=0:=by omega
 refine zal ?_
 refine hit ?_
 refine rk (s:=?s11) [4] [0,24,17,18] rfl ?o11 ?q11
 case o11=>simp; rfl
 refine zag ?_
 refine zhb.mk (.inr rfl) (⟨S,T,lv⟩,b) ⟨⟨hS1,zf1 hS3 hS4,by simp only; omega,by simp only; omega,hlv'.1,hlv'.2,hT⟩,hS2,by simp only; omega,hb⟩ ?_
 refine ⟨_,rfl,[],[17,18],by simp [List.range,List.range.loop],by simp,by simp,?_,?_⟩
 ·simp [List.range,List.range.loop,fcd,zap]
 ·simp [List.range,List.range.loop]
theorem zmr : ∀ {a b : List Int},a.Pairwise (· < ·)→b.Pairwise (· < ·)→(∀ x,x∈a↔x∈b)→a=b
 | [],[],_,_,_=>rfl
 | [],y::b,_,_,h=>by have:=(h y).2 (by simp); cases this
 | x::a,[],_,_,h=>by have:=(h x).1 (by simp); cases this
 | x::a,y::b,ha,hb,h=>by
   have ha':=List.pairwise_cons.1 ha
   have hb':=List.pairwise_cons.1 hb
   have hxy : x=y:=by
    have h1:=(h x).1 (by simp)
    have h2:=(h y).2 (by simp)
    rcases List.mem_cons.1 h1 with e | e
    ·exact e
    ·rcases List.mem_cons.1 h2 with e2 | e2
     ·exact e2.symm
     ·have:=hb'.1 x e
      have:=ha'.1 y e2
      omega
   subst hxy
   congr 1
   refine zmr ha'.2 hb'.2 fun z=>⟨fun hz=>?_,fun hz=>?_⟩
   ·rcases List.mem_cons.1 ((h z).1 (List.mem_cons_of_mem _ hz)) with rfl | e
    ·have:=ha'.1 z hz; omega
    ·exact e
   ·rcases List.mem_cons.1 ((h z).2 (List.mem_cons_of_mem _ hz)) with rfl | e
    ·have:=hb'.1 z hz; omega
    ·exact e
theorem zkj {a : List Int} {k : Int} (h0 : 0≤k) (h1 : k<64) : putL (zau a) k=zau (a++[k]):=by
 refine zmr (zos (zgH a)) (zgH _) fun x=>?_
 rw [zmR,zdN,zdN,List.mem_append,List.mem_singleton]
 constructor
 ·rintro (h | rfl)
  ·exact ⟨.inl h.1,h.2⟩
  ·exact ⟨.inr rfl,h0,h1⟩
 ·rintro ⟨h | h,h2⟩
  ·exact .inl ⟨h,h2⟩
  ·exact .inr h
open Classical in
noncomputable def accR (g : Gr) (p : Pol) (o : List Int) : List Int:=o.foldl (fun acc k=>if zas g p (zau (acc++[k])) then acc++[k] else acc) []
variable {g : Gr} {p : Pol}
theorem zj9 : accR g p []=[]:=rfl
open Classical in
theorem zbS {o : List Int} {k : Int} (h : zas g p (zau (accR g p o++[k]))) : accR g p (o++[k])=accR g p o++[k]:=by
 have h2 : accR g p (o++[k])=if zas g p (zau (accR g p o++[k])) then accR g p o++[k] else accR g p o:=by unfold accR; rw [List.foldl_append]; rfl
 rw [h2,if_pos h]
open Classical in
theorem zg9 {o : List Int} {k : Int} (h : ¬ zas g p (zau (accR g p o++[k]))) : accR g p (o++[k])=accR g p o:=by
 have h2 : accR g p (o++[k])=if zas g p (zau (accR g p o++[k])) then accR g p o++[k] else accR g p o:=by unfold accR; rw [List.foldl_append]; rfl
 rw [h2,if_neg h]
theorem zoQ (o : List Int) (k : Int) : accR g p (o++[k])=accR g p o∨accR g p (o++[k])=accR g p o++[k]:=by
 by_cases h : zas g p (zau (accR g p o++[k]))
 ·exact .inr (zbS h)
 ·exact .inl (zg9 h)
theorem zeS : ∀ (n : Nat) (o : List Int),o.length=n→(accR g p o).Sublist o
 | 0,o,h=>by
   obtain rfl:=List.eq_nil_of_length_eq_zero h
   exact List.nil_sublist _
 | n+1,o,h=>by
   have hne : o≠[]:=fun e=>by rw [e] at h; cases h
   rw [← List.dropLast_concat_getLast hne]
   have ih:=zeS n o.dropLast (by rw [List.length_dropLast,h]; rfl)
   rcases zoQ (g:=g) (p:=p) o.dropLast (o.getLast hne) with e | e
   ·rw [e]; exact ih.trans (List.sublist_append_left _ _)
   ·rw [e]; exact ih.append (List.Sublist.refl _)
theorem zd8 {o : List Int} {x : Int} (h : x∈accR g p o) : x∈o:=(zeS _ o rfl).subset h
theorem zmP (o : List Int) : (accR g p o).length≤o.length:=(zeS _ o rfl).length_le
open Classical in
noncomputable def zfc (N : Nat) (A : List Ed) : List Int:=((List.range N).map fun k : Nat=>(k : Int)).filter fun k=>decide (∀ S : Int→Bool,S 0=true→S 1=false→capS S A=maxF N A→S k=true)
theorem zna {N : Nat} {A : List Ed} {f D : List Int} {by_ : Int→Stp} (hn : zew N A) (hf : zaz N A f) (hm : ∀ f',zaz N A f'→valF A f'≤valF A f) (ht : ztX A f D by_) (h0 : (0 : Int)∈D) (h1 : (1 : Int)∉D) (hc : ze9 A f D) :
  ((List.range N).map fun k : Nat=>(k : Int)).filter (fun k=>decide (k∈D))=zfc N A:=by
 unfold zfc
 refine List.filter_congr fun k _=>?_
 rw [decide_eq_decide]
 have hmf:=zgj hf hm
 constructor
 ·intro hk S s0 s1 hS
  exact zmB hn hf ht s0 s1 (hS.trans hmf) k hk
 ·intro h
  have:=h (fun x=>decide (x∈D)) (by simpa using h0) (by simpa using h1) (by rw [hmf]; exact (zgB hn hf h0 h1 hc).1.symm)
  simpa using this
open Classical in
noncomputable def refS (g : Gr) (p : Pol) (o : List Int) : List Int × List (Int × List Int) :=
 o.foldl (fun s k=>if zas g p (zau (s.1++[k])) then (s.1++[k],s.2) else (s.1,s.2++[(k,zfc (netN g) (netA g p (zau (s.1++[k]))))])) ([],[])
noncomputable def refR (g : Gr) (p : Pol) (o : List Int) : List (Int × List Int):=(refS g p o).2
open Classical in
theorem zkR (o : List Int) (k : Int) : refS g p (o++[k])=if zas g p (zau ((refS g p o).1++[k])) then ((refS g p o).1++[k],(refS g p o).2) else ((refS g p o).1,(refS g p o).2++[(k,zfc (netN g) (netA g p (zau ((refS g p o).1++[k]))))]):=by
 unfold refS
 rw [List.foldl_append]
 rfl
theorem znH : ∀ (n : Nat) (o : List Int),o.length=n→(refS g p o).1=accR g p o
 | 0,o,h=>by
   obtain rfl:=List.eq_nil_of_length_eq_zero h
   rfl
 | n+1,o,h=>by
   have hne : o≠[]:=fun e=>by rw [e] at h; cases h
   rw [← List.dropLast_concat_getLast hne]
   have ih:=znH n o.dropLast (by rw [List.length_dropLast,h]; rfl)
   rw [zkR,ih]
   split
   ·rename_i h1
    rw [zbS h1]
   ·rename_i h1
    rw [zg9 h1]
theorem zhO {o : List Int} {k : Int} (h : zas g p (zau (accR g p o++[k]))) : refR g p (o++[k])=refR g p o:=by
 unfold refR
 rw [zkR,znH _ o rfl,if_pos h]
theorem zlh {o : List Int} {k : Int} (h : ¬ zas g p (zau (accR g p o++[k]))) : refR g p (o++[k])=refR g p o++[(k,zfc (netN g) (netA g p (zau (accR g p o++[k]))))]:=by
 unfold refR
 rw [zkR,znH _ o rfl,if_neg h]
structure zvm (g : Gr) (p : Pol) (acc : List Int) (k : Int) (side : List Int) : Prop where
 no : ¬ zas g p (zau (acc++[k]))
 ok : zcx ⟨netN g,netA g p (zau (acc++[k]))⟩ side
 cut : cutV (netA g p (zau (acc++[k]))) side=maxF (netN g) (netA g p (zau (acc++[k])))
 len : side.length≤130
 eq : side=zfc (netN g) (netA g p (zau (acc++[k])))
structure zin (g : Gr) (p : Pol) (o : List Int) (R : List (Int × List Int)) : Prop where
 all : ∀ i (h : i<o.length),o[i]∉accR g p (o.take (i+1)) → ∃ side,(o[i],side)∈R
 right : ∀ r∈R,∃ i,∃ h : i<o.length,o[i]=r.1∧zvm g p (accR g p (o.take i)) r.1 r.2
 len : R.length≤o.length
 eq : R=refR g p o
theorem zin.nil : zin g p [] []:=⟨fun i h=>absurd h (Nat.not_lt_zero _),(fun r h=>nomatch h),Nat.le_refl _,rfl⟩
theorem zin.yes {o : List Int} {k : Int} {R : List (Int × List Int)} (hr : zin g p o R) (h : zas g p (zau (accR g p o++[k]))) : zin g p (o++[k]) R:=by
 refine ⟨fun i hi hn=>?_,fun r hr'=>?_,Nat.le_trans hr.len (by simp),by rw [zhO h]; exact hr.eq⟩
 ·rw [List.length_append,List.length_singleton] at hi
  by_cases hio : i<o.length
  ·rw [List.getElem_append_left hio] at hn ⊢
   rw [List.take_append_of_le_length (by omega)] at hn
   exact hr.all i hio hn
  ·obtain rfl : i=o.length:=by omega
   refine absurd ?_ hn
   rw [List.take_of_length_le (by simp),zbS h]
   simp
 ·obtain ⟨i,hi,h1,h2⟩:=hr.right r hr'
  refine ⟨i,by simp; omega,by rw [List.getElem_append_left hi]; exact h1,?_⟩
  rw [List.take_append_of_le_length (by omega)]
  exact h2
theorem zin.no {o : List Int} {k : Int} {R : List (Int × List Int)} {side : List Int} (hr : zin g p o R) (h : zvm g p (accR g p o) k side) : zin g p (o++[k]) (R++[(k,side)]):=by
 refine ⟨fun i hi hn=>?_,fun r hr'=>?_,by have:=hr.len; simp; omega,by rw [zlh h.no,← hr.eq,← h.eq]⟩
 ·rw [List.length_append,List.length_singleton] at hi
  by_cases hio : i<o.length
  ·rw [List.getElem_append_left hio] at hn ⊢
   rw [List.take_append_of_le_length (by omega)] at hn
   obtain ⟨s,hs⟩:=hr.all i hio hn
   exact ⟨s,List.mem_append_left _ hs⟩
  ·obtain rfl : i=o.length:=by omega
   exact ⟨side,by simp⟩
 ·rcases List.mem_append.1 hr' with h3 | h3
  ·obtain ⟨i,hi,h1,h2⟩:=hr.right r h3
   refine ⟨i,by simp; omega,by rw [List.getElem_append_left hi]; exact h1,?_⟩
   rw [List.take_append_of_le_length (by omega)]
   exact h2
  ·rw [List.mem_singleton] at h3
   subst h3
   refine ⟨o.length,by simp,by simp,?_⟩
   rw [List.take_append_of_le_length (Nat.le_refl _),List.take_length]
   exact h
def inD (D : List Int) (n : Nat) : List Int:=((List.range n).map fun k : Nat=>(k : Int)).filter fun k=>decide (k∈D)
theorem znX (D : List Int) (n : Nat) : inD D (n+1)=inD D n++if (n : Int)∈D then [(n : Int)] else []:=by
 unfold inD
 rw [List.range_succ,List.map_append,List.filter_append]
 simp only [List.map_cons,List.map_nil,List.filter_cons,List.filter_nil]
 split <;> simp_all
theorem zn0 {D : List Int} {n : Nat} {x : Int} : x∈inD D n↔(0≤x∧x<n)∧x∈D:=by
 unfold inD
 rw [List.mem_filter,List.mem_map]
 constructor
 ·rintro ⟨⟨k,hk,rfl⟩,h⟩
  have:=List.mem_range.1 hk
  exact ⟨by omega,by simpa using h⟩
 ·rintro ⟨h,h2⟩
  exact ⟨⟨x.toNat,List.mem_range.2 (by omega),by omega⟩,by simpa using h2⟩
theorem zq4 (D : List Int) (n : Nat) : (inD D n).Pairwise (· < ·):=by
 unfold inD
 refine List.Pairwise.filter _ ?_
 rw [List.pairwise_map]
 exact List.pairwise_lt_range.imp fun h=>by omega
theorem zp6 (D : List Int) (n : Nat) : (inD D n).length≤n:=by
 unfold inD
 refine Nat.le_trans (List.length_filter_le ..) (by simp)
set_option maxRecDepth 100000 in
set_option maxHeartbeats 4000000 in
theorem zt9 (N : Nat) (A : List Ed) (hn : za2 ⟨N,A⟩) :
  ∃ side : List Int,(zcx ⟨N,A⟩ side∧cutV A side=maxF N A∧side.length≤130∧side=zfc N A)∧zai Tryz.prog zeW [eN ⟨N,A⟩] [] (.tup [.rs 0 0 side.length,.I 0]) [some ⟨1,zah side,0⟩]:=by
 have hno:=zeP hn
 obtain ⟨f,⟨hf1,hf2⟩,hmax⟩:=zwS N A hn
 have hfl:=hf1.fit.len
 obtain ⟨⟨D,b⟩,⟨hb,hcl⟩,hcall⟩:=zmt N A f hn hfl
 simp only at hb hcl hcall
 have h1D : (1 : Int)∉D:=fun hm=>by
  obtain ⟨l,hl⟩:=hb.chain hm
  have h1:=hl.push hno hf1 (v:=1) (by omega) fun s hs=>by
   obtain ⟨i,hi,rfl⟩:=List.mem_iff_getElem.1 hs
   have:=(hl.at_ i hi).2.1
   omega
  have h2:=hf2 _ h1.1
  omega
 have hgr:=(zgB hno hf1 hb.mem0 h1D hcl).1
 have hmf:=zgj hf1 hf2
 have hn':=hn
 obtain ⟨hn0,hn1,hal,hav⟩:=hn
 simp only at hn0 hn1 hal hav
 have hmD : ∀ x,x∈inD D N↔x∈D:=fun x=>by
  rw [zn0]
  exact ⟨fun h=>h.2,fun h=>⟨hb.rng x h,h⟩⟩
 have hside : zcx ⟨N,A⟩ (inD D N):=⟨hn',zf1 (zq4 D N) fun k hk=>by have:=(zn0.1 hk).1; simp only; omega,(hmD 0).2 hb.mem0,fun h=>h1D ((hmD 1).1 h)⟩
 have hcut : cutV A (inD D N)=maxF N A:=by
  rw [zkF,hmf,hgr]
  congr 1
  funext x
  exact decide_eq_decide.2 (hmD x)
 refine ⟨inD D N,⟨hside,hcut,Nat.le_trans (zp6 D N) (by omega),zna hno hf1 hf2 hb.tree hb.mem0 h1D hcl⟩,?_⟩
 have hblen:=hb.len
 have hbk : ∀ k : Nat,1≤k→k<N→b[k]? = some (b.getD k 0)∧(b.getD k 0=0↔(k : Int)∉D):=fun k h1 h2=>by
  refine ⟨by rw [List.getD_eq_getElem?_getD,List.getElem?_eq_getElem (by omega),Option.getD_some],fun h hm=>?_,fun h=>?_⟩
  ·have:=hb.inn k hm (by omega)
   simp only [Int.toNat_natCast] at this
   exact this h
  ·have:=hb.out k (by omega) h
   simpa using this
 have htake : ∀ g : Int→List AV,List.take A.length (List.map g f)=List.map g f:=fun g=>List.take_of_length_le (by simp; omega)
 refine zlO.acalls (nbz rfl) (nbz rfl) (Nat.zero_le _) ?_
 show awp _ 0 _ _ ⟨37,[(0,eN ⟨N,A⟩)],[],16⟩
 refine rx (s:=?s1) [1] [] [16] rfl ?o1 ?q1
 case o1=>simp; rfl
 refine zaa ⟨37,[(1,.pv (nC ⟨N,A⟩)),(4,.rs 33 0 A.length),(5,.I 0)],[(33,some ⟨1,zah f,0⟩)],100⟩ rfl ?_ ?_
 ·simp
  refine zaY hmax (by simp) ?_
  simp
  exact LeI [(48,33)] []
 refine zab ?_
 refine zaa ⟨37,[(1,.pv (nC ⟨N,A⟩)),(4,.rs 33 0 A.length),(15,.B false)],[(33,some ⟨1,zah f,0⟩)],200⟩ rfl ?_ ?_
 ·simp
  exact LeI [(33,33)] []
 refine zac _ rfl (fun h=>by cases h) fun _=>?_
 refine zad ?_
 refine zaa ⟨37,[(1,.pv (nC ⟨N,A⟩)),(6,.rs 34 0 N)],[(34,some ⟨1,zah b,0⟩)],300⟩ rfl ?_ ?_
 ·simp
  refine ziH [33] hcall (by simp [fcd,htake,hfl]) (.rs _ _ _) zrr ?_
  simp
  exact LeI [(216,34)] []
 have hi1 : inD D 1=[0]:=by
  rw [znX]
  have : ((0 : Nat) : Int)∈D:=hb.mem0
  rw [if_pos this]
  rfl
 refine zaa ⟨37,[(1,.pv (nC ⟨N,A⟩)),(6,.rs 34 0 N),(7,.rs 35 0 (inD D 1).length)],[(34,some ⟨1,zah b,0⟩),(35,some ⟨1,zah (inD D 1),0⟩)],400⟩ rfl ?_ ?_
 ·rw [hi1]
  simp
  exact LeI [(34,34),(300,35)] []
 refine zab ?_
 refine zaa ⟨37,[(1,.pv (nC ⟨N,A⟩)),(6,.rs 34 0 N),(7,.rs 35 0 (inD D 1).length),(8,.I 1)],[(34,some ⟨1,zah b,0⟩),(35,some ⟨1,zah (inD D 1),0⟩)],500⟩ rfl ?_ ?_
 ·simp
  exact LeI [(34,34),(35,35)] []
 refine zaf ?_
 refine zan (ι:=Nat) (fun k=>⟨37,[(1,.pv (nC ⟨N,A⟩)),(6,.rs 34 0 N),(7,.rs 35 0 (inD D k).length),(8,.I k)],[(34,some ⟨1,zah b,0⟩),(35,some ⟨1,zah (inD D k),0⟩)],500⟩) (fun k=>1≤k∧k≤N) (fun k=>N - k) 1 (by omega) (LeI [(34,34),(35,35)] []) ?_
 rintro k ⟨hk1,hk2⟩
 have hdl:=zp6 D k
 refine zab ?_
 refine zaa ⟨37,[(1,.pv (nC ⟨N,A⟩)),(6,.rs 34 0 N),(7,.rs 35 0 (inD D k).length),(8,.I k),(24,.B (decide (k<N)))],[(34,some ⟨1,zah b,0⟩),(35,some ⟨1,zah (inD D k),0⟩)],600⟩ rfl ?_ ?_
 ·simp
  exact LeI [(34,34),(35,35)] []
 refine zac _ rfl (fun h10=>?_) fun h10=>?_
 ·simp at h10
  obtain ⟨hbe,hbi⟩:=hbk k hk1 h10
  obtain ⟨y,hy⟩ : ∃ y,y=b.getD k 0:=⟨_,rfl⟩
  rw [← hy] at hbe hbi
  have hsu:=znX D k
  have hw1 : IntKind.i64.wrap ((k : Int)+1)=(k : Int)+1:=w64 (by omega) (by omega)
  refine zad ?_
  refine zaK (ι:=Unit) (fun _=>⟨37,[(1,.pv (nC ⟨N,A⟩)),(6,.rs 34 0 N),(7,.rs 35 0 (inD D (k+1)).length),(8,.I k)],[(34,some ⟨1,zah b,0⟩),(35,some ⟨1,zah (inD D (k+1)),0⟩)],1000⟩) (fun _=>True) ?_ fun _ _=>?_
  ·refine zaf ?_
   refine zaa ⟨37,[(1,.pv (nC ⟨N,A⟩)),(6,.rs 34 0 N),(7,.rs 35 0 (inD D k).length),(8,.I k),(31,.B (!decide (y=0)))],[(34,some ⟨1,zah b,0⟩),(35,some ⟨1,zah (inD D k),0⟩)],700⟩ rfl ?_ ?_
   ·simp [hbe,h10]
    exact Le.go [(34,34),(35,35)] [] rfl rfl (by simp <;> exact wkB (by rw [Bool.eq_iff_iff]; simp)) (by simp [fcd])
   refine zac _ rfl (fun h12=>?_) fun h12=>?_
   ·simp at h12
    rw [if_pos (Decidable.byContradiction fun h=>h12 (hbi.2 h))] at hsu
    rw [hsu]
    obtain ⟨E,hE⟩ : ∃ E,E=inD D k:=⟨_,rfl⟩
    rw [← hE] at hdl ⊢
    have htk : ∀ g : Int→List AV,List.take E.length (List.map g E)=List.map g E:=fun g=>List.take_of_length_le (by simp)
    refine zar rfl ?_
    simp [htk]
    exact ⟨by omega,by omega,LeI [(34,34),(724,35)] []⟩
   ·simp at h12
    rw [if_neg (hbi.1 h12),List.append_nil] at hsu
    rw [hsu]
    refine zad ?_
    exact ⟨(),trivial,LeI [(34,34),(35,35)] []⟩
  refine zae (s:=?s10) rfl ?o10 ?q10
  case o10=>simp; rfl
  exact ⟨k+1,by omega,by omega,Le.go [(34,34),(35,35)] [] rfl rfl (by simp [hw1]) (by simp [fcd])⟩
 simp at h10
 obtain rfl : k=N:=by omega
 refine zal ?_
 refine hit ?_
 refine zaa ⟨37,[(2,.rs 35 0 (inD D k).length),(3,.I 0)],[(35,some ⟨1,zah (inD D k),0⟩)],700⟩ rfl ?_ ?_
 ·simp
  exact LeI [(35,35)] []
 refine zag ?_
 exact ⟨.inr rfl,zak.out [35] [] rfl (by simp) (by simp) (by simp) (by simp [fcd])⟩
abbrev zaJ (R : List (Int × List Int)) : List (List AV):=R.map fun r=>[.I r.1,ints r.2]
abbrev eAcc (acc flow : List Int) (R : List (Int × List Int)) : AV:=.agg [ints acc,ints flow,.vs 2 false (zaJ R)]
structure RSt where
 i : Nat
 R : List (Int × List Int)
set_option maxRecDepth 100000 in
set_option maxHeartbeats 4000000 in
open Classical in
theorem zxQ (g : Gr) (p : Pol) (hg : GrOk g) (hp : za3 g.size p) (hs : p.seeds.length≤64) :
  ∃ x : List (Int × List Int) × List Int,(zin g p (ordL (zao g p.lv) p.seeds) x.1∧zdP g p (zau (accR g p (ordL (zao g p.lv) p.seeds))) x.2) ∧
    zai Tryz.prog zgG [eG g,eP p] [] (.tup [eAcc (accR g p (ordL (zao g p.lv) p.seeds)) x.2 x.1,.I 0]) []:=by
 refine zsJ.acallsX (args:=[eG g,eP p]) (hs:=[]) (fun x=>.tup [eAcc (accR g p (ordL (zao g p.lv) p.seeds)) x.2 x.1,.I 0]) (fun _=>[]) (fun x : List (Int × List Int) × List Int=>zin g p (ordL (zao g p.lv) p.seeds) x.1∧zdP g p (zau (accR g p (ordL (zao g p.lv) p.seeds))) x.2) (nbz rfl) (nbz rfl) (fun _=>Nat.le_refl _) ?_
 show awp _ 0 _ _ ⟨84,[(0,eG g),(1,eP p)],[],16⟩
 have hsz:=hg.1.1
 have hsz2:=hg.1.2.1
 have hel:=hg.edges_le
 have hgl:=hg.gone_le
 have hchk:=zeY g p (by omega) (by omega) (by omega) (by have:=hp.2.2.2.1; omega)
 rw [if_pos hg,if_pos hp] at hchk
 have hlev:=zdy g p.lv (by omega) (by omega)
 have hord:=zg0 (g:=zao g p.lv) (S:=p.seeds) (hg.level p.lv) (by omega)
 obtain ⟨o,ho⟩ : ∃ o,o=ordL (zao g p.lv) p.seeds:=⟨_,rfl⟩
 have hor : ∀ k∈o,0≤k∧k<g.size:=fun k hk=>by rw [ho] at hk; have h:=zch hk; exact h
 have hon : o.Nodup:=by rw [ho]; exact zbr _ _
 rw [← ho] at hord ⊢
 have hol : o.length≤64:=by
  have:=zbo (b:=(List.range g.size.toNat).map fun i : Nat=>(i : Int)) hon fun x hx=>by
   have:=hor x hx
   exact List.mem_map.2 ⟨x.toNat,List.mem_range.2 (by omega),by omega⟩
  simp at this
  omega
 have hjr : ∀ a : List Int,(∀ x∈a,0≤x∧x<g.size)→Rise (zau a) 0 (g.size - 1):=fun a h=>zde h
 have hj0 : zau []=[]:=rfl
 refine rx (s:=?s1) [2,3,4] [32] [16,24] rfl ?o1 ?q1
 case o1=>simp; rfl
 refine zab ?_
 refine rx (s:=?s2) [2,3,4,6] [32] [] rfl ?o2 ?q2
 case o2=>simp; refine zaj hchk (by simp) ?_; simp; rfl
 refine rx (s:=?s3) [2,3,4,6,21] [32] [] rfl ?o3 ?q3
 case o3=>simp; rfl
 refine zac _ rfl (fun h=>by cases h) fun _=>?_
 refine zad ?_
 refine zaa ⟨84,[(2,.pv (gC g)),(3,.pv (pC p)),(4,.pt 32 0 0),(7,.pt 40 0 0)],[(32,some ⟨3,[[.nilS,.nilS,.nilS]],0⟩),(40,some ⟨3,[[.nilS,.nilS,.nilS]],0⟩)],200⟩ rfl ?_ ?_
 ·simp
  exact LeH [(32,32),(96,40)] []
 refine zaa ⟨84,[(2,.pv (gC g)),(3,.pv (pC p)),(4,.pt 32 0 0),(7,.pt 40 0 0),(8,.vs 1 false [])],[(32,some ⟨3,[[.nilS,.nilS,.nilS]],0⟩),(40,some ⟨3,[[.nilS,.nilS,.nilS]],0⟩)],300⟩ rfl ?_ ?_
 ·simp
  exact LeH [(32,32),(40,40)] []
 refine zaq ⟨84,[(2,.pv (gC g)),(3,.pv (pC p)),(4,.pt 32 0 0),(7,.pt 40 0 0),(8,.vs 1 false []),(9,ints o)],[(32,some ⟨3,[[.nilS,.nilS,.nilS]],0⟩),(40,some ⟨3,[[.nilS,.nilS,.nilS]],0⟩)],400⟩ rfl ?_ ?_
 ·simp
  refine zaj hlev (by simp) ?_
  simp
  refine zaY hord (by simp) ?_
  simp
  exact ⟨rfl,Le.go [(32,32),(40,40)] [348] rfl rfl (by simp [fcd,zap]) (by simp)⟩
 refine zab ?_
 refine zaa ⟨84,[(2,.pv (gC g)),(3,.pv (pC p)),(4,.pt 32 0 0),(7,.pt 40 0 0),(8,.vs 1 false []),(9,ints o),(10,.I 0)],[(32,some ⟨3,[[.nilS,.nilS,.nilS]],0⟩),(40,some ⟨3,[[.nilS,.nilS,.nilS]],0⟩)],500⟩ rfl ?_ ?_
 ·simp
  exact LeH [(32,32),(40,40)] []
 refine zaf ?_
 refine zan (ι:=RSt) (fun s=>⟨84,[(2,.pv (gC g)),(3,.pv (pC p)),(4,.pt 32 0 0),(7,.pt 40 0 0),(8,ints (zau (accR g p (o.take s.i)))),(9,ints o),(10,.I s.i)],
   [(32,some ⟨3,[[.nilS,.nilS,.nilS]],0⟩),(40,some ⟨3,[[.rs 41 0 (accR g p (o.take s.i)).length,.nilS,.rs 42 0 s.R.length]],0⟩),(41,some ⟨1,zah (accR g p (o.take s.i)),0⟩),(42,some ⟨2,zaJ s.R,0⟩)],500⟩)
  (fun s=>s.i≤o.length∧zin g p (o.take s.i) s.R) (fun s=>o.length - s.i) ⟨0,[]⟩ ⟨Nat.zero_le _,zin.nil⟩
  (Le.lst [(32,32),(40,40)] [] [(41,1),(42,2)] rfl (by simp) (by simp) (by simp) (by simp) (by simp) (by simp) (by simp) (by simp [Up,zj9,hj0]; exact .refl _) (by simp [zj9,fcd]; exact ⟨zaH.rfl' (by simp),zaH.row rfl (by omega) (by simp [UpL,Up,Wk.refl])⟩)) ?_
 rintro ⟨i,R⟩ ⟨hi,hR⟩
 simp only at hi hR
 obtain ⟨acc,hacc⟩ : ∃ acc,acc=accR g p (o.take i):=⟨_,rfl⟩
 have hai : ∀ x∈acc,0≤x∧x<g.size:=fun x hx=>hor x (List.mem_of_mem_take (zd8 (hacc ▸ hx)))
 have hal : acc.length≤64:=by
  have h1:=zmP (g:=g) (p:=p) (o.take i)
  rw [← hacc] at h1
  exact Nat.le_trans h1 (Nat.le_trans (List.length_take_le' i o) hol)
 have hRl:=hR.len
 have hRl2:=List.length_take_le' i o
 rw [← hacc]
 refine zab ?_
 refine zaa ⟨84,[(2,.pv (gC g)),(3,.pv (pC p)),(4,.pt 32 0 0),(7,.pt 40 0 0),(8,ints (zau acc)),(9,ints o),(10,.I i),(34,.B (decide (i<o.length)))],
   [(32,some ⟨3,[[.nilS,.nilS,.nilS]],0⟩),(40,some ⟨3,[[.rs 41 0 acc.length,.nilS,.rs 42 0 R.length]],0⟩),(41,some ⟨1,zah acc,0⟩),(42,some ⟨2,zaJ R,0⟩)],600⟩ rfl ?_ ?_
 ·simp
  exact LeI [(32,32),(40,40),(41,41),(42,42)] []
 refine zac _ rfl (fun h11=>?_) fun h11=>?_
 ·simp at h11
  have hw1 : IntKind.i64.wrap ((i : Int)+1)=(i : Int)+1:=w64 (by omega) (by omega)
  obtain ⟨k,hk⟩ : ∃ k,k=o[i]:=⟨_,rfl⟩
  have hkr:=hor _ (List.getElem_mem h11)
  rw [← hk] at hkr
  have hts : o.take (i+1)=o.take i++[k]:=by rw [List.take_succ_eq_append_getElem h11,hk]
  have hput:=zrG (zau acc) k (by have:=zbN acc; omega)
  rw [zkj hkr.1 (by omega)] at hput
  have hks : ∀ x∈acc++[k],0≤x∧x<g.size:=fun x hx=>by
   rcases List.mem_append.1 hx with h | h
   ·exact hai x h
   ·rw [List.mem_singleton] at h; subst h; exact hkr
  have hrise:=hjr _ hks
  have hJl:=zbN (acc++[k])
  obtain ⟨f,hf,hsv⟩:=zrk g p (zau (acc++[k])) hg hp hrise hs hJl
  have hnv:=zfp hg hp (zgi hrise) hs hJl
  obtain ⟨side,⟨hsd1,hsd2,hsd3,hsd4⟩,hnear⟩:=zt9 _ _ hnv
  have hyes:=zbS (g:=g) (p:=p) (o:=o.take i) (k:=k)
  have hno:=zg9 (g:=g) (p:=p) (o:=o.take i) (k:=k)
  rw [← hacc,← hts] at hyes hno
  have hRy:=hR.yes (k:=k)
  have hRn:=fun h=>hR.no (k:=k) (side:=side) h
  rw [← hacc,← hts] at hRy hRn
  obtain ⟨J,hJ⟩ : ∃ J,J=zau (acc++[k]):=⟨_,rfl⟩
  rw [← hJ] at hput hsv hnear hsd1 hsd2 hsd4 hyes hno hRy hf
  refine zad ?_
  refine zaK (ι:=RSt) (fun s=>⟨84,[(2,.pv (gC g)),(3,.pv (pC p)),(4,.pt 32 0 0),(7,.pt 40 0 0),(8,ints (zau (accR g p (o.take (i+1))))),(9,ints o),(10,.I i)],
   [(32,some ⟨3,[[.nilS,.nilS,.nilS]],0⟩),(40,some ⟨3,[[.rs 41 0 (accR g p (o.take (i+1))).length,.nilS,.rs 42 0 s.R.length]],0⟩),(41,some ⟨1,zah (accR g p (o.take (i+1))),0⟩),(42,some ⟨2,zaJ s.R,0⟩)],3000⟩)
   (fun s=>zin g p (o.take (i+1)) s.R) ?_ fun s hs'=>?_
  ·refine zaf ?_
   refine zaa ⟨84,[(2,.pv (gC g)),(3,.pv (pC p)),(4,.pt 32 0 0),(7,.pt 40 0 0),(8,ints (zau acc)),(9,ints o),(10,.I i),(11,.I k)],
    [(32,some ⟨3,[[.nilS,.nilS,.nilS]],0⟩),(40,some ⟨3,[[.rs 41 0 acc.length,.nilS,.rs 42 0 R.length]],0⟩),(41,some ⟨1,zah acc,0⟩),(42,some ⟨2,zaJ R,0⟩)],700⟩ rfl ?_ ?_
   ·simp [h11,← hk]
    exact LeI [(32,32),(40,40),(41,41),(42,42)] []
   refine zaq ⟨84,[(2,.pv (gC g)),(3,.pv (pC p)),(4,.pt 32 0 0),(7,.pt 40 0 0),(8,ints (zau acc)),(9,ints o),(10,.I i),(11,.I k),(12,.pv (nC ⟨netN g,netA g p J⟩)),(14,.B (decide (zas g p J)))],
    [(32,some ⟨3,[[.nilS,.nilS,.nilS]],0⟩),(40,some ⟨3,[[.rs 41 0 acc.length,.nilS,.rs 42 0 R.length]],0⟩),(41,some ⟨1,zah acc,0⟩),(42,some ⟨2,zaJ R,0⟩)],900⟩ rfl ?_ ?_
   ·simp
    refine zaY hput (by simp) ?_
    simp
    refine zrA (j:=732) (by decide) rfl hsv (by simp [fcd,zap]) ?_
    simp
    exact ⟨rfl,Le.go [(32,32),(40,40),(41,41),(42,42)] [780,732,740] rfl rfl (by simp [zap]) (by simp [fcd])⟩
   refine zab ?_
   refine zaa ⟨84,[(2,.pv (gC g)),(3,.pv (pC p)),(4,.pt 32 0 0),(7,.pt 40 0 0),(8,ints (zau acc)),(9,ints o),(10,.I i),(11,.I k),(12,.pv (nC ⟨netN g,netA g p J⟩)),(51,.B (decide (zas g p J)))],
    [(32,some ⟨3,[[.nilS,.nilS,.nilS]],0⟩),(40,some ⟨3,[[.rs 41 0 acc.length,.nilS,.rs 42 0 R.length]],0⟩),(41,some ⟨1,zah acc,0⟩),(42,some ⟨2,zaJ R,0⟩)],1000⟩ rfl ?_ ?_
   ·simp
    exact LeI [(32,32),(40,40),(41,41),(42,42)] []
   refine zac _ rfl (fun h15=>?_) fun h15=>?_
   ·have h15' : zas g p J:=of_decide_eq_true h15
    have hy:=hyes h15'
    have hRy':=hRy h15'
    refine zaa ⟨84,[(2,.pv (gC g)),(3,.pv (pC p)),(4,.pt 32 0 0),(7,.pt 40 0 0),(8,ints J),(9,ints o),(10,.I i)],
     [(32,some ⟨3,[[.nilS,.nilS,.nilS]],0⟩),(40,some ⟨3,[[.rs 41 0 (acc++[k]).length,.nilS,.rs 42 0 R.length]],0⟩),(41,some ⟨1,zah (acc++[k]),0⟩),(42,some ⟨2,zaJ R,0⟩)],1200⟩ rfl ?_ ?_
    ·simp [zap]
     refine ⟨by omega,by omega,?_⟩
     refine zaY hput (by simp) ?_
     simp [zay]
     exact Le.go [(32,32),(40,40),(1032,41),(42,42)] [1056] rfl rfl (by simp [fcd,zap]) (by simp [fcd])
    refine zal ?_
    refine hit ?_
    exact ⟨⟨i,R⟩,hRy',Le.go [(32,32),(40,40),(41,41),(42,42)] [] rfl rfl (by simp [hy,← hJ]) (by simp [hy,fcd])⟩
   ·have h15' : ¬ zas g p J:=of_decide_eq_false h15
    have hn':=hno h15'
    have hRn':=hRn ⟨by rw [← hJ]; exact h15',by rw [← hJ]; exact hsd1,by rw [← hJ]; exact hsd2,hsd3,by rw [← hJ]; exact hsd4⟩
    refine zad ?_
    refine zaa ⟨84,[(2,.pv (gC g)),(3,.pv (pC p)),(4,.pt 32 0 0),(7,.pt 40 0 0),(8,ints (zau acc)),(9,ints o),(10,.I i),(11,.I k),(15,ints side)],
     [(32,some ⟨3,[[.nilS,.nilS,.nilS]],0⟩),(40,some ⟨3,[[.rs 41 0 acc.length,.nilS,.rs 42 0 R.length]],0⟩),(41,some ⟨1,zah acc,0⟩),(42,some ⟨2,zaJ R,0⟩)],1200⟩ rfl ?_ ?_
    ·simp
     refine zaY hnear (by simp) ?_
     simp
     exact Le.go [(32,32),(40,40),(41,41),(42,42)] [1008] rfl rfl (by simp [fcd,zap]) (by simp [fcd])
    have htR : ∀ h : Int × List Int→List AV,List.take R.length (List.map h R)=List.map h R:=fun h=>List.take_of_length_le (by simp)
    refine zar rfl ?_
    simp [htR,zay]
    exact ⟨by omega,by omega,⟨i,R++[(k,side)]⟩,hRn',Le.go [(32,32),(40,40),(41,41),(1248,42)] [] rfl rfl (by simp [hn']) (by simp [hn',fcd])⟩
  refine zae (s:=?s30) rfl ?o30 ?q30
  case o30=>simp; rfl
  exact ⟨⟨i+1,s.R⟩,⟨h11,hs'⟩,Nat.sub_lt_sub_left h11 (Nat.lt_succ_self i),Le.go [(32,32),(40,40),(41,41),(42,42)] [] rfl rfl (by simp [hw1]) (by simp [fcd])⟩
 simp at h11
 obtain rfl : i=o.length:=by omega
 rw [List.take_length] at hacc hR
 obtain ⟨f,hf,hsv⟩:=zrk g p (zau acc) hg hp (hjr _ hai) hs (zbN acc)
 refine zal ?_
 refine hit ?_
 have hfl:=hf.ok.fit.len
 have htf : ∀ h : Int→List AV,List.take (netA g p (zau acc)).length (List.map h f)=List.map h f:=fun h=>List.take_of_length_le (by simp; omega)
 refine zaa ⟨84,[(4,.pt 32 0 0),(7,.pt 40 0 0)],
   [(32,some ⟨3,[[.nilS,.nilS,.nilS]],0⟩),(40,some ⟨3,[[ints acc,ints f,.vs 2 false (zaJ R)]],0⟩)],1200⟩ rfl ?_ ?_
 ·simp
  refine zaY hsv (by simp) ?_
  simp [zay]
  exact Le.go [(32,32),(40,40)] [41,42,624] rfl rfl (by simp) (by simp [fcd,zap,htf,hfl])
 refine zaa ⟨84,[(4,.pt 32 0 0),(5,.I 0)],[(32,some ⟨3,[[ints acc,ints f,.vs 2 false (zaJ R)]],0⟩)],1400⟩ rfl ?_ ?_
 ·simp [zay]
  exact LeI [(32,32)] []
 refine zag ?_
 exact zhb.mk (.inr rfl) (R,f) ⟨hR,by rw [← hacc]; exact hf⟩ (zak.out [] [] rfl (by simp) (by simp) (by simp [← hacc]) (by simp))
theorem WayA.mem {A : List Ed} : ∀ {l : List Nat} {u w : Int},WayA A u l w → ∀ j∈l,j<A.length
 | i::l,u,w,hw,j,hj=>by
   rcases List.mem_cons.1 hj with rfl | hj
   ·exact hw.1
   ·exact WayA.mem hw.2.2 j hj
theorem zlz.few {N : Nat} {A : List Ed} {f g : List Int} {l : List Nat} {w : Int} (hn : zew N A) (h : zlz A f g l w) : l.length+1≤N:=by
 have:=zbo (b:=(List.range N).map fun i : Nat=>(i : Int)) h.met fun x hx=>by
  rcases List.mem_cons.1 hx with rfl | hx
  ·have:=hn.two
   exact List.mem_map.2 ⟨0,List.mem_range.2 (by omega),rfl⟩
  ·obtain ⟨j,hj,rfl⟩:=List.mem_map.1 hx
   have ha:=hn.arc _ (zed (h.way.mem j hj))
   exact List.mem_map.2 ⟨(arcD A j).t.toNat,List.mem_range.2 (by omega),by omega⟩
 simpa [metA] using this
end Go.Proofs.YthmaflecfppoiaaGreat
