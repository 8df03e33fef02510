/- Texts of this claim,merged. -/
import Derived.Test.YteiabadhhhckfaaGreatRi10
import Derived.Test.YteiabadhhhckfaaGreatRi7
import Derived.Test.YteiabadhhhckfaaGreatRi9
set_option linter.unusedSimpArgs false
set_option linter.unusedVariables false
set_option linter.unusedSectionVars false
namespace Go.Proofs.YteiabadhhhckfaaGreat
open Go
def zcO (c : Int → Int → Int) : List Int → Int → List Int
 | [],x=>[x]
 | y :: r,x=>if c x y < 0 then y :: zcO c r x else x :: y :: r
def zci (c : Int → Int → Int) (M : List Int) : List Int:=M.foldl (zcO c) []
def zfQ (c : Int → Int → Int) (M : List Int) : List Int:=(zci c M).reverse
theorem zez (c : Int → Int → Int) : ∀ (r : List Int) (x : Int),(zcO c r x).Perm (x :: r)
 | [],x=>.refl _
 | y :: r,x=>by
   unfold zcO
   split
   ·exact ((zez c r x).cons y).trans (.swap _ _ _)
   ·exact .refl _
theorem zk2 (c : Int → Int → Int) (M : List Int) (k : Nat) (h : k < M.length) : zci c (M.take (k + 1)) = zcO c (zci c (M.take k)) M[k]:=by
 unfold zci
 rw [← List.take_concat_get h,List.concat_eq_append,List.foldl_append]
 rfl
theorem zeO (c : Int → Int → Int) (M : List Int) : (zci c M).Perm M:=by
 have key : ∀ (M acc : List Int),(M.foldl (zcO c) acc).Perm (M ++ acc):=by
  intro M
  induction M with
  | nil=>intro acc; exact .refl _
  | cons x M ih =>
    intro acc
    refine (ih _).trans ?_
    refine ((zez c acc x).append_left M).trans ?_
    simp only [List.cons_append]
    exact List.perm_middle
 simpa [zci] using key M []
theorem zh1 (c : Int → Int → Int) (M : List Int) : (zci c M).length = M.length:=(zeO c M).length_eq
theorem zrn (c : Int → Int → Int) (x : Int) : zci c [x] = [x]:=rfl
theorem Le.np1 {st st' : St} {D : List Int} (sn : List Nat) (hsz : st'.sz = st.sz) (hn : 1 ≤ st'.n) (hh : st'.h = [(0,some ⟨1,zaf D,0⟩)]) (hs : ∀ k ∈ sn,1 ≤ k) (he : st.hp 0 = some ⟨1,zaf D,0⟩) (ht : ∀ p ∈ st'.t,Wk (conv [(0,0)] sn st.hp 4 (st.get p.1)) p.2) : Le 1 st st' :=
 Le.ents [(0,0)] sn hsz (by simp) (by simp) (by simp; omega) (fun k hk=>⟨hs k hk,by have:=hs k hk; simp; omega⟩) hn ht (fun p hp=>by
  rw [hh] at hp
  simp at hp
  subst hp
  exact ⟨0,_,_,rfl,by simp,he,zaA.eq (by simp [fcd]) (by simp)⟩)
theorem zru {H T : List Int} {y x : Int} {h : Nat} (hh : H.length = h) : (zaf (H ++ y :: x :: T))[h]? = some [AV.I y] ∧ (zaf (H ++ y :: x :: T))[h + 1]? = some [AV.I x]:=by
 subst hh
 constructor
 ·rw [List.getElem?_map,List.getElem?_append_right (by omega)]
  simp
 ·rw [List.getElem?_map,List.getElem?_append_right (by omega)]
  simp
theorem ztu {H T : List Int} {y x : Int} {h : Nat} (hh : H.length = h) : ((zaf (H ++ y :: x :: T)).set (h + 1) [AV.I y]).set h [AV.I x] = zaf (H ++ x :: y :: T):=by
 subst hh
 simp [zaf,List.set_append]
set_option maxHeartbeats 4000000 in
set_option maxRecDepth 100000 in
theorem znl (f : FuncId) (capt : List AV) (c : Int → Int → Int) (A M B : List Int) (n a b : Nat) (hn : (A ++ M ++ B).length = n) (ha : A.length = a) (hb : a + M.length = b) (hl : n ≤ 1000000) (hs : zhN capt)
  (hc : ∀ x ∈ M,∀ y ∈ M,zaj Tryz.prog f (AV.I x :: AV.I y :: capt) [] (.I (c x y)) []) :
  zaj Tryz.prog zaN [.rs 0 0 n,.I a,.I b,.fn (.func f) [] capt] [⟨1,zaf (A ++ M ++ B),0⟩] (.tup []) [some ⟨1,zaf (A ++ zfQ c M ++ B),0⟩]:=by
 have hs2 : ∀ ρ sn h,capt.map (conv ρ sn h 2) = capt:=fun _ _ _=>hs _ _ _ 1
 have hs3 : ∀ ρ sn h,capt.map (conv ρ sn h 3) = capt:=fun _ _ _=>hs _ _ _ 2
 have hs4 : ∀ ρ sn h,capt.map (conv ρ sn h 4) = capt:=fun _ _ _=>hs _ _ _ 3
 refine zcJ.acalls (nbz rfl) (nbz rfl) (nbz rfl) ?_
 show awp _ 1 _ _ ⟨53,[(0,.rs 0 0 n),(1,.I a),(2,.I b),(3,.fn (.func f) [] capt)],[(0,some ⟨1,zaf (A ++ M ++ B),0⟩)],16⟩
 have hlen : a + (M.length + B.length) = n:=by
  simp only [List.length_append] at hn
  omega
 have hbn : b ≤ n:=by omega
 have hwa : IntKind.i64.wrap ((a : Int) + 1) = ((a + 1 : Nat) : Int):=by rw [w64 (by omega) (by omega)]; omega
 let Lk : Nat → List Int:=fun k=>A ++ ((zci c (M.take k)).reverse ++ (M.drop k ++ B))
 have hL1 : A ++ M ++ B = Lk 1:=by
  cases M with
  | nil=>simp [Lk,zci]
  | cons m M=>simp [Lk,zrn]
 rw [hL1]
 refine zaa ⟨53,[(0,.rs 0 0 n),(1,.I a),(2,.I b),(3,.fn (.func f) [] capt),(8,.I (a + 1 : Nat))],[(0,some ⟨1,zaf (Lk 1),0⟩)],40⟩ rfl ?_ ?_
 ·simp [hwa]
  exact Le.keep rfl (Nat.le_refl _) (by simp) (by simp)
 refine zag ?_
 refine zao (ι:=Nat) (fun k=>⟨53,[(0,.rs 0 0 n),(1,.I a),(2,.I b),(3,.fn (.func f) [] capt),(8,.I (a + k : Nat))],[(0,some ⟨1,zaf (Lk k),0⟩)],40⟩) (fun k=>1 ≤ k ∧ k ≤ M.length + 1 ∧ (M.length ≤ k → zaf (Lk k) = zaf (A ++ zfQ c M ++ B))) (fun k=>M.length + 1 - k) 1 ?_ (Le.refl _ _) ?_
 ·refine ⟨Nat.le_refl _,by omega,fun h=>?_⟩
  simp only [Lk]
  rw [List.take_of_length_le h,List.drop_eq_nil_of_le h]
  simp [zfQ]
 rintro k ⟨hk1,hk2,hk3⟩
 refine zab ?_
 refine zaa ⟨53,[(0,.rs 0 0 n),(1,.I a),(2,.I b),(3,.fn (.func f) [] capt),(8,.I (a + k : Nat)),(14,.B (decide (k < M.length)))],[(0,some ⟨1,zaf (Lk k),0⟩)],64⟩ rfl ?_ ?_
 ·simp
  exact Le.keep rfl (Nat.le_refl _) (by simp <;> omega) (by simp)
 refine zac _ rfl (fun h=>zad ?_) fun h=>zan (hit ?_)
 ·simp only [decide_eq_true_eq] at h
  refine zaI (ι:=Unit) (fun _=>⟨53,[(0,.rs 0 0 n),(1,.I a),(2,.I b),(3,.fn (.func f) [] capt),(8,.I (a + k : Nat))],[(0,some ⟨1,zaf (Lk (k + 1)),0⟩)],64⟩) (fun _=>True) ?_ fun _ _=>?_
  ·have hx : M[k] ∈ M:=List.getElem_mem h
   have hdrop : M.drop k = M[k] :: M.drop (k + 1):=List.drop_eq_getElem_cons h
   have hsucc:=zk2 c M k h
   generalize M[k] = x at *
   obtain ⟨D,hD⟩ : ∃ D,D = M.drop (k + 1) ++ B:=⟨_,rfl⟩
   obtain ⟨R,hR⟩ : ∃ R,R = zci c (M.take k):=⟨_,rfl⟩
   have hRm : ∀ y ∈ R,y ∈ M:=fun y hy=>by
    rw [hR] at hy
    exact List.mem_of_mem_take ((zeO c _).mem_iff.1 hy)
   have hRl : R.length = k:=by rw [hR,zh1]; simp; omega
   have hDl : D.length + k + 1 = M.length + B.length:=by rw [hD]; simp; omega
   have hLk : Lk k = A ++ R.reverse ++ x :: D:=by simp only [Lk]; rw [hdrop,← hR,hD]; simp
   have hLk1 : Lk (k + 1) = A ++ (zcO c R x).reverse ++ D:=by simp only [Lk]; rw [hsucc,← hR,hD]; simp
   rw [hLk,hLk1]
   refine zag ?_
   refine zaa ⟨53,[(0,.rs 0 0 n),(1,.I a),(2,.I b),(3,.fn (.func f) [] capt),(8,.I (a + k : Nat)),(9,.I (a + k : Nat))],[(0,some ⟨1,zaf (A ++ R.reverse ++ x :: D),0⟩)],80⟩ rfl ?_ ?_
   ·simp
    exact Le.keep rfl (Nat.le_refl _) (by simp) (by simp)
   refine zag ?_
   let C : List Int × List Int → St:=fun p=>⟨53,[(0,.rs 0 0 n),(1,.I a),(2,.I b),(3,.fn (.func f) [] capt),(8,.I (a + k : Nat)),(9,.I (a + p.2.length : Nat))],[(0,some ⟨1,zaf (A ++ p.2.reverse ++ x :: (p.1 ++ D)),0⟩)],80⟩
   refine zao C (fun p : List Int × List Int=>zcO c R x = p.1.reverse ++ zcO c p.2 x ∧ p.1.length + p.2.length = k ∧ ∀ y ∈ p.2,y ∈ M) (fun p : List Int × List Int=>p.2.length) ([],R) ⟨rfl,by simpa using hRl,hRm⟩ ?_ ?_
   ·simp only [C,hRl,List.nil_append]
    exact Le.refl _ _
   rintro ⟨U,V⟩ ⟨hins,hUV,hVm⟩
   simp only at hins hUV hVm
   match V,hins,hUV,hVm with
   | [],hins,hUV,hVm =>
     have hC : C (U,[]) = ⟨53,[(0,.rs 0 0 n),(1,.I a),(2,.I b),(3,.fn (.func f) [] capt),(8,.I (a + k : Nat)),(9,.I a)],[(0,some ⟨1,zaf (A ++ x :: (U ++ D)),0⟩)],80⟩:=by simp [C]
     rw [hC]
     refine zab ?_
     refine zaw ⟨53,[(0,.rs 0 0 n),(1,.I a),(2,.I b),(3,.fn (.func f) [] capt),(8,.I (a + k : Nat)),(34,.B false)],[(0,some ⟨1,zaf (A ++ x :: (U ++ D)),0⟩)],216⟩ rfl ?_ ?_
     ·simp
      exact ⟨rfl,Le.keep rfl (Nat.le_refl _) (by simp) (by simp)⟩
     refine zac _ rfl (fun h=>by cases h) fun h=>zan (hit ?_)
     have e : A ++ x :: (U ++ D) = A ++ (zcO c R x).reverse ++ D:=by rw [hins]; simp [zcO]
     rw [← e]
     exact ⟨(),trivial,Le.np1 [] rfl (by simp) rfl (by simp) rfl (by simp [hs2,hs3,hs4])⟩
   | y :: V',hins,hUV,hVm =>
     obtain ⟨H,hH⟩ : ∃ H,H = A ++ V'.reverse:=⟨_,rfl⟩
     obtain ⟨T,hT⟩ : ∃ T,T = U ++ D:=⟨_,rfl⟩
     obtain ⟨q,hq⟩ : ∃ q,q = a + V'.length:=⟨_,rfl⟩
     obtain ⟨j,hj⟩ : ∃ j,j = q + 1:=⟨_,rfl⟩
     have hHl : H.length = q:=by rw [hH,hq]; simp; omega
     have hgl : (H ++ y :: x :: T).length = n:=by
      have e : (H ++ y :: x :: T).length = H.length + (T.length + 2):=by simp
      rw [e,hHl,hT,List.length_append]
      simp at hUV
      omega
     have hg1:=(zru (T:=T) (y:=y) (x:=x) hHl).1
     have hg2:=(zru (T:=T) (y:=y) (x:=x) hHl).2
     have hset:=ztu (T:=T) (y:=y) (x:=x) hHl
     rw [← hj] at hg2 hset
     have hC : C (U,y :: V') = ⟨53,[(0,.rs 0 0 n),(1,.I a),(2,.I b),(3,.fn (.func f) [] capt),(8,.I (a + k : Nat)),(9,.I j)],[(0,some ⟨1,zaf (H ++ y :: x :: T),0⟩)],80⟩:=by
      simp [C,hH,hT,hj,hq,Nat.add_assoc]
     rw [hC]
     have hcy:=hc x hx y (hVm y List.mem_cons_self)
     have hjn : j < n:=by rw [← hgl,hj,← hHl]; simp
     have hwj : IntKind.i64.wrap ((j : Int) - 1) = (q : Int):=by rw [w64 (by omega) (by omega)]; omega
     have hqn : q < n:=by omega
     have haj : a < j:=by omega
     have hRl2 : (zaf (H ++ y :: x :: T)).length = n:=by rw [zaf,List.length_map,hgl]
     generalize hX : zaf (H ++ y :: x :: T) = X at *
     have hflat : ∀ ρ sn h m,X.map (List.map (conv ρ sn h (m + 1))) = X:=fun ρ sn h m=>by rw [← hX]; simp [fcd]
     refine zab ?_
     refine zaw ⟨53,[(0,.rs 0 0 n),(1,.I a),(2,.I b),(3,.fn (.func f) [] capt),(8,.I (a + k : Nat)),(9,.I j),(34,.B (decide (c x y < 0)))],[(0,some ⟨1,X,0⟩)],216⟩ rfl ?_ ?_
     ·simp [haj,hjn,hqn,hg1,hg2,hwj]
      refine zap hcy ?_ ?_
      ·simp [hs4]
      simp
      exact ⟨rfl,Le.keep rfl (Nat.le_refl _) (by simp) (by simp)⟩
     refine zac _ rfl (fun h5=>zad ?_) fun h5=>zan (hit ?_)
     ·simp only [decide_eq_true_eq] at h5
      have hg3 : (X.set j [AV.I y])[q]? = some [AV.I y]:=by
       rw [List.getElem?_set,if_neg (by omega)]
       exact hg1
      generalize hY : zaf (H ++ x :: y :: T) = Y at hset
      refine zaI (ι:=Unit) (fun _=>⟨53,[(0,.rs 0 0 n),(1,.I a),(2,.I b),(3,.fn (.func f) [] capt),(8,.I (a + k : Nat)),(9,.I j)],[(0,some ⟨1,Y,0⟩)],360⟩) (fun _=>True) ?_ fun _ _=>?_
      ·refine zag ?_
       refine zbf rfl ?_
       simp [hjn,hqn,hg1,hg2,hg3,hwj,zaJ]
       exact ⟨rfl,Le.keep rfl (Nat.le_refl _) (by simp) (by simp; exact hset)⟩
      refine zaq rfl ?_
      simp [hwj]
      refine ⟨y :: U,V',⟨?_,?_,?_⟩,?_,?_⟩
      ·rw [hins,zcO,if_pos h5]; simp
      ·simp at hUV ⊢; omega
      ·exact fun z hz=>hVm z (List.mem_cons_of_mem _ hz)
      ·simp
      ·have hC2 : C (y :: U,V') = ⟨53,[(0,.rs 0 0 n),(1,.I a),(2,.I b),(3,.fn (.func f) [] capt),(8,.I (a + k : Nat)),(9,.I q)],[(0,some ⟨1,Y,0⟩)],80⟩:=by rw [← hY]; simp [C,hH,hT,hq]
       rw [hC2]
       have hflat2 : ∀ ρ sn h m,Y.map (List.map (conv ρ sn h (m + 1))) = Y:=fun ρ sn h m=>by rw [← hY]; simp [fcd]
       exact Le.ents [(0,0)] [] rfl (by simp) (by simp) (by simp) (by simp) (by simp) (by simp [hs2,hs3,hs4]) fun p hp=>by
        simp at hp
        subst hp
        exact ⟨0,_,_,rfl,by simp,rfl,zaA.eq (by simp only [zay,hflat2]) (by simp)⟩
     ·simp only [decide_eq_false_iff_not] at h5
      have e : H ++ y :: x :: T = A ++ (zcO c R x).reverse ++ D:=by rw [hins,zcO,if_neg h5,hH,hT]; simp
      rw [← e,hX]
      exact ⟨(),trivial,Le.ents [(0,0)] [] rfl (by simp) (by simp) (by simp) (by simp) (by simp) (by simp [hs2,hs3,hs4]) fun p hp=>by
       simp at hp
       subst hp
       exact ⟨0,_,_,rfl,by simp,rfl,zaA.eq (by simp only [zay,hflat]) (by simp)⟩⟩
  have hwk : IntKind.i64.wrap (((a + k : Nat) : Int) + 1) = ((a + (k + 1) : Nat) : Int):=by rw [w64 (by omega) (by omega)]; omega
  refine zaq rfl ?_
  have hwk' : IntKind.i64.wrap ((a : Int) + (k : Int) + 1) = ((a + (k + 1) : Nat) : Int):=by rw [← hwk]; congr 1
  simp [hwk']
  refine ⟨k + 1,⟨by omega,by omega,fun h2=>?_⟩,by omega,?_⟩
  ·have he : M.length = k + 1:=by omega
   simp only [Lk]
   rw [List.take_of_length_le (by omega),List.drop_eq_nil_of_le (by omega)]
   simp [zfQ]
  ·exact Le.np1 [] rfl (by simp) rfl (by simp) rfl (by simp [hs2,hs3,hs4])
 simp only [decide_eq_false_iff_not] at h
 rw [hk3 (by omega)]
 exact ⟨.inl rfl,⟨[],rfl,[],[],by simp [List.range,List.range.loop],by simp,by simp,by simp,by simp [List.range,List.range.loop,fcd]⟩⟩
set_option maxRecDepth 100000 in
theorem zre (f : FuncId) (capt : List AV) (c : Int → Int → Int) (l : List Int) (n : Nat) (hn : l.length = n) (hl : n < 20) (hs : zhN capt)
  (hc : ∀ x ∈ l,∀ y ∈ l,zaj Tryz.prog f (AV.I x :: AV.I y :: capt) [] (.I (c x y)) []) :
  zaj Tryz.prog zbw [.rs 0 0 n,.I n,.fn (.func f) [] capt] [⟨1,zaf l,0⟩] (.tup []) [some ⟨1,zaf (zfQ c l),0⟩]:=by
 have hs2 : ∀ ρ sn h,capt.map (conv ρ sn h 2) = capt:=fun _ _ _=>hs _ _ _ 1
 have hs3 : ∀ ρ sn h,capt.map (conv ρ sn h 3) = capt:=fun _ _ _=>hs _ _ _ 2
 have hs4 : ∀ ρ sn h,capt.map (conv ρ sn h 4) = capt:=fun _ _ _=>hs _ _ _ 3
 refine zek.acalls (nbz rfl) (nbz rfl) (nbz rfl) ?_
 show awp _ 1 _ _ ⟨63,[(0,.rs 0 0 n),(1,.I n),(2,.fn (.func f) [] capt)],[(0,some ⟨1,zaf l,0⟩)],16⟩
 have hins:=znl f capt c [] l [] n 0 n (by simpa using hn) rfl (by simpa using hn) (by omega) hs hc
 simp only [List.nil_append,List.append_nil] at hins
 refine zab ?_
 refine zae (s:=?s1) rfl ?o1 ?q1
 case o1=>simp; rfl
 refine zaa ⟨63,[(0,.rs 0 0 n),(1,.I n),(2,.fn (.func f) [] capt),(6,.I 20),(7,.I 0),(8,.I 20)],[(0,some ⟨1,zaf l,0⟩)],48⟩ rfl ?_ ?_
 ·simp
  exact Le.keep rfl (Nat.le_refl _) (by simp) (by simp)
 refine zab ?_
 refine zag ?_
 refine zao (ι:=Unit) (fun _=>⟨63,[(0,.rs 0 0 n),(1,.I n),(2,.fn (.func f) [] capt),(6,.I 20),(7,.I 0),(8,.I 20)],[(0,some ⟨1,zaf l,0⟩)],48⟩) (fun _=>True) (fun _=>0) () trivial (Le.refl _ _) ?_
 intro _ _
 refine zab ?_
 refine zaa ⟨63,[(0,.rs 0 0 n),(1,.I n),(2,.fn (.func f) [] capt),(6,.I 20),(7,.I 0),(8,.I 20),(13,.B false)],[(0,some ⟨1,zaf l,0⟩)],72⟩ rfl ?_ ?_
 ·simp
  exact Le.keep rfl (Nat.le_refl _) (by simp; omega) (by simp)
 refine zac _ rfl (fun h=>by cases h) fun _=>zan (hit ?_)
 refine zaa ⟨63,[(1,.I n),(6,.I 20)],[(0,some ⟨1,zaf (zfQ c l),0⟩)],112⟩ rfl ?_ ?_
 ·simp
  refine zbd (i:=0) rfl (e':=⟨1,zaf l,0⟩) (by simp [fcd]) hins (by simp) ?_ ?_
  ·simp [hs2,hs3,hs4]
  simp [fcd]
  exact Le.keep rfl (Nat.le_refl _) (by simp) (by simp)
 refine zag ?_
 refine zao (ι:=Unit) (fun _=>⟨63,[(1,.I n),(6,.I 20)],[(0,some ⟨1,zaf (zfQ c l),0⟩)],112⟩) (fun _=>True) (fun _=>0) () trivial (Le.refl _ _) ?_
 intro _ _
 refine zab ?_
 refine zaa ⟨63,[(1,.I n),(6,.I 20),(30,.B false)],[(0,some ⟨1,zaf (zfQ c l),0⟩)],136⟩ rfl ?_ ?_
 ·simp
  exact Le.keep rfl (Nat.le_refl _) (by simp; omega) (by simp)
 refine zac _ rfl (fun h=>by cases h) fun _=>zan (hit ?_)
 exact ⟨.inl rfl,⟨[],rfl,[],[],by simp [List.range,List.range.loop],by simp,by simp,by simp,by simp [List.range,List.range.loop,fcd]⟩⟩
theorem zlQ (f : FuncId) (capt : List AV) (c : Int → Int → Int) (l : List Int) (n : Nat) (hn : l.length = n) (hl : n < 20) (hs : zhN capt)
  (hc : ∀ x ∈ l,∀ y ∈ l,zaj Tryz.prog f (AV.I x :: AV.I y :: capt) [] (.I (c x y)) []) :
  zaj Tryz.prog za0 [.rs 0 0 n,.fn (.func f) [] capt] [⟨1,zaf l,0⟩] (.tup []) [some ⟨1,zaf (zfQ c l),0⟩]:=by
 have hs2 : ∀ ρ sn h,capt.map (conv ρ sn h 2) = capt:=fun _ _ _=>hs _ _ _ 1
 have hs3 : ∀ ρ sn h,capt.map (conv ρ sn h 3) = capt:=fun _ _ _=>hs _ _ _ 2
 have hs4 : ∀ ρ sn h,capt.map (conv ρ sn h 4) = capt:=fun _ _ _=>hs _ _ _ 3
 refine zcT.acalls (nbz rfl) (nbz rfl) (nbz rfl) ?_
 show awp _ 1 _ _ ⟨9,[(0,.rs 0 0 n),(1,.fn (.func f) [] capt)],[(0,some ⟨1,zaf l,0⟩)],16⟩
 refine zae (s:=?s1) rfl ?o1 ?q1
 case o1 =>
  simp
  refine zbd (i:=0) rfl (e':=⟨1,zaf l,0⟩) (by simp [fcd]) (zre f capt c l n hn hl hs hc) (by simp) ?_ ?_
  ·simp [hs2,hs3,hs4]
  simp [fcd]
  rfl
 exact ⟨.inl rfl,⟨[],rfl,[],[],by simp [List.range,List.range.loop],by simp,by simp,by simp,by simp [List.range,List.range.loop,fcd]⟩⟩
theorem znz (D : List Int) (k : Nat) (hk : k < D.length) : zaj Tryz.prog zbr [.I k,.pv [ints D]] [] (.B (decide (0 ≤ D.getD k 0))) []:=by
 refine zgA.acalls (nbz rfl) (nbz rfl) (Nat.le_refl _) ?_
 show awp _ 0 _ _ ⟨9,[(0,.I k),(1,.pv [ints D])],[],16⟩
 refine zab ?_
 refine zae (s:=?s0) rfl ?o0 ?q0
 case o0=>simp; rfl
 refine zab ?_
 refine zae (s:=?s1) rfl ?o1 ?q1
 case o1=>simp [hk]; rfl
 refine zah ?_
 exact ⟨.inr rfl,zal.one (by simp [hk])⟩
theorem znQ (D : List Int) (a b : Nat) (ha : a < D.length) (hb : b < D.length) : zaj Tryz.prog zbO [.I a,.I b,.pv [ints D]] [] (.I (cmpI (D.getD a 0) (D.getD b 0))) []:=by
 refine zgZ.acalls (nbz rfl) (nbz rfl) (Nat.le_refl _) ?_
 show awp _ 0 _ _ ⟨15,[(0,.I a),(1,.I b),(2,.pv [ints D])],[],16⟩
 refine zab ?_
 refine zae (s:=?s0) rfl ?o0 ?q0
 case o0=>simp; rfl
 refine zab ?_
 refine zeI (s:=?s1) (tr:=?t1) rfl ?o1 ?r1 ?q1
 case o1=>simp [ha,hb]; refine zap (zht ..) rfl ?_; simp; constructor <;> rfl
 case r1=>rfl
 refine zah ?_
 exact ⟨.inr rfl,zal.one (by simp [ha,hb])⟩
variable {g : Gr} {S : List Int}
theorem zrj {k : Nat} (hk : k < g.size.toNat) : (zbA g S).getD k 0 = dist g S k:=by simp [zbA,List.getD,hk]
theorem zi9 : (zbA g S).length = g.size.toNat:=by simp [zbA]
def Lt (g : Gr) (S : List Int) (a b : Int) : Prop:=dist g S a < dist g S b ∨ dist g S a = dist g S b ∧ a < b
def cD (g : Gr) (S : List Int) (a b : Int) : Int:=cmpI (dist g S a) (dist g S b)
def ordN (g : Gr) (S : List Int) : Nat → List Int
 | 0=>[]
 | m + 1=>ordN g S m ++ za3 g.size.toNat fun k=>decide (dist g S k = m)
def ordL (g : Gr) (S : List Int) : List Int:=ordN g S g.size.toNat
theorem zdz {n : Nat} {q : Int → Bool} {x : Int} : x ∈ za3 n q ↔ (0 ≤ x ∧ x < n) ∧ q x = true:=by
 unfold za3
 simp only [List.mem_filter,List.mem_map,List.mem_range]
 constructor
 ·rintro ⟨⟨i,hi,rfl⟩,h⟩
  exact ⟨⟨by omega,by omega⟩,h⟩
 ·rintro ⟨⟨h1,h2⟩,h⟩
  exact ⟨⟨x.toNat,by omega,by omega⟩,h⟩
theorem zgn (n : Nat) (q : Int → Bool) : (za3 n q).Pairwise (· < ·):=by
 unfold za3
 refine List.Pairwise.filter _ ?_
 rw [List.pairwise_map]
 exact List.pairwise_lt_range.imp fun h=>by omega
theorem zhd {m : Nat} {x : Int} : x ∈ ordN g S m ↔ (0 ≤ x ∧ x < g.size.toNat) ∧ 0 ≤ dist g S x ∧ dist g S x < m:=by
 induction m with
 | zero=>simp [ordN] <;> omega
 | succ m ih =>
   rw [ordN,List.mem_append,ih,zdz]
   simp only [decide_eq_true_eq]
   constructor
   ·rintro (⟨h1,h2,h3⟩ | ⟨h1,h2⟩)
    ·exact ⟨h1,h2,by omega⟩
    ·exact ⟨h1,by omega,by omega⟩
   ·rintro ⟨h1,h2,h3⟩
    by_cases h4 : dist g S x = m
    ·exact .inr ⟨h1,h4⟩
    ·exact .inl ⟨h1,h2,by omega⟩
theorem zmL (m : Nat) : (ordN g S m).Pairwise (Lt g S):=by
 induction m with
 | zero=>exact .nil
 | succ m ih =>
   rw [ordN,List.pairwise_append]
   refine ⟨ih,?_,fun a ha b hb=>?_⟩
   ·refine (zgn _ _).imp_of_mem fun {a b} ha hb hab=>?_
    have h1:=(zdz.1 ha).2
    have h2:=(zdz.1 hb).2
    simp at h1 h2
    exact .inr ⟨by omega,hab⟩
   ·have h1:=zhd.1 ha
    have h2:=(zdz.1 hb).2
    simp at h2
    exact .inl (by omega)
theorem zs2 {a b : Int} : cD g S a b < 0 ↔ dist g S a < dist g S b:=by
 simp only [cD,cmpI]
 grind
theorem zjR : ∀ (r : List Int) (x : Int),r.Pairwise (fun a b=>Lt g S b a) → (∀ y ∈ r,y < x) → (zcO (cD g S) r x).Pairwise fun a b=>Lt g S b a
 | [],x,_,_=>by simp [zcO]
 | y :: r,x,hp,hx=>by
   unfold zcO
   rw [List.pairwise_cons] at hp
   split
   ·rename_i h
    rw [zs2] at h
    rw [List.pairwise_cons]
    refine ⟨fun z hz=>?_,zjR r x hp.2 fun z hz=>hx z (List.mem_cons_of_mem _ hz)⟩
    have:=(zez (cD g S) r x).mem_iff.1 hz
    rcases List.mem_cons.1 this with rfl | hz
    ·exact .inl h
    ·exact hp.1 z hz
   ·rename_i h
    rw [zs2] at h
    rw [List.pairwise_cons,List.pairwise_cons]
    have hyx:=hx y List.mem_cons_self
    refine ⟨fun z hz=>?_,hp.1,hp.2⟩
    rcases List.mem_cons.1 hz with rfl | hz
    ·unfold Lt; omega
    ·have h1:=hp.1 z hz
     have h2:=hx z (List.mem_cons_of_mem _ hz)
     unfold Lt at *
     omega
theorem zpw {l : List Int} (h : l.Pairwise (· < ·)) : (zfQ (cD g S) l).Pairwise (Lt g S):=by
 have key : ∀ (l acc : List Int),l.Pairwise (· < ·) → acc.Pairwise (fun a b=>Lt g S b a) → (∀ y ∈ acc,∀ x ∈ l,y < x) → (l.foldl (zcO (cD g S)) acc).Pairwise fun a b=>Lt g S b a:=by
  intro l
  induction l with
  | nil=>intro acc _ h _; exact h
  | cons x l ih =>
    intro acc hl hacc hlt
    rw [List.pairwise_cons] at hl
    refine ih _ hl.2 (zjR acc x hacc fun y hy=>hlt y hy x List.mem_cons_self) fun y hy z hz=>?_
    have:=(zez (cD g S) acc x).mem_iff.1 hy
    rcases List.mem_cons.1 this with rfl | hy
    ·exact hl.1 z hz
    ·exact hlt y hy z (List.mem_cons_of_mem _ hz)
 unfold zfQ zci
 rw [List.pairwise_reverse]
 exact key l [] h .nil (by simp)
theorem zgM {R : Int → Int → Prop} (hR : ∀ a b,R a b → ¬ R b a) : ∀ {l1 l2 : List Int},l1.Pairwise R → l2.Pairwise R → (∀ x,x ∈ l1 ↔ x ∈ l2) → l1 = l2
 | [],[],_,_,_=>rfl
 | [],b :: l2,_,_,h=>absurd ((h b).2 List.mem_cons_self) (by simp)
 | a :: l1,[],_,_,h=>absurd ((h a).1 List.mem_cons_self) (by simp)
 | a :: l1,b :: l2,h1,h2,h=>by
   rw [List.pairwise_cons] at h1 h2
   have hab : a = b:=by
    rcases List.mem_cons.1 ((h a).1 List.mem_cons_self) with e | ha
    ·exact e
    ·rcases List.mem_cons.1 ((h b).2 List.mem_cons_self) with e | hb
     ·exact e.symm
     ·exact absurd (h1.1 b hb) (hR _ _ (h2.1 a ha))
   subst hab
   congr 1
   refine zgM hR h1.2 h2.2 fun x=>?_
   constructor
   ·intro hx
    rcases List.mem_cons.1 ((h x).1 (List.mem_cons_of_mem _ hx)) with rfl | hx2
    ·exact absurd (h1.1 x hx) (fun q=>hR _ _ q q)
    ·exact hx2
   ·intro hx
    rcases List.mem_cons.1 ((h x).2 (List.mem_cons_of_mem _ hx)) with rfl | hx2
    ·exact absurd (h2.1 x hx) (fun q=>hR _ _ q q)
    ·exact hx2
theorem zsb (hg : GrOk g) : zfQ (cD g S) (za3 g.size.toNat fun k=>decide (0 ≤ dist g S k)) = ordL g S:=by
 refine zgM (R:=Lt g S) (fun a b h1 h2=>by unfold Lt at *; omega) (zpw (zgn _ _)) (zmL _) fun x=>?_
 have hp : x ∈ zfQ (cD g S) (za3 g.size.toNat fun k=>decide (0 ≤ dist g S k)) ↔ x ∈ za3 g.size.toNat fun k=>decide (0 ≤ dist g S k):=by
  unfold zfQ
  rw [List.mem_reverse]
  exact (zeO _ _).mem_iff
 rw [hp,zdz]
 have hm:=zhd (g:=g) (S:=S) (m:=g.size.toNat) (x:=x)
 unfold ordL
 rw [hm]
 simp only [decide_eq_true_eq]
 constructor
 ·rintro ⟨h1,h2⟩
  refine ⟨h1,h2,?_⟩
  rcases zqN hg (S:=S) (k:=x) ⟨h1.1,by omega⟩ with h | h <;> omega
 ·rintro ⟨h1,h2,_⟩
  exact ⟨h1,h2⟩
section
variable {P : Program} {np id : Nat} {h : Nat → Option Ent} {K : AV → List Nat → List (Nat × Option Ent) → Prop} {f : FuncId} {first capt args args' : List AV} {res : AV}
theorem zge (sn : List Nat) {e : Ent} (hc : zaj P f args' [] res [some e]) (he : (first ++ args ++ capt).map (conv [] sn h 4) = args') (hp : Plain res) (hpe : zkJ e)
  (hk : K (conv (swp [] id) [] (fun _=>none) 4 res) sn [(id,some (zay (swp [] id) [] (fun _=>none) 4 e))]) : aK P np id .call (.fn (.func f) first capt :: args) h K :=
 ⟨[],sn,false,args',[],res,[some e],by simp,by simp,by simp,by rw [List.zipIdx_nil,he]; exact zb1 _,rfl,hc,by simp,.inr ⟨hp,fun e' he'=>by simp at he'; subst he'; exact hpe⟩,by simpa [swp] using hk⟩
end
theorem zmZ {l : List Int} : zkJ ⟨1,zaf l,0⟩:=by
 intro row hrow x hx
 simp only [List.mem_map] at hrow
 obtain ⟨y,_,rfl⟩:=hrow
 simp at hx
 subst hx
 exact .sc _
variable {g : Gr} {S : List Int}
set_option maxHeartbeats 1000000 in
set_option maxRecDepth 100000 in
theorem zeq (hg : GrOk g) (hN : g.size < 20) (hS : S.length ≤ 1099511627776) : zaj Tryz.prog zcD [eG g,ints S] [] (.rs 0 0 (ordL g S).length) [some ⟨1,zaf (ordL g S),0⟩]:=by
 refine ziN.acalls (nbz rfl) (nbz rfl) (Nat.zero_le _) ?_
 show awp _ 0 _ _ ⟨18,[(0,eG g),(1,ints S)],[],16⟩
 have hsz:=hg.1.1
 obtain ⟨N,hNe⟩ : ∃ N : Nat,N = g.size.toNat:=⟨_,rfl⟩
 have hall:=zfo g S hg hS
 have hDl : (zbA g S).length = N:=by rw [zi9,hNe]
 have hDg : ∀ k : Nat,k < N → (zbA g S).getD k 0 = dist g S k:=fun k hk=>zrj (by omega)
 rw [← hNe] at hall
 obtain ⟨D,hD⟩ : ∃ D,D = zbA g S:=⟨_,rfl⟩
 rw [← hD] at hall hDl hDg
 obtain ⟨W,hW⟩ : ∃ W,W = za3 N fun k=>decide (0 ≤ dist g S k):=⟨_,rfl⟩
 have hWl : W.length ≤ N:=by rw [hW]; exact zfv _ _
 have hWm : ∀ x ∈ W,0 ≤ x ∧ x < N:=fun x hx=>by rw [hW] at hx; exact (zdz.1 hx).1
 have hwhere : zaj Tryz.prog zbT [.I N,.fn (.func zbr) [] [.pv [ints D]]] [] (.rs 0 0 W.length) [some ⟨1,zaf W,0⟩]:=by
  have:=zo9 zbr [.pv [ints D]] (fun k=>decide (0 ≤ dist g S k)) N (by omega) (fun ρ sn h n=>by simp) (fun k hk=>by
   have h1:=znz D k (by omega)
   rw [hDg k (by omega)] at h1
   exact h1)
  simpa [← hW] using this
 have hsort:=zlQ zbO [.pv [ints D]] (cD g S) W W.length rfl (by omega) (fun ρ sn h n=>by simp) (fun x hx y hy=>by
  obtain ⟨a,ha⟩ : ∃ a : Nat,x = a:=⟨x.toNat,by have:=hWm x hx; omega⟩
  obtain ⟨b,hb⟩ : ∃ b : Nat,y = b:=⟨y.toNat,by have:=hWm y hy; omega⟩
  have h1:=hWm x hx
  have h2:=hWm y hy
  subst ha hb
  have h3:=znQ D a b (by omega) (by omega)
  rw [hDg a (by omega),hDg b (by omega)] at h3
  exact h3)
 have hord : zfQ (cD g S) W = ordL g S:=by rw [hW,hNe]; exact zsb hg
 have hol : (ordL g S).length = W.length:=by
  rw [← hord]
  unfold zfQ
  rw [List.length_reverse,zh1]
 rw [hord] at hsort
 have htk : List.take N (zaf D) = zaf D:=List.take_of_length_le (by simp [hDl])
 have hRl : (zaf D).length = N:=by simp [hDl]
 refine zaa ⟨18,[(1,ints S),(2,.pv (gC g))],[],32⟩ rfl ?_ ?_
 ·simp
  exact Le.snap [16] rfl rfl (by simp)
 refine zaa ⟨18,[(5,.pv [ints D])],[],72⟩ rfl ?_ ?_
 ·simp
  refine zaU hall rfl ?_
  simp [fcd]
  exact Le.snap [48,56] rfl rfl (by simp [fcd,← hDl,zak])
 refine zaa ⟨18,[(5,.pv [ints D]),(6,.rs 96 0 W.length)],[(96,some ⟨1,zaf W,0⟩)],112⟩ rfl ?_ ?_
 ·simp [hDl]
  refine zaU hwhere (by simp) ?_
  simp [fcd]
  exact Le.keep rfl (Nat.le_refl _) (by simp) (by simp)
 rw [hol]
 refine zaa ⟨18,[(6,.rs 96 0 W.length)],[(96,some ⟨1,zaf (ordL g S),0⟩)],136⟩ rfl ?_ ?_
 ·simp
  refine zbd (i:=96) rfl (e':=⟨1,zaf W,0⟩) (by simp [fcd]) hsort (by simp) (by simp) ?_
  simp [fcd]
  exact Le.keep rfl (Nat.le_refl _) (by simp) (by simp)
 refine zab ?_
 refine zae (s:=?s1) rfl ?o1 ?q1
 case o1=>simp; rfl
 refine zah ?_
 exact ⟨.inr rfl,zal.out [96] [] rfl (by simp) (by simp) (by simp) (by simp [fcd])⟩
set_option maxHeartbeats 1000000 in
set_option maxRecDepth 100000 in
theorem zfT (hg : GrOk g) (hS : S.length ≤ 1099511627776) : zaj Tryz.prog zdc [eG g,ints S] [] (.rs 0 0 (ordL g S).length) [some ⟨1,zaf (ordL g S),0⟩]:=by
 refine zme.acalls (nbz rfl) (nbz rfl) (Nat.zero_le _) ?_
 show awp _ 0 _ _ ⟨35,[(0,eG g),(1,ints S)],[],16⟩
 have hsz:=hg.1.1
 have hsz2:=hg.1.2.1
 obtain ⟨N,hNe⟩ : ∃ N : Nat,N = g.size.toNat:=⟨_,rfl⟩
 have hall:=ze9 g S hg hS
 have hDl : (zbA g S).length = N:=by rw [zi9,hNe]
 have hDg : ∀ k : Nat,k < N → (zaf (zbA g S))[k]? = some [AV.I (dist g S k)]:=fun k hk=>by simp [zbA,show k < g.size.toNat by omega]
 rw [← hNe] at hall
 obtain ⟨D,hD⟩ : ∃ D,D = zbA g S:=⟨_,rfl⟩
 rw [← hD] at hall hDl hDg
 refine zaa ⟨35,[(1,ints S),(2,.pv (gC g))],[],32⟩ rfl ?_ ?_
 ·simp
  exact Le.snap [16] rfl rfl (by simp)
 refine zaa ⟨35,[(2,.pv (gC g)),(5,ints D)],[],64⟩ rfl ?_ ?_
 ·simp
  refine zaU hall rfl ?_
  simp [fcd]
  exact Le.snap [48] rfl rfl (by simp [fcd,← hDl,zak])
 refine zab ?_
 refine zae (s:=?s1) rfl ?o1 ?q1
 case o1=>simp; rfl
 refine zab ?_
 refine zab ?_
 refine zae (s:=?s2) rfl ?o2 ?q2
 case o2=>simp; rfl
 refine zag ?_
 have hcount : ∀ n k : Nat,n ≤ N → k ≤ N → (ordN g S n ++ za3 k fun x=>decide (dist g S x = n)).length ≤ 100000:=by
  intro n k hn hk
  have h1 : ∀ m : Nat,m ≤ 64 → (ordN g S m).length ≤ m * 64:=by
   intro m
   induction m with
   | zero=>intro _; simp [ordN]
   | succ m ih =>
     intro hm
     rw [ordN,List.length_append]
     have:=ih (by omega)
     have:=zfv g.size.toNat fun k=>decide (dist g S k = m)
     omega
  have:=h1 n (by omega)
  have:=zfv k fun x=>decide (dist g S x = n)
  rw [List.length_append]
  omega
 let T : Nat → Nat → List Int:=fun n k=>ordN g S n ++ za3 k fun x=>decide (dist g S x = n)
 have hT0 : ∀ n,T n 0 = ordN g S n:=fun n=>by simp [T,za3]
 have hTN : ∀ n,T n N = ordN g S (n + 1):=fun n=>by simp only [T]; rw [hNe]; rfl
 let C : Nat → St:=fun n=>⟨35,[(2,.pv (gC g)),(5,ints D),(6,.rs 16 0 (ordN g S n).length),(7,.I n)],[(16,some ⟨1,zaf (ordN g S n),0⟩)],80⟩
 refine zao C (fun n=>n ≤ N) (fun n=>N - n) 0 (Nat.zero_le _) (Le.lst [] [] [(16,1)] rfl (by simp) (by simp) (by simp) (by simp [C]) (by simp) (by simp) (by simp) (by simp [C,Up,ordN]) (by simp [C,ordN])) ?_
 intro n hn
 have hCn : C n = ⟨35,[(2,.pv (gC g)),(5,ints D),(6,.rs 16 0 (ordN g S n).length),(7,.I n)],[(16,some ⟨1,zaf (ordN g S n),0⟩)],80⟩:=rfl
 rw [hCn]
 refine zab ?_
 refine zaa ⟨35,[(2,.pv (gC g)),(5,ints D),(6,.rs 16 0 (ordN g S n).length),(7,.I n),(15,.B (decide ((n : Int) < g.size)))],[(16,some ⟨1,zaf (ordN g S n),0⟩)],112⟩ rfl ?_ ?_
 ·simp
  exact Le.keep rfl (Nat.le_refl _) (by simp) (by simp)
 refine zac _ rfl (fun h=>zad ?_) fun h=>zan (hit ?_)
 ·simp only [decide_eq_true_eq] at h
  refine zaI (ι:=Unit) (fun _=>⟨35,[(2,.pv (gC g)),(5,ints D),(6,.rs 16 0 (ordN g S (n + 1)).length),(7,.I n)],[(16,some ⟨1,zaf (ordN g S (n + 1)),0⟩)],80⟩) (fun _=>True) ?_ fun _ _=>?_
  ·rw [← hT0 n,← hTN n]
   refine zag ?_
   refine zaa ⟨35,[(2,.pv (gC g)),(5,ints D),(6,.rs 16 0 (T n 0).length),(7,.I n),(8,.I 0)],[(16,some ⟨1,zaf (T n 0),0⟩)],120⟩ rfl ?_ ?_
   ·simp
    exact Le.keep rfl (Nat.le_refl _) (by simp) (by simp)
   refine zag ?_
   refine zao (ι:=Nat) (fun k=>⟨35,[(2,.pv (gC g)),(5,ints D),(6,.rs 16 0 (T n k).length),(7,.I n),(8,.I k)],[(16,some ⟨1,zaf (T n k),0⟩)],120⟩) (fun k=>k ≤ N) (fun k=>N - k) 0 (Nat.zero_le _) (Le.refl _ _) ?_
   intro k hk
   have hTl:=hcount n k (by omega) hk
   have hTs : T n (k + 1) = T n k ++ if dist g S k = n then [(k : Int)] else []:=by
    simp only [T]
    rw [zjy,List.append_assoc]
    congr 2
    by_cases hq : dist g S k = n <;> simp [hq]
   have hTe : T n k = ordN g S n ++ za3 k fun x=>decide (dist g S x = n):=rfl
   rw [← hTe] at hTl
   refine zab ?_
   refine zaa ⟨35,[(2,.pv (gC g)),(5,ints D),(6,.rs 16 0 (T n k).length),(7,.I n),(8,.I k),(21,.B (decide ((k : Int) < g.size)))],[(16,some ⟨1,zaf (T n k),0⟩)],152⟩ rfl ?_ ?_
   ·simp
    exact Le.keep rfl (Nat.le_refl _) (by simp) (by simp)
   refine zac _ rfl (fun h2=>zad ?_) fun h2=>zan (hit ?_)
   ·simp only [decide_eq_true_eq] at h2
    have hkN : k < N:=by omega
    have hget:=hDg k hkN
    refine zaI (ι:=Unit) (fun _=>⟨35,[(2,.pv (gC g)),(5,ints D),(6,.rs 16 0 (T n (k + 1)).length),(7,.I n),(8,.I k)],[(16,some ⟨1,zaf (T n (k + 1)),0⟩)],120⟩) (fun _=>True) ?_ fun _ _=>?_
    ·rw [hTs]
     generalize T n k = A at *
     refine zag ?_
     refine zaa ⟨35,[(2,.pv (gC g)),(5,ints D),(6,.rs 16 0 A.length),(7,.I n),(8,.I k),(29,.B (decide (dist g S k = n)))],[(16,some ⟨1,zaf A,0⟩)],200⟩ rfl ?_ ?_
     ·simp only [zt7,List.map_cons,List.map_nil]
      simp
      have hget2 : D[k]? = some (dist g S k):=by
       have:=hget
       rw [zaf,List.getElem?_map] at this
       cases hq : D[k]? with
       | none=>rw [hq] at this; simp at this
       | some v=>rw [hq] at this; simp at this; rw [this]
      simp [hget2]
      exact Le.keep rfl (Nat.le_refl _) (by simp <;> rw [Bool.eq_iff_iff] <;> simp) (by simp)
     refine zac _ rfl (fun h5=>?_) fun h5=>zad ?_
     ·simp only [decide_eq_true_eq] at h5
      rw [if_pos h5]
      refine zaq rfl ?_
      simp [List.replicate]
      refine ⟨by omega,by omega,zhS (i:=224) (sn:=[]) rfl rfl (by simp) (by simp) rfl (by simp [fcd,zak]) (by simp) (by simp)⟩
     ·simp only [decide_eq_false_iff_not] at h5
      rw [if_neg h5,List.append_nil]
      exact ⟨(),trivial,Le.l1 16 16 [] rfl rfl (by simp) (by simp) rfl (by simp)⟩
    have hwk : IntKind.i64.wrap ((k : Int) + 1) = ((k + 1 : Nat) : Int):=by rw [w64 (by omega) (by omega)]; omega
    refine zaq rfl ?_
    simp [hwk]
    exact ⟨k + 1,by omega,by omega,Le.l1 16 16 [] rfl rfl (by simp) (by simp) rfl (by simp)⟩
   simp only [decide_eq_false_iff_not] at h2
   obtain rfl : k = N:=by omega
   exact ⟨(),trivial,Le.l1 16 16 [] rfl rfl (by simp) (by simp) rfl (by simp)⟩
  have hwn : IntKind.i64.wrap ((n : Int) + 1) = ((n + 1 : Nat) : Int):=by rw [w64 (by omega) (by omega)]; omega
  refine zaq rfl ?_
  simp [hwn]
  exact ⟨n + 1,by omega,by omega,Le.l1 16 16 [] rfl rfl (by simp [C]) (by simp) rfl (by simp [C])⟩
 simp only [decide_eq_false_iff_not] at h
 obtain rfl : n = N:=by omega
 have hfin : ordN g S n = ordL g S:=by rw [hNe]; rfl
 rw [hfin]
 refine zab ?_
 refine zae (s:=?z9) rfl ?p9 ?r9
 case p9=>simp; rfl
 refine zah ?_
 exact ⟨.inr rfl,zal.out [16] [] rfl (by simp) (by simp) (by simp) (by simp [fcd])⟩
theorem zpc {φ : Ed → Int → Int} : ∀ {A : List Ed} {f : List Int},f.length = A.length → 0 < sumF φ A f → ∃ i,i < A.length ∧ 0 < φ (arcD A i) (f.getD i 0)
 | [],f,_,h=>by simp [sumF] at h
 | e :: A,[],hl,_=>by simp at hl
 | e :: A,v :: f,hl,h=>by
   simp only [sumF] at h
   by_cases h1 : 0 < φ e v
   ·exact ⟨0,by simp,h1⟩
   ·obtain ⟨i,hi,h2⟩:=zpc (φ:=φ) (A:=A) (f:=f) (by simpa using hl) (by omega)
    exact ⟨i + 1,by simpa using hi,by simpa [arcD] using h2⟩
theorem zf9 {φ : Ed → Int → Int} : ∀ {A : List Ed} {f : List Int},(∀ i,0 ≤ f.getD i 0) → (∀ e v,0 ≤ v → 0 ≤ φ e v) → 0 ≤ sumF φ A f
 | [],_,_,_=>by simp [sumF]
 | _ :: _,[],_,_=>by simp [sumF]
 | e :: A,v :: f,h,hp=>by
   simp only [sumF]
   have h1:=hp e v (h 0)
   have h2:=zf9 (φ:=φ) (A:=A) (f:=f) (fun i=>by simpa using h (i + 1)) hp
   omega
theorem ztf {A : List Ed} {f : List Int} {x : Int} (hl : f.length = A.length) (h0 : ∀ i,0 ≤ f.getD i 0) (hx : 0 < exF A f x) : ∃ i,i < A.length ∧ (arcD A i).f = x ∧ 0 < f.getD i 0:=by
 have hi : 0 ≤ inF A f x:=zf9 h0 fun e v hv=>by split <;> omega
 have ho : 0 < outF A f x:=by unfold exF at hx; omega
 obtain ⟨i,hi,h⟩:=zpc hl ho
 refine ⟨i,hi,?_⟩
 by_cases h1 : (arcD A i).f = x
 ·rw [if_pos h1] at h
  exact ⟨h1,h⟩
 ·rw [if_neg h1] at h
  omega
def WayA (A : List Ed) : Int → List Nat → Int → Prop
 | u,[],w=>u = w
 | u,i :: l,w=>i < A.length ∧ (arcD A i).f = u ∧ WayA A (arcD A i).t l w
theorem WayA.snoc {A : List Ed} : ∀ {l : List Nat} {u w : Int} {i : Nat},WayA A u l w → i < A.length → (arcD A i).f = w → WayA A u (l ++ [i]) (arcD A i).t
 | [],u,w,i,h,h1,h2=>⟨h1,by rw [h2]; exact (show u = w from h).symm,rfl⟩
 | j :: l,u,w,i,h,h1,h2=>⟨h.1,h.2.1,WayA.snoc h.2.2 h1 h2⟩
def metA (A : List Ed) (l : List Nat) : List Int:=l.map fun i=>(arcD A i).t
theorem ziR (A : List Ed) (l : List Nat) (i : Nat) : metA A (l ++ [i]) = metA A l ++ [(arcD A i).t]:=by simp [metA]
theorem WayA.take {A : List Ed} : ∀ {l : List Nat} {u w : Int} (n : Nat),WayA A u l w → ∀ x,(u :: metA A l)[n]? = some x → WayA A u (l.take n) x
 | l,u,w,0,_,x,hx=>by
   have : u = x:=by simpa using hx
   exact this
 | [],u,w,n + 1,_,x,hx=>by simp [metA] at hx
 | i :: l,u,w,n + 1,h,x,hx=>by
   refine ⟨h.1,h.2.1,WayA.take n h.2.2 x ?_⟩
   simpa [metA] using hx
theorem zlw (l : List Nat) (n i : Nat) : (l.take n).count i ≤ l.count i:=(List.take_sublist n l).count_le i
structure zgf (A : List Ed) (f g : List Int) (l : List Nat) (w : Int) : Prop where
 len : g.length = A.length
 nonneg : ∀ i,0 ≤ g.getD i 0
 way : WayA A 0 l w
 met : ((0 : Int) :: metA A l).Nodup
 used : ∀ i,g.getD i 0 + (l.count i : Int) ≤ f.getD i 0
 ex : ∀ x,exF A g x = exF A f x - (if x = 0 then 1 else 0) + if x = w then 1 else 0
theorem zgf.start {A : List Ed} {f : List Int} (hl : f.length = A.length) (h0 : ∀ i,0 ≤ f.getD i 0) : zgf A f f [] 0 :=
 ⟨hl,h0,rfl,by simp [metA],fun i=>by simp,fun x=>by split <;> omega⟩
theorem zpb (f : List Int) (i j : Nat) (v : Int) (h : i < f.length) : (f.set i v).getD j 0 = if i = j then v else f.getD j 0:=by
 by_cases hj : i = j
 ·subst hj
  rw [if_pos rfl,List.getD_eq_getElem?_getD,List.getElem?_set_self h,Option.getD_some]
 ·rw [if_neg hj,List.getD_eq_getElem?_getD,List.getElem?_set_ne hj,List.getD_eq_getElem?_getD]
theorem zgf.more {A : List Ed} {f g : List Int} {l : List Nat} {w : Int} (h : zgf A f g l w) {k : Nat} (hk : k < A.length) (hf : (arcD A k).f = w) (hg : 0 < g.getD k 0) :
  ((arcD A k).t ∉ ((0 : Int) :: metA A l) → zgf A f (g.set k (g.getD k 0 - 1)) (l ++ [k]) (arcD A k).t) ∧
  ∀ n,((0 : Int) :: metA A l)[n]? = some (arcD A k).t → zgf A f (g.set k (g.getD k 0 - 1)) (l.take n) (arcD A k).t:=by
 have hkl : k < g.length:=by rw [h.len]; exact hk
 have hnn : ∀ i,0 ≤ (g.set k (g.getD k 0 - 1)).getD i 0:=fun i=>by
  rw [zpb g k i _ hkl]
  split
  ·omega
  ·exact h.nonneg i
 have hex : ∀ x,exF A (g.set k (g.getD k 0 - 1)) x = exF A f x - (if x = 0 then 1 else 0) + if x = (arcD A k).t then 1 else 0:=fun x=>by
  have h1:=zpi (A:=A) (f:=g) (δ:=-1) (s:=(k,false)) hk h.len x
  have h2 : zf8 (-1) g (k,false) = g.set k (g.getD k 0 - 1):=rfl
  have h3 : stF A (k,false) = w:=hf
  have h4 : stT A (k,false) = (arcD A k).t:=rfl
  rw [h2,h3,h4,h.ex x] at h1
  rw [h1]
  have e1 : (if w = x then (-1 : Int) else 0) = - if x = w then 1 else 0:=by
   by_cases hh : w = x
   ·rw [if_pos hh,if_pos hh.symm]
   ·rw [if_neg hh,if_neg fun e=>hh e.symm,Int.neg_zero]
  have e2 : (if (arcD A k).t = x then (-1 : Int) else 0) = - if x = (arcD A k).t then 1 else 0:=by
   by_cases hh : (arcD A k).t = x
   ·rw [if_pos hh,if_pos hh.symm]
   ·rw [if_neg hh,if_neg fun e=>hh e.symm,Int.neg_zero]
  rw [e1,e2]
  omega
 have hus : ∀ i,(g.set k (g.getD k 0 - 1)).getD i 0 + ((l ++ [k]).count i : Int) ≤ f.getD i 0:=fun i=>by
  have h1:=h.used i
  rw [zpb g k i _ hkl,List.count_append]
  by_cases hi : k = i
  ·subst hi
   rw [if_pos rfl,show List.count k [k] = 1 by simp]
   omega
  ·rw [if_neg hi,show List.count i [k] = 0 from List.count_eq_zero.2 (by simpa using fun e=>hi e.symm)]
   omega
 refine ⟨fun hm=>⟨by rw [List.length_set]; exact h.len,hnn,h.way.snoc hk hf,?_,hus,hex⟩,fun n hn=>⟨by rw [List.length_set]; exact h.len,hnn,h.way.take n _ hn,?_,fun i=>?_,hex⟩⟩
 ·rw [ziR,← List.cons_append,List.nodup_append]
  exact ⟨h.met,by simp,fun a ha b hb=>by rw [List.mem_singleton] at hb; subst hb; rintro rfl; exact hm ha⟩
 ·have hs : ((0 : Int) :: metA A (l.take n)).Sublist ((0 : Int) :: metA A l):=((List.take_sublist n l).map _).cons_cons 0
  exact h.met.sublist hs
 ·have h1:=hus i
  have h2 : (l.take n).count i ≤ (l ++ [k]).count i:=Nat.le_trans (zlw l n i) (by rw [List.count_append]; omega)
  omega
structure zgx (A : List Ed) (E : Int → Int → Prop) (seeds sinks : List Int) (c : Int → Int) : Prop where
 kind : ∀ i,i < A.length → (∃ x,x ∈ seeds ∧ 0 ≤ x ∧ arcD A i = ⟨0,2 + 2 * x,c x⟩) ∨ (∃ x,0 ≤ x ∧ arcD A i = ⟨2 + 2 * x,3 + 2 * x,c x - 1⟩) ∨ (∃ x,x ∈ sinks ∧ 0 ≤ x ∧ arcD A i = ⟨2 + 2 * x,1,1⟩) ∨ (∃ x y,0 ≤ x ∧ 0 ≤ y ∧ E x y ∧ arcD A i = ⟨3 + 2 * x,2 + 2 * y,64⟩)
 uniq : ∀ i j,i < A.length → j < A.length → (arcD A i).f = (arcD A j).f → (arcD A i).t = (arcD A j).t → i = j
inductive zgh (A : List Ed) (E : Int → Int → Prop) (sinks : List Int) (c : Int → Int) : Int → List Nat → List Int → Prop
 | last (k : Int) (i : Nat) : i < A.length → arcD A i = ⟨2 + 2 * k,1,1⟩ → k ∈ sinks → zgh A E sinks c k [i] []
 | more (k y : Int) (i j : Nat) (l : List Nat) (ks : List Int) : i < A.length → arcD A i = ⟨2 + 2 * k,3 + 2 * k,c k - 1⟩ → arcD A j = ⟨3 + 2 * k,2 + 2 * y,64⟩ → E k y → 0 ≤ y → zgh A E sinks c y l ks → zgh A E sinks c k (i :: j :: l) (y :: ks)
variable {A : List Ed} {E : Int → Int → Prop} {seeds sinks : List Int} {c : Int → Int}
theorem zgx.sinkless (h : zgx A E seeds sinks c) {i : Nat} (hi : i < A.length) : (arcD A i).f ≠ 1:=by
 rcases h.kind i hi with ⟨x,_,hx,e⟩ | ⟨x,hx,e⟩ | ⟨x,_,hx,e⟩ | ⟨x,y,hx,hy,_,e⟩ <;> rw [e] <;> simp only <;> omega
theorem zgx.path (h : zgx A E seeds sinks c) : ∀ (n : Nat) (l : List Nat) (k : Int),l.length ≤ n → 0 ≤ k → WayA A (2 + 2 * k) l 1 → ∃ ks,zgh A E sinks c k l ks
 | _,[],k,_,hk,hw=>by
   have : 2 + 2 * k = 1:=hw
   omega
 | n,[i],k,_,hk,hw=>by
   obtain ⟨h1,h2,h3⟩:=hw
   have h3' : (arcD A i).t = 1:=h3
   rcases h.kind i h1 with ⟨x,_,hx,e⟩ | ⟨x,hx,e⟩ | ⟨x,hs,hx,e⟩ | ⟨x,y,hx,hy,_,e⟩ <;> rw [e] at h2 h3' <;> simp only at h2 h3'
   ·omega
   ·omega
   ·have : x = k:=by omega
    subst this
    exact ⟨[],.last _ i h1 e hs⟩
   ·omega
 | 0,_ :: _ :: _,_,hn,_,_=>by simp at hn
 | n + 1,i :: j :: l,k,hn,hk,hw=>by
   obtain ⟨h1,h2,h4,h5,h6⟩:=hw
   rcases h.kind i h1 with ⟨x,_,hx,e⟩ | ⟨x,hx,e⟩ | ⟨x,hs,hx,e⟩ | ⟨x,y,hx,hy,_,e⟩
   ·rw [e] at h2; simp only at h2; omega
   ·rw [e] at h2 h5
    simp only at h2 h5
    have : x = k:=by omega
    subst this
    rcases h.kind j h4 with ⟨z,_,hz,e'⟩ | ⟨z,hz,e'⟩ | ⟨z,hs,hz,e'⟩ | ⟨z,y,hz,hy,hE,e'⟩
    ·rw [e'] at h5; simp only at h5; omega
    ·rw [e'] at h5; simp only at h5; omega
    ·rw [e'] at h5; simp only at h5; omega
    ·rw [e'] at h5 h6
     simp only at h5 h6
     have : z = x:=by omega
     subst this
     obtain ⟨ks,hp⟩:=h.path n l y (by simp at hn; omega) hy h6
     exact ⟨y :: ks,.more _ y i j l ks h1 e e' hE hy hp⟩
   ·rw [e] at h5
    simp only at h5
    exact absurd h5 (h.sinkless h4)
   ·rw [e] at h2; simp only at h2; omega
def keyT (t : Int) : Option Int:=if 2 ≤ t ∧ t % 2 = 0 then some ((t - 2) / 2) else none
def zbG (A : List Ed) (l : List Nat) : List Int:=(metA A l).filterMap keyT
theorem zkV {k : Int} (h : 0 ≤ k) : keyT (2 + 2 * k) = some k:=by
 unfold keyT
 rw [if_pos ⟨by omega,by omega⟩]
 congr 1
 omega
theorem zrP (k : Int) : keyT (3 + 2 * k) = none:=if_neg (by omega)
theorem zmF : keyT 1 = none:=if_neg (by omega)
theorem zgh.keys {k : Int} {l : List Nat} {ks : List Int} (h : zgh A E sinks c k l ks) : zbG A l = ks:=by
 induction h with
 | last k i h1 h2 h3 =>
   unfold zbG metA
   rw [List.map_cons,List.map_nil,List.filterMap_cons,h2]
   simp only
   rw [zmF]
   rfl
 | more k y i j l ks h1 h2 h3 h4 h5 h6 ih =>
   unfold zbG metA at ih ⊢
   rw [List.map_cons,List.map_cons,List.filterMap_cons,h2]
   simp only
   rw [zrP,List.filterMap_cons,h3]
   simp only
   rw [zkV h5,ih]
theorem zgh.edges {k : Int} {l : List Nat} {ks : List Int} (h : zgh A E sinks c k l ks) : ∀ i (hi : i + 1 < (k :: ks).length),E (k :: ks)[i] (k :: ks)[i + 1]:=by
 induction h with
 | last k i h1 h2 h3=>intro i hi; simp at hi
 | more k y i j l ks h1 h2 h3 h4 h5 h6 ih =>
   intro n hn
   cases n with
   | zero=>exact h4
   | succ n=>exact ih n (by simpa using hn)
theorem zgh.ends {k : Int} {l : List Nat} {ks : List Int} (h : zgh A E sinks c k l ks) : ∃ z,(k :: ks).getLast? = some z ∧ z ∈ sinks ∧ ∃ i ∈ l,i < A.length ∧ arcD A i = ⟨2 + 2 * z,1,1⟩:=by
 induction h with
 | last k i h1 h2 h3=>exact ⟨k,rfl,h3,i,List.mem_singleton.2 rfl,h1,h2⟩
 | more k y i j l ks h1 h2 h3 h4 h5 h6 ih =>
   obtain ⟨z,hz,hs,m,hm,hm2,hm3⟩:=ih
   exact ⟨z,by rw [List.getLast?_cons_cons]; exact hz,hs,m,List.mem_cons_of_mem _ (List.mem_cons_of_mem _ hm),hm2,hm3⟩
theorem zgh.uses (hu : ∀ i j,i < A.length → j < A.length → (arcD A i).f = (arcD A j).f → (arcD A i).t = (arcD A j).t → i = j) {k : Int} {l : List Nat} {ks : List Int} (h : zgh A E sinks c k l ks) {m : Int} {n : Nat} (hn : n < A.length) (hm : arcD A n = ⟨2 + 2 * m,3 + 2 * m,c m - 1⟩) : (k :: ks).dropLast.count m ≤ l.count n:=by
 induction h with
 | last k i h1 h2 h3=>simp
 | more k y i j l ks h1 h2 h3 h4 h5 h6 ih =>
   rw [List.dropLast_cons_of_ne_nil (by simp),List.count_cons]
   have h7 : l.count n ≤ (j :: l).count n:=by rw [List.count_cons]; omega
   rw [List.count_cons]
   by_cases hk : k = m
   ·subst hk
    have : i = n:=hu i n h1 hn (by rw [h2,hm]) (by rw [h2,hm])
    subst this
    simp only [beq_self_eq_true,if_true]
    omega
   ·have hk' : (k == m) = false:=by simpa using hk
    rw [hk']
    simp only [Bool.false_eq_true,if_false]
    omega
theorem zgh.mids {k : Int} {l : List Nat} {ks : List Int} (h : zgh A E sinks c k l ks) {m : Int} (hm : m ∈ (k :: ks).dropLast) : ∃ n,n < A.length ∧ arcD A n = ⟨2 + 2 * m,3 + 2 * m,c m - 1⟩:=by
 induction h with
 | last k i h1 h2 h3=>simp at hm
 | more k y i j l ks h1 h2 h3 h4 h5 h6 ih =>
   rw [List.dropLast_cons_of_ne_nil (by simp)] at hm
   rcases List.mem_cons.1 hm with rfl | hm
   ·exact ⟨i,h1,h2⟩
   ·exact ih hm
theorem zgx.whole (h : zgx A E seeds sinks c) {l : List Nat} (hw : WayA A 0 l 1) : ∃ x i l' ks,l = i :: l' ∧ i < A.length ∧ x ∈ seeds ∧ 0 ≤ x ∧ arcD A i = ⟨0,2 + 2 * x,c x⟩ ∧ zgh A E sinks c x l' ks ∧ zbG A l = x :: ks:=by
 cases l with
 | nil=>have : (0 : Int) = 1:=hw; omega
 | cons i l =>
   obtain ⟨h1,h2,h3⟩:=hw
   rcases h.kind i h1 with ⟨x,hs,hx,e⟩ | ⟨x,hx,e⟩ | ⟨x,hs,hx,e⟩ | ⟨x,y,hx,hy,_,e⟩
   ·rw [e] at h3
    obtain ⟨ks,hp⟩:=h.path l.length l x (Nat.le_refl _) hx h3
    refine ⟨x,i,l,ks,rfl,h1,hs,hx,e,hp,?_⟩
    have hk:=hp.keys
    unfold zbG metA at hk ⊢
    rw [List.map_cons,List.filterMap_cons,e]
    simp only
    rw [zkV hx,hk]
   ·rw [e] at h2; simp only at h2; omega
   ·rw [e] at h2; simp only at h2; omega
   ·rw [e] at h2; simp only at h2; omega
theorem zoi {l : List Nat} (h : (metA A l).Nodup) : (zbG A l).Nodup:=by
 unfold zbG
 refine List.Pairwise.filterMap _ (fun a a' hne b hb b' hb'=>?_) h
 unfold keyT at hb hb'
 split at hb <;> split at hb' <;> simp at hb hb' <;> omega
def sumN (g : List Nat → Nat) (W : List (List Nat)) : Nat:=(W.map g).sum
theorem zi4 (g : List Nat → Nat) (w : List Nat) (W : List (List Nat)) : sumN g (w :: W) = g w + sumN g W:=by simp [sumN]
theorem zkc {l : List Int} (h : ∀ x,l.count x ≤ 1) : l.Nodup:=by
 induction l with
 | nil=>exact List.nodup_nil
 | cons x l ih =>
   rw [List.nodup_cons]
   refine ⟨fun hm=>?_,ih fun y=>?_⟩
   ·have h1:=h x
    rw [List.count_cons_self] at h1
    have h2:=List.count_pos_iff.2 hm
    omega
   ·have h1:=h y
    rw [List.count_cons] at h1
    omega
theorem zqQ {A : List Ed} {n : Nat} {k : Int} : ∀ {W : List (List Nat)},(∀ w ∈ W,(zbG A w).head? = some k → 1 ≤ w.count n) → begC (W.map (zbG A)) k ≤ sumN (List.count n) W
 | [],_=>by simp [begC,sumN]
 | w :: W,h=>by
   have ih:=zqQ (n:=n) (k:=k) fun x hx=>h x (List.mem_cons_of_mem w hx)
   have h1:=h w (List.mem_cons_self ..)
   unfold begC at ih ⊢
   rw [List.map_cons,List.countP_cons,zi4]
   by_cases hk : (zbG A w).head? = some k
   ·have:=h1 hk
    simp only [hk,decide_true,if_true]
    omega
   ·simp only [hk,decide_false,Bool.false_eq_true,if_false]
    omega
theorem zno {A : List Ed} {k : Int} : ∀ {W : List (List Nat)},begC (W.map (zbG A)) k = 0 ∨ ∃ w ∈ W,(zbG A w).head? = some k
 | []=>.inl rfl
 | w :: W=>by
   by_cases hk : (zbG A w).head? = some k
   ·exact .inr ⟨w,List.mem_cons_self ..,hk⟩
   ·rcases zno (A:=A) (k:=k) (W:=W) with h | ⟨x,hx,hx2⟩
    ·left
     unfold begC at h ⊢
     rw [List.map_cons,List.countP_cons,h]
     simp [hk]
    ·exact .inr ⟨x,List.mem_cons_of_mem _ hx,hx2⟩
theorem zqC {A : List Ed} {n : Nat} {k : Int} : ∀ {W : List (List Nat)},(∀ w ∈ W,(zbG A w).dropLast.count k ≤ w.count n) → useC (W.map (zbG A)) k ≤ sumN (List.count n) W
 | [],_=>by simp [useC,sumN]
 | w :: W,h=>by
   have ih:=zqC (n:=n) (k:=k) fun x hx=>h x (List.mem_cons_of_mem w hx)
   have h1:=h w (List.mem_cons_self ..)
   unfold useC at ih ⊢
   rw [List.map_cons,List.flatMap_cons,List.count_append,zi4]
   omega
theorem zmq {A : List Ed} {k : Int} : ∀ {W : List (List Nat)},useC (W.map (zbG A)) k = 0 ∨ ∃ w ∈ W,k ∈ (zbG A w).dropLast
 | []=>.inl rfl
 | w :: W=>by
   by_cases hk : k ∈ (zbG A w).dropLast
   ·exact .inr ⟨w,List.mem_cons_self ..,hk⟩
   ·rcases zmq (A:=A) (k:=k) (W:=W) with h | ⟨x,hx,hx2⟩
    ·left
     unfold useC at h ⊢
     rw [List.map_cons,List.flatMap_cons,List.count_append,h,List.count_eq_zero.2 hk]
    ·exact .inr ⟨x,List.mem_cons_of_mem _ hx,hx2⟩
theorem zoI {A : List Ed} {n : Nat} {k : Int} : ∀ {W : List (List Nat)},(∀ w ∈ W,(zbG A w).getLast? = some k → 1 ≤ w.count n) → (lasts (W.map (zbG A))).count k ≤ sumN (List.count n) W
 | [],_=>by simp [lasts,sumN]
 | w :: W,h=>by
   have ih:=zoI (n:=n) (k:=k) fun x hx=>h x (List.mem_cons_of_mem w hx)
   have h1:=h w (List.mem_cons_self ..)
   unfold lasts at ih ⊢
   rw [List.map_cons,List.filterMap_cons,zi4]
   cases hl : (zbG A w).getLast? with
   | none=>simp only; omega
   | some z =>
     simp only [List.count_cons]
     by_cases hz : z = k
     ·subst hz
      have:=h1 hl
      simp only [beq_self_eq_true,if_true]
      omega
     ·have : (z == k) = false:=by simpa using hz
      rw [this]
      simp only [Bool.false_eq_true,if_false]
      omega
theorem zpP {A : List Ed} {E : Int → Int → Prop} {seeds sinks : List Int} {cl : List Int} {f : List Int} {W : List (List Nat)}
  (hk : zgx A E seeds sinks fun x=>cl.getD x.toNat 0) (hf : Fit2 A f) (hw : ∀ w ∈ W,WayA A 0 w 1 ∧ (metA A w).Nodup) (hs : ∀ i,i < A.length → (sumN (List.count i) W : Int) ≤ f.getD i 0) (hc : ∀ x ∈ cl,0 ≤ x) :
  zj3 cl (W.map (zbG A)) ∧ (lasts (W.map (zbG A))).Nodup ∧ (∀ k ∈ lasts (W.map (zbG A)),k ∈ sinks) ∧
  ∀ p ∈ W.map (zbG A),(∃ k,p.head? = some k ∧ k ∈ seeds) ∧ p.Nodup ∧ ∀ i (h : i + 1 < p.length),E p[i] p[i + 1]:=by
 have hfit:=(zcl.1 hf).2
 have hlast : ∀ w ∈ W,∃ z,(zbG A w).getLast? = some z ∧ z ∈ sinks ∧ ∃ i ∈ w,i < A.length ∧ arcD A i = ⟨2 + 2 * z,1,1⟩:=fun w hwW=>by
  obtain ⟨x,i,l',ks,rfl,hi,hxs,hx0,he,hp,hkk⟩:=hk.whole (hw w hwW).1
  obtain ⟨z,hz,hzs,m,hm,hm2,hm3⟩:=hp.ends
  exact ⟨z,by rw [hkk]; exact hz,hzs,m,List.mem_cons_of_mem _ hm,hm2,hm3⟩
 refine ⟨fun k hkl=>⟨?_,?_⟩,zkc fun z=>?_,fun z hz=>?_,fun p hp=>?_⟩
 ·have hck:=hc _ (List.getElem_mem hkl)
  have hcg : cl.getD k 0 = cl[k]:=by rw [List.getD_eq_getElem?_getD,List.getElem?_eq_getElem hkl,Option.getD_some]
  rcases zno (A:=A) (k:=(k : Int)) (W:=W) with h | ⟨w,hwW,hh⟩
  ·rw [h]; exact hck
  ·obtain ⟨x,i,l',ks,rfl,hi,hxs,hx0,he,hp,hkk⟩:=hk.whole (hw w hwW).1
   rw [hkk] at hh
   have hxk : x = k:=Option.some.inj hh
   subst hxk
   have h1:=zqQ (A:=A) (n:=i) (k:=(k : Int)) (W:=W) fun v hvW hvk=>by
    obtain ⟨y,j,l2,ks2,rfl,hj,_,_,he2,_,hkk2⟩:=hk.whole (hw v hvW).1
    rw [hkk2] at hvk
    have hyk : y = k:=Option.some.inj hvk
    have : j = i:=hk.uniq j i hj hi (by rw [he2,he]) (by rw [he2,he,hyk])
    subst this
    rw [List.count_cons_self]
    omega
   have h2:=hs i hi
   have h3:=(hfit i hi).2
   rw [he] at h3
   simp only [Int.toNat_natCast] at h3
   rw [hcg] at h3
   omega
 ·have hck:=hc _ (List.getElem_mem hkl)
  have hcg : cl.getD k 0 = cl[k]:=by rw [List.getD_eq_getElem?_getD,List.getElem?_eq_getElem hkl,Option.getD_some]
  rcases zmq (A:=A) (k:=(k : Int)) (W:=W) with h | ⟨w,hwW,hh⟩
  ·rw [h]; omega
  ·obtain ⟨x,i,l',ks,rfl,hi,hxs,hx0,he,hp,hkk⟩:=hk.whole (hw w hwW).1
   rw [hkk] at hh
   obtain ⟨n,hn,hnA⟩:=hp.mids hh
   have h1:=zqC (A:=A) (n:=n) (k:=(k : Int)) (W:=W) fun v hvW=>by
    obtain ⟨y,j,l2,ks2,rfl,hj,_,_,he2,hp2,hkk2⟩:=hk.whole (hw v hvW).1
    rw [hkk2,List.count_cons]
    have:=hp2.uses hk.uniq hn hnA
    omega
   have h2:=hs n hn
   have h3:=(hfit n hn).2
   rw [hnA] at h3
   simp only [Int.toNat_natCast] at h3
   rw [hcg] at h3
   omega
 ·by_cases hz : z ∈ lasts (W.map (zbG A))
  ·obtain ⟨p,hp,hpz⟩:=List.mem_filterMap.1 hz
   obtain ⟨w,hwW,rfl⟩:=List.mem_map.1 hp
   obtain ⟨y,hy,hys,i,hiw,hi,hiA⟩:=hlast w hwW
   rw [hpz] at hy
   have hzy : z = y:=Option.some.inj hy
   subst hzy
   have h1:=zoI (A:=A) (n:=i) (k:=z) (W:=W) fun v hvW hvz=>by
    obtain ⟨y,hy,_,j,hjv,hj,hjA⟩:=hlast v hvW
    rw [hvz] at hy
    have hzy : z = y:=Option.some.inj hy
    have : j = i:=hk.uniq j i hj hi (by rw [hjA,hiA,hzy]) (by rw [hjA,hiA])
    subst this
    exact List.count_pos_iff.2 hjv
   have h2:=hs i hi
   have h3:=(hfit i hi).2
   rw [hiA] at h3
   simp only at h3
   omega
  ·rw [List.count_eq_zero.2 hz]
   omega
 ·obtain ⟨p,hp,hpz⟩:=List.mem_filterMap.1 hz
  obtain ⟨w,hwW,rfl⟩:=List.mem_map.1 hp
  obtain ⟨y,hy,hys,_⟩:=hlast w hwW
  rw [hpz] at hy
  rw [Option.some.inj hy]
  exact hys
 ·obtain ⟨w,hwW,rfl⟩:=List.mem_map.1 hp
  refine ⟨?_,zoi (hw w hwW).2,?_⟩
  ·obtain ⟨x,i,l',ks,rfl,hi,hxs,hx0,he,hp,hkk⟩:=hk.whole (hw w hwW).1
   exact ⟨x,by rw [hkk]; rfl,hxs⟩
  ·obtain ⟨x,i,l',ks,rfl,hi,hxs,hx0,he,hp,hkk⟩:=hk.whole (hw w hwW).1
   have:=hp.edges
   intro n hn
   simp only [hkk] at hn ⊢
   exact this n hn
def zdU (e : Ed) : Int × Int:=(e.f,e.t)
theorem zls {A : List Ed} (h : (A.map zdU).Nodup) {i j : Nat} (hi : i < A.length) (hj : j < A.length) (h1 : (arcD A i).f = (arcD A j).f) (h2 : (arcD A i).t = (arcD A j).t) : i = j:=by
 have hg : ∀ k (hk : k < A.length),(A.map zdU)[k]'(by simpa using hk) = zdU (arcD A k):=fun k hk=>by
  rw [List.getElem_map]
  unfold arcD
  rw [List.getD_eq_getElem?_getD,List.getElem?_eq_getElem hk,Option.getD_some]
 have he : zdU (arcD A i) = zdU (arcD A j):=by unfold zdU; rw [h1,h2]
 rcases Nat.lt_trichotomy i j with hlt | heq | hgt
 ·exact absurd ((hg i hi).trans (he.trans (hg j hj).symm)) (List.pairwise_iff_getElem.1 h i j (by simpa using hi) (by simpa using hj) hlt)
 ·exact heq
 ·exact absurd ((hg j hj).trans (he.symm.trans (hg i hi).symm)) (List.pairwise_iff_getElem.1 h j i (by simpa using hj) (by simpa using hi) hgt)
theorem zfx {α β : Type} {φ : α → β} {l : List α} (h : l.Nodup) (hi : ∀ a ∈ l,∀ b ∈ l,φ a = φ b → a = b) : (l.map φ).Nodup:=by
 rw [List.Nodup,List.pairwise_map]
 exact List.Pairwise.imp_of_mem (fun {a b} ha hb hab he=>hab (hi a ha b hb he)) h
theorem znx {g : Gr} {p : Pol} {c sinks seeds' : List Int} {E : Int → Int → Prop} (hE : ∀ e ∈ (zai g p.lv).edges,0 < c.getD e.f.toNat 0 → E e.f e.t) (hS : ∀ x ∈ p.seeds,0 < c.getD x.toNat 0 → x ∈ seeds') (hs : p.seeds.Nodup) (hs0 : ∀ x ∈ p.seeds,0 ≤ x) (hk : sinks.Nodup) (hk0 : ∀ x ∈ sinks,0 ≤ x) (he : ((zai g p.lv).edges.map zdU).Nodup) (he0 : ∀ e ∈ (zai g p.lv).edges,0 ≤ e.f ∧ 0 ≤ e.t) :
  zgx (zaT g p c sinks) E seeds' sinks fun x=>c.getD x.toNat 0:=by
 refine ⟨fun i hi=>?_,fun i j hi hj=>zls ?_ hi hj⟩
 ·have hm:=zb0 hi
  revert hm
  generalize arcD (zaT g p c sinks) i = a
  intro hm
  unfold zaT at hm
  rcases List.mem_append.1 hm with hm | hm
  ·rcases List.mem_append.1 hm with hm | hm
   ·rcases List.mem_append.1 hm with hm | hm
    ·obtain ⟨x,hx,rfl⟩:=List.mem_map.1 hm
     have hx:=List.mem_filter.1 hx
     exact .inl ⟨x,hS x hx.1 (by simpa using hx.2),hs0 x hx.1,rfl⟩
    ·obtain ⟨x,hx,rfl⟩:=List.mem_map.1 hm
     exact .inr (.inl ⟨x,Int.natCast_nonneg _,by simp⟩)
   ·obtain ⟨x,hx,rfl⟩:=List.mem_map.1 hm
    have hx:=(List.mem_filter.1 hx).1
    exact .inr (.inr (.inl ⟨x,hx,hk0 x hx,rfl⟩))
  ·obtain ⟨e,hx,rfl⟩:=List.mem_map.1 hm
   have hx:=List.mem_filter.1 hx
   have h0:=he0 e hx.1
   exact .inr (.inr (.inr ⟨e.f,e.t,h0.1,h0.2,hE e hx.1 (by simpa using hx.2),rfl⟩))
 ·unfold zaT
  simp only [List.map_append,List.map_map]
  refine List.nodup_append.2 ⟨List.nodup_append.2 ⟨List.nodup_append.2 ⟨?_,?_,?_⟩,?_,?_⟩,?_,?_⟩
  ·exact zfx (hs.filter _) fun a _ b _ h=>by simp [zdU] at h; omega
  ·exact zfx (List.nodup_range.filter _) fun a _ b _ h=>by simp [zdU] at h; omega
  ·intro a ha b hb
   obtain ⟨x,hx,rfl⟩:=List.mem_map.1 ha
   obtain ⟨y,hy,rfl⟩:=List.mem_map.1 hb
   intro h
   simp [zdU] at h
   omega
  ·exact zfx (hk.filter _) fun a _ b _ h=>by simp [zdU] at h; omega
  ·intro a ha b hb
   obtain ⟨y,hy,rfl⟩:=List.mem_map.1 hb
   have hy0:=hk0 y (List.mem_filter.1 hy).1
   rcases List.mem_append.1 ha with ha | ha
   ·obtain ⟨x,hx,rfl⟩:=List.mem_map.1 ha
    intro h
    simp [zdU] at h
    omega
   ·obtain ⟨x,hx,rfl⟩:=List.mem_map.1 ha
    intro h
    simp [zdU] at h
    omega
  ·have h1 : ((zai g p.lv).edges.filter fun e=>decide (0 < c.getD e.f.toNat 0)).Pairwise fun a b=>zdU a ≠ zdU b:=by
    rw [List.Nodup,List.pairwise_map] at he
    exact he.filter _
   rw [List.Nodup,List.pairwise_map]
   refine h1.imp fun {a b} hab h=>hab ?_
   simp [zdU] at h
   unfold zdU
   rw [show a.f = b.f by omega,show a.t = b.t by omega]
  ·intro a ha b hb
   obtain ⟨e,hy,rfl⟩:=List.mem_map.1 hb
   have hy0:=he0 e (List.mem_filter.1 hy).1
   rcases List.mem_append.1 ha with ha | ha
   ·rcases List.mem_append.1 ha with ha | ha
    ·obtain ⟨x,hx,rfl⟩:=List.mem_map.1 ha
     intro h
     simp [zdU] at h
     omega
    ·obtain ⟨x,hx,rfl⟩:=List.mem_map.1 ha
     intro h
     simp [zdU] at h
     omega
   ·obtain ⟨x,hx,rfl⟩:=List.mem_map.1 ha
    intro h
    simp [zdU] at h
    omega
structure Expl where
 key : Int
 acc : Bool
 before : List Int
 paths : List (List Int)
 side : List Int
theorem zbi (g : Gr) (S : List Int) : (ordL g S).Nodup:=by
 refine (zmL (g:=g) (S:=S) g.size.toNat).imp fun {a b} h e=>?_
 subst e
 unfold Lt at h
 omega
theorem zbN {g : Gr} {S : List Int} {k : Int} (h : k ∈ ordL g S) : 0 ≤ k ∧ k < g.size:=by
 have:=zhd.1 h
 omega
open Classical in
noncomputable def zrC (g : Gr) (p : Pol) (x : Expl) : Int :=
 let order:=ordL (zai g p.lv) p.seeds
 let c:=zaG g p
 if x.key ∉ order then 11
 else if ¬ zff order x.before x.key ∨ (x.acc = true ∧ x.side ≠ []) ∨ (x.acc = false ∧ x.paths ≠ []) then 1
 else if x.acc = true then (if zhT g p.lv p.seeds order c x.paths (x.before ++ [x.key]) then 0 else 52)
 else if znR ⟨2 + 2 * g.size,zaT g p c (srt (x.before ++ [x.key]))⟩ x.side x.before.length then 0 else 52
open Classical in
noncomputable def zrH (g : Gr) (p : Pol) (x : Expl) : Int :=
 let order:=ordL (zai g p.lv) p.seeds
 let c:=zaG g p
 if x.key ∉ order then 11
 else if ¬ zff order x.before x.key ∨ (x.acc = true ∧ x.side ≠ []) ∨ (x.acc = false ∧ x.paths ≠ []) then 1
 else if x.acc = true then (if zf4 g p.lv p.seeds order c x.paths (x.before ++ [x.key]) then 0 else 52)
 else if znR ⟨2 + 2 * g.size,zaT g p c (zax (x.before ++ [x.key]))⟩ x.side x.before.length then 0 else 52
theorem zqg {g : Gr} (hs : g.size ≤ 64) (p : Pol) (x : Expl) : zrC g p x = zrH g p x:=by
 unfold zrC zrH
 simp only
 have hno:=zbi (zai g p.lv) p.seeds
 have hra : ∀ k ∈ ordL (zai g p.lv) p.seeds,0 ≤ k ∧ k < 64:=fun k hk=>by
  have:=zbN hk
  have h2 : (zai g p.lv).size = g.size:=rfl
  omega
 generalize ordL (zai g p.lv) p.seeds = o at *
 by_cases h1 : x.key ∈ o
 ·by_cases h2 : ¬ zff o x.before x.key ∨ (x.acc = true ∧ x.side ≠ []) ∨ (x.acc = false ∧ x.paths ≠ [])
  ·rw [if_neg (not_not_intro h1),if_pos h2,if_neg (not_not_intro h1),if_pos h2]
  ·rw [if_neg (not_not_intro h1),if_neg h2,if_neg (not_not_intro h1),if_neg h2]
   have h3 : zff o x.before x.key:=Classical.byContradiction fun h=>h2 (.inl h)
   have h4:=h3.nodup hno
   have h5 : ∀ k ∈ x.before ++ [x.key],0 ≤ k ∧ k < 64:=fun k hk=>by
    rcases List.mem_append.1 hk with hk | hk
    ·exact hra k ((List.takeWhile_sublist _).subset (h3.subset hk))
    ·rw [List.mem_singleton] at hk
     rw [hk]
     exact hra _ h1
   rw [ziF h4 h5]
   by_cases ha : x.acc = true
   ·rw [if_pos ha,if_pos ha]
    by_cases hc : zhT g p.lv p.seeds o (zaG g p) x.paths (x.before ++ [x.key])
    ·rw [if_pos hc,if_pos ((zkF h4).1 hc)]
    ·rw [if_neg hc,if_neg fun h=>hc ((zkF h4).2 h)]
   ·rw [if_neg ha,if_neg ha]
 ·rw [if_pos h1,if_pos h1]
theorem zrx {g : Gr} {p : Pol} {k : Int} (h0 : 0 ≤ k) (h1 : k < g.size) : (zaG g p).getD k.toNat 0 = zdK p (dist (zai g p.lv) p.seeds k):=by
 unfold zaG zbA
 have h2 : k.toNat < (zai g p.lv).size.toNat:=by show k.toNat < g.size.toNat; omega
 rw [List.getD_eq_getElem?_getD,List.getElem?_map,List.getElem?_map,List.getElem?_range h2]
 simp only [Option.map_some,Option.getD_some]
 rw [show ((k.toNat : Nat) : Int) = k by omega]
theorem zrE {g : Gr} {p : Pol} {k : Int} (h1 : g.size ≤ k) : (zaG g p).getD k.toNat 0 = 0:=by
 unfold zaG zbA
 have h2 : ¬ k.toNat < (zai g p.lv).size.toNat:=by show ¬ k.toNat < g.size.toNat; omega
 rw [List.getD_eq_getElem?_getD,List.getElem?_eq_none (by simp; omega)]
 rfl
theorem zh2 {g : Gr} {p : Pol} {n : Int} (hp : za8 n p) : ∀ x ∈ zaG g p,0 ≤ x:=fun x hx=>by
 unfold zaG at hx
 obtain ⟨d,_,rfl⟩:=List.mem_map.1 hx
 exact (zgo hp d).1
theorem zfH {g : Gr} {p : Pol} {n : Int} (hp : za8 n p) {k : Int} (h0 : 0 ≤ k) : 0 < (zaG g p).getD k.toNat 0 ↔ k < g.size ∧ 0 ≤ dist (zai g p.lv) p.seeds k:=by
 by_cases h1 : k < g.size
 ·rw [zrx h0 h1,zl6 hp]
  exact ⟨fun h=>⟨h1,h⟩,fun h=>h.2⟩
 ·rw [zrE (by omega)]
  constructor
  ·intro h; omega
  ·intro h; exact absurd h.1 h1
theorem GrOk.level {g : Gr} (h : GrOk g) (v : Int) : GrOk (zai g v):=by
 refine ⟨⟨h.1.1,h.1.2.1,Nat.le_trans (List.length_filter_le _ _) h.1.2.2.1,h.1.2.2.2⟩,fun i hi=>?_⟩
 have hm : (zai g v).edges[i] ∈ g.edges:=(List.mem_filter.1 (List.getElem_mem hi)).1
 obtain ⟨j,hj,hje⟩:=List.mem_iff_getElem.1 hm
 have h1:=h.2 j hj
 rw [hje] at h1
 refine ⟨h1.1,h1.2.1,h1.2.2.1,fun h0=>?_⟩
 rw [zjg]
 have hp : (zai g v).edges.Pairwise Bef:=h.pair.filter _
 exact List.pairwise_iff_getElem.1 hp (i - 1) i (by omega) hi (by omega)
theorem ziz {g : Gr} (h : GrOk g) {S : List Int} {k : Int} : k ∈ ordL g S ↔ Key g k ∧ 0 ≤ dist g S k:=by
 unfold ordL
 rw [zhd]
 constructor
 ·rintro ⟨⟨h1,h2⟩,h3,_⟩
  exact ⟨⟨h1,by omega⟩,h3⟩
 ·rintro ⟨h1,h2⟩
  have h3:=zqN (S:=S) h h1
  have h4:=h1.1
  have h5:=h1.2
  exact ⟨⟨h4,by omega⟩,h2,by omega⟩
theorem zhr {g : Gr} (h : GrOk g) (v : Int) : ((zai g v).edges.map zdU).Nodup ∧ ∀ e ∈ (zai g v).edges,0 ≤ e.f ∧ e.f < g.size ∧ 0 ≤ e.t ∧ e.t < g.size:=by
 have hl:=h.level v
 refine ⟨?_,fun e he=>?_⟩
 ·rw [List.Nodup,List.pairwise_map]
  refine hl.pair.imp fun {a b} hab he=>?_
  unfold Bef at hab
  unfold zdU at he
  simp at he
  omega
 ·obtain ⟨i,hi,rfl⟩:=List.mem_iff_getElem.1 he
  have h1:=(hl.2 i hi).1
  have h2 : (zai g v).size = g.size:=rfl
  unfold Fits at h1
  omega
theorem Rise.nodup {l : List Int} {lo hi : Int} (h : Rise l lo hi) : l.Nodup ∧ ∀ x ∈ l,lo ≤ x ∧ x ≤ hi:=by
 have hlt : ∀ (j i : Nat) (hj : j < l.length) (hij : i < j),l[i] < l[j]:=by
  intro j
  induction j with
  | zero=>intro i _ hij; omega
  | succ j ih =>
    intro i hj hij
    have h1:=(h (j + 1) hj).2.2 (by omega)
    simp only [Nat.add_sub_cancel] at h1
    rcases Nat.lt_or_ge i j with h2 | h2
    ·have:=ih i (by omega) h2
     omega
    ·have : i = j:=by omega
     subst this
     exact h1
 refine ⟨List.pairwise_iff_getElem.2 fun i j hi hj hij he=>?_,fun x hx=>?_⟩
 ·have:=hlt j i hj hij
  omega
 ·obtain ⟨i,hi,rfl⟩:=List.mem_iff_getElem.1 hx
  have:=h i hi
  exact ⟨this.1,this.2.1⟩
theorem zmz {g : Gr} {p : Pol} {sinks ends f : List Int} {W : List (List Nat)} (hg : GrOk g) (hp : za8 g.size p) (hk : sinks.Nodup) (hk0 : ∀ x ∈ sinks,0 ≤ x) (hpe : ends.Perm sinks)
  (hf : Fit2 (zaT g p (zaG g p) sinks) f) (hw : ∀ w ∈ W,WayA (zaT g p (zaG g p) sinks) 0 w 1 ∧ (metA (zaT g p (zaG g p) sinks) w).Nodup)
  (hs : ∀ i,i < (zaT g p (zaG g p) sinks).length → (sumN (List.count i) W : Int) ≤ f.getD i 0) (hl : W.length = sinks.length) :
  zf4 g p.lv p.seeds (ordL (zai g p.lv) p.seeds) (zaG g p) (W.map (zbG (zaT g p (zaG g p) sinks))) ends:=by
 have hgl:=hg.level p.lv
 have hse:=hp.2.1.nodup
 have hle:=zhr hg p.lv
 have hmo : ∀ k,0 ≤ k → 0 < (zaG g p).getD k.toNat 0 → k ∈ ordL (zai g p.lv) p.seeds:=fun k h0 hc=>by
  have h1:=(zfH hp h0).1 hc
  exact (ziz hgl).2 ⟨⟨h0,h1.1⟩,h1.2⟩
 have hnet : zgx (zaT g p (zaG g p) sinks) (fun x y=>zkP g p.lv x y ∧ y ∈ ordL (zai g p.lv) p.seeds) (p.seeds.filter fun x=>decide (x ∈ ordL (zai g p.lv) p.seeds)) sinks fun x=>(zaG g p).getD x.toNat 0:=by
  refine znx (fun e he hc=>?_) (fun x hx hc=>?_) hse.1 (fun x hx=>(hse.2 x hx).1) hk hk0 hle.1 fun e he=>⟨(hle.2 e he).1,(hle.2 e he).2.2.1⟩
  ·have h0:=hle.2 e he
   have h1:=(zfH hp h0.1).1 hc
   have h2:=zqM hgl he h1.2
   refine ⟨?_,(ziz hgl).2 ⟨⟨h0.2.2.1,h0.2.2.2⟩,h2.1⟩⟩
   unfold zai at he
   have h3:=List.mem_filter.1 he
   refine ⟨e,h3.1,rfl,rfl,?_⟩
   have:=h3.2
   simp at this
   omega
  ·exact List.mem_filter.2 ⟨hx,by simpa using hmo x (hse.2 x hx).1 hc⟩
 obtain ⟨q1,q2,q3,q4⟩:=zpP hnet hf hw hs (zh2 hp)
 refine ⟨by rw [List.length_map,hl,hpe.length_eq],hpe.nodup_iff.2 hk,fun w hwW=>?_,fun k hkl=>hpe.mem_iff.2 (q3 k hkl),q2,q1⟩
 obtain ⟨⟨k,hk1,hk2⟩,h2,h3⟩:=q4 w hwW
 have hk3:=List.mem_filter.1 hk2
 have hk4 : k ∈ ordL (zai g p.lv) p.seeds:=by simpa using hk3.2
 refine ⟨⟨k,hk1,hk3.1⟩,fun x hx=>?_,h2,fun i hi=>(h3 i hi).1⟩
 obtain ⟨i,hi,rfl⟩:=List.mem_iff_getElem.1 hx
 cases i with
 | zero =>
   rw [List.head?_eq_getElem?,List.getElem?_eq_getElem hi] at hk1
   rw [Option.some.inj hk1]
   exact hk4
 | succ i=>exact (h3 i hi).2
theorem GrOk.edges_le {g : Gr} (h : GrOk g) : g.edges.length ≤ 500:=h.1.2.2.1
theorem zbI {g : Gr} {p : Pol} : (zaG g p).length = g.size.toNat:=by simp [zaG,zbA,zai]
def zcs (g : Gr) (p : Pol) (k : Nat) : List Int:=(zaG g p).take k ++ (zbA (zai g p.lv) p.seeds).drop k
theorem zkA {g : Gr} {p : Pol} (k : Nat) (hk : k ≤ g.size.toNat) : (zcs g p k).length = g.size.toNat:=by simp [zcs,zbI,zbA,zai]; omega
theorem zom {g : Gr} {p : Pol} : zcs g p 0 = zbA (zai g p.lv) p.seeds:=by simp [zcs]
theorem zp7 {g : Gr} {p : Pol} : zcs g p g.size.toNat = zaG g p:=by
 unfold zcs
 rw [List.take_of_length_le (by rw [zbI]; exact Nat.le_refl _),List.drop_eq_nil_of_le (by simp [zbA,zai])]
 simp
theorem zpC {g : Gr} {p : Pol} {k : Nat} (hk : k < g.size.toNat) : (zcs g p k)[k]? = some (dist (zai g p.lv) p.seeds k):=by
 unfold zcs
 rw [List.getElem?_append_right (by simp [zbI]; omega)]
 simp [zbI,Nat.min_eq_left (Nat.le_of_lt hk),zbA,zai,hk]
theorem zpD {g : Gr} {p : Pol} {k : Nat} (hk : k < g.size.toNat) : (zaf (zcs g p k)).set k [AV.I (zdK p (dist (zai g p.lv) p.seeds k))] = zaf (zcs g p (k + 1)):=by
 rw [show [AV.I (zdK p (dist (zai g p.lv) p.seeds k))] = (fun n : Int=>[AV.I n]) (zdK p (dist (zai g p.lv) p.seeds k)) from rfl]
 show (List.map (fun n : Int=>[AV.I n]) (zcs g p k)).set k _ = List.map (fun n : Int=>[AV.I n]) _
 rw [← List.map_set]
 congr 1
 have hc : k < (zaG g p).length:=by rw [zbI]; exact hk
 have hd : k < (zbA (zai g p.lv) p.seeds).length:=by simp [zbA,zai,hk]
 unfold zcs
 rw [List.set_append,if_neg (by simp [zbI]; omega)]
 rw [show k - ((zaG g p).take k).length = 0 by simp [zbI]; omega]
 rw [List.drop_eq_getElem_cons hd,List.set_cons_zero,List.take_succ_eq_append_getElem hc,List.append_assoc]
 congr 2
 simp [zaG,zbA]
set_option maxRecDepth 100000 in
theorem zjc (g : Gr) (p : Pol) (hg : GrOk g) (hs : p.seeds.length ≤ 1099511627776) : zaj Tryz.prog zeQ [eG g,eP p] [] (.rs 0 0 g.size.toNat) [some ⟨1,zaf (zaG g p),0⟩]:=by
 refine zk7.acalls (nbz rfl) (nbz rfl) (Nat.zero_le _) ?_
 show awp _ 0 _ _ ⟨30,[(0,eG g),(1,eP p)],[],16⟩
 have hsz:=hg.1.1
 have hsz2:=hg.1.2.1
 have hel:=hg.edges_le
 have hgl:=hg.gone_le
 have hall:=zfo (zai g p.lv) p.seeds (hg.level p.lv) hs
 have hsl : (zai g p.lv).size = g.size:=rfl
 rw [hsl,← zom] at hall
 obtain ⟨N,hNe⟩ : ∃ N : Nat,N = g.size.toNat:=⟨_,rfl⟩
 rw [← hNe] at hall
 have hml : ∀ k,k ≤ N → (zaf (zcs g p k)).length = N:=fun k hk=>by rw [List.length_map,zkA k (by omega),hNe]
 have hmg : ∀ (k : Nat) (h : k < (zcs g p k).length),k < N → (zcs g p k)[k] = dist (zai g p.lv) p.seeds k:=fun k h hk=>by
  have:=zpC (g:=g) (p:=p) (k:=k) (by omega)
  rw [List.getElem?_eq_getElem h] at this
  exact Option.some.inj this
 have hml2 : ∀ k,k ≤ N → (zcs g p k).length = N:=fun k hk=>by rw [zkA k (by omega),hNe]
 have hms : ∀ k : Nat,k < N → (zaf (zcs g p k)).set k [AV.I (zdK p (dist (zai g p.lv) p.seeds k))] = zaf (zcs g p (k + 1)):=fun k hk=>zpD (by omega)
 refine rx (s:=?s1) [2,3] [] [16,24] rfl ?o1 ?q1
 case o1=>simp; rfl
 refine zaw ⟨30,[(3,.pv (pC p)),(5,.rs 88 0 N)],[(88,some ⟨1,zaf (zcs g p 0),0⟩)],104⟩ rfl ?_ ?_
 ·simp
  refine zap (zc1 g p.lv (by omega) (by omega)) (by simp) ?_
  simp
  refine zaU hall rfl ?_
  simp [fcd]
  exact ⟨rfl,Le.keep rfl (Nat.le_refl _) (by simp) (by simp)⟩
 refine zab ?_
 refine rk (s:=?s3) [3,5,15,16,17] [88] rfl ?o3 ?q3
 case o3=>simp; rfl
 refine zag ?_
 refine zao (ι:=Nat) (fun i=>⟨30,[(3,.pv (pC p)),(5,.rs 88 0 N),(15,.rs 88 0 N),(16,.I N),(17,.I i)],[(88,some ⟨1,zaf (zcs g p i),0⟩)],128⟩) (fun i=>i ≤ N) (fun i=>N - i) 0 (by simp) (Le.keep rfl (Nat.le_refl _) (by simp) (by simp)) ?_
 intro i hi
 refine rk (s:=?s5) [3,5,15,16,17,18] [88] rfl ?o5 ?q5
 case o5=>simp; rfl
 refine zab ?_
 refine zac _ rfl (fun h6=>?_) fun h6=>?_
 ·simp at h6
  have hw : IntKind.i64.wrap ((i : Int) + 1) = (i : Int) + 1:=w64 (by omega) (by omega)
  refine zad ?_
  refine zab ?_
  refine zag ?_
  refine rk (s:=?s7) [3,5,6,7,15,16,17] [88] rfl ?o7 ?q7
  case o7=>simp [h6,hml2,hmg,hi]; rfl
  refine zae (s:=?s8) rfl ?o8 ?q8
  case o8 =>
   simp
   refine zap (zj2 p (dist (zai g p.lv) p.seeds i)) (by simp) ?_
   simp [h6,hml2,hi,hms]
   rfl
  refine zae (s:=?s9) rfl ?o9 ?q9
  case o9=>simp [hw]; rfl
  exact ⟨i + 1,by omega,by omega,LeI [(88,88)] []⟩
 simp at h6
 obtain rfl : i = N:=by omega
 refine zan ?_
 refine hit ?_
 refine rk (s:=?s10) [4] [88] rfl ?o10 ?q10
 case o10=>simp; rfl
 refine zah ?_
 refine ⟨.inr rfl,zal.out [88] [] rfl (by simp) (by simp) (by simp [hNe]) (by simp [fcd,hNe,zp7])⟩
theorem zji {g : Gr} {p : Pol} {k : Nat} (hk : k < g.size.toNat) : (zaG g p).take (k + 1) = (zaG g p).take k ++ [zdK p (dist (zai g p.lv) p.seeds k)]:=by
 rw [List.take_succ_eq_append_getElem (by rw [zbI]; exact hk)]
 simp [zaG,zbA]
set_option maxRecDepth 100000 in
theorem zmE (g : Gr) (p : Pol) (hg : GrOk g) (hs : p.seeds.length ≤ 1099511627776) : zaj Tryz.prog zhu [eG g,eP p] [] (.rs 0 0 g.size.toNat) [some ⟨1,zaf (zaG g p),0⟩]:=by
 refine zpR.acalls (nbz rfl) (nbz rfl) (Nat.zero_le _) ?_
 show awp _ 0 _ _ ⟨31,[(0,eG g),(1,eP p)],[],16⟩
 have hsz:=hg.1.1
 have hsz2:=hg.1.2.1
 have hel:=hg.edges_le
 have hgl:=hg.gone_le
 have hall:=ze9 (zai g p.lv) p.seeds (hg.level p.lv) hs
 have hsl : (zai g p.lv).size = g.size:=rfl
 rw [hsl] at hall
 obtain ⟨N,hNe⟩ : ∃ N : Nat,N = g.size.toNat:=⟨_,rfl⟩
 have hDl : (zbA (zai g p.lv) p.seeds).length = N:=by simp [zbA,zai,hNe]
 have hDg : ∀ (k : Nat) (h : k < (zbA (zai g p.lv) p.seeds).length),(zbA (zai g p.lv) p.seeds)[k] = dist (zai g p.lv) p.seeds k:=fun k h=>by simp [zbA]
 rw [← hNe] at hall
 obtain ⟨D,hD⟩ : ∃ D,D = zbA (zai g p.lv) p.seeds:=⟨_,rfl⟩
 rw [← hD] at hall hDl
 simp only [← hD] at hDg
 have hcl : (zaG g p).length = N:=by rw [zbI,hNe]
 obtain ⟨C,hC0,hCs,hCl,hCN⟩ : ∃ C : Nat → List Int,C 0 = [] ∧ (∀ k : Nat,k < N → C (k + 1) = C k ++ [zdK p (dist (zai g p.lv) p.seeds k)]) ∧ (∀ k,k ≤ N → (C k).length = k) ∧ C N = zaG g p :=
  ⟨fun k=>(zaG g p).take k,by simp,fun k hk=>zji (by omega),fun k hk=>by simp [hcl,hk],by simp [← hcl]⟩
 refine rx (s:=?s1) [2,3] [] [16,24] rfl ?o1 ?q1
 case o1=>simp; rfl
 refine zaw ⟨31,[(3,.pv (pC p)),(5,ints D)],[],104⟩ rfl ?_ ?_
 ·simp
  refine zap (zc7 g p.lv (by omega) (by omega)) (by simp) ?_
  simp
  refine zaU hall rfl ?_
  simp [fcd]
  exact ⟨rfl,Le.snap [88] rfl rfl (by simp [fcd,← hDl,zak])⟩
 refine rx (s:=?s3) [3,5,6] [] [] rfl ?o3 ?q3
 case o3=>simp; rfl
 refine zab ?_
 refine rx (s:=?s4) [3,5,6,7] [] [] rfl ?o4 ?q4
 case o4=>simp; rfl
 refine zag ?_
 refine zao (ι:=Nat) (fun i=>⟨31,[(3,.pv (pC p)),(5,ints D),(6,.rs 16 0 i),(7,.I i)],[(16,some ⟨1,zaf (C i),0⟩)],120⟩) (fun i=>i ≤ N) (fun i=>N - i) 0 (by simp) (Le.lst [] [] [(16,1)] rfl (by simp) (by simp) (by simp) (by simp) (by simp) (by simp) (by simp) (by simp [Up]) (by simp [hC0])) ?_
 intro i hi
 have hCi:=hCl i hi
 have hti : ∀ f : Int → List AV,List.take i (List.map f (C i)) = List.map f (C i):=fun f=>List.take_of_length_le (by simp [hCi])
 refine zab ?_
 refine rk (s:=?s5) [3,5,6,7,18] [16] rfl ?o5 ?q5
 case o5=>simp [hDl]; rfl
 refine zac _ rfl (fun h6=>?_) fun h6=>?_
 ·simp at h6
  have hw : IntKind.i64.wrap ((i : Int) + 1) = (i : Int) + 1:=w64 (by omega) (by omega)
  refine zad ?_
  refine zab ?_
  refine zag ?_
  refine zbf rfl ?_
  simp [h6,hDl,hDg]
  refine zap (znP p (dist (zai g p.lv) p.seeds i)) (by simp) ?_
  simp [hCi]
  refine ⟨by omega,by omega,rfl,?_⟩
  refine zaq rfl ?_
  simp [hw]
  exact ⟨i + 1,by omega,by omega,Le.go [(216,16)] [] rfl rfl (by simp) (by simp [fcd,hCs i h6,hti])⟩
 simp at h6
 obtain rfl : i = N:=by omega
 refine zan ?_
 refine hit ?_
 refine rk (s:=?s7) [4] [16] rfl ?o7 ?q7
 case o7=>simp; rfl
 refine zah ?_
 exact ⟨.inr rfl,zal.out [16] [] rfl (by simp) (by simp) (by simp [hNe]) (by simp [fcd,hCN])⟩
end Go.Proofs.YteiabadhhhckfaaGreat
namespace Go.Proofs.YteiabadhhhckfaaGreat
open Go Go.RowKit Go.Shelf Go.Maps Go.Sort
theorem arr2 {vs : Array Value} (h : vs.size = 2) : vs = #[vs.getD 0 undef,vs.getD 1 undef]:=by
 apply Array.ext
 ·simpa using h
 ·intro i h1 h2
  have : i = 0 ∨ i = 1:=by simp at h2; omega
  rcases this with rfl | rfl <;> simp [Array.getD,h1] <;> intro h3 <;> omega
theorem zsI (x : Int) : (encZ x : Value) = .int .i64 x:=rfl
theorem zmA (l : List Int) (hl : l.length ≤ 1099511627776) : zaj Tryz.prog zb3 [.nilS,.fn (.func zbh) [] [.pv [ints l]]] [] (.rs 0 0 l.length) [some ⟨1,zaf l,0⟩]:=by
 refine ⟨⟨_,_,Tryz.func180,rfl,by decide⟩,by simp,fun T M w vs htok hhs hdom hrep=>?_⟩
 obtain ⟨hsz,hr⟩:=hrep
 have hr0:=hr 0 (by simp)
 have hr1:=hr 1 (by simp)
 simp only [List.getD_cons_zero,List.getD_cons_succ] at hr0 hr1
 rw [arr2 hsz]
 generalize vs.getD 0 undef = v0 at hr0
 generalize vs.getD 1 undef = v1 at hr1
 cases hr0
 cases hr1 with
 | fn _ _ _ _ us ws hx hy h h' =>
 have hus : us = #[]:=by simpa using hx
 subst hus
 have hws:=arr1 (vs:=ws) hy
 have hc0:=h' 0 (by simp)
 simp only [List.getD_cons_zero] at hc0
 rw [hws]
 generalize ws.getD 0 undef = u at hc0
 cases hc0 with
 | pv _ _ Bs B0 cells ty fz c hb ht hcc ho hh =>
 have hB:=hcc 0 (by simp)
 have hv:=hh 0 (by simp)
 simp only [List.getD_cons_zero,Nat.add_zero] at hB hv
 have hBl : Bs < w.heap.size:=(Array.getElem?_eq_some_iff.1 hb).1
 generalize c 0 = sv at hB hv
 cases hv with
 | vs _ _ _ _ a cap cc hf hle hw hbb h1 hcv =>
 have hlen : (l.map fun n=>[AV.I n]).length = l.length:=by simp
 rw [hlen] at hB
 have hcell : ∃ b off,(l ≠ [] → a = some ⟨b,off,none⟩ ∧ b < w.heap.size) ∧ ∀ j (h : j < l.length),w.cell? ⟨b,off + j,none⟩ = some (.int .i64 l[j]):=by
  by_cases h0 : l = []
  ·exact ⟨0,0,fun h=>absurd h0 h,fun j hj=>by subst h0; simp at hj⟩
  ·obtain ⟨b,off,cs,ty',fz',ha,hwb,_,hrow⟩:=hbb (by simpa using h0)
   refine ⟨b,off,fun _=>⟨ha,(Array.getElem?_eq_some_iff.1 hwb).1⟩,fun j hj=>?_⟩
   have h2:=hrow j 0 (by simpa using hj) (by decide)
   have h3:=hcv j 0 (by simpa using hj) (by decide)
   have e : ((l.map fun n=>[AV.I n]).getD j []).getD 0 .dead = .I l[j]:=by simp [List.getD,hj]
   rw [e] at h3
   have h4:=zbe h3 rfl
   rw [h4] at h2
   simp only [World.cell?,hwb]
   simpa using h2
 obtain ⟨b,off,hab,hcs⟩:=hcell
 rw [← callsIn_wide (n:=2)]
 refine (zlg Fence.wide 2 trivial trivial rfl (by omega) Bs B0 b off cap a l (fun h=>(hab h).1) hl w ?_ hBl (fun h=>(hab h).2) hcs).mono ?_
 ·simp only [World.cell?,hb]
  exact hB
 rintro e w' ⟨v,rfl,⟨_,hown⟩,hbel⟩
 have hpr : Pres T w T w':=⟨fun _=>Nat.le_refl _,fun b' cs' ty' fz' h=>⟨cs',fz',by rw [hbel.block b' (Array.getElem?_eq_some_iff.1 h).1]; exact h,rfl,fun _ _=>rfl⟩⟩
 have hT0 : ∀ b',w.heap.size ≤ b' → T b' = 0:=fun b' hb'=>by
  rcases Nat.eq_zero_or_pos (T b') with e | e
  ·exact e
  ·obtain ⟨cells,ty,fz,h1,_⟩:=htok b' e
   have:=(Array.getElem?_eq_some_iff.1 h1).1
   omega
 have htok' : TOk T w':=fun b' hb'=>by
  obtain ⟨cells,ty,fz,h1,h2⟩:=htok b' hb'
  exact ⟨cells,ty,fz,by rw [hbel.block b' (Array.getElem?_eq_some_iff.1 h1).1]; exact h1,h2⟩
 have fin : ∀ g : GE,(∀ b,g.blk = some b → w.heap.size ≤ b) → zmU T w' (fun k=>if k = 0 then some g else none) ⟨1,zaf l,0⟩ g → Rep T w' (fun k=>if k = 0 then some g else none) (.rs 0 0 l.length) v →
   ∃ v' T' M',Ending.returned v = .returned v' ∧ Rep T' w' M' (.rs 0 0 l.length) v' ∧ HsOk T' w' M' (zjB [some ⟨1,zaf l,0⟩]) ∧ zhK 0 T M w T' M' w':=by
  intro g hg ent hv
  refine ⟨v,T,_,rfl,hv,?_,⟨htok',fun _ _ _=>rfl,fun k hk=>absurd hk (Nat.not_lt_zero k),hbel.os,hbel.tape,hbel.output,hbel.size,fun b' hb' _=>hbel.block b' hb',hpr,fun k g1 b1 _ h1 h2=>?_⟩⟩
  ·rw [show ([some ⟨1,zaf l,0⟩] : List (Option Ent)) = List.map some [⟨1,zaf l,0⟩] from rfl,zhC]
   have z : ∀ id e,hpOf [(⟨1,zaf l,0⟩ : Ent)] id = some e → id = 0 ∧ e = ⟨1,zaf l,0⟩:=by
    intro id e he
    cases id with
    | zero=>simp [hpOf] at he; exact ⟨rfl,he.symm⟩
    | succ k=>simp [hpOf] at he
   refine ⟨fun id e he=>?_,fun id id' e e' _ _ _ h1 h2 _ _ _ _=>by rw [(z _ _ h1).1,(z _ _ h2).1]⟩
   obtain ⟨rfl,rfl⟩:=z _ _ he
   exact ⟨g,rfl,ent⟩
  ·by_cases hk : k = 0
   ·subst hk
    simp at h1
    subst h1
    exact .inr (hg b1 h2)
   ·simp [hk] at h1
 have hwide : ∀ row ∈ zaf l,row.length = 1:=by intro row hr; simp at hr; obtain ⟨x,_,rfl⟩:=hr; rfl
 rcases hown with ⟨rfl,h0⟩ | ⟨g,cp,cur,rfl,hg,hgw,hle2,hcm,hcsz,htk⟩
 ·have h0' : l = []:=List.length_eq_zero_iff.1 h0
  subst h0'
  exact fin ⟨none,0,1⟩ (by simp) ⟨rfl,Nat.zero_le _,fun _=>hwide,(fun _=>rfl),(fun hz=>absurd hz (Nat.succ_ne_zero 0)),fun _ b' hb'=>by cases hb'⟩ (.rs _ _ _ _ _ _ _ rfl (Nat.succ_ne_zero 0) (Nat.le_refl _) (fun _=>⟨rfl,rfl⟩) fun b' hb'=>by cases hb')
 ·refine fin ⟨some g,0,1⟩ (fun b' hb'=>by cases hb'; exact hg) ⟨rfl,Nat.zero_le _,fun _=>hwide,(fun hn=>by cases hn),(fun hz=>absurd hz (Nat.succ_ne_zero 0)),fun _ b' hb'=>?_⟩ (.rs _ _ _ _ cp _ _ rfl (Nat.succ_ne_zero 0) hle2 (fun hn=>by cases hn) fun b' hb'=>?_)
  ·obtain rfl:=Option.some.inj hb'
   refine ⟨cur,3,hgw,by rw [hT0 g hg]; exact Nat.zero_le _,by simp; omega,fun i j hi hj=>?_⟩
   have hi' : i < l.length:=by simpa using hi
   obtain rfl : j = 0:=by simpa using hj
   refine ⟨.int .i64 l[i],?_,rfl,?_⟩
   ·have : (cur.toList.take (l.length * 1))[i]? = (l.map encZ)[i]?:=by rw [htk]
    rw [List.getElem?_take,if_pos (by omega)] at this
    simpa [hi',zsI] using this
   ·have e : ((zaf l).getD i []).getD 0 .dead = .I l[i]:=by simp [List.getD,hi']
    rw [e]
    exact .sc _ _ rfl
  ·obtain rfl:=Option.some.inj hb'
   exact ⟨.inr (by simp),cur,3,(0,0),hgw,by simp; omega⟩
section
variable {P : Program} {np id : Nat} {h : Nat → Option Ent} {K : AV → List Nat → List (Nat × Option Ent) → Prop} {f : FuncId} {first capt args args' : List AV} {res : AV}
theorem zkS (sn : List Nat) (hnp : ∀ i ∈ sn,np ≤ i) (hc : zaj P f args' [] res []) (hw : (first ++ args ++ capt).map (conv [] sn h 4) = args')
  (hk : K (conv (((List.range 8).map (id + ·)).zipIdx.map fun (a,b)=>(b,a)) [] (fun _=>none) 4 res) sn (sn.filterMap fun i=>(h i).map fun e=>(i,some { e with ro:=e.rows.length }))) : aK P np id .call (.fn (.func f) first capt :: args) h K :=
 ⟨[],sn,true,args',[],res,[],by simp,by simp,fun _=>hnp,by rw [List.zipIdx_nil,hw]; exact zb1 _,rfl,hc,by simp,.inl rfl,by simpa using hk⟩
end
abbrev seqF (l : List Int) : AV:=.fn (.func zbh) [] [.pv [ints l]]
theorem znk (l : List Int) : zaj Tryz.prog zba [ints l] [] (seqF l) []:=by
 refine zeL.acalls (nbz rfl) (nbz rfl) (Nat.le_refl _) ?_
 show awp _ 0 _ _ ⟨4,[(0,ints l)],[],16⟩
 refine rk (s:=?s1) [1] [16] rfl ?o1 ?q1
 case o1=>simp; rfl
 refine rk (s:=?s2) [2] [16] rfl ?o2 ?q2
 case o2=>simp; rfl
 refine zah ?_
 exact ⟨.inr rfl,zal.out [] [16] rfl (by simp) (by simp) (by simp) (by simp)⟩
theorem zpF (l : List Int) (hl : l.length ≤ 1099511627776) : zaj Tryz.prog zcm [seqF l] [] (.rs 0 0 l.length) [some ⟨1,zaf l,0⟩]:=by
 refine zgj.acalls (nbz rfl) (nbz rfl) (Nat.zero_le _) ?_
 show awp _ 0 _ _ ⟨5,[(0,seqF l)],[],16⟩
 refine rk (s:=?s1) [0] [] rfl ?o1 ?q1
 case o1=>simp; rfl
 refine rk (s:=?s2) [2] [32] rfl ?o2 ?q2
 case o2 =>
  simp
  refine zaU (zmA l hl) (by simp) ?_
  simp [fcd]
  rfl
 refine zah ?_
 exact ⟨.inr rfl,zal.out [32] [] rfl (by simp) (by simp) (by simp) (by simp [fcd])⟩
theorem zm4 (l : List Int) (hl : l.length ≤ 1099511627776) : zaj Tryz.prog za5 [seqF l] [] (.rs 0 0 l.length) [some ⟨1,zaf (zfw l),0⟩]:=by
 refine zgB.acalls (nbz rfl) (nbz rfl) (Nat.zero_le _) ?_
 show awp _ 0 _ _ ⟨9,[(0,seqF l)],[],16⟩
 refine rk (s:=?s1) [0] [] rfl ?o1 ?q1
 case o1=>simp; rfl
 refine rk (s:=?s2) [3] [32] rfl ?o2 ?q2
 case o2 =>
  simp
  refine zaU (zpF l hl) (by simp) ?_
  simp [fcd]
  rfl
 refine rk (s:=?s3) [3] [32] rfl ?o3 ?q3
 case o3 =>
  simp
  refine zbd (i:=32) rfl (e':=⟨1,zdR l,0⟩) (by simp [fcd,zdR]) (zrt l (by omega)) (by simp) (by simp) ?_
  simp [fcd,zdR]
  rfl
 refine rk (s:=?s4) [2] [32] rfl ?o4 ?q4
 case o4=>simp; rfl
 refine zah ?_
 exact ⟨.inr rfl,zal.out [32] [] rfl (by simp) (by simp) (by simp) (by simp [fcd])⟩
abbrev zcd (P : List (List Int)) : AV:=.vs 1 false (P.map fun w=>[ints w])
theorem zpQ (P : List (List Int)) (i : Nat) (h : i < P.length) (hne : P[i] ≠ []) : lasts (P.take (i + 1)) = lasts (P.take i) ++ [P[i].getLast hne]:=by
 unfold lasts
 rw [List.take_succ_eq_append_getElem h,List.filterMap_append]
 simp [List.getLast?_eq_some_getLast hne]
section
variable {P : Program} {np id : Nat} {h : Nat → Option Ent} {K : AV → List Nat → List (Nat × Option Ent) → Prop} {s s' l k : Nat} {f : Bool} {rows : List (List AV)}
@[simp] theorem zuW : aK P np id (.slc s true true false) [.vs s' f rows,.sc (.int .i64 (l : Int)),.sc (.int .i64 (k : Int))] h K = (l ≤ k ∧ k ≤ rows.length ∧ s' = s ∧ K (.vs s false ((rows.drop l).take (k - l))) [] []):=by
 rw [zjJ]
 refine propext ⟨?_,?_⟩
 ·rintro ⟨l',r,m,n,h1,h2,h4,h5,h6,h7,h3,h10,h8,h9⟩
  simp at h4 h1
  subst h1
  obtain ⟨rfl,rfl⟩ : l = l' ∧ k = r:=by omega
  exact ⟨h2,h3,h8,by simpa using h9⟩
 ·rintro ⟨h1,h2,h3,h4⟩
  exact ⟨l,k,0,rows.length,rfl,h1,by simp,(fun h=>by cases h),(fun h=>by cases h),(fun h=>by cases h),h2,(fun h=>by cases h),h3,by simpa using h4⟩
end
theorem zjE {g : Gr} {p : Pol} {n : Int} (hp : za8 n p) : ∀ c ∈ zaG g p,0 ≤ c ∧ c ≤ 1000:=by
 intro c hc
 obtain ⟨d,_,rfl⟩:=List.mem_map.1 hc
 exact zgo hp d
theorem zli {g : Gr} {S : List Int} (hg : 0 ≤ g.size) : (ordL g S).length ≤ g.size.toNat:=by
 have h:=za1 (a:=ordL g S) (b:=(List.range g.size.toNat).map fun (i : Nat)=>(i : Int)) (zbi g S) fun x hx=>by
  have:=zbN hx
  exact List.mem_map.2 ⟨x.toNat,List.mem_range.2 (by omega),by show ((x.toNat : Nat) : Int) = x; omega⟩
 simpa using h
theorem zo8 (l : List Int) (n : Int) (hl : l.length ≤ 140737488355328) : zaj Tryz.prog zfG [ints l,.I n] [] (.B (decide (n ∈ l))) []:=by
 refine zpu.acalls (nbz rfl) (nbz rfl) (Nat.le_refl _) ?_
 show awp _ 0 _ _ ⟨18,[(0,ints l),(1,.I n)],[],16⟩
 refine rx (s:=?s1) [0,1] [] [] rfl ?o1 ?q1
 case o1=>simp; rfl
 refine zab ?_
 refine rx (s:=?s2) [0,1,5] [] [] rfl ?o2 ?q2
 case o2=>simp; rfl
 refine zag ?_
 refine zao (ι:=Nat) (fun i=>⟨18,[(0,ints l),(1,.I n),(5,.I i)],[],32⟩) (fun i=>i ≤ l.length ∧ n ∉ l.take i) (fun i=>l.length - i) 0 (by simp) (LeH [] []) ?_
 rintro i ⟨hi,hp⟩
 refine zab ?_
 refine rx (s:=?s3) [0,1,5,9] [] [] rfl ?o3 ?q3
 case o3=>simp; rfl
 refine zac _ rfl (fun h4=>?_) fun h4=>?_
 ·simp at h4
  have hw : IntKind.i64.wrap ((i : Int) + 1) = (i : Int) + 1:=w64 (by omega) (by omega)
  refine zad ?_
  refine zab ?_
  refine zag ?_
  refine rx (s:=?s5) [0,1,5,17] [] [] rfl ?o5 ?q5
  case o5=>simp [h4]; rfl
  refine zac _ rfl (fun h7=>?_) fun h7=>?_
  ·simp at h7
   refine rx (s:=?s8) [4] [] [] rfl ?o8 ?q8
   case o8=>simp; rfl
   refine zah ?_
   have hm : n ∈ l:=h7 ▸ List.getElem_mem h4
   exact ⟨.inr rfl,zal.one (by simp [hm])⟩
  simp at h7
  refine zad ?_
  refine zaq rfl ?_
  simp [hw]
  refine ⟨i + 1,⟨h4,?_⟩,by omega,LeH [] []⟩
  rw [List.take_succ_eq_append_getElem h4,List.mem_append,List.mem_singleton]
  exact fun h=>h.elim hp fun e=>h7 e.symm
 simp at h4
 have hn : n ∉ l:=by rw [List.take_of_length_le (by omega)] at hp; exact hp
 refine zan ?_
 refine hit ?_
 refine rx (s:=?s9) [4] [] [] rfl ?o9 ?q9
 case o9=>simp; rfl
 refine zah ?_
 exact ⟨.inr rfl,zal.one (by simp [hn])⟩
def zro (a : List Int) (k : Nat) : List Int:=((List.range k).map Int.ofNat).filter fun x=>decide (x ∈ a)
theorem zqa (a : List Int) (k : Nat) : zro a (k + 1) = zro a k ++ if (k : Int) ∈ a then [(k : Int)] else []:=by
 unfold zro
 rw [List.range_succ,List.map_append,List.filter_append]
 congr 1
 by_cases h : (k : Int) ∈ a
 ·rw [if_pos h]
  simp [h]
 ·rw [if_neg h]
  simp [h]
theorem zrg (a : List Int) (k : Nat) : (zro a k).length ≤ k:=by
 refine Nat.le_trans (List.length_filter_le ..) (by simp)
theorem zrz (a b : List Int) (ha : a.length ≤ 140737488355328) (hb : b.length ≤ 140737488355328) : zaj Tryz.prog zf3 [ints a,ints b] [] (.rs 0 0 (zax (a ++ b)).length) [some ⟨1,zaf (zax (a ++ b)),0⟩]:=by
 refine zox.acalls (nbz rfl) (nbz rfl) (Nat.zero_le _) ?_
 show awp _ 0 _ _ ⟨24,[(0,ints a),(1,ints b)],[],16⟩
 refine rx (s:=?s1) [0,1] [] [] rfl ?o1 ?q1
 case o1=>simp; rfl
 refine rx (s:=?s2) [0,1,5] [] [] rfl ?o2 ?q2
 case o2=>simp; rfl
 refine zab ?_
 refine rx (s:=?s3) [0,1,5,6] [] [] rfl ?o3 ?q3
 case o3=>simp; rfl
 refine zag ?_
 obtain ⟨J,hJ0,hJs,hJl,hJN⟩ : ∃ J : Nat → List Int,J 0 = [] ∧ (∀ k : Nat,J (k + 1) = J k ++ if (k : Int) ∈ a ++ b then [(k : Int)] else []) ∧ (∀ k,(J k).length ≤ k) ∧ J 64 = zax (a ++ b) :=
  ⟨zro (a ++ b),rfl,zqa _,zrg _,rfl⟩
 refine zao (ι:=Nat) (fun i=>⟨24,[(0,ints a),(1,ints b),(5,.rs 16 0 (J i).length),(6,.I i)],[(16,some ⟨1,zaf (J i),0⟩)],40⟩) (fun i=>i ≤ 64) (fun i=>64 - i) 0 (by omega) (Le.lst [] [] [(16,1)] rfl (by simp) (by simp) (by simp) (by simp) (by simp) (by simp) (by simp) (by simp [Up,hJ0]) (by simp [hJ0])) ?_
 intro i hi
 have hJi:=hJl i
 have hti : ∀ f : Int → List AV,List.take (J i).length (List.map f (J i)) = List.map f (J i):=fun f=>List.take_of_length_le (by simp)
 refine zab ?_
 refine rk (s:=?s4) [0,1,5,6,8] [16] rfl ?o4 ?q4
 case o4=>simp; rfl
 refine zac _ rfl (fun h5=>?_) fun h5=>?_
 ·simp at h5
  have hw : IntKind.i64.wrap ((i : Int) + 1) = (i : Int) + 1:=w64 (by omega) (by omega)
  refine zad ?_
  refine zaI (ι:=Unit) (fun _=>⟨24,[(0,ints a),(1,ints b),(5,.rs 16 0 (J (i + 1)).length),(6,.I i)],[(16,some ⟨1,zaf (J (i + 1)),0⟩)],200⟩) (fun _=>True) ?_ fun _ _=>?_
  ·refine zag ?_
   refine zaa ⟨24,[(0,ints a),(1,ints b),(5,.rs 16 0 (J i).length),(6,.I i),(18,.B (decide ((i : Int) ∈ a ++ b)))],[(16,some ⟨1,zaf (J i),0⟩)],120⟩ rfl ?_ ?_
   ·simp
    refine zap (zo8 a i ha) (by simp) ?_
    simp
    refine zcc (fun hb'=>?_) (fun hb'=>?_) <;> (try rw [hb']) <;> (try simp at hb') <;> simp [hb']
    ·exact Le.keep rfl (Nat.le_refl _) (by simp [hb']) (by simp)
    ·refine zap (zo8 b i hb) (by simp) ?_
     simp
     exact Le.keep rfl (Nat.le_refl _) (by simp [hb']) (by simp)
   refine zac _ rfl (fun h6=>?_) fun h6=>?_
   ·rw [decide_eq_true_eq] at h6
    refine zae (s:=?s7) rfl ?o7 ?q7
    case o7=>simp [hti]; refine ⟨by omega,by omega,?_⟩; rfl
    exact ⟨(),trivial,Le.go [(144,16)] [] rfl rfl (by simp [hJs,h6]) (by simp [hJs,h6,fcd])⟩
   ·rw [decide_eq_false_iff_not] at h6
    refine zad ?_
    exact ⟨(),trivial,Le.go [(16,16)] [] rfl rfl (by simp [hJs,h6]) (by simp [hJs,h6,fcd])⟩
  refine zae (s:=?s8) rfl ?o8 ?q8
  case o8=>simp [hw]; rfl
  exact ⟨i + 1,by omega,by omega,LeI [(16,16)] []⟩
 simp at h5
 obtain rfl : i = 64:=by omega
 refine zan ?_
 refine hit ?_
 refine rk (s:=?s9) [4] [16] rfl ?o9 ?q9
 case o9=>simp; rfl
 refine zah ?_
 exact ⟨.inr rfl,zal.out [16] [] rfl (by simp) (by simp) (by simp [hJN]) (by simp [fcd,hJN])⟩
abbrev nC (n : Net) : List AV:=[.I n.nodes,eEs n.arcs]
abbrev eN (n : Net) : AV:=.agg (nC n)
theorem zgw (f : FuncId) (capt : List AV) (q : Ed → Bool) (l : List Ed) (hl : l.length ≤ 1099511627776) (hs : zhN capt) (hc : ∀ e ∈ l,zaj Tryz.prog f (eE e :: capt) [] (.B (q e)) []) : zaj Tryz.prog zaM [eEs l,.fn (.func f) [] capt] [] (.I (idxQ l q)) []:=by
 have hs2 : ∀ ρ sn h,capt.map (conv ρ sn h 2) = capt:=fun _ _ _=>hs _ _ _ 1
 have hs3 : ∀ ρ sn h,capt.map (conv ρ sn h 3) = capt:=fun _ _ _=>hs _ _ _ 2
 have hs4 : ∀ ρ sn h,capt.map (conv ρ sn h 4) = capt:=fun _ _ _=>hs _ _ _ 3
 refine zcy.acalls (nbz rfl) (nbz rfl) (Nat.le_refl _) ?_
 show awp _ 0 _ _ ⟨19,[(0,eEs l),(1,.fn (.func f) [] capt)],[],16⟩
 refine zab ?_
 refine zae (s:=?s1) rfl ?o1 ?q1
 case o1=>simp; rfl
 refine zab ?_
 refine zab ?_
 refine zae (s:=?s2) rfl ?o2 ?q2
 case o2=>simp; rfl
 refine zag ?_
 refine zao (ι:=Nat) (fun k=>⟨19,[(0,eEs l),(1,.fn (.func f) [] capt),(7,.I l.length),(8,.I k)],[],16⟩) (fun k=>k ≤ l.length ∧ ∀ i,i < k → ∀ h : i < l.length,q l[i] = false) (fun k=>l.length - k) (0) ?_ (Le.snap [] rfl rfl (by simp [hs2,hs3,hs4])) ?_
 ·simp
 rintro k ⟨hk,hp⟩
 refine zab ?_
 refine zae (s:=?s3) rfl ?o3 ?q3
 case o3=>simp; rfl
 refine zab ?_
 refine zac _ rfl (fun h4=>?_) fun h4=>?_
 ·try simp at h4
  have hw2 : IntKind.i64.wrap ((k : Int) + 1) = (k : Int) + 1:=w64 (by omega) (by omega)
  have hck:=hc l[k] (List.getElem_mem h4)
  refine zad ?_
  refine zab ?_
  refine zag ?_
  refine zab ?_
  refine zae (s:=?s5) rfl ?o5 ?q5
  case o5=>simp [h4,hw2]; rfl
  refine zab ?_
  refine zae (s:=?s6) rfl ?o6 ?q6
  case o6 =>
   simp [h4,hw2]
   refine zap hck ?_ ?_
   ·simp [hs2,hs3,hs4]
   simp [h4,hw2]; rfl
  refine zac _ rfl (fun h7=>?_) fun h7=>?_
  ·try simp at h7
   refine zab ?_
   refine zae (s:=?s8) rfl ?o8 ?q8
   case o8=>simp [h4,hw2]; rfl
   refine zah ?_
   exact ⟨.inr rfl,zal.one (by simp [zkZ h4 hp h7])⟩
  try simp at h7
  refine zad ?_
  refine zae (s:=?s9) rfl ?o9 ?q9
  case o9=>simp [h4,hw2]; rfl
  refine ⟨k + 1,⟨h4,fun i hi=>?_⟩,by omega,Le.snap [] rfl rfl (by simp [h4,hw2,hs2,hs3,hs4])⟩
  rcases Nat.lt_succ_iff_lt_or_eq.1 hi with h | rfl
  ·exact hp i h
  ·exact fun _=>h7
 try simp at h4
 have hall : ∀ i,i < l.length → ∀ h : i < l.length,q l[i] = false:=fun i hi=>hp i (by omega)
 refine zan ?_
 refine hit ?_
 refine zab ?_
 refine zae (s:=?s10) rfl ?o10 ?q10
 case o10=>simp; rfl
 refine zah ?_
 exact ⟨.inr rfl,zal.one (by simp [zlP hall])⟩
theorem zia (f : FuncId) (capt : List AV) (q : Ed → Bool) (l : List Ed) (hl : l.length ≤ 1099511627776) (hs : zhN capt) (hc : ∀ e ∈ l,zaj Tryz.prog f (eE e :: capt) [] (.B (q e)) []) : zaj Tryz.prog zaQ [eEs l,.fn (.func f) [] capt] [] (.B (l.any q)) []:=by
 have hs2 : ∀ ρ sn h,capt.map (conv ρ sn h 2) = capt:=fun _ _ _=>hs _ _ _ 1
 have hs3 : ∀ ρ sn h,capt.map (conv ρ sn h 3) = capt:=fun _ _ _=>hs _ _ _ 2
 have hs4 : ∀ ρ sn h,capt.map (conv ρ sn h 4) = capt:=fun _ _ _=>hs _ _ _ 3
 refine zb4.acalls (nbz rfl) (nbz rfl) (Nat.le_refl _) ?_
 show awp _ 0 _ _ ⟨9,[(0,eEs l),(1,.fn (.func f) [] capt)],[],16⟩
 refine zab ?_
 refine zae (s:=?s1) rfl ?o1 ?q1
 case o1=>simp; rfl
 have hi : decide (0 ≤ idxQ l q) = l.any q:=by
  unfold idxQ
  by_cases h : l.findIdx q < l.length
  ·rw [if_pos h]
   have:=List.findIdx_getElem (w:=h)
   have h2 : l.any q = true:=List.any_eq_true.2 ⟨_,List.getElem_mem h,this⟩
   rw [h2]
   simp
  ·rw [if_neg h]
   have : l.findIdx q = l.length:=by have:=List.findIdx_le_length (xs:=l) (p:=q); omega
   rw [List.findIdx_eq_length] at this
   have h2 : l.any q = false:=by
    rw [List.any_eq_false]
    intro x hx
    simp [this x hx]
   rw [h2]
   simp
 refine zaa ⟨9,[(4,.B (l.any q))],[],16⟩ rfl ?_ ?_
 ·simp
  refine zap (zgw f capt q l hl hs hc) ?_ ?_
  ·simp [hs2,hs3,hs4]
  simp
  exact Le.snap [] rfl rfl (by simp; exact wkB hi)
 refine zah ?_
 exact ⟨.inr rfl,zal.one (by simp)⟩
theorem ziv (n : Net) (a : Ed) (h2 : 2 ≤ n.nodes) (h3 : n.nodes ≤ 130) : zaj Tryz.prog zc8 [eE a,.pv (nC n)] [] (.B (!decide (zi8 n.nodes a))) []:=by
 refine zkd.acalls (nbz rfl) (nbz rfl) (Nat.le_refl _) ?_
 show awp _ 0 _ _ ⟨43,[(0,eE a),(1,.pv (nC n))],[],16⟩
 have hw : IntKind.i64.wrap (n.nodes - 1) = n.nodes - 1:=w64 (by omega) (by omega)
 refine rx (s:=?s1) [1,2] [] [16] rfl ?o1 ?q1
 case o1=>simp; rfl
 refine zaa ⟨43,[(3,.B (!decide (zi8 n.nodes a)))],[],400⟩ rfl ?_ ?_
 ·simp [hw]
  repeat' first
   | (refine zdT zaO rfl ?_; refine zap (zbt ..) rfl ?_; simp [hw])
   | (refine zcc (fun hb=>?_) (fun hb=>?_) <;> (try rw [hb]) <;> (try simp at hb) <;> simp [hb,hw])
  all_goals exact Le.snap [] rfl rfl (by simp <;> exact wkB (by (try simp at *); grind [zi8]))
 refine zah ?_
 exact ⟨.inr rfl,zal.one (by simp)⟩
end Go.Proofs.YteiabadhhhckfaaGreat
