/- Texts of this claim,merged. -/
import Derived.Test.YthmaflecfppoiaaGreatRp9
import Derived.Test.YthmaflecfppoiaaGreatRp7
import Derived.Test.YthmaflecfppoiaaGreatRp6
import Derived.Shelf.SlIterI.Collect
import Derived.RangeFuncLeaves
set_option linter.unusedSimpArgs false
set_option linter.unusedVariables false
set_option linter.unusedSectionVars false
namespace Go.Proofs.YthmaflecfppoiaaGreat
open Go
def sumN (g : List Nat → Nat) (W : List (List Nat)) : Nat:=(W.map g).sum
theorem zlp (g : List Nat → Nat) (w : List Nat) (W : List (List Nat)) : sumN g (w :: W) = g w + sumN g W:=by simp [sumN]
theorem zlZ {l : List Int} (h : ∀ x,l.count x ≤ 1) : l.Nodup:=by
 induction l with
 | nil=>exact List.nodup_nil
 | cons x l ih =>
   rw [List.nodup_cons]
   refine ⟨fun hm=>?_,ih fun y=>?_⟩
   ·have h1:=h x
    rw [List.count_cons_self] at h1
    have h2:=List.count_pos_iff.2 hm
    omega
   ·have h1:=h y
    rw [List.count_cons] at h1
    omega
theorem ztu {A : List Ed} {n : Nat} {k : Int} : ∀ {W : List (List Nat)},(∀ w ∈ W,(zcS A w).head? = some k → 1 ≤ w.count n) → begC (W.map (zcS A)) k ≤ sumN (List.count n) W
 | [],_=>by simp [begC,sumN]
 | w :: W,h=>by
   have ih:=ztu (n:=n) (k:=k) fun x hx=>h x (List.mem_cons_of_mem w hx)
   have h1:=h w (List.mem_cons_self ..)
   unfold begC at ih ⊢
   rw [List.map_cons,List.countP_cons,zlp]
   by_cases hk : (zcS A w).head? = some k
   ·have:=h1 hk
    simp only [hk,decide_true,if_true]
    omega
   ·simp only [hk,decide_false,Bool.false_eq_true,if_false]
    omega
theorem znZ {A : List Ed} {k : Int} : ∀ {W : List (List Nat)},begC (W.map (zcS A)) k = 0 ∨ ∃ w ∈ W,(zcS A w).head? = some k
 | []=>.inl rfl
 | w :: W=>by
   by_cases hk : (zcS A w).head? = some k
   ·exact .inr ⟨w,List.mem_cons_self ..,hk⟩
   ·rcases znZ (A:=A) (k:=k) (W:=W) with h | ⟨x,hx,hx2⟩
    ·left
     unfold begC at h ⊢
     rw [List.map_cons,List.countP_cons,h]
     simp [hk]
    ·exact .inr ⟨x,List.mem_cons_of_mem _ hx,hx2⟩
theorem zsP {A : List Ed} {n : Nat} {k : Int} : ∀ {W : List (List Nat)},(∀ w ∈ W,(zcS A w).dropLast.count k ≤ w.count n) → useC (W.map (zcS A)) k ≤ sumN (List.count n) W
 | [],_=>by simp [useC,sumN]
 | w :: W,h=>by
   have ih:=zsP (n:=n) (k:=k) fun x hx=>h x (List.mem_cons_of_mem w hx)
   have h1:=h w (List.mem_cons_self ..)
   unfold useC at ih ⊢
   rw [List.map_cons,List.flatMap_cons,List.count_append,zlp]
   omega
theorem zom {A : List Ed} {k : Int} : ∀ {W : List (List Nat)},useC (W.map (zcS A)) k = 0 ∨ ∃ w ∈ W,k ∈ (zcS A w).dropLast
 | []=>.inl rfl
 | w :: W=>by
   by_cases hk : k ∈ (zcS A w).dropLast
   ·exact .inr ⟨w,List.mem_cons_self ..,hk⟩
   ·rcases zom (A:=A) (k:=k) (W:=W) with h | ⟨x,hx,hx2⟩
    ·left
     unfold useC at h ⊢
     rw [List.map_cons,List.flatMap_cons,List.count_append,h,List.count_eq_zero.2 hk]
    ·exact .inr ⟨x,List.mem_cons_of_mem _ hx,hx2⟩
theorem zq3 {A : List Ed} {n : Nat} {k : Int} : ∀ {W : List (List Nat)},(∀ w ∈ W,(zcS A w).getLast? = some k → 1 ≤ w.count n) → (ziV (W.map (zcS A))).count k ≤ sumN (List.count n) W
 | [],_=>by simp [ziV,sumN]
 | w :: W,h=>by
   have ih:=zq3 (n:=n) (k:=k) fun x hx=>h x (List.mem_cons_of_mem w hx)
   have h1:=h w (List.mem_cons_self ..)
   unfold ziV at ih ⊢
   rw [List.map_cons,List.filterMap_cons,zlp]
   cases hl : (zcS A w).getLast? with
   | none=>simp only; omega
   | some z =>
     simp only [List.count_cons]
     by_cases hz : z = k
     ·subst hz
      have:=h1 hl
      simp only [beq_self_eq_true,if_true]
      omega
     ·have : (z == k) = false:=by simpa using hz
      rw [this]
      simp only [Bool.false_eq_true,if_false]
      omega
theorem zr1 {A : List Ed} {E : Int → Int → Prop} {seeds sinks : List Int} {cl : List Int} {f : List Int} {W : List (List Nat)}
  (hk : zhY A E seeds sinks fun x=>cl.getD x.toNat 0) (hf : Fit2 A f) (hw : ∀ w ∈ W,WayA A 0 w 1 ∧ (metA A w).Nodup) (hs : ∀ i,i < A.length → (sumN (List.count i) W : Int) ≤ f.getD i 0) (hc : ∀ x ∈ cl,0 ≤ x) :
  znc cl (W.map (zcS A)) ∧ (ziV (W.map (zcS A))).Nodup ∧ (∀ k ∈ ziV (W.map (zcS A)),k ∈ sinks) ∧
  ∀ p ∈ W.map (zcS A),(∃ k,p.head? = some k ∧ k ∈ seeds) ∧ p.Nodup ∧ ∀ i (h : i + 1 < p.length),E p[i] p[i + 1]:=by
 have hfit:=(zc0.1 hf).2
 have hlast : ∀ w ∈ W,∃ z,(zcS A w).getLast? = some z ∧ z ∈ sinks ∧ ∃ i ∈ w,i < A.length ∧ arcD A i = ⟨2 + 2 * z,1,1⟩:=fun w hwW=>by
  obtain ⟨x,i,l',ks,rfl,hi,hxs,hx0,he,hp,hkk⟩:=hk.whole (hw w hwW).1
  obtain ⟨z,hz,hzs,m,hm,hm2,hm3⟩:=hp.ends
  exact ⟨z,by rw [hkk]; exact hz,hzs,m,List.mem_cons_of_mem _ hm,hm2,hm3⟩
 refine ⟨fun k hkl=>⟨?_,?_⟩,zlZ fun z=>?_,fun z hz=>?_,fun p hp=>?_⟩
 ·have hck:=hc _ (List.getElem_mem hkl)
  have hcg : cl.getD k 0 = cl[k]:=by rw [List.getD_eq_getElem?_getD,List.getElem?_eq_getElem hkl,Option.getD_some]
  rcases znZ (A:=A) (k:=(k : Int)) (W:=W) with h | ⟨w,hwW,hh⟩
  ·rw [h]; exact hck
  ·obtain ⟨x,i,l',ks,rfl,hi,hxs,hx0,he,hp,hkk⟩:=hk.whole (hw w hwW).1
   rw [hkk] at hh
   have hxk : x = k:=Option.some.inj hh
   subst hxk
   have h1:=ztu (A:=A) (n:=i) (k:=(k : Int)) (W:=W) fun v hvW hvk=>by
    obtain ⟨y,j,l2,ks2,rfl,hj,_,_,he2,_,hkk2⟩:=hk.whole (hw v hvW).1
    rw [hkk2] at hvk
    have hyk : y = k:=Option.some.inj hvk
    have : j = i:=hk.uniq j i hj hi (by rw [he2,he]) (by rw [he2,he,hyk])
    subst this
    rw [List.count_cons_self]
    omega
   have h2:=hs i hi
   have h3:=(hfit i hi).2
   rw [he] at h3
   simp only [Int.toNat_natCast] at h3
   rw [hcg] at h3
   omega
 ·have hck:=hc _ (List.getElem_mem hkl)
  have hcg : cl.getD k 0 = cl[k]:=by rw [List.getD_eq_getElem?_getD,List.getElem?_eq_getElem hkl,Option.getD_some]
  rcases zom (A:=A) (k:=(k : Int)) (W:=W) with h | ⟨w,hwW,hh⟩
  ·rw [h]; omega
  ·obtain ⟨x,i,l',ks,rfl,hi,hxs,hx0,he,hp,hkk⟩:=hk.whole (hw w hwW).1
   rw [hkk] at hh
   obtain ⟨n,hn,hnA⟩:=hp.mids hh
   have h1:=zsP (A:=A) (n:=n) (k:=(k : Int)) (W:=W) fun v hvW=>by
    obtain ⟨y,j,l2,ks2,rfl,hj,_,_,he2,hp2,hkk2⟩:=hk.whole (hw v hvW).1
    rw [hkk2,List.count_cons]
    have:=hp2.uses hk.uniq hn hnA
    omega
   have h2:=hs n hn
   have h3:=(hfit n hn).2
   rw [hnA] at h3
   simp only [Int.toNat_natCast] at h3
   rw [hcg] at h3
   omega
 ·by_cases hz : z ∈ ziV (W.map (zcS A))
  ·obtain ⟨p,hp,hpz⟩:=List.mem_filterMap.1 hz
   obtain ⟨w,hwW,rfl⟩:=List.mem_map.1 hp
   obtain ⟨y,hy,hys,i,hiw,hi,hiA⟩:=hlast w hwW
   rw [hpz] at hy
   have hzy : z = y:=Option.some.inj hy
   subst hzy
   have h1:=zq3 (A:=A) (n:=i) (k:=z) (W:=W) fun v hvW hvz=>by
    obtain ⟨y,hy,_,j,hjv,hj,hjA⟩:=hlast v hvW
    rw [hvz] at hy
    have hzy : z = y:=Option.some.inj hy
    have : j = i:=hk.uniq j i hj hi (by rw [hjA,hiA,hzy]) (by rw [hjA,hiA])
    subst this
    exact List.count_pos_iff.2 hjv
   have h2:=hs i hi
   have h3:=(hfit i hi).2
   rw [hiA] at h3
   simp only at h3
   omega
  ·rw [List.count_eq_zero.2 hz]
   omega
 ·obtain ⟨p,hp,hpz⟩:=List.mem_filterMap.1 hz
  obtain ⟨w,hwW,rfl⟩:=List.mem_map.1 hp
  obtain ⟨y,hy,hys,_⟩:=hlast w hwW
  rw [hpz] at hy
  rw [Option.some.inj hy]
  exact hys
 ·obtain ⟨w,hwW,rfl⟩:=List.mem_map.1 hp
  refine ⟨?_,zql (hw w hwW).2,?_⟩
  ·obtain ⟨x,i,l',ks,rfl,hi,hxs,hx0,he,hp,hkk⟩:=hk.whole (hw w hwW).1
   exact ⟨x,by rw [hkk]; rfl,hxs⟩
  ·obtain ⟨x,i,l',ks,rfl,hi,hxs,hx0,he,hp,hkk⟩:=hk.whole (hw w hwW).1
   have:=hp.edges
   intro n hn
   simp only [hkk] at hn ⊢
   exact this n hn
theorem WayA.last {A : List Ed} : ∀ {l : List Nat} {u w : Int},WayA A u l w → (u :: metA A l)[l.length]? = some w
 | [],u,w,h=>by
   have : u = w:=h
   simp [metA,this]
 | i :: l,u,w,h=>by
   have:=WayA.last h.2.2
   simpa [metA] using this
structure BalF (N : Nat) (A : List Ed) (f : List Int) : Prop where
 len : f.length = A.length
 nonneg : ∀ i,0 ≤ f.getD i 0
 bal : ∀ x : Int,2 ≤ x → x < N → exF A f x = 0
variable {N : Nat} {A : List Ed} {f g : List Int}
theorem zaA.balF (h : zaA N A f) : BalF N A f:=by
 have hf:=zc0.1 h.fit
 refine ⟨hf.1,fun i=>?_,fun x h2 h3=>?_⟩
 ·by_cases hi : i < A.length
  ·exact (hf.2 i hi).1
  ·rw [List.getD_eq_getElem?_getD,List.getElem?_eq_none (by rw [hf.1]; omega)]
   exact Int.le_refl _
 ·have:=h.bal x.toNat (by omega) (by omega)
  rw [Int.toNat_of_nonneg (by omega)] at this
  unfold exF
  omega
theorem zj4.balF (hf : BalF N A f) {l : List Nat} (h : zj4 A f g l 1) : BalF N A g ∧ exF A g 0 = exF A f 0 - 1:=by
 refine ⟨⟨h.len,h.nonneg,fun x h2 h3=>?_⟩,?_⟩
 ·rw [h.ex x,hf.bal x h2 h3,if_neg (by omega),if_neg (by omega)]
  rfl
 ·rw [h.ex 0,if_pos rfl,if_neg (by decide)]
  omega
structure zmG (N : Nat) (A : List Ed) (f g : List Int) (W : List (List Nat)) : Prop where
 bal : BalF N A g
 ex : exF A g 0 = exF A f 0 - W.length
 ways : ∀ w ∈ W,WayA A 0 w 1 ∧ (metA A w).Nodup
 used : ∀ i,g.getD i 0 + (sumN (List.count i) W : Int) ≤ f.getD i 0
theorem zmG.nil (hf : BalF N A f) : zmG N A f f []:=⟨hf,by simp,by simp,fun i=>by simp [sumN]⟩
theorem zmG.more {g' : List Int} {W : List (List Nat)} {l : List Nat} (h : zmG N A f g W) (hl : zj4 A g g' l 1) : zmG N A f g' (W ++ [l]):=by
 obtain ⟨b1,b2⟩:=hl.balF h.bal
 refine ⟨b1,by rw [b2,h.ex,List.length_append,List.length_singleton]; omega,fun w hw=>?_,fun i=>?_⟩
 ·rcases List.mem_append.1 hw with hw | hw
  ·exact h.ways w hw
  ·rw [List.mem_singleton] at hw
   subst hw
   exact ⟨hl.way,(List.nodup_cons.1 hl.met).2⟩
 ·have h1:=h.used i
  have h2:=hl.used i
  have h3 : sumN (List.count i) (W ++ [l]) = sumN (List.count i) W + l.count i:=by unfold sumN; simp
  rw [h3]
  omega
theorem zr2 (l : List Ed) (key : Int) : (outs l key).length = l.countP fun e=>decide (e.f = key):=by
 induction l with
 | nil=>rfl
 | cons e l ih =>
   unfold outs at *
   by_cases h : e.f = key <;> simp [List.filterMap_cons,List.countP_cons,h,ih]
theorem GrOk.fits {g : Gr} (h : GrOk g) : ∀ e ∈ g.edges,Fits g e:=by
 intro e he
 obtain ⟨i,hi,rfl⟩:=List.mem_iff_getElem.1 he
 exact (h.2 i hi).1
open Classical in
set_option maxRecDepth 100000 in
theorem zjG (g : Gr) (f t : Int) (hl : g.edges.length * 24 ≤ 140737488355328) (hl2 : g.gone.length * 8 ≤ 140737488355328) : zai Tryz.prog zeW [eG g,.I f,.I t] [] (.tup [eG (zaU g f t).1,.I (zaU g f t).2]) []:=by
 refine zlK.acalls (nbz rfl) (nbz rfl) (Nat.le_refl _) ?_
 show awp _ 0 _ _ ⟨37,[(0,eG g),(1,.I f),(2,.I t)],[],16⟩
 refine zaa ⟨37,[(1,.I f),(2,.I t),(3,.pv (gC g)),(6,.pt 24 0 0)],[(24,some ⟨3,[[.I 0,.nilS,.nilS]],0⟩)],32⟩ rfl ?_ ?_
 ·simp
  exact Le.var1 24 [16] rfl rfl (nbz rfl) (by decide) rfl (by simp) (by simp) (by simp)
 refine zab ?_
 refine zab ?_
 refine zad (s:=?s1) rfl ?o1 ?q1
 case o1=>simp; refine zaj (zeZ g (by omega) (by omega)) rfl ?_; simp; rfl
 refine zac _ rfl (fun h2=>?_) fun h2=>?_
 ·have hg : ¬ GrOk g:=by
   intro hg
   simp [hg] at h2
  refine zab ?_
  refine zad (s:=?s3) rfl ?o3 ?q3
  case o3=>simp; rfl
  refine zag ?_
  refine ⟨.inr rfl,?_⟩
  show zak [(6,some (true,3)),(7,none)] 0 _ _ _
  refine zak.out (vs:=[.agg [.I 0,.nilS,.nilS],.I 14]) [] [] (by simp) (by simp) (by simp) ?_ (by simp)
  have hr : zaU g f t = (zbd,14):=by grind [zaU]
  simp [hr,zbd]
  exact wkT2 (wkA3 (.refl _) (.nil _ _) (.nil _ _)) (.refl _)
 have hg : GrOk g:=by
  rcases Classical.em (GrOk g) with h | h
  ·exact h
  ·simp [h] at h2
 have h500 : g.edges.length ≤ 500:=hg.1.2.2.1
 refine zae ?_
 refine zab ?_
 refine zad (s:=?s4) rfl ?o4 ?q4
 case o4=>simp; refine zaj (zgb g.edges ⟨f,t,0⟩ (Nat.le_trans hg.1.2.2.1 (by omega)) (hg.mono _)) rfl ?_; simp; rfl
 refine zab ?_
 refine zab ?_
 refine zad (s:=?s5) rfl ?o5 ?q5
 case o5=>simp; rfl
 refine zac _ rfl (fun h6=>?_) fun h6=>?_
 ·try simp at h6
  refine zab ?_
  refine zad (s:=?s7) rfl ?o7 ?q7
  case o7=>simp; rfl
  refine zag ?_
  refine ⟨.inr rfl,?_⟩
  show zak [(6,some (true,3)),(7,none)] 0 _ _ _
  refine zak.out (vs:=[.agg [.I 0,.nilS,.nilS],.I 19]) [] [] (by simp) (by simp) (by simp) ?_ (by simp)
  have hr : zaU g f t = (zbd,19):=by grind [zaU]
  simp [hr,zbd]
  exact wkT2 (wkA3 (.refl _) (.nil _ _) (.nil _ _)) (.refl _)
 try simp at h6
 refine zae ?_
 refine zaa ⟨37,[(6,.pt 24 0 0),(8,.I (idxE g.edges ⟨f,t,0⟩)),(10,.pt 176 0 0)],[(24,some ⟨3,[[.I 0,.nilS,.nilS]],0⟩),(176,some ⟨3,[[.I g.size,.rs 168 0 g.edges.length,.rs 169 0 g.gone.length]],0⟩),(168,some ⟨3,g.edges.map fun e : Ed=>[AV.I e.f,AV.I e.t,AV.I e.v],0⟩),(169,some ⟨1,g.gone.map fun n=>[AV.I n],0⟩)],192⟩ rfl ?_ ?_
 ·simp
  refine zi9 (zeo g hl hl2) rfl ?_
  simp [fcd]
  exact Le.keep rfl (Nat.le_refl _) (by simp) (by simp)
 have hr : zaU g f t = (zei g f t,0):=by grind [zaU]
 rw [hr]
 unfold zei
 have hlt : idxE g.edges ⟨f,t,0⟩ < g.edges.length:=h6.1
 have hk : ∃ k,k = idxE g.edges ⟨f,t,0⟩:=⟨_,rfl⟩
 obtain ⟨k,hk⟩:=hk
 rw [← hk] at hlt ⊢
 obtain ⟨k1,hk1⟩ : ∃ k1,k1 = k + 1:=⟨_,rfl⟩
 have hw : IntKind.i64.wrap ((k : Int) + 1) = (k1 : Int):=by rw [w64 (by omega) (by omega)]; omega
 obtain ⟨R,hR⟩ : ∃ R,R = g.edges.map fun e : Ed=>[AV.I e.f,AV.I e.t,AV.I e.v]:=⟨_,rfl⟩
 rw [← hR]
 have hRl : R.length = g.edges.length:=by simp [hR]
 have hRf : Flat R:=by rw [hR]; exact zvr _
 obtain ⟨E,hE⟩ : ∃ E,E = g.edges.take k ++ g.edges.drop k1:=⟨_,rfl⟩
 have hEl : E.length = g.edges.length - 1:=by subst hE; simp; omega
 have hrows : R.take k ++ R.drop k1 = E.map fun e : Ed=>[AV.I e.f,AV.I e.t,AV.I e.v]:=by subst hE hR; simp [List.map_take,List.map_drop]
 have hins:=zvd R g.edges.length k k1 hRl hlt hk1 hRf (by omega)
 rw [hrows,← hEl] at hins
 rw [← hk1,← hE]
 refine zaa ⟨37,[(6,.pt 24 0 0),(10,.pt 176 0 0)],[(24,some ⟨3,[[.I 0,.nilS,.nilS]],0⟩),(176,some ⟨3,[[.I g.size,.rs 168 0 E.length,.rs 169 0 g.gone.length]],0⟩),(168,some ⟨3,(E.map fun e : Ed=>[AV.I e.f,AV.I e.t,AV.I e.v]) ++ [[.I 0,.I 0,.I 0]],0⟩),(169,some ⟨1,g.gone.map fun n=>[AV.I n],0⟩)],256⟩ rfl ?_ ?_
 ·simp [hw]
  refine zbH (i:=168) rfl ?_ hins (by simp) ?_ ?_
  ·have:=hRf [(168,0)] []
   simp only [zax,this]
  ·simp
  simp [fcd]
  exact Le.keep rfl (Nat.le_refl _) (by simp) (by simp)
 refine zab ?_
 refine zad (s:=?s21) rfl ?o21 ?q21
 case o21=>simp; rfl
 refine zag ?_
 refine ⟨.inr rfl,?_⟩
 show zak [(6,some (true,3)),(7,none)] 0 _ _ _
 refine zak.out (vs:=[.agg [.I g.size,.rs 168 0 E.length,.rs 169 0 g.gone.length],.I 0]) [] [168,169] (by simp) (by simp) (by simp) ?_ (by simp)
 simp [fcd,zal]
theorem EqG.rfl' (a : Gr) : EqG a a:=⟨rfl,rfl,rfl⟩
abbrev zgE (l : List Int) : List Int:=l.mergeSort fun x y=>decide (x ≤ y)
theorem ziG (l : List Int) : (zgE l).length = l.length:=List.length_mergeSort ..
theorem zrB {l : List Int} {x : Int} : x ∈ zgE l ↔ x ∈ l:=List.mem_mergeSort
theorem GrOk.pair {g : Gr} (h : GrOk g) : g.edges.Pairwise Bef:=by
 rw [List.pairwise_iff_getElem]
 intro i j hi hj hij
 exact h.lt j i hi hj hij
theorem ziF {st st' : St} {i j : Nat} {sn : List Nat} {e e' : Ent} (hsz : st'.sz = st.sz) (hh : st'.h = [(j,some e')]) (hj : j < st'.n) (hs : ∀ k ∈ sn,k ≠ i) (he : st.hp i = some e) (hee : zax [(i,j)] sn st.hp 4 e = e') (hr : e'.ro ≤ e'.rows.length) (ht : ∀ p ∈ st'.t,Wk (conv [(i,j)] sn st.hp 4 (st.get p.1)) p.2) : Le 0 st st' :=
 Le.ents [(i,j)] sn hsz (by simp) (by simp) (by simpa using hj) (by simpa using hs) (Nat.zero_le _) ht (fun p hp=>by
  rw [hh] at hp
  simp at hp
  subst hp
  exact ⟨i,e,e',rfl,by simp,he,zaI.eq hee hr⟩)
theorem zh7 (f : FuncId) (capt : List AV) (q : Int → Bool) (l : List Int) (hl : l.length ≤ 1099511627776) (hs : zkD capt) (hc : ∀ e ∈ l,zai Tryz.prog f (AV.I e :: capt) [] (.B (q e)) []) : zai Tryz.prog zbc [ints l,.fn (.func f) [] capt] [] (.I (idxQ l q)) []:=by
 have hs2 : ∀ ρ sn h,capt.map (conv ρ sn h 2) = capt:=fun _ _ _=>hs _ _ _ 1
 have hs3 : ∀ ρ sn h,capt.map (conv ρ sn h 3) = capt:=fun _ _ _=>hs _ _ _ 2
 have hs4 : ∀ ρ sn h,capt.map (conv ρ sn h 4) = capt:=fun _ _ _=>hs _ _ _ 3
 refine zeC.acalls (nbz rfl) (nbz rfl) (Nat.le_refl _) ?_
 show awp _ 0 _ _ ⟨19,[(0,ints l),(1,.fn (.func f) [] capt)],[],16⟩
 refine zab ?_
 refine zad (s:=?s1) rfl ?o1 ?q1
 case o1=>simp; rfl
 refine zab ?_
 refine zab ?_
 refine zad (s:=?s2) rfl ?o2 ?q2
 case o2=>simp; rfl
 refine zaf ?_
 refine zao (ι:=Nat) (fun k=>⟨19,[(0,ints l),(1,.fn (.func f) [] capt),(7,.I l.length),(8,.I k)],[],16⟩) (fun k=>k ≤ l.length ∧ ∀ i,i < k → ∀ h : i < l.length,q l[i] = false) (fun k=>l.length - k) (0) ?_ (Le.snap [] rfl rfl (by simp [hs2,hs3,hs4])) ?_
 ·simp
 rintro k ⟨hk,hp⟩
 refine zab ?_
 refine zad (s:=?s3) rfl ?o3 ?q3
 case o3=>simp; rfl
 refine zab ?_
 refine zac _ rfl (fun h4=>?_) fun h4=>?_
 ·try simp at h4
  have hw2 : IntKind.i64.wrap ((k : Int) + 1) = (k : Int) + 1:=w64 (by omega) (by omega)
  have hck:=hc l[k] (List.getElem_mem h4)
  refine zae ?_
  refine zab ?_
  refine zaf ?_
  refine zab ?_
  refine zad (s:=?s5) rfl ?o5 ?q5
  case o5=>simp [h4,hw2]; rfl
  refine zab ?_
  refine zad (s:=?s6) rfl ?o6 ?q6
  case o6 =>
   simp [h4,hw2]
   refine zaj hck ?_ ?_
   ·simp [hs2,hs3,hs4]
   simp [h4,hw2]; rfl
  refine zac _ rfl (fun h7=>?_) fun h7=>?_
  ·try simp at h7
   refine zab ?_
   refine zad (s:=?s8) rfl ?o8 ?q8
   case o8=>simp [h4,hw2]; rfl
   refine zag ?_
   exact ⟨.inr rfl,zak.one (by simp [zpE h4 hp h7])⟩
  try simp at h7
  refine zae ?_
  refine zad (s:=?s9) rfl ?o9 ?q9
  case o9=>simp [h4,hw2]; rfl
  refine ⟨k + 1,⟨h4,fun i hi=>?_⟩,by omega,Le.snap [] rfl rfl (by simp [h4,hw2,hs2,hs3,hs4])⟩
  rcases Nat.lt_succ_iff_lt_or_eq.1 hi with h | rfl
  ·exact hp i h
  ·exact fun _=>h7
 try simp at h4
 have hall : ∀ i,i < l.length → ∀ h : i < l.length,q l[i] = false:=fun i hi=>hp i (by omega)
 refine zan ?_
 refine hit ?_
 refine zab ?_
 refine zad (s:=?s10) rfl ?o10 ?q10
 case o10=>simp; rfl
 refine zag ?_
 exact ⟨.inr rfl,zak.one (by simp [zqh hall])⟩
abbrev zah (l : List Int) : List (List AV):=l.map fun e=>[AV.I e]
theorem zg3 {l : List Int} {q : Int → Bool} (h : ∀ i,i < l.length → ∀ h : i < l.length,q l[i] = false) : l.filter (fun e=>!q e) = l:=by
 rw [List.filter_eq_self]
 intro x hx
 obtain ⟨i,hi,rfl⟩:=List.mem_iff_getElem.1 hx
 simp [h i hi hi]
theorem zff (l : List Int) (q : Int → Bool) (j : Nat) (h : j < l.length) : (l.take (j + 1)).filter (fun e=>!q e) = (l.take j).filter (fun e=>!q e) ++ if q l[j] = true then [] else [l[j]]:=by
 rw [← List.take_concat_get h,List.concat_eq_append,List.filter_append]
 congr 1
 cases hq : q l[j] <;> simp [hq]
set_option maxRecDepth 100000 in
theorem zg2 (f : FuncId) (capt : List AV) (q : Int → Bool) (l : List Int) (n m : Nat) (hn : l.length = n) (hm : (l.filter fun e=>!q e).length = m) (hl : n ≤ 1099511627776) (hs : zkD capt) (hc : ∀ e ∈ l,zai Tryz.prog f (AV.I e :: capt) [] (.B (q e)) []) :
  zai Tryz.prog za7 [.rs 0 0 n,.fn (.func f) [] capt] [⟨1,zah l,0⟩] (.rs 0 0 m) [some ⟨1,zah (l.filter fun e=>!q e) ++ List.replicate (n - m) [.I 0],0⟩]:=by
 have hs2 : ∀ ρ sn h,capt.map (conv ρ sn h 2) = capt:=fun _ _ _=>hs _ _ _ 1
 have hs3 : ∀ ρ sn h,capt.map (conv ρ sn h 3) = capt:=fun _ _ _=>hs _ _ _ 2
 have hs4 : ∀ ρ sn h,capt.map (conv ρ sn h 4) = capt:=fun _ _ _=>hs _ _ _ 3
 refine zem.acalls (nbz rfl) (nbz rfl) (nbz rfl) ?_
 show awp _ 1 _ _ ⟨42,[(0,.rs 0 0 n),(1,.fn (.func f) [] capt)],[(0,some ⟨1,zah l,0⟩)],16⟩
 have hmn : m ≤ n:=by rw [← hm,← hn]; exact List.length_filter_le _ _
 refine zaa ⟨42,[(0,.rs 0 0 n),(1,.fn (.func f) [] capt)],[(0,some ⟨1,zah l,0⟩)],24⟩ rfl ?_ ?_
 ·simp
  exact Le.keep rfl (Nat.le_refl _) (by simp) (by simp)
 refine zaa ⟨42,[(0,.rs 0 0 n),(1,.fn (.func f) [] capt),(5,.I (idxQ l q))],[(0,some ⟨1,zah l,0⟩)],56⟩ rfl ?_ ?_
 ·simp
  refine zle [0] (zh7 f capt q l (by omega) hs hc) ?_ (.sc _) ?_
  ·simp [hs2,hs3,hs4,← hn,fcd,zal]
  simp
  exact Le.keep rfl (Nat.le_refl _) (by simp) (by simp)
 refine zab ?_
 refine zaa ⟨42,[(0,.rs 0 0 n),(1,.fn (.func f) [] capt),(5,.I (idxQ l q)),(12,.B (decide (idxQ l q = -1)))],[(0,some ⟨1,zah l,0⟩)],72⟩ rfl ?_ ?_
 ·simp
  exact Le.keep rfl (Nat.le_refl _) (by simp <;> rw [Bool.eq_iff_iff] <;> simp) (by simp)
 refine zac _ rfl (fun h=>?_) fun h=>zae ?_
 ·simp only [decide_eq_true_eq] at h
  have hno : ∀ i,i < l.length → ∀ h : i < l.length,q l[i] = false:=by
   intro i hi _
   unfold idxQ at h
   split at h
   ·omega
   ·rename_i hnl
    have : l.findIdx q = l.length:=by have:=List.findIdx_le_length (xs:=l) (p:=q); omega
    rw [List.findIdx_eq_length] at this
    exact this _ (List.getElem_mem hi)
  have hf:=zg3 hno
  rw [hf] at hm ⊢
  obtain rfl : n = m:=by omega
  refine zab ?_
  refine zad (s:=?s1) rfl ?o1 ?q1
  case o1=>simp; rfl
  refine zag ?_
  refine ⟨.inr rfl,⟨[.rs 0 0 n],rfl,[],[],by simp [List.range,List.range.loop],by simp,by simp,?_,?_⟩⟩
  ·simp [List.range,List.range.loop]
  ·simp [List.range,List.range.loop,fcd]
 simp only [decide_eq_false_iff_not] at h
 obtain ⟨i0,hi0,hlt,hbef,hat⟩ : ∃ i0 : Nat,idxQ l q = i0 ∧ i0 < l.length ∧ (∀ i,i < i0 → ∀ h : i < l.length,q l[i] = false) ∧ ∀ h : i0 < l.length,q l[i0] = true:=by
  unfold idxQ at h ⊢
  split at h
  ·rename_i hlt
   refine ⟨l.findIdx q,by rw [if_pos hlt],hlt,fun i hi _=>?_,fun h=>List.findIdx_getElem (w:=h)⟩
   simpa using List.not_of_lt_findIdx hi
  ·omega
 rw [hi0]
 have hA0 : (l.take (i0 + 1)).filter (fun e=>!q e) = l.take i0:=by
  rw [zff l q i0 hlt,if_pos (hat hlt),List.append_nil]
  refine zg3 fun i hi h=>?_
  rw [List.length_take] at hi
  simp only [List.getElem_take]
  exact hbef i (by omega) (by omega)
 have hw0 : IntKind.i64.wrap ((i0 : Int) + 1) = ((i0 + 1 : Nat) : Int):=by rw [w64 (by omega) (by omega)]; omega
 let C : Nat × List Int → St:=fun p=>⟨42,[(0,.rs 0 0 n),(1,.fn (.func f) [] capt),(5,.I ((l.take p.1).filter fun e=>!q e).length),(6,.I p.1)],[(0,some ⟨1,zah ((l.take p.1).filter (fun e=>!q e) ++ p.2 ++ l.drop p.1),0⟩)],96⟩
 refine zab ?_
 refine zaa (C (i0 + 1,[l[i0]])) rfl ?_ ?_
 ·simp [hw0]
  refine Le.keep rfl (Nat.le_refl _) ?_ ?_
  ·simp only [C,hA0]
   simp
   omega
  ·simp only [C,hA0]
   simp
 refine zaf ?_
 refine zao C (fun p : Nat × List Int=>p.1 ≤ n ∧ p.2 ≠ [] ∧ ((l.take p.1).filter fun e=>!q e).length + p.2.length = p.1) (fun p : Nat × List Int=>n - p.1) (i0 + 1,[l[i0]]) ?_ (Le.refl _ _) ?_
 ·simp only [hA0]
  simp
  omega
 rintro ⟨j,M⟩ ⟨hj,hM,hlen⟩
 simp only at hj hM hlen ⊢
 obtain ⟨A,hA⟩ : ∃ A,A = (l.take j).filter fun e=>!q e:=⟨_,rfl⟩
 rw [← hA] at hlen
 have hC : C (j,M) = ⟨42,[(0,.rs 0 0 n),(1,.fn (.func f) [] capt),(5,.I A.length),(6,.I j)],[(0,some ⟨1,zah (A ++ M ++ l.drop j),0⟩)],96⟩:=by subst hA; rfl
 rw [hC]
 refine zab ?_
 refine zaa ⟨42,[(0,.rs 0 0 n),(1,.fn (.func f) [] capt),(5,.I A.length),(6,.I j),(19,.B (decide (j < n)))],[(0,some ⟨1,zah (A ++ M ++ l.drop j),0⟩)],128⟩ rfl ?_ ?_
 ·simp
  exact Le.keep rfl (Nat.le_refl _) (by simp) (by simp)
 refine zac _ rfl (fun h=>zae ?_) fun h=>zan (hit ?_)
 ·simp only [decide_eq_true_eq] at h
  have hjl : j < l.length:=by omega
  match M,hM,hlen with
  | m0 :: M1,_,hlen =>
  simp only [List.length_cons] at hlen
  have hnext:=zff l q j hjl
  rw [← hA] at hnext
  have hget : (zah (A ++ m0 :: M1 ++ l.drop j))[j]? = some [AV.I l[j]]:=by
   rw [List.getElem?_map,List.getElem?_append_right (by simp; omega),List.getElem?_drop,show j + (j - (A ++ m0 :: M1).length) = j by simp; omega,List.getElem?_eq_getElem hjl]
   rfl
  have hget2 : (zah (A ++ m0 :: M1 ++ l.drop j))[A.length]? = some [AV.I m0]:=by
   rw [List.getElem?_map,List.append_assoc,List.getElem?_append_right (by omega)]
   simp
  have hset : (zah (A ++ m0 :: M1 ++ l.drop j)).set A.length [AV.I l[j]] = zah ((A ++ [l[j]]) ++ (M1 ++ [l[j]]) ++ l.drop (j + 1)):=by
   have e1 : l.drop j = l[j] :: l.drop (j + 1):=List.drop_eq_getElem_cons hjl
   rw [e1]
   simp [zah,List.set_append]
  have hmore : A ++ m0 :: M1 ++ l.drop j = A ++ (m0 :: M1 ++ [l[j]]) ++ l.drop (j + 1):=by
   have e1 : l.drop j = l[j] :: l.drop (j + 1):=List.drop_eq_getElem_cons hjl
   rw [e1]
   simp
  generalize hrows : zah (A ++ m0 :: M1 ++ l.drop j) = R at *
  have hRl : R.length = n:=by rw [← hrows]; simp; omega
  have hck:=hc l[j] (List.getElem_mem hjl)
  generalize hv : l[j] = v at *
  refine zaL (ι:=List Int × List Int) (fun p=>⟨42,[(0,.rs 0 0 n),(1,.fn (.func f) [] capt),(5,.I p.1.length),(6,.I j)],[(0,some ⟨1,zah (p.1 ++ p.2 ++ l.drop (j + 1)),0⟩)],272⟩)
   (fun p=>p.1 = (l.take (j + 1)).filter (fun e=>!q e) ∧ p.2 ≠ [] ∧ p.1.length + p.2.length = j + 1) ?_ ?_
  ·refine zaf ?_
   refine zaa ⟨42,[(0,.rs 0 0 n),(1,.fn (.func f) [] capt),(5,.I A.length),(6,.I j),(7,.I v)],[(0,some ⟨1,R,0⟩)],168⟩ rfl ?_ ?_
   ·simp [h,hget]
    exact Le.keep rfl (Nat.le_refl _) (by simp) (by simp)
   refine zaa ⟨42,[(0,.rs 0 0 n),(1,.fn (.func f) [] capt),(5,.I A.length),(6,.I j),(7,.I v),(29,.B (!q v))],[(0,some ⟨1,R,0⟩)],200⟩ rfl ?_ ?_
   ·simp
    refine zaj hck ?_ ?_
    ·simp [hs2,hs3,hs4]
    simp
    exact Le.keep rfl (Nat.le_refl _) (by simp) (by simp)
   refine zac _ rfl (fun h5=>?_) fun h5=>zae ?_
   ·simp only [Bool.not_eq_true'] at h5
    rw [h5] at hnext
    refine zaa ⟨42,[(0,.rs 0 0 n),(1,.fn (.func f) [] capt),(5,.I A.length),(6,.I j)],[(0,some ⟨1,zah ((A ++ [v]) ++ (M1 ++ [v]) ++ l.drop (j + 1)),0⟩)],240⟩ rfl ?_ ?_
    ·simp [hget2,show A.length < n by omega,zar,hset]
     exact Le.keep rfl (Nat.le_refl _) (by simp) (by simp)
    have hwA : IntKind.i64.wrap ((A.length : Int) + 1) = ((A.length + 1 : Nat) : Int):=by rw [w64 (by omega) (by omega)]; omega
    refine zas rfl ?_
    simp [hwA]
    refine ⟨A ++ [v],M1 ++ [v],⟨by rw [hnext]; simp,by simp,by simp; omega⟩,Le.keep rfl (nbz rfl) (by simp) (by simp)⟩
   ·simp only [Bool.not_eq_false'] at h5
    rw [h5] at hnext
    refine ⟨(A,m0 :: M1 ++ [v]),⟨by rw [hnext]; simp,by simp,by simp; omega⟩,Le.keep rfl (nbz rfl) (by simp) ?_⟩
    rw [← hmore,hrows]
    simp
  rintro ⟨A',M'⟩ ⟨p1,p2,p3⟩
  simp only at p1 p2 p3 ⊢
  have hwj : IntKind.i64.wrap ((j : Int) + 1) = ((j + 1 : Nat) : Int):=by rw [w64 (by omega) (by omega)]; omega
  refine zas rfl ?_
  simp [hwj]
  refine ⟨j + 1,M',⟨by omega,p2,by rw [← p1]; omega⟩,by omega,?_⟩
  have hD : C (j + 1,M') = ⟨42,[(0,.rs 0 0 n),(1,.fn (.func f) [] capt),(5,.I A'.length),(6,.I ((j + 1 : Nat) : Int))],[(0,some ⟨1,zah (A' ++ M' ++ l.drop (j + 1)),0⟩)],96⟩:=by rw [p1]
  rw [hD]
  refine Le.ents [(0,0)] [] rfl (by simp) (by simp) (by simp) (by simp) (by simp) (by simp [hs2,hs3,hs4]) fun p hp=>?_
  simp at hp
  subst hp
  exact ⟨0,_,_,rfl,by simp,rfl,zaI.eq (by simp [fcd]) (by simp)⟩
 simp only [decide_eq_false_iff_not] at h
 obtain rfl : j = n:=by omega
 have hd : l.drop j = []:=List.drop_eq_nil_of_le (by omega)
 have ht : l.take j = l:=List.take_of_length_le (by omega)
 rw [ht] at hA
 rw [hd,List.append_nil]
 rw [← hA] at hm ⊢
 subst hm
 have hAM : (zah (A ++ M)).take A.length = zah A:=by simp [zah]
 have hAd : (zah (A ++ M)).drop (A.length + (j - A.length)) = []:=List.drop_eq_nil_of_le (by simp; omega)
 have hAl : (zah (A ++ M)).length = j:=by simp; omega
 generalize zah (A ++ M) = R at *
 refine zaa ⟨42,[(0,.rs 0 0 j),(5,.I A.length)],[(0,some ⟨1,zah A ++ List.replicate (j - A.length) [.I 0],0⟩)],160⟩ rfl ?_ ?_
 ·simp
  refine ⟨by omega,by omega,?_⟩
  rw [hAM,hAd]
  exact Le.keep rfl (Nat.le_refl _) (by simp) (by simp)
 refine zab ?_
 refine zad (s:=?s2) rfl ?o2 ?q2
 case o2 =>
  simp
  refine ⟨by omega,?_⟩
  rfl
 refine zag ?_
 refine ⟨.inr rfl,⟨[.rs 0 0 A.length],rfl,[],[],by simp [List.range,List.range.loop],by simp,by simp,?_,?_⟩⟩
 ·simp [List.range,List.range.loop]
 ·simp [List.range,List.range.loop,fcd]
theorem zjy (f : FuncId) (capt : List AV) (q : Int → Bool) (l : List Int) (hl : l.length ≤ 1099511627776) (hs : zkD capt) (hc : ∀ e ∈ l,zai Tryz.prog f (AV.I e :: capt) [] (.B (q e)) []) : zai Tryz.prog zbl [ints l,.fn (.func f) [] capt] [] (.B (l.any q)) []:=by
 have hs2 : ∀ ρ sn h,capt.map (conv ρ sn h 2) = capt:=fun _ _ _=>hs _ _ _ 1
 have hs3 : ∀ ρ sn h,capt.map (conv ρ sn h 3) = capt:=fun _ _ _=>hs _ _ _ 2
 have hs4 : ∀ ρ sn h,capt.map (conv ρ sn h 4) = capt:=fun _ _ _=>hs _ _ _ 3
 refine zdU.acalls (nbz rfl) (nbz rfl) (Nat.le_refl _) ?_
 show awp _ 0 _ _ ⟨9,[(0,ints l),(1,.fn (.func f) [] capt)],[],16⟩
 refine zab ?_
 refine zad (s:=?s1) rfl ?o1 ?q1
 case o1=>simp; rfl
 have hi : decide (0 ≤ idxQ l q) = l.any q:=by
  unfold idxQ
  by_cases h : l.findIdx q < l.length
  ·rw [if_pos h]
   have:=List.findIdx_getElem (w:=h)
   have h2 : l.any q = true:=List.any_eq_true.2 ⟨_,List.getElem_mem h,this⟩
   rw [h2]
   simp
  ·rw [if_neg h]
   have : l.findIdx q = l.length:=by have:=List.findIdx_le_length (xs:=l) (p:=q); omega
   rw [List.findIdx_eq_length] at this
   have h2 : l.any q = false:=by
    rw [List.any_eq_false]
    intro x hx
    simp [this x hx]
   rw [h2]
   simp
 refine zaa ⟨9,[(4,.B (l.any q))],[],16⟩ rfl ?_ ?_
 ·simp
  refine zaj (zh7 f capt q l hl hs hc) ?_ ?_
  ·simp [hs2,hs3,hs4]
  simp
  exact Le.snap [] rfl rfl (by simp; exact wkB hi)
 refine zag ?_
 exact ⟨.inr rfl,zak.one (by simp)⟩
def zbi (n : Nat) (q : Int → Bool) : List Int:=((List.range n).map fun (i : Nat)=>(i : Int)).filter q
theorem zk9 (n : Nat) (q : Int → Bool) : zbi (n + 1) q = zbi n q ++ if q n = true then [(n : Int)] else []:=by
 unfold zbi
 rw [List.range_succ,List.map_append,List.filter_append]
 congr 1
 cases hq : q n <;> simp [hq]
theorem zgx (n : Nat) (q : Int → Bool) : (zbi n q).length ≤ n:=by
 unfold zbi
 have:=List.length_filter_le q ((List.range n).map fun (i : Nat)=>(i : Int))
 simpa using this
set_option maxRecDepth 100000 in
theorem zq8 (f : FuncId) (capt : List AV) (q : Int → Bool) (N : Int) (hN : N ≤ 1000000) (hs : zkD capt) (hc : ∀ k : Nat,(k : Int) < N → zai Tryz.prog f (AV.I k :: capt) [] (.B (q k)) []) :
  zai Tryz.prog zb8 [.I N,.fn (.func f) [] capt] [] (.rs 0 0 (zbi N.toNat q).length) [some ⟨1,zah (zbi N.toNat q),0⟩]:=by
 have hs2 : ∀ ρ sn h,capt.map (conv ρ sn h 2) = capt:=fun _ _ _=>hs _ _ _ 1
 have hs3 : ∀ ρ sn h,capt.map (conv ρ sn h 3) = capt:=fun _ _ _=>hs _ _ _ 2
 have hs4 : ∀ ρ sn h,capt.map (conv ρ sn h 4) = capt:=fun _ _ _=>hs _ _ _ 3
 refine zjd.acalls (nbz rfl) (nbz rfl) (Nat.zero_le _) ?_
 show awp _ 0 _ _ ⟨20,[(0,.I N),(1,.fn (.func f) [] capt)],[],16⟩
 refine zab ?_
 refine zad (s:=?s0) rfl ?o0 ?q0
 case o0=>simp; rfl
 refine zab ?_
 refine zad (s:=?s1) rfl ?o1 ?q1
 case o1=>simp; rfl
 refine zab ?_
 refine zab ?_
 refine zad (s:=?s2) rfl ?o2 ?q2
 case o2=>simp; rfl
 refine zaf ?_
 let C : Nat → St:=fun k=>⟨20,[(1,.fn (.func f) [] capt),(5,.rs 16 0 (zbi k q).length),(7,.I N),(8,.I k)],[(16,some ⟨1,zah (zbi k q),0⟩)],24⟩
 refine zao C (fun k=>k ≤ N.toNat) (fun k=>N.toNat - k) 0 (Nat.zero_le _) (Le.lst [] [] [(16,1)] rfl (by simp) (by simp) (by simp) (by simp [C]) (by simp) (by simp) (by simp) (by simp [C,Up,zbi,hs2,hs3,hs4]) (by simp [C,zbi])) ?_
 intro k hk
 have hwl:=zgx k q
 have hCk : C k = ⟨20,[(1,.fn (.func f) [] capt),(5,.rs 16 0 (zbi k q).length),(7,.I N),(8,.I k)],[(16,some ⟨1,zah (zbi k q),0⟩)],24⟩:=rfl
 rw [hCk]
 refine zaa ⟨20,[(1,.fn (.func f) [] capt),(5,.rs 16 0 (zbi k q).length),(7,.I N),(8,.I k),(9,.B (decide ((k : Int) < N)))],[(16,some ⟨1,zah (zbi k q),0⟩)],32⟩ rfl ?_ ?_
 ·simp
  exact Le.keep rfl (Nat.le_refl _) (by simp) (by simp)
 refine zab ?_
 refine zac _ rfl (fun h=>zae ?_) fun h=>zan (hit ?_)
 ·simp only [decide_eq_true_eq] at h
  have hck:=hc k h
  have hnext:=zk9 k q
  have hw2 : IntKind.i64.wrap ((k : Int) + 1) = ((k + 1 : Nat) : Int):=by rw [w64 (by omega) (by omega)]; omega
  refine zaL (ι:=Unit) (fun _=>⟨20,[(1,.fn (.func f) [] capt),(5,.rs 16 0 (zbi (k + 1) q).length),(7,.I N),(8,.I k)],[(16,some ⟨1,zah (zbi (k + 1) q),0⟩)],24⟩) (fun _=>True) ?_ fun _ _=>?_
  ·rw [hnext]
   generalize zbi k q = W at *
   refine zaf ?_
   refine zab ?_
   refine zad (s:=?s3) rfl ?o3 ?q3
   case o3=>simp; rfl
   refine zaa ⟨20,[(1,.fn (.func f) [] capt),(5,.rs 16 0 W.length),(6,.I k),(7,.I N),(8,.I k),(13,.B (q k))],[(16,some ⟨1,zah W,0⟩)],72⟩ rfl ?_ ?_
   ·simp
    refine zaj hck ?_ ?_
    ·simp [hs2,hs3,hs4]
    simp
    exact Le.keep rfl (Nat.le_refl _) (by simp) (by simp)
   refine zac _ rfl (fun h5=>?_) fun h5=>zae ?_
   ·rw [if_pos h5]
    refine zas rfl ?_
    simp [List.replicate]
    refine ⟨by omega,by omega,ziF (i:=96) (sn:=[]) rfl rfl (by simp) (by simp) rfl (by simp [fcd,zal]) (by simp) (by simp [hs2,hs3,hs4])⟩
   ·rw [if_neg (by simp [h5]),List.append_nil]
    exact ⟨(),trivial,ziF (i:=16) (sn:=[]) rfl rfl (by simp) (by simp) rfl (by simp [fcd]) (by simp) (by simp [hs2,hs3,hs4])⟩
  refine zas rfl ?_
  simp [hw2]
  exact ⟨k + 1,by omega,by omega,ziF (i:=16) (sn:=[]) rfl rfl (by simp [C]) (by simp) rfl (by simp [fcd]) (by simp) (by simp [C,hs2,hs3,hs4])⟩
 simp only [decide_eq_false_iff_not] at h
 obtain rfl : k = N.toNat:=by omega
 generalize zbi N.toNat q = W at *
 refine zab ?_
 refine zad (s:=?s9) rfl ?o9 ?q9
 case o9=>simp; rfl
 refine zag ?_
 exact ⟨.inr rfl,zak.out [16] [] rfl (by simp) (by simp) (by simp) (by simp [fcd])⟩
theorem wu64 {x : Int} (h1 : 0 ≤ x) (h2 : x < 18446744073709551616) : IntKind.u64.wrap x = x:=by rw [IntKind.wrap_u64]; omega
theorem zvo (n : Nat) (h : n < 4294967296) : binV .and (.int .u64 (n : Int)) (.int .u64 4294967295) = some (.int .u64 (n : Int)):=by
 have e : (BitVec.ofInt 64 (n : Int) &&& BitVec.ofInt 64 4294967295).toNat = n:=by
  have h1 : (BitVec.ofInt 64 (n : Int)).toNat = n:=by
   rw [BitVec.toNat_ofInt]
   omega
  have h2 : (BitVec.ofInt 64 (4294967295 : Int)).toNat = 2 ^ 32 - 1:=rfl
  rw [BitVec.toNat_and,h1,h2,Nat.and_two_pow_sub_one_eq_mod]
  omega
 show some (Value.int .u64 (IntKind.u64.wrap ((BitVec.ofInt 64 (n : Int) &&& BitVec.ofInt 64 4294967295).toNat : Int))) = _
 rw [e,wu64 (by omega) (by omega)]
theorem zvc (n : Nat) (h : n < 4294967296) : binV .shr (.int .u64 (n : Int)) (.int .u64 32) = some (.int .u64 0):=by
 show (if (0 : Int) ≤ 32 then some (Value.int .u64 ((n : Int).fdiv (2 ^ (min (32 : Int).toNat 64)))) else none) = _
 rw [if_pos (by omega)]
 congr 2
 have : (2 : Int) ^ (min (32 : Int).toNat 64) = 4294967296:=rfl
 rw [this,Int.fdiv_eq_ediv_of_nonneg _ (by omega)]
 omega
abbrev U (n : Int) : AV:=.sc (.int .u64 n)
theorem zux (n : Nat) (h : n < 4294967296) : zai Tryz.prog zdW [U 1,U n] [] (.tup [U 0,U n]) []:=by
 refine zjK.acalls (nbz rfl) (nbz rfl) (Nat.le_refl _) ?_
 show awp _ 0 _ _ ⟨51,[(0,U 1),(1,U n)],[],16⟩
 have a1 : binV .and (.int .u64 1) (.int .u64 4294967295) = some (.int .u64 1):=zvo 1 (by omega)
 have a0 : binV .and (.int .u64 0) (.int .u64 4294967295) = some (.int .u64 0):=zvo 0 (by omega)
 have an:=zvo n h
 have s1 : binV .shr (.int .u64 1) (.int .u64 32) = some (.int .u64 0):=zvc 1 (by omega)
 have s0 : binV .shr (.int .u64 0) (.int .u64 32) = some (.int .u64 0):=zvc 0 (by omega)
 have sn:=zvc n h
 have m1 : ∀ a : Int,binV .mul (.int .u64 0) (.int .u64 a) = some (.int .u64 0):=fun a=>by
  show some (Value.int .u64 (IntKind.u64.wrap (0 * a))) = _
  rw [Int.zero_mul]
  rfl
 have m2 : binV .mul (.int .u64 1) (.int .u64 (n : Int)) = some (.int .u64 (n : Int)):=by
  show some (Value.int .u64 (IntKind.u64.wrap (1 * (n : Int)))) = _
  rw [Int.one_mul,wu64 (by omega) (by omega)]
 have m3 : binV .mul (.int .u64 1) (.int .u64 0) = some (.int .u64 0):=rfl
 have d0 : binV .add (.int .u64 0) (.int .u64 0) = some (.int .u64 0):=rfl
 refine zab ?_
 refine zad (s:=?z1) rfl ?p1 ?r1
 case p1=>simp; rfl
 refine zab ?_
 refine zad (s:=?z2) rfl ?p2 ?r2
 case p2=>simp [-binV,a1]; rfl
 refine zab ?_
 refine zad (s:=?z3) rfl ?p3 ?r3
 case p3=>simp [-binV,s1]; rfl
 refine zab ?_
 refine zad (s:=?z4) rfl ?p4 ?r4
 case p4=>simp [-binV,an]; rfl
 refine zab ?_
 refine zad (s:=?z5) rfl ?p5 ?r5
 case p5=>simp [-binV,sn]; rfl
 refine zab ?_
 refine zad (s:=?z6) rfl ?p6 ?r6
 case p6=>simp [-binV,m2]; rfl
 refine zab ?_
 refine zad (s:=?z7) rfl ?p7 ?r7
 case p7=>simp [-binV,m1,sn,d0]; rfl
 refine zab ?_
 refine zad (s:=?z8) rfl ?p8 ?r8
 case p8=>simp [-binV,a0]; rfl
 refine zab ?_
 refine zad (s:=?z9) rfl ?p9 ?r9
 case p9=>simp [-binV,s0]; rfl
 refine zab ?_
 refine zad (s:=?z10) rfl ?p10 ?r10
 case p10=>simp [-binV,m3,d0]; rfl
 refine zab ?_
 refine zad (s:=?z11) rfl ?p11 ?r11
 case p11=>simp [-binV,m1,d0,s0]; rfl
 refine zab ?_
 refine zad (s:=?z12) rfl ?p12 ?r12
 case p12=>simp [-binV,m2]; rfl
 refine zag ?_
 exact ⟨.inr rfl,zak.out [] [] rfl (by simp) (by simp) (by simp) (by simp)⟩
theorem zwO (n : Nat) (h : n < 4294967296) : zai Tryz.prog ze6 [U 1,U n] [] (.tup [U 0,U n]) []:=by
 refine zlP.acalls (nbz rfl) (nbz rfl) (Nat.le_refl _) ?_
 show awp _ 0 _ _ ⟨30,[(0,U 1),(1,U n)],[],16⟩
 refine zab ?_
 refine zad (s:=?z1) rfl ?p1 ?r1
 case p1=>simp; rfl
 refine zab ?_
 refine zac _ rfl (fun h=>by cases h) fun _=>zae ?_
 refine zab ?_
 refine zad (s:=?z2) rfl ?p2 ?r2
 case p2=>simp; refine zaj (zux n h) rfl ?_; simp; rfl
 refine zab ?_
 refine zad (s:=?z3) rfl ?p3 ?r3
 case p3=>simp; rfl
 refine zag ?_
 exact ⟨.inr rfl,zak.out [] [] rfl (by simp) (by simp) (by simp) (by simp)⟩
set_option maxRecDepth 100000 in
theorem ztC (v : Int) (n : Nat) (hn : n ≤ 1000000) : zai Tryz.prog zbX [ints [v],.I n] [] (.rs 0 0 n) [some ⟨1,List.replicate n [AV.I v],0⟩]:=by
 refine zfB.acalls (nbz rfl) (nbz rfl) (Nat.zero_le _) ?_
 show awp _ 0 _ _ ⟨48,[(0,ints [v]),(1,.I n)],[],16⟩
 have hu1 : IntKind.u64.wrap 1 = 1:=rfl
 have hun : IntKind.u64.wrap (n : Int) = n:=wu64 (by omega) (by omega)
 have hin : IntKind.i64.wrap (n : Int) = n:=w64 (by omega) (by omega)
 refine zab ?_
 refine zad (s:=?z1) rfl ?p1 ?r1
 case p1=>simp; rfl
 refine zab ?_
 refine zaa ⟨48,[(0,ints [v]),(1,.I n),(10,.B false)],[],40⟩ rfl ?_ ?_
 ·simp
  exact Le.keep rfl (Nat.le_refl _) (by simp) (by simp)
 refine zac _ rfl (fun h=>by cases h) fun _=>zae ?_
 refine zaa ⟨48,[(0,ints [v]),(1,.I n),(5,U 0),(6,U n)],[],128⟩ rfl ?_ ?_
 ·simp [hu1,hun]
  refine zaj (zwO n (by omega)) rfl ?_
  simp
  exact Le.keep rfl (Nat.le_refl _) (by simp) (by simp)
 refine zab ?_
 refine zaa ⟨48,[(0,ints [v]),(1,.I n),(5,U 0),(6,U n),(26,.B false)],[],176⟩ rfl ?_ ?_
 ·simp
  exact Le.keep rfl (Nat.le_refl _) (by simp; omega) (by simp)
 refine zac _ rfl (fun h=>by cases h) fun _=>zae ?_
 refine zaa ⟨48,[(0,ints [v]),(7,.rs 192 0 n)],[(192,some ⟨1,List.replicate n [.I 0],0⟩)],208⟩ rfl ?_ ?_
 ·simp [hin]
  exact ⟨by omega,by omega,Le.keep rfl (Nat.le_refl _) (by simp) (by simp)⟩
 let R : Nat → List (List AV):=fun m=>List.replicate m [AV.I v] ++ List.replicate (n - m) [AV.I 0]
 have hRl : ∀ m,m ≤ n → (R m).length = n:=fun m hm=>by simp [R]; omega
 refine zaa ⟨48,[(7,.rs 192 0 n),(8,.I (min 1 n : Nat))],[(192,some ⟨1,R (min 1 n),0⟩)],240⟩ rfl ?_ ?_
 ·simp
  refine Le.keep rfl (Nat.le_refl _) (by simp) ?_
  cases n with
  | zero=>simp [R]
  | succ n=>simp [R,List.replicate]
 refine zab ?_
 refine zaf ?_
 refine zao (ι:=Nat) (fun m=>⟨48,[(7,.rs 192 0 n),(8,.I m)],[(192,some ⟨1,R m,0⟩)],240⟩) (fun m=>m ≤ n ∧ (m = 0 → n = 0)) (fun m=>n - m) (min 1 n) ⟨by omega,by omega⟩ (Le.refl _ _) ?_
 rintro m ⟨hm,hm0⟩
 refine zab ?_
 refine zaa ⟨48,[(7,.rs 192 0 n),(8,.I m),(37,.B (decide (m < n)))],[(192,some ⟨1,R m,0⟩)],272⟩ rfl ?_ ?_
 ·simp
  exact Le.keep rfl (Nat.le_refl _) (by simp) (by simp)
 refine zac _ rfl (fun h=>zae ?_) fun h=>zan (hit ?_)
 ·simp only [decide_eq_true_eq] at h
  obtain ⟨k,hk⟩ : ∃ k,k = min m (n - m):=⟨_,rfl⟩
  have hw : IntKind.i64.wrap ((m : Int) + (k : Int)) = ((m + k : Nat) : Int):=by rw [w64 (by omega) (by omega)]; omega
  have ht : (R m).take m = List.replicate m [AV.I v]:=by simp [R]
  have hd : (R m).drop (m + k) = List.replicate (n - (m + k)) [AV.I 0]:=by
   simp only [R]
   rw [List.drop_append,List.drop_eq_nil_of_le (by simp),List.nil_append,List.drop_replicate]
   simp
   omega
  have hl:=hRl m hm
  have hnew : List.replicate m [AV.I v] ++ (List.replicate k [AV.I v] ++ List.replicate (n - (m + k)) [AV.I 0]) = R (m + k):=by
   simp only [R]
   rw [← List.append_assoc,List.replicate_append_replicate]
  refine zaf ?_
  refine zbF rfl ?_
  generalize R m = X at *
  simp [hl,ht]
  refine ⟨by omega,by omega,_,⟨by omega,rfl⟩,rfl,m + k,⟨by omega,by omega⟩,by omega,?_⟩
  have e1 : min (List.replicate m (([AV.I v] : List AV))).length (n - m) = k:=by simp [hk]
  rw [e1,hw,hd,List.take_replicate,show min k m = k by omega,hnew]
  exact ziF (i:=192) (sn:=[]) rfl rfl (by simp) (by simp) rfl (by simp [R]) (by simp) (by simp)
 obtain rfl : m = n:=by simp at h; omega
 refine zab ?_
 refine zad (s:=?z9) rfl ?p9 ?r9
 case p9=>simp; rfl
 refine zag ?_
 exact ⟨.inr rfl,zak.out [192] [] rfl (by simp) (by simp) (by simp) (by simp [R])⟩
def zfQ (g : Gr) (S : List Int) (k : Int) : Bool:=S.contains k && !g.gone.contains k
def dl (g : Gr) (S : List Int) : Nat → Int → Int
 | 0,k=>if zfQ g S k = true then 0 else -1
 | n + 1,k=>if 0 ≤ dl g S n k then dl g S n k else if g.edges.any (fun e=>decide (e.t = k) && decide (dl g S n e.f = n)) = true then (n : Int) + 1 else -1
def Key (g : Gr) (k : Int) : Prop:=0 ≤ k ∧ k < g.size
variable {g : Gr} {S : List Int}
theorem zbL (n : Nat) (k : Int) : -1 ≤ dl g S n k ∧ dl g S n k ≤ n:=by
 induction n with
 | zero=>unfold dl; split <;> omega
 | succ n ih=>unfold dl; split <;> (try split) <;> omega
theorem zgg {n : Nat} {k : Int} (h : 0 ≤ dl g S n k) : dl g S (n + 1) k = dl g S n k:=by
 rw [dl,if_pos h]
theorem zvg {n m : Nat} {k : Int} (hnm : n ≤ m) (h : 0 ≤ dl g S n k) : dl g S m k = dl g S n k:=by
 induction m with
 | zero=>obtain rfl : n = 0:=by omega
         rfl
 | succ m ih =>
   rcases Nat.lt_or_ge n (m + 1) with h1 | h1
   ·have:=ih (by omega)
    rw [zgg (by omega),this]
   ·obtain rfl : n = m + 1:=by omega
    rfl
theorem zoU {n : Nat} {k : Int} (h : 0 ≤ dl g S (n + 1) k) (h2 : ¬ 0 ≤ dl g S n k) : dl g S (n + 1) k = n + 1 ∧ ∃ e ∈ g.edges,e.t = k ∧ dl g S n e.f = n:=by
 rw [dl,if_neg h2] at h ⊢
 split at h
 ·rename_i ha
  rw [if_pos ha]
  rw [List.any_eq_true] at ha
  obtain ⟨e,he,ha⟩:=ha
  simp at ha
  exact ⟨rfl,e,he,ha.1,ha.2⟩
 ·omega
theorem zxs {n : Nat} {k : Int} (h : 0 ≤ dl g S n k) : dl g S (dl g S n k).toNat k = dl g S n k:=by
 induction n with
 | zero =>
   have:=zbL (g:=g) (S:=S) 0 k
   have e : dl g S 0 k = 0:=by omega
   rw [e]; exact e
 | succ n ih =>
   by_cases h2 : 0 ≤ dl g S n k
   ·rw [zgg h2]; exact ih h2
   ·obtain ⟨e,_⟩:=zoU h h2
    rw [e]
    have : ((n : Int) + 1).toNat = n + 1:=by omega
    rw [this]; exact e
theorem zsN {n : Nat} {e : Ed} (he : e ∈ g.edges) (h : 0 ≤ dl g S n e.f) : 0 ≤ dl g S (n + 1) e.t ∧ dl g S (n + 1) e.t ≤ dl g S n e.f + 1:=by
 have hat:=zxs h
 have hr:=zbL (g:=g) (S:=S) n e.f
 obtain ⟨m,hm⟩ : ∃ m : Nat,dl g S n e.f = m:=⟨(dl g S n e.f).toNat,by omega⟩
 rw [hm] at hat hr ⊢
 simp at hat
 have key : 0 ≤ dl g S (m + 1) e.t ∧ dl g S (m + 1) e.t ≤ m + 1:=by
  have hr2:=zbL (g:=g) (S:=S) (m + 1) e.t
  refine ⟨?_,by omega⟩
  rw [dl]
  split
  ·assumption
  ·rw [if_pos]
   ·omega
   ·rw [List.any_eq_true]
    exact ⟨e,he,by simp [hat]⟩
 have:=zvg (g:=g) (S:=S) (n:=m + 1) (m:=n + 1) (by omega) key.1
 rw [this]
 exact key
theorem zpD (h : GrOk g) {n : Nat} (hn : ∀ k,Key g k → dl g S n k ≠ n) : ∀ (m : Nat),n ≤ m → ∀ k,Key g k → dl g S m k = dl g S n k ∧ dl g S m k ≠ m:=by
 intro m
 induction m with
 | zero =>
   intro hm k hk
   obtain rfl : n = 0:=by omega
   exact ⟨rfl,hn k hk⟩
 | succ m ih =>
   intro hm k hk
   rcases Nat.lt_or_ge n (m + 1) with h1 | h1
   ·have ihm:=ih (by omega)
    have e : dl g S (m + 1) k = dl g S m k:=by
     by_cases h2 : 0 ≤ dl g S m k
     ·exact zgg h2
     ·have hr:=zbL (g:=g) (S:=S) m k
      by_cases h3 : 0 ≤ dl g S (m + 1) k
      ·obtain ⟨_,e,he,_,h5⟩:=zoU h3 h2
       have hf:=h.fits e he
       exact absurd h5 (ihm e.f ⟨hf.1,by have:=hf.2.1; omega⟩).2
      ·have hr2:=zbL (g:=g) (S:=S) (m + 1) k
       omega
    have hr:=zbL (g:=g) (S:=S) m k
    rw [e,(ihm k hk).1]
    refine ⟨rfl,?_⟩
    rw [(ihm k hk).1] at hr
    omega
   ·obtain rfl : n = m + 1:=by omega
    exact ⟨rfl,hn k hk⟩
def reach (g : Gr) (S : List Int) (n : Nat) : Nat:=(List.range g.size.toNat).countP fun (i : Nat)=>decide (0 ≤ dl g S n (i : Int))
theorem zn2 {α : Type} {p q : α → Bool} : ∀ {l : List α},(∀ x ∈ l,p x = true → q x = true) → (∃ x ∈ l,q x = true ∧ p x = false) → l.countP p < l.countP q
 | [],_,h=>by obtain ⟨_,h,_⟩:=h; simp at h
 | a :: l,h1,h2=>by
   have hle : l.countP p ≤ l.countP q:=List.countP_mono_left fun x hx=>h1 x (List.mem_cons_of_mem _ hx)
   simp only [List.countP_cons]
   obtain ⟨x,hx,hq,hp⟩:=h2
   rcases List.mem_cons.1 hx with rfl | hx
   ·rw [hq,hp]
    simp
    omega
   ·have ih:=zn2 (fun x hx=>h1 x (List.mem_cons_of_mem _ hx)) ⟨x,hx,hq,hp⟩
    have ha:=h1 a List.mem_cons_self
    cases hpa : p a <;> cases hqa : q a <;> simp_all <;> omega
theorem zqG {n : Nat} {k : Int} (hk : Key g k) (h : dl g S (n + 1) k = n + 1) : reach g S n < reach g S (n + 1):=by
 refine zn2 (fun i _ hi=>?_) ⟨k.toNat,by simp; have:=hk.1; have:=hk.2; omega,?_,?_⟩
 ·simp at hi ⊢
  rw [zgg hi]; exact hi
 ·have e : ((k.toNat : Nat) : Int) = k:=by have:=hk.1; omega
  simp [e,h]
  omega
 ·have e : ((k.toNat : Nat) : Int) = k:=by have:=hk.1; omega
  simp only [e,decide_eq_false_iff_not]
  intro h2
  rw [zgg h2] at h
  have:=zbL (g:=g) (S:=S) n k
  omega
theorem zvi (h : GrOk g) {n : Nat} {k : Int} (hd : dl g S (n + 1) k = n + 1) : ∃ k',Key g k' ∧ dl g S n k' = n:=by
 have h2 : ¬ 0 ≤ dl g S n k:=by
  intro h2
  rw [zgg h2] at hd
  have:=zbL (g:=g) (S:=S) n k
  omega
 obtain ⟨_,e,he,_,h5⟩:=zoU (by omega) h2
 have hf:=h.fits e he
 exact ⟨e.f,⟨hf.1,by have:=hf.2.1; omega⟩,h5⟩
theorem zqV (h : GrOk g) : ∀ {n : Nat} {k : Int},Key g k → dl g S n k = n → n + 1 ≤ reach g S n
 | 0,k,hk,hd=>by
   have : 0 < reach g S 0:=List.countP_pos_iff.2 ⟨k.toNat,by simp; have:=hk.1; have:=hk.2; omega,by
    have e : ((k.toNat : Nat) : Int) = k:=by have:=hk.1; omega
    simp [e]
    omega⟩
   omega
 | n + 1,k,hk,hd=>by
   have hd' : dl g S (n + 1) k = (n : Int) + 1:=by simpa using hd
   obtain ⟨k',hk',h'⟩:=zvi h hd'
   have:=zqV h hk' h'
   have:=zqG hk hd'
   omega
theorem zt4 (n : Nat) : reach g S n ≤ g.size.toNat:=by
 have:=List.countP_le_length (p:=fun (i : Nat)=>decide (0 ≤ dl g S n (i : Int))) (l:=List.range g.size.toNat)
 simpa [reach] using this
theorem zrb (h : GrOk g) {n : Nat} {k : Int} (hk : Key g k) (hd : dl g S n k = n) : (n : Int) < g.size:=by
 have h1:=zqV h hk hd
 have h2:=zt4 (g:=g) (S:=S) n
 omega
def dist (g : Gr) (S : List Int) (k : Int) : Int:=dl g S g.size.toNat k
theorem zou (h : GrOk g) {n : Nat} (hn : ∀ k,Key g k → dl g S n k ≠ n) (k : Int) (hk : Key g k) : dl g S n k = dist g S k:=by
 unfold dist
 rcases Nat.le_total n g.size.toNat with h1 | h1
 ·exact ((zpD h hn _ h1 k hk).1).symm
 ·have hN : ∀ k,Key g k → dl g S g.size.toNat k ≠ g.size.toNat:=by
   intro k hk hd
   have:=zrb h hk hd
   omega
  exact (zpD h hN _ h1 k hk).1
theorem zsu (k : Int) : -1 ≤ dist g S k ∧ dist g S k ≤ g.size.toNat:=zbL _ _
theorem ztG (h : GrOk g) {k : Int} (hk : Key g k) : dist g S k < g.size ∨ g.size ≤ 0:=by
 have h1:=zsu (g:=g) (S:=S) k
 by_cases h2 : dist g S k = g.size.toNat
 ·have:=zrb h hk h2
  omega
 ·have:=hk.1; have:=hk.2; omega
theorem ztq (h : GrOk g) {e : Ed} (he : e ∈ g.edges) (hf : 0 ≤ dist g S e.f) : 0 ≤ dist g S e.t ∧ dist g S e.t ≤ dist g S e.f + 1:=by
 have hfit:=h.fits e he
 have h1:=zsN (S:=S) he hf
 have hN : ∀ k,Key g k → dl g S g.size.toNat k ≠ g.size.toNat:=by
  intro k hk hd
  have:=zrb h hk hd
  omega
 have h2:=(zpD h hN (g.size.toNat + 1) (by omega) e.t ⟨hfit.2.2.1,by have:=hfit.2.2.2.1; omega⟩).1
 rw [h2] at h1
 exact h1
section
variable {P : Program} {np id : Nat} {h : Nat → Option Ent} {K : AV → List Nat → List (Nat × Option Ent) → Prop} {f : FuncId} {first capt args args' : List AV} {res : AV}
theorem zvl {i : Nat} (sn : List Nat) {e e' : Ent} {hs' : List (Option Ent)} (hij : ∀ j ∈ sn,j ≠ i) (hi : h i = some e) (hee : zax [(i,0)] sn h 4 e = e') (hc : zai P f args' [e'] res hs') (h8 : hs'.length ≤ 9) (he : (first ++ args ++ capt).map (conv [(i,0)] sn h 4) = args')
  (hp : Plain res) (hpe : ∀ e,some e ∈ hs' → zjn e)
  (hk : K (conv (swp [i] id) [] (fun _=>none) 4 res) (i :: sn) ((hs'.zipIdx.map fun (e,k)=>((i :: (List.range 8).map (id + ·)).getD k 0,e.map (zax (swp [i] id) [] (fun _=>none) 4))) ++ [])) : aK P np id .call (.fn (.func f) first capt :: args) h K :=
 ⟨[i],sn,false,args',[e'],res,hs',by simp,by simpa using hij,by simp,by rw [show [i].zipIdx = [(i,0)] from rfl,he]; exact zbM _,by rw [show [i].zipIdx = [(i,0)] from rfl]; simpa [hi] using hee,hc,by simpa using h8,.inr ⟨hp,hpe⟩,by simpa [swp] using hk⟩
theorem zve {j : Nat} {e ej : Ent} (hnp : np ≤ j) (hj : h j = some ej) (hc : zai P f args' [] res [some e]) (he : (first ++ args ++ capt).map (conv [] [j] h 4) = args')
  (hk : K (conv (swp [] id) [] (fun _=>none) 4 res) [j] [(id,some (zax (swp [] id) [] (fun _=>none) 4 e)),(j,some { ej with ro:=ej.rows.length })]) : aK P np id .call (.fn (.func f) first capt :: args) h K :=
 ⟨[],[j],true,args',[],res,[some e],by simp,by simp,by simpa using hnp,by rw [List.zipIdx_nil,he]; exact zbM _,rfl,hc,by simp,.inl rfl,by simpa [swp,hj] using hk⟩
end
theorem zqm {l : List Int} {z : Nat} : zjn ⟨1,zah l ++ List.replicate z [AV.I 0],0⟩:=by
 intro row hrow x hx
 simp only [List.mem_append,List.mem_map,List.mem_replicate] at hrow
 rcases hrow with ⟨y,_,rfl⟩ | ⟨_,rfl⟩
 ·simp at hx; subst hx; exact .sc _
 ·simp at hx; subst hx; exact .sc _
theorem zuo (g : Gr) (S : List Int) (k : Int) (hS : S.length ≤ 1099511627776) (hg : g.gone.length ≤ 1099511627776) : zai Tryz.prog zey [eG g,ints S,.I k] [] (.B (zfQ g S k)) []:=by
 refine zlj.acalls (nbz rfl) (nbz rfl) (Nat.le_refl _) ?_
 show awp _ 0 _ _ ⟨17,[(0,eG g),(1,ints S),(2,.I k)],[],16⟩
 refine zaa ⟨17,[(1,ints S),(2,.I k),(3,.pv (gC g))],[],16⟩ rfl ?_ ?_
 ·simp
  exact Le.snap [16] rfl rfl (by simp)
 refine zaa ⟨17,[(6,.B (zfQ g S k))],[],16⟩ rfl ?_ ?_
 ·simp
  refine zd1 zau rfl ?_
  refine zaj (zfF S k (by omega)) rfl ?_
  simp
  refine zb5 (fun hb=>?_) (fun hb=>?_)
  ·simp [hb]
   refine zd1 zau rfl ?_
   refine zaj (zfF g.gone k (by omega)) rfl ?_
   simp [hb]
   exact Le.snap [] rfl rfl (by simp [zfQ] <;> exact wkB (by simp_all))
  ·simp [hb]
   exact Le.snap [] rfl rfl (by simp [zfQ] <;> exact wkB (by simp_all))
 refine zag ?_
 exact ⟨.inr rfl,zak.one (by simp)⟩
theorem zsI (g : Gr) (S : List Int) (k : Int) (hS : S.length ≤ 1099511627776) (hg : g.gone.length ≤ 1099511627776) : zai Tryz.prog zcy [.I k,.pv (gC g),.pv [ints S]] [] (.B (zfQ g S k)) []:=by
 refine zjx.acalls (nbz rfl) (nbz rfl) (Nat.le_refl _) ?_
 show awp _ 0 _ _ ⟨9,[(0,.I k),(1,.pv (gC g)),(2,.pv [ints S])],[],16⟩
 refine zab ?_
 refine zad (s:=?s0) rfl ?o0 ?q0
 case o0=>simp; rfl
 refine zab ?_
 refine zad (s:=?s1) rfl ?o1 ?q1
 case o1=>simp; refine zaj (zuo g S k hS hg) rfl ?_; simp; rfl
 refine zag ?_
 exact ⟨.inr rfl,zak.one (by simp)⟩
def offQ (D : List Int) (x : Int) : Bool:=!decide (0 ≤ x ∧ x < D.length) || decide (0 ≤ D.getD x.toNat 0)
theorem zsF (D : List Int) (x : Int) (hD : D.length ≤ 1000000) : zai Tryz.prog zcz [.I x,.pv [ints D]] [] (.B (offQ D x)) []:=by
 refine zjC.acalls (nbz rfl) (nbz rfl) (Nat.le_refl _) ?_
 show awp _ 0 _ _ ⟨17,[(0,.I x),(1,.pv [ints D])],[],16⟩
 have hw : IntKind.i64.wrap ((D.length : Int) - 1) = (D.length : Int) - 1:=w64 (by omega) (by omega)
 refine zab ?_
 refine zad (s:=?s0) rfl ?o0 ?q0
 case o0=>simp; rfl
 refine zaa ⟨17,[(3,.B (offQ D x))],[],16⟩ rfl ?_ ?_
 ·simp [hw]
  refine zd1 zaQ rfl ?_
  refine zaj (zbs ..) rfl ?_
  simp
  by_cases hx : 0 ≤ x ∧ x < D.length
  ·obtain ⟨k,rfl⟩ : ∃ k : Nat,x = k:=⟨x.toNat,by omega⟩
   have hk : k < D.length:=by omega
   have hb : (!decide (0 ≤ (k : Int)) || !decide ((k : Int) ≤ (D.length : Int) - 1)) = false:=by simp; omega
   have ho : offQ D k = decide (0 ≤ D[k]):=by
    unfold offQ
    rw [decide_eq_true hx]
    simp [hk]
   rw [hb,ho]
   simp [hk]
   exact Le.snap [] rfl rfl (by simp)
  ·have hb : (!decide (0 ≤ x) || !decide (x ≤ (D.length : Int) - 1)) = true:=by simp; omega
   have ho : offQ D x = true:=by
    unfold offQ
    rw [decide_eq_false hx]
    rfl
   rw [hb,ho]
   simp
   exact Le.snap [] rfl rfl (by simp)
 refine zag ?_
 exact ⟨.inr rfl,zak.one (by simp)⟩
def zbJ (g : Gr) (S : List Int) : List Int:=(List.range g.size.toNat).map fun (i : Nat)=>dist g S (i : Int)
def outL (g : Gr) (S : List Int) (d : Nat) : List Int:=(List.range g.size.toNat).map fun (i : Nat)=>if 0 ≤ dl g S d i ∧ dl g S d i < d then dl g S d i else -1
def outP (g : Gr) (S : List Int) (d : Nat) (F : List Int) : List Int:=(List.range g.size.toNat).map fun (i : Nat)=>if 0 ≤ dl g S d i ∧ dl g S d i < d then dl g S d i else if (i : Int) ∈ F then (d : Int) else -1
theorem znf (g : Gr) (S : List Int) (d : Nat) : outP g S d [] = outL g S d:=by
 unfold outP outL
 simp
theorem zsU {g : Gr} {S : List Int} (d : Nat) (F : List Int) (hF : ∀ x,x ∈ F ↔ Key g x ∧ dl g S d x = d) : outP g S d F = outL g S (d + 1):=by
 unfold outP outL
 refine List.map_congr_left fun i hi=>?_
 simp at hi
 have hkey : Key g i:=⟨by omega,by omega⟩
 have hr:=zbL (g:=g) (S:=S) d i
 have hr2:=zbL (g:=g) (S:=S) (d + 1) i
 have hm : (i : Int) ∈ F ↔ dl g S d i = d:=by rw [hF]; exact ⟨fun h=>h.2,fun h=>⟨hkey,h⟩⟩
 simp only [hm]
 by_cases h0 : 0 ≤ dl g S d i
 ·have e:=zgg h0
  rw [e]
  by_cases h1 : dl g S d i < d
  ·rw [if_pos ⟨h0,h1⟩,if_pos ⟨h0,by omega⟩]
  ·have h2 : dl g S d i = d:=by omega
   rw [if_neg (by omega),if_pos h2,if_pos ⟨h0,by omega⟩,h2]
 ·rw [if_neg (by omega),if_neg (by omega)]
  by_cases h3 : 0 ≤ dl g S (d + 1) i
  ·have:=(zoU h3 h0).1
   rw [if_neg (by omega)]
  ·rw [if_neg (by omega)]
theorem zhQ (g : Gr) (S : List Int) (d : Nat) (F : List Int) : (outP g S d F).length = g.size.toNat:=by simp [outP]
theorem zrq (g : Gr) (S : List Int) (d : Nat) : (outL g S d).length = g.size.toNat:=by simp [outL]
theorem zt7 {g : Gr} {S : List Int} {d : Nat} {F : List Int} {k : Nat} (hk : k < g.size.toNat) (hd : dl g S d k = d) : (outP g S d F)[k]'(by rw [zhQ]; exact hk) = if (k : Int) ∈ F then (d : Int) else -1:=by
 unfold outP
 simp only [List.getElem_map,List.getElem_range]
 rw [if_neg (by omega)]
theorem zsL {g : Gr} {S : List Int} {d : Nat} (F : List Int) {i : Nat} (hi : i < g.size.toNat) : (outP g S d F)[i]? = some (if 0 ≤ dl g S d i ∧ dl g S d i < d then dl g S d i else if (i : Int) ∈ F then (d : Int) else -1):=by
 simp [outP,hi]
theorem zup {g : Gr} {S : List Int} {d : Nat} {F : List Int} {k : Nat} (hk : k < g.size.toNat) (hd : dl g S d k = d) : (outP g S d F).set k d = outP g S d (F ++ [(k : Int)]):=by
 apply List.ext_getElem?
 intro i
 by_cases hi : i < g.size.toNat
 ·rw [zsL _ hi,List.getElem?_set]
  by_cases hki : k = i
  ·subst hki
   rw [if_pos rfl,if_pos (by rw [zhQ]; exact hk),if_neg (by omega),if_pos (by simp)]
  ·rw [if_neg hki,zsL _ hi]
   have : (i : Int) ∈ F ++ [(k : Int)] ↔ (i : Int) ∈ F:=by
    simp
    omega
   simp only [this]
 ·rw [List.getElem?_eq_none (by rw [List.length_set,zhQ]; omega),List.getElem?_eq_none (by rw [zhQ]; omega)]
theorem zrs {g : Gr} {S : List Int} {d : Nat} {F F' : List Int} (h : ∀ x,x ∈ F ↔ x ∈ F') : outP g S d F = outP g S d F':=by
 unfold outP
 simp only [h]
theorem zrR {l : List Ed} {F : List Int} {x : Int} (hx : x ∉ F) : (l.countP fun e=>decide (e.f ∈ F ++ [x])) = (l.countP fun e=>decide (e.f ∈ F)) + (outs l x).length:=by
 rw [zr2]
 induction l with
 | nil=>rfl
 | cons e l ih =>
   have e1 : decide (e.f ∈ F ++ [x]) = (decide (e.f ∈ F) || decide (e.f = x)):=by simp
   simp only [List.countP_cons,ih,e1]
   by_cases h1 : e.f ∈ F <;> by_cases h2 : e.f = x
   ·rw [h2] at h1; exact absurd h1 hx
   all_goals
    simp only [hx,h1,h2,decide_true,decide_false,Bool.or_true,Bool.or_false,Bool.true_or,Bool.false_or,if_true,Bool.false_eq_true,if_false]
    omega
structure Pol where
 seeds : List Int
 table : List Int
 lv : Int
def zaY (n : Int) (p : Pol) : Prop :=
 p.seeds ≠ [] ∧ Rise p.seeds 0 (n - 1) ∧ 1 ≤ p.table.length ∧ p.table.length ≤ 8 ∧ 1 ≤ p.lv ∧ p.lv ≤ 3 ∧ ∀ i (h : i < p.table.length),1 ≤ p.table[i] ∧ p.table[i] ≤ 1000 ∧ (0 < i → p.table[i] ≤ p.table[i - 1])
def zex (p : Pol) (d : Int) : Int:=if d < 0 then 0 else p.table.getD d.toNat 1
theorem zhN {p : Pol} {d : Int} (h : d < 0) : zex p d = 0:=if_pos h
theorem zqW {p : Pol} {n : Int} (hp : zaY n p) {d : Int} (h : 0 ≤ d) : 1 ≤ zex p d ∧ zex p d ≤ 1000:=by
 unfold zex
 rw [if_neg (by omega)]
 by_cases hd : d.toNat < p.table.length
 ·rw [List.getD_eq_getElem?_getD,List.getElem?_eq_getElem hd,Option.getD_some]
  have:=hp.2.2.2.2.2.2 d.toNat hd
  omega
 ·rw [List.getD_eq_getElem?_getD,List.getElem?_eq_none (by omega),Option.getD_none]
  omega
theorem zoO {p : Pol} {n : Int} (hp : zaY n p) {d : Int} : 0 < zex p d ↔ 0 ≤ d:=by
 constructor
 ·intro h
  refine Decidable.byContradiction fun h1=>?_
  rw [zhN (by omega)] at h
  omega
 ·intro h
  have:=zqW hp h
  omega
theorem zhs {p : Pol} {n : Int} (hp : zaY n p) (d : Int) : 0 ≤ zex p d ∧ zex p d ≤ 1000:=by
 by_cases h : 0 ≤ d
 ·have:=zqW hp h; omega
 ·rw [zhN (by omega)]; omega
theorem zol (g : Gr) (v : Int) : zam (zam g v) v = zam g v:=by
 unfold zam
 simp only [List.filter_filter,Bool.and_self]
def zaO (g : Gr) (p : Pol) : List Int:=(zbJ (zam g p.lv) p.seeds).map (zex p)
def zba (g : Gr) (p : Pol) (c : List Int) (sinks : List Int) : List Ed :=
 ((p.seeds.filter fun x=>decide (0 < c.getD x.toNat 0)).map fun x=>⟨0,2 + 2 * x,c.getD x.toNat 0⟩)
 ++ ((List.range c.length).filter fun i=>decide (0 < c.getD i 0)).map (fun i=>⟨2 + 2 * (i : Int),3 + 2 * (i : Int),c.getD i 0 - 1⟩)
 ++ ((sinks.filter fun x=>decide (0 < c.getD x.toNat 0)).map fun x=>⟨2 + 2 * x,1,1⟩)
 ++ (((zam g p.lv).edges.filter fun e=>decide (0 < c.getD e.f.toNat 0)).map fun e=>⟨3 + 2 * e.f,2 + 2 * e.t,64⟩)
structure Net where
 nodes : Int
 arcs : List Ed
def zjQ (n : Int) (a : Ed) : Prop:=0 ≤ a.f ∧ a.f ≤ n - 1 ∧ 0 ≤ a.t ∧ a.t ≤ n - 1 ∧ a.f ≠ a.t ∧ a.t ≠ 0 ∧ a.f ≠ 1 ∧ 0 ≤ a.v ∧ a.v ≤ 1048576
instance (n : Int) (a : Ed) : Decidable (zjQ n a):=by unfold zjQ; infer_instance
def za5 (n : Net) : Prop:=2 ≤ n.nodes ∧ n.nodes ≤ 130 ∧ n.arcs.length ≤ 1200 ∧ ∀ a ∈ n.arcs,zjQ n.nodes a
instance (n : Net) : Decidable (za5 n):=by unfold za5; infer_instance
def zct (n : Net) (side : List Int) : Prop:=za5 n ∧ Rise side 0 (n.nodes - 1) ∧ (0 : Int) ∈ side ∧ (1 : Int) ∉ side
def cutV (arcs : List Ed) (side : List Int) : Int:=(arcs.map fun a=>if a.f ∈ side ∧ a.t ∉ side then a.v else 0).sum
def zc9 (n : Net) (side : List Int) (most : Int) : Prop:=zct n side ∧ cutV n.arcs side ≤ most
theorem zn3 (arcs : List Ed) (side : List Int) (i : Nat) (h : i < arcs.length) : cutV (arcs.take (i + 1)) side = cutV (arcs.take i) side + if arcs[i].f ∈ side ∧ arcs[i].t ∉ side then arcs[i].v else 0:=by
 unfold cutV
 rw [List.take_succ_eq_append_getElem h,List.map_append,List.sum_append]
 simp
theorem zi2 {n : Int} {side : List Int} : ∀ {arcs : List Ed},(∀ a ∈ arcs,zjQ n a) → 0 ≤ cutV arcs side ∧ cutV arcs side ≤ 1048576 * arcs.length
 | [],_=>by simp [cutV]
 | a :: l,h=>by
   have h1:=h a (List.mem_cons_self ..)
   have h2:=zi2 (side:=side) fun x hx=>h x (List.mem_cons_of_mem a hx)
   have h3 : cutV (a :: l) side = (if a.f ∈ side ∧ a.t ∉ side then a.v else 0) + cutV l side:=by simp [cutV]
   have h4 : 0 ≤ (if a.f ∈ side ∧ a.t ∉ side then a.v else 0) ∧ (if a.f ∈ side ∧ a.t ∉ side then a.v else 0) ≤ 1048576:=by
    split
    ·exact ⟨h1.2.2.2.2.2.2.2.1,h1.2.2.2.2.2.2.2.2⟩
    ·omega
   rw [h3]
   simp only [List.length_cons]
   omega
def zav (a : List Int) : List Int:=((List.range 64).map Int.ofNat).filter fun x=>decide (x ∈ a)
theorem zc3 {a : List Int} {x : Int} : x ∈ zav a ↔ x ∈ a ∧ 0 ≤ x ∧ x < 64:=by
 unfold zav
 simp only [List.mem_filter,List.mem_map,List.mem_range,decide_eq_true_eq]
 constructor
 ·rintro ⟨⟨i,hi,rfl⟩,h⟩
  exact ⟨h,Int.natCast_nonneg _,by show (i : Int) < 64; omega⟩
 ·rintro ⟨h,h0,h1⟩
  exact ⟨⟨x.toNat,by omega,by show ((x.toNat : Nat) : Int) = x; omega⟩,h⟩
theorem zgO (a : List Int) : (zav a).Pairwise (· < ·):=by
 unfold zav
 refine List.Pairwise.filter _ ?_
 rw [List.pairwise_map]
 exact List.pairwise_lt_range.imp fun {a b} h=>by show (a : Int) < (b : Int); omega
theorem zbC : ∀ {a b : List Int},a.Nodup → (∀ x ∈ a,x ∈ b) → a.length ≤ b.length
 | [],_,_,_=>Nat.zero_le _
 | x :: a,b,hn,hs=>by
   have hx : x ∈ b:=hs x (List.mem_cons_self ..)
   rw [List.nodup_cons] at hn
   have hb:=List.perm_cons_erase hx
   have hlb : (b.erase x).length + 1 = b.length:=by have:=hb.length_eq; simp at this; omega
   have:=zbC (b:=b.erase x) hn.2 fun y hy=>by
    have hne : y ≠ x:=fun e=>hn.1 (e ▸ hy)
    exact (List.mem_erase_of_ne hne).2 (hs y (List.mem_cons_of_mem _ hy))
   rw [List.length_cons]
   omega
theorem zjW {a : List Int} (hn : a.Nodup) (hr : ∀ k ∈ a,0 ≤ k ∧ k < 64) : srt a = zav a:=by
 have h1 : (zav a).Nodup:=(zgO a).imp fun {x y} h=>by omega
 have h2 : a.Perm (zav a):=zcd hn (fun x hx=>zc3.2 ⟨hx,hr x hx⟩) (zbC h1 fun x hx=>(zc3.1 hx).1)
 exact List.Perm.eq_of_pairwise (le:=(· ≤ ·)) (fun x y _ _ h1 h2=>by omega) (ztH a) ((zgO a).imp fun {x y} h=>by omega) ((zgK a).trans h2)
def encS (s : Stp) : Int:=if s.2 then -((s.1 : Int) + 1) else (s.1 : Int) + 1
def decS (v : Int) : Stp:=if 0 < v then ((v - 1).toNat,false) else ((-v - 1).toNat,true)
theorem zqw (s : Stp) : decS (encS s) = s:=by
 obtain ⟨i,b⟩:=s
 unfold decS encS
 cases b
 ·simp only [Bool.false_eq_true,if_false]
  rw [if_pos (by omega)]
  congr 1
  omega
 ·simp only [if_true]
  rw [if_neg (by omega)]
  congr 1
  omega
theorem zuT (s : Stp) : encS s ≠ 0:=by unfold encS; split <;> omega
structure Bfs (N : Nat) (A : List Ed) (f D b : List Int) : Prop where
 tree : zp4 A f D fun x=>decS (b.getD x.toNat 0)
 rng : ∀ x ∈ D,0 ≤ x ∧ x < N
 len : b.length = N
 zero : b.getD 0 0 = 0
 out : ∀ x : Int,0 ≤ x → x ∉ D → b.getD x.toNat 0 = 0
 inn : ∀ x ∈ D,x ≠ 0 → b.getD x.toNat 0 ≠ 0
def zfC (A : List Ed) (f D : List Int) (m : Nat) : Prop:=∀ s : Stp,s.1 < A.length → stF A s ∈ D.take m → 0 < zbk A f s → stT A s ∈ D
def zfv (A : List Ed) (f D : List Int) (k : Int) (i : Nat) : Prop:=∀ s : Stp,s.1 < i → stF A s = k → 0 < zbk A f s → stT A s ∈ D
variable {N : Nat} {A : List Ed} {f D b : List Int}
theorem Bfs.start (hN : 0 < N) : Bfs N A f [0] (List.replicate N 0):=by
 have h0 : ∀ i,(List.replicate N (0 : Int)).getD i 0 = 0:=fun i=>by
  rw [List.getD_eq_getElem?_getD,List.getElem?_replicate]
  split <;> rfl
 exact ⟨⟨rfl,by simp,fun j h hj=>by simp at h; omega⟩,fun x hx=>by simp at hx; omega,by simp,h0 0,fun x _ _=>h0 _,fun x hx hn=>absurd (by simpa using hx) hn⟩
theorem Bfs.mem0 (h : Bfs N A f D b) : (0 : Int) ∈ D:=List.mem_of_mem_head? (by rw [h.tree.zero]; rfl)
theorem Bfs.push (h : Bfs N A f D b) {s : Stp} (hs : s.1 < A.length) (hF : stF A s ∈ D) (hr : 0 < zbk A f s) (hT : stT A s ∉ D) (h0 : 0 ≤ stT A s) (h1 : stT A s < N) : Bfs N A f (D ++ [stT A s]) (b.set (stT A s).toNat (encS s)):=by
 have hb : (stT A s).toNat < b.length:=by rw [h.len]; omega
 have hne : ∀ x : Int,0 ≤ x → x ≠ stT A s → (b.set (stT A s).toNat (encS s)).getD x.toNat 0 = b.getD x.toNat 0:=fun x hx hxn=>by
  rw [List.getD_eq_getElem?_getD,List.getElem?_set_ne (by omega),List.getD_eq_getElem?_getD]
 have heq : (b.set (stT A s).toNat (encS s)).getD (stT A s).toNat 0 = encS s:=by
  rw [List.getD_eq_getElem?_getD,List.getElem?_set_self hb,Option.getD_some]
 have hn0 : stT A s ≠ 0:=fun e=>hT (e ▸ h.mem0)
 refine ⟨⟨?_,?_,fun j hj hj0=>?_⟩,fun x hx=>?_,by rw [List.length_set]; exact h.len,?_,fun x hx hxn=>?_,fun x hx hxn=>?_⟩
 ·rw [List.head?_append,h.tree.zero]
  rfl
 ·rw [List.nodup_append]
  exact ⟨h.tree.nodup,by simp,fun a ha c hc=>by rw [List.mem_singleton] at hc; subst hc; rintro rfl; exact hT ha⟩
 ·rw [List.length_append,List.length_singleton] at hj
  by_cases hjl : j < D.length
  ·have hm:=List.getElem_mem hjl
   have hx : D[j] ≠ stT A s:=fun e=>hT (e ▸ hm)
   simp only [List.getElem_append_left hjl]
   rw [hne _ (h.rng _ hm).1 hx]
   obtain ⟨q1,q2,q3,q4⟩:=h.tree.step j hjl hj0
   refine ⟨q1,q2,?_,q4⟩
   rw [List.take_append_of_le_length (by omega)]
   exact q3
  ·obtain rfl : j = D.length:=by omega
   have e : (D ++ [stT A s])[D.length]'(by simp) = stT A s:=by simp
   simp only [e]
   rw [heq,zqw]
   refine ⟨hs,rfl,?_,hr⟩
   rw [List.take_append_of_le_length (Nat.le_refl _),List.take_length]
   exact hF
 ·rcases List.mem_append.1 hx with h2 | h2
  ·exact h.rng x h2
  ·rw [List.mem_singleton] at h2
   subst h2
   exact ⟨h0,h1⟩
 ·have:=hne 0 (Int.le_refl _) (Ne.symm hn0)
  simp only [Int.toNat_zero] at this
  rw [this]
  exact h.zero
 ·rw [List.mem_append,List.mem_singleton,not_or] at hxn
  rw [hne x hx hxn.2]
  exact h.out x hx hxn.1
 ·by_cases hxt : x = stT A s
  ·subst hxt
   rw [heq]
   exact zuT s
  ·rcases List.mem_append.1 hx with h2 | h2
   ·rw [hne x (h.rng x h2).1 hxt]
    exact h.inn x h2 hxn
   ·exact absurd (List.mem_singleton.1 h2) hxt
theorem Bfs.few (h : Bfs N A f D b) : D.length ≤ N:=by
 have:=zbC (b:=(List.range N).map fun i : Nat=>(i : Int)) h.tree.nodup fun x hx=>by
  have:=h.rng x hx
  exact List.mem_map.2 ⟨x.toNat,List.mem_range.2 (by omega),by omega⟩
 simpa using this
def tryS (A : List Ed) (f : List Int) (k : Int) (s : Stp) (st : List Int × List Int) : List Int × List Int :=
 if stF A s = k ∧ 0 < zbk A f s ∧ stT A s ∉ st.1 then (st.1 ++ [stT A s],st.2.set (stT A s).toNat (encS s)) else st
theorem zj2 {k : Int} {s : Stp} {st : List Int × List Int} : ∃ l,(tryS A f k s st).1 = st.1 ++ l:=by
 unfold tryS
 split
 ·exact ⟨_,rfl⟩
 ·exact ⟨[],by simp⟩
theorem ztS {k : Int} {s : Stp} {st : List Int × List Int} (h : Bfs N A f st.1 st.2) (hk : k ∈ st.1) (hs : s.1 < A.length) (h0 : 0 ≤ stT A s) (h1 : stT A s < N) : Bfs N A f (tryS A f k s st).1 (tryS A f k s st).2:=by
 unfold tryS
 split
 ·rename_i hc
  exact h.push hs (hc.1 ▸ hk) hc.2.1 hc.2.2 h0 h1
 ·exact h
theorem zrj {k : Int} {s : Stp} {st : List Int × List Int} (hF : stF A s = k) (hr : 0 < zbk A f s) : stT A s ∈ (tryS A f k s st).1:=by
 unfold tryS
 by_cases h : stT A s ∈ st.1
 ·rw [if_neg fun hc=>hc.2.2 h]
  exact h
 ·rw [if_pos ⟨hF,hr,h⟩]
  simp
theorem zfv.try2 {k : Int} {i : Nat} {st : List Int × List Int} (h : zfv A f st.1 k i) : zfv A f (tryS A f k (i,true) (tryS A f k (i,false) st)).1 k (i + 1):=by
 obtain ⟨l1,e1⟩:=zj2 (A:=A) (f:=f) (k:=k) (s:=(i,false)) (st:=st)
 obtain ⟨l2,e2⟩:=zj2 (A:=A) (f:=f) (k:=k) (s:=(i,true)) (st:=tryS A f k (i,false) st)
 intro s hs hF hr
 obtain ⟨j,c⟩:=s
 rcases Nat.lt_succ_iff_lt_or_eq.1 hs with hj | hj
 ·rw [e2,e1]
  exact List.mem_append_left _ (List.mem_append_left _ (h (j,c) hj hF hr))
 ·have hj : j = i:=hj
  subst hj
  cases c
  ·rw [e2]
   exact List.mem_append_left _ (zrj hF hr)
  ·exact zrj hF hr
theorem zfC.next {m : Nat} (hm : m < D.length) {D' : List Int} (h : zfC A f D m) (hi : zfv A f D' D[m] A.length) {l : List Int} (hD : D' = D ++ l) : zfC A f D' (m + 1):=by
 subst hD
 intro s hs hF hr
 rw [List.take_append_of_le_length (by omega),List.take_succ_eq_append_getElem hm] at hF
 rcases List.mem_append.1 hF with h1 | h1
 ·exact List.mem_append_left _ (h s hs h1 hr)
 ·exact hi s hs (List.mem_singleton.1 h1) hr
theorem zfC.all (h : zfC A f D D.length) : zeX A f D:=fun s hs hF hr=>h s hs (by rw [List.take_length]; exact hF) hr
def zbY (N : Nat) (D : List Int) : List Bool:=(List.range N).map fun k : Nat=>decide ((k : Int) ∈ D)
theorem zi4 (N : Nat) (D : List Int) : (zbY N D).length = N:=by simp [zbY]
theorem zgU {x : Int} (h0 : 0 ≤ x) (h1 : x < N) : (zbY N D)[x.toNat]? = some (decide (x ∈ D)):=by
 unfold zbY
 rw [List.getElem?_map,List.getElem?_range (by omega)]
 simp only [Option.map_some,Int.toNat_of_nonneg h0]
theorem ziL {x : Int} (h0 : 0 ≤ x) (h1 : x < N) : (zbY N D).set x.toNat true = zbY N (D ++ [x]):=by
 apply List.ext_getElem?
 intro j
 by_cases hj : j < N
 ·have e1 : (zbY N (D ++ [x]))[j]? = some (decide ((j : Int) ∈ D ++ [x])):=by
   have:=zgU (N:=N) (D:=D ++ [x]) (x:=(j : Int)) (by omega) (by omega)
   simpa using this
  have e2 : (zbY N D)[j]? = some (decide ((j : Int) ∈ D)):=by
   have:=zgU (N:=N) (D:=D) (x:=(j : Int)) (by omega) (by omega)
   simpa using this
  rw [List.getElem?_set,e1,e2,zi4]
  by_cases hx : x.toNat = j
  ·rw [if_pos hx,if_pos (by omega)]
   have : (j : Int) = x:=by omega
   simp [this]
  ·rw [if_neg hx]
   have : (j : Int) ≠ x:=by omega
   simp [this]
 ·rw [List.getElem?_eq_none (by rw [List.length_set,zi4]; omega),List.getElem?_eq_none (by rw [zi4]; omega)]
theorem zoy (hN : 0 < N) : (List.replicate N false).set 0 true = zbY N [0]:=by
 have h:=ziL (N:=N) (D:=[]) (x:=0) (Int.le_refl _) (by omega)
 have e : zbY N [] = List.replicate N false:=by
  unfold zbY
  apply List.ext_getElem (by simp)
  simp
 rw [e] at h
 exact h
end Go.Proofs.YthmaflecfppoiaaGreat
namespace Go.Proofs.YthmaflecfppoiaaGreat
open Go Go.RowKit Go.Shelf Go.Maps Go.Sort
attribute [local go_sem] Oper.semAt_some
def ziC : Go.Shelf.Ren:=⟨fun | 11=>149 | n=>n,fun | 0=>0 | 24=>22 | 26=>3 | 28=>145 | 33=>62 | n=>n,fun | n=>n⟩
theorem seqL : SlLaysZI.n11 Tryz.prog ziC:={
 mixed:=by kernel_rfl
 f11:=⟨Tryz.f149.name,by decide,Tryz.func149.trans (congrArg some (by kernel_rfl))⟩
 t0:=Tryz.underlying0
 a0:=Tryz.isAgg0
 z0:=Tryz.sizeOf0
 v0:=Tryz.zeroValue0
 t24:=Tryz.underlying22
 a24:=Tryz.isAgg22
 z24:=Tryz.sizeOf22
 v24:=Tryz.zeroValue22
 t26:=Tryz.underlying3
 a26:=Tryz.isAgg3
 z26:=Tryz.sizeOf3
 v26:=Tryz.zeroValue3
 t28:=Tryz.underlying145
 a28:=Tryz.isAgg145
 z28:=Tryz.sizeOf145
 v28:=Tryz.zeroValue145
 i26:=by kernel_rfl
}
theorem zqr {l : List Int} {k : Nat} (h : k < l.length) : l.take (k + 1) = l.take k ++ [l[k]]:=List.take_succ_eq_append_getElem h
set_option maxRecDepth 100000 in
set_option maxHeartbeats 2000000 in
theorem zrV (F : Fence) (n : Nat) (h7 : F.fn 138) (hro : F.round = none) (hn : 1 ≤ n) (l Bs B0 b off cap : Nat) (a : Option Addr) (zs : List Int) (ha : zs ≠ [] → a = some ⟨b,off,none⟩) (hreach : zs.length ≤ 17592186044416) (J : List Int → World → Prop) (W : World)
  (hJ : ∀ pre W1,J pre W1 → ∀ j (h : j < zs.length),W1.cell? ⟨b,off + j,none⟩ = some (.int .i64 zs[j]))
  (hY : ∀ pre x W1,J pre W1 → pre.length < zs.length → YieldAt F (n - 1) Tryz.prog l #[.int .i64 x] W1 fun e W'=>e = .returned (.bool true) ∧ J (pre ++ [x]) W' ∧ KeepsWalks W1 W')
  (hBs : W.cell? ⟨Bs,B0,none⟩ = some (.slice a zs.length cap)) (h0 : J [] W) :
  CallsIn F n Tryz.prog 138 #[.func (.yield l) #[] #[],.pointer (some ⟨Bs,B0,none⟩)] W fun e W'=>(∃ v,e = .returned v) ∧ J zs W':=by
 refine callsIn_of_wp Tryz.func138 rfl h7 ?_ hro
 simp only [Tryz.ntmps138,List.size_toArray,List.length_cons,List.length_nil,Nat.reduceAdd,Nat.reduceSub,Array.replicate_succ,Array.replicate_zero,List.push_toArray,List.append_toArray,List.nil_append,List.cons_append]
 gi_wp2
 gi_loopw [7] (fun i wr=>∃ k : Nat,k ≤ zs.length ∧ i = .int .i64 k ∧ J (zs.take k) wr) (fun i _=>zs.length - (intOf i).toNat)
 case atStart=>exact ⟨0,Nat.zero_le _,rfl,by simpa using h0⟩
 case round =>
  obtain ⟨k,hk,rfl,hJs⟩:=hrel
  by_cases hlt : k < zs.length
  ·have hcx' : wr.cell? ⟨b,off + k,none⟩ = some (.int .i64 zs[k]):=hJ _ _ hJs k hlt
   obtain rfl:=ha (by rintro rfl; simp at hlt)
   obtain ⟨fn,tmps,assign,body,hy,hR⟩:=hY _ zs[k] wr hJs (by rw [List.length_take]; omega)
   gi_wp2
   refine hR.mono ?_
   rintro e W3 ⟨rfl,hJ3,hk3⟩
   gi_wp2
   go_roundw
   case rel=>exact ⟨k + 1,by omega,by simp,by rw [zqr hlt]; exact hJ3⟩
   case measure=>simp [intOf]; omega
  ·obtain rfl : k = zs.length:=by omega
   gi_wp2
   go_end0
   exact ⟨⟨_,rfl⟩,by simpa using hJs⟩
set_option maxRecDepth 100000 in
set_option maxHeartbeats 2000000 in
theorem znP (F : Fence) (n : Nat) (h11 : F.fn 149) (hFg : F.fn 138) (hro : F.round = none) (hn : 2 ≤ n) (Bs B0 b off cap : Nat) (a : Option Addr) (zs : List Int) (ha : zs ≠ [] → a = some ⟨b,off,none⟩) (hN : zs.length ≤ 1099511627776) (w : World)
  (hBs : w.cell? ⟨Bs,B0,none⟩ = some (.slice a zs.length cap)) (hBl : Bs < w.heap.size) (hbl : zs ≠ [] → b < w.heap.size) (hc : ∀ j (h : j < zs.length),w.cell? ⟨b,off + j,none⟩ = some (.int .i64 zs[j])) :
  CallsIn F n Tryz.prog 149 #[.slice none 0 0,.func (.func 138) #[] #[.pointer (some ⟨Bs,B0,none⟩)]] w fun e w'=>∃ v : Value,e = .returned v ∧ w'.ownsRow w.heap.size 3 1 v zs.length (zs.map encZ) ∧ Below w.heap.size w w':=by
 have h1 : 1 ≤ n:=by omega
 have hmax : zs.length ≤ maxLen:=by unfold maxLen; omega
 have L:=seqL
 have hne : (22 : Nat) ≠ 3:=by decide
 have eg : ∀ args w,(callFunc 138 args).run Tryz.prog w = .ok (.enter 138 args) w:=fun args w=>(enters_of Tryz.func138 (by kernel_rfl) rfl) args w
 refine callsIn_of_wp_marks Tryz.func149 rfl h11 ?_ hro
 simp only [Tryz.ntmps149,List.size_toArray,List.length_cons,List.length_nil,Nat.reduceAdd,Nat.reduceSub,Array.replicate_succ,Array.replicate_zero,List.push_toArray,List.append_toArray,List.nil_append,List.cons_append]
 gi_wp2
 refine wpIn_rangeFunc ?_
 intro fn hfn
 rw [hro]
 obtain ⟨W0,hW0⟩ : ∃ W0,w.alloc (.cells #[.slice none 0 0] 22) = W0:=⟨_,rfl⟩
 have hs0 : W0.heap.size = w.heap.size + 1:=by rw [← hW0]; simp
 have hv0 : W0.heap[w.heap.size]? = some (.cells #[.slice none 0 0] 22 (0,0)):=by rw [← hW0]; exact World.alloc_heap_new w _
 have hb0 : Below w.heap.size w W0:=by rw [← hW0]; exact (Below.refl _ w).alloc (Nat.le_refl _) _
 rw [hW0]
 obtain ⟨sv,hsv⟩ : ∃ sv : Value,sv = .func (.func 138) #[] #[.pointer (some ⟨Bs,B0,none⟩)]:=⟨_,rfl⟩
 rw [← hsv]
 obtain ⟨W1,hW1⟩ : ∃ W1,(W0.alloc (.deferred (some []))).alloc (.loop (AnyZI.apRec ziC fn sv w.heap.size W0.heap.size .ready none)) = W1:=⟨_,rfl⟩
 have hold : ∀ k,k < W0.heap.size → W1.heap[k]? = W0.heap[k]?:=fun k hk=>by
  rw [← hW1]; exact (Below.heap_alloc _ _ k (by simp; omega)).trans (Below.heap_alloc _ _ k hk)
 have hb1 : Below w.heap.size w W1:=by rw [← hW1]; exact (hb0.alloc hb0.size _).alloc (by have:=hb0.size; simp; omega) _
 have hs1 : W1.heap.size = W0.heap.size + 2:=by rw [← hW1]; simp
 have hM : AnyZI.ApAt ziC w fn sv w.heap.size (W0.heap.size + 1) W0.heap.size [] W1 :=
  ⟨⟨_,(hold w.heap.size (by omega)).trans hv0,⟨rfl,.inl ⟨rfl,rfl⟩⟩,by simp⟩,
   by rw [← hW1]; have:=World.alloc_heap_new (W0.alloc (.deferred (some []))) (.loop (AnyZI.apRec ziC fn sv w.heap.size W0.heap.size .ready none)); rwa [World.size_alloc] at this,
   by rw [← hW1]; exact (Below.heap_alloc _ _ _ (by simp)).trans (World.alloc_heap_new W0 _),hb1⟩
 refine ⟨W0.heap.size + 1,[{ target:=.collected W0.heap.size,args:=#[] }],W1,{ target:=.fn (.func 138) #[.pointer (some ⟨Bs,B0,none⟩)],args:=#[.func (.yield (W0.heap.size + 1)) #[] #[]] },W1,138,
  #[.func (.yield (W0.heap.size + 1)) #[] #[]] ++ #[.pointer (some ⟨Bs,B0,none⟩)],W1,?_,?_,?_,?_,fun _=>h1,?_⟩
 ·rw [← hW1]; exact run_enterLoop_outer _ _ _ _ _
 ·rw [hsv]; simp [resolve,go_sem]
 ·intro f' hf'; simp [Target.leads] at hf'; subst hf'; exact hFg
 ·simp [invoke,go_sem,eg]
 ·refine (zrV F (n - 1) hFg hro (by omega) (W0.heap.size + 1) Bs B0 b off cap a zs ha (by omega) (AnyZI.ApAt ziC w fn sv w.heap.size (W0.heap.size + 1) W0.heap.size) W1 (fun pre W' h' j hj=>(h'.below.cell (p:=⟨b,off + j,none⟩) (hbl (by rintro rfl; simp at hj))).trans (hc j hj))
   (fun pre x W hJ hl=>AnyZI.apYield { L with } F (n - 1 - 1) w fn hfn _ w.heap.size (W0.heap.size + 1) W0.heap.size (by omega) (by omega) (by omega) (Nat.le_refl _) (by omega) zs.length hmax (by omega) pre x W hJ hl) ((hb1.cell (p:=⟨Bs,B0,none⟩) hBl).trans hBs) hM).mono ?_
  rintro e W2 ⟨⟨v0,rfl⟩,h2⟩
  obtain ⟨v,hv,hrow,hnil⟩:=h2.box
  have hend:=run_endLoop (P:=Tryz.prog) h2.L (by simp [AnyZI.apRec])
  obtain ⟨W3,hW3⟩ : ∃ W3,W2.putObj (W0.heap.size + 1) (.loop { AnyZI.apRec ziC fn sv w.heap.size W0.heap.size .ready none with state:=.exhausted }) = W3:=⟨_,rfl⟩
  rw [hW3] at hend
  have hg3 : W2.grownBy W3 (some (W0.heap.size + 1)):=by rw [← hW3]; exact grownBy_putObj_a _ _ _
  have hv3 : W3.heap[w.heap.size]? = some (.cells #[v] 22 (0,0)):=by rw [← hW3]; exact (World.putObj_heap_other (by omega)).trans hv
  have hK3 : W3.heap[W0.heap.size]? = some (.deferred (some [])):=by rw [← hW3]; exact (World.putObj_heap_other (by omega)).trans h2.K
  have hrow3:=hrow.kept hg3 (ownsRow_ne_a hrow h2.L (fun cur e=>by first | cases e | exact hne (Obj.cells.inj e).2.1))
  have hb3 : Below w.heap.size w W3:=h2.below.grown hg3 h2.below.size (fun k e=>by cases e; omega)
  obtain ⟨hc3,hf3⟩:=cell_of_box_a hv3
  clear hW3
  refine ⟨none,W3,hend,?_⟩
  gi_wp2
  rw [← hs0]
  refine ⟨by simp,.inl ⟨_,_,rfl,run_takeDeferred hK3,?_⟩⟩
  exact ⟨_,results_tmp rfl _ _ _,v,rfl,hrow3.kept (grownBy_putObj_a _ _ _) (ownsRow_ne_a hrow3 hK3 (fun cur e=>by first | cases e | exact hne (Obj.cells.inj e).2.1)),hb3.grown (grownBy_putObj_a _ _ _) hb3.size (fun k e=>by cases e; omega)⟩
theorem ztr {P : Program} {np : Nat} {α : Type} : ∀ (ops : List zbK) (n i : Nat) (st : St) (tr : List (List Nat × List Nat)) (K : α → St → List (List Nat × List Nat) → Prop),zbe P np n i ops st tr (fun s t=>∃ x,K x s t) → ∃ x,zbe P np n i ops st tr (K x):=by
 intro ops
 induction ops with
 | nil=>intro n i st tr K h; exact h
 | cons o os ih =>
   intro n i st tr K h
   have hgo : ∀ (op : AOp) (xs : List AV) (h : Nat → Option Ent) (F : AV → List Nat → List (Nat × Option Ent) → (St → List (List Nat × List Nat) → Prop) → Prop),
     (∀ v rd up,F v rd up (fun s t=>∃ x,K x s t) → ∃ x,F v rd up (K x)) → aK P np (n + 8 * i) op xs h (fun v rd up=>F v rd up (fun s t=>∃ x,K x s t)) → ∃ x,aK P np (n + 8 * i) op xs h (fun v rd up=>F v rd up (K x)):=by
    intro op xs h F hF hk
    obtain ⟨v,rd,up,h1,h2⟩:=zqF hk
    obtain ⟨x,hx⟩:=hF v rd up h1
    refine ⟨x,zt0 (fun a b c e=>?_) h2⟩
    obtain ⟨rfl,rfl,rfl⟩:=e
    exact hx
   unfold zbe at h ⊢
   cases hg : o.guard with
   | none =>
     simp only [hg] at h ⊢
     exact hgo _ _ _ (fun v rd up K'=>zbe P np n (i + 1) os ((st.put o.dst v).upd up) (tr ++ [(rd,up.map (·.1))]) K') (fun v rd up=>ih _ _ _ _ _) h
   | some gw =>
     obtain ⟨g,want⟩:=gw
     simp only [hg] at h ⊢
     obtain ⟨b,hb,h⟩:=h
     by_cases hbw : b = some want
     ·rw [if_pos hbw] at h
      obtain ⟨x,hx⟩:=hgo _ _ _ (fun v rd up K'=>zbe P np n (i + 1) os ((st.put o.dst v).upd up) (tr ++ [(rd,up.map (·.1))]) K') (fun v rd up=>ih _ _ _ _ _) h
      exact ⟨x,b,hb,by rw [if_pos hbw]; exact hx⟩
     ·rw [if_neg hbw] at h
      obtain ⟨x,hx⟩:=ih _ _ _ _ _ h
      exact ⟨x,b,hb,by rw [if_neg hbw]; exact hx⟩
theorem Le.trans' {np : Nat} {a b c : St} (h1 : Le np a b) (h2 : Le np b c) : Le np a c:=by
 intro T0 M0 w0 T M ac w ok hn
 obtain ⟨T',M',ok',hn'⟩:=h1 T0 M0 w0 T M ac w ok hn
 exact h2 T0 M0 w0 T' M' ac w ok' hn'
theorem zwH {P : Program} {np : Nat} : ∀ {c : ze0} {α : Type} {Q : α → zd3 → St → Prop} {st : St},awp P np c (fun e s=>∃ x,Q x e s) st → ∃ x,awp P np c (Q x) st:=by
 intro c
 induction c with
 | skip=>intro α Q st h; exact h
 | reg draw ops after =>
   intro α Q st hw
   obtain ⟨x,hx⟩:=ztr ops st.n 0 st [] (fun x st' tr=>(draw = true → zel ops after tr = true) ∧ Q x .normal { st' with n:=st.n + 8 * ops.length })
    (zca _ _ _ _ _ _ _ (fun s t h=>by obtain ⟨h1,x,h2⟩:=h; exact ⟨x,h1,h2⟩) hw.2)
   exact ⟨x,hw.1,hx⟩
 | seq a b iha ihb =>
   intro α Q st hw
   refine iha (zd9 (fun e s hs=>?_) hw)
   cases e with
   | normal =>
     obtain ⟨st2,hle,h2⟩:=hs
     obtain ⟨x,hx⟩:=ihb h2
     exact ⟨x,st2,hle,hx⟩
   | exit id=>exact hs
   | ret=>exact hs
 | cond c a b iha ihb =>
   intro α Q st hw
   obtain ⟨t,ht,hw⟩:=hw
   cases t
   ·obtain ⟨x,hx⟩:=ihb hw
    exact ⟨x,false,ht,hx⟩
   ·obtain ⟨x,hx⟩:=iha hw
    exact ⟨x,true,ht,hx⟩
 | block id a iha =>
   intro α Q st hw
   refine iha (zd9 (fun e s hs=>?_) hw)
   cases e with
   | normal=>exact hs
   | exit id' =>
     simp only at hs ⊢
     by_cases hi : id' = id
     ·simp only [if_pos hi] at hs ⊢; exact hs
     ·simp only [if_neg hi] at hs ⊢; exact hs
   | ret=>exact hs
 | loop a iha =>
   intro α Q st hw
   obtain ⟨I,⟨st0,k0,hle,hI⟩,hb⟩:=hw
   have key : ∀ k s,I k s → ∃ x,awp P np (.loop a) (Q x) s:=by
    intro k
    induction k using Nat.strongRecOn with
    | ind k ihk =>
      intro s hs
      have hpre : awp P np a (fun e s'=>∃ y : { y : α × Nat × (Nat → St → Prop) // ∀ k' s',y.2.2 k' s' → awp P np a (fun e st'=>match e with | .normal=>∃ st2 k2,Le np st' st2 ∧ y.2.2 k2 st2 ∧ k2 < k' | e=>Q y.1 e st') s' },
        match e with | .normal=>∃ st2,Le np s' st2 ∧ y.1.2.2 y.1.2.1 st2 | e=>Q y.1.1 e s') s:=by
       refine zd9 (fun e s' h=>?_) (hb k s hs)
       cases e with
       | normal =>
         obtain ⟨st2,k2,h1,h2,h3⟩:=h
         obtain ⟨x,J,⟨st3,k3,h4,h5⟩,h6⟩:=ihk k2 h3 st2 h2
         exact ⟨⟨(x,k3,J),h6⟩,st3,Le.trans' h1 h4,h5⟩
       | exit id=>obtain ⟨x,h⟩:=h; exact ⟨⟨(x,0,fun _ _=>False),fun _ _ h=>h.elim⟩,h⟩
       | ret=>obtain ⟨x,h⟩:=h; exact ⟨⟨(x,0,fun _ _=>False),fun _ _ h=>h.elim⟩,h⟩
      obtain ⟨⟨⟨x,q,J⟩,hJ⟩,hy⟩:=iha hpre
      simp only at hJ hy
      refine ⟨x,fun k' s'=>J k' s' ∨ (k' = q + 1 ∧ s' = s),⟨s,q + 1,Le.refl _ _,.inr ⟨rfl,rfl⟩⟩,?_⟩
      rintro k' s' (h | ⟨rfl,rfl⟩)
      ·refine zd9 (fun e s2 h2=>?_) (hJ k' s' h)
       cases e with
       | normal=>obtain ⟨st2,k2,h1,h2,h3⟩:=h2; exact ⟨st2,k2,h1,.inl h2,h3⟩
       | exit id=>exact h2
       | ret=>exact h2
      ·refine zd9 (fun e s2 h2=>?_) hy
       cases e with
       | normal=>obtain ⟨st2,h1,h2⟩:=h2; exact ⟨st2,q,h1,.inl h2,Nat.lt_succ_self q⟩
       | exit id=>exact h2
       | ret=>exact h2
   obtain ⟨x,hx⟩:=key k0 st0 hI
   obtain ⟨J,⟨s3,k3,h4,h5⟩,h6⟩:=hx
   exact ⟨x,J,⟨s3,k3,Le.trans' hle h4,h5⟩,h6⟩
 | exit id=>intro α Q st h; exact h
 | ret=>intro α Q st h; exact h
 | bad=>intro α Q st h; exact h.elim
def zgh {α : Type} (rs : List (Nat × Option (Bool × Nat))) (np : Nat) (F : α → AV) (H : α → List (Option Ent)) (R : α → Prop) (e : zd3) (st : St) : Prop:=(e = .normal ∨ e = .ret) ∧ ∃ x,R x ∧ zak rs np st (F x) (H x)
theorem zgh.mk {α : Type} {rs : List (Nat × Option (Bool × Nat))} {np : Nat} {F : α → AV} {H : α → List (Option Ent)} {R : α → Prop} {e : zd3} {st : St} (he : e = .normal ∨ e = .ret) (x : α) (hx : R x) (h : zak rs np st (F x) (H x)) : zgh rs np F H R e st:=⟨he,x,hx,h⟩
theorem Src.acallsX {P : Program} {f : FuncId} {af : AFun} (s : Src P f af) {α : Type} (F : α → AV) (H : α → List (Option Ent)) (R : α → Prop) {args : List AV} {hs : List Ent}
  (hnt : args.length ≤ af.nt) (hn16 : hs.length ≤ 16) (hlen : ∀ x,hs.length ≤ (H x).length)
  (h : awp P hs.length af.code (zgh af.res hs.length F H R) (zg7 af args hs)) : ∃ x,R x ∧ zai P f args hs (F x) (H x):=by
 obtain ⟨⟨x,hx⟩,hw⟩:=zwH (α:={ x : α // R x }) (Q:=fun x e st=>(e = .normal ∨ e = .ret) ∧ zak af.res hs.length st (F x.1) (H x.1)) (zd9 (fun e st h=>by
  obtain ⟨h1,x,h2,h3⟩:=h
  exact ⟨⟨x,h2⟩,h1,h3⟩) h)
 exact ⟨x,hx,s.acalls hnt hn16 (hlen x) hw⟩
def idm (l : List Nat) : List (Nat × Nat):=l.map fun i=>(i,i)
def cutS (live keep sn : List Nat) (n : Nat) (st : St) : St :=
 ⟨st.sz,live.map (fun i=>(i,conv (idm keep) sn st.hp 4 (st.get i))),keep.map (fun i=>(i,(st.hp i).map (zax (idm keep) sn st.hp 4))),n⟩
def roOk (keep : List Nat) (st : St) : Prop:=∀ i ∈ keep,∀ e,st.hp i = some e → e.ro ≤ e.rows.length
def zsb (np n : Nat) (ρ : List (Nat × Nat)) (sn : List Nat) : Bool :=
 decide (ρ.map (·.1)).Nodup && decide (ρ.map (·.2)).Nodup && ρ.all (fun p=>decide (p.2 < n) && (decide (np ≤ p.2) || p.1 == p.2)) && sn.all (fun i=>decide (np ≤ i) && !(ρ.map (·.1)).contains i) && decide (np ≤ n)
theorem Le.go {np : Nat} {st st' : St} (ρ : List (Nat × Nat)) (sn : List Nat) (hsz : st'.sz = st.sz) (hside : zsb np st'.n ρ sn = true)
  (ht : ∀ p ∈ st'.t,Wk (conv ρ sn st.hp 4 (st.get p.1)) p.2) (hh : ∀ p ∈ st'.h,∃ q ∈ ρ,q.2 = p.1 ∧ (st.hp q.1).map (zax ρ sn st.hp 4) = p.2 ∧ ∀ e,p.2 = some e → e.ro ≤ e.rows.length) : Le np st st':=by
 simp only [zsb,Bool.and_eq_true,List.all_eq_true,decide_eq_true_eq,Bool.or_eq_true,beq_iff_eq,Bool.not_eq_true',List.contains_eq_mem,decide_eq_false_iff_not] at hside
 obtain ⟨⟨⟨⟨h1,h2⟩,h3⟩,h4⟩,h5⟩:=hside
 refine Le.lst ρ sn [] hsz h1 h2 (fun p hp=>⟨(h3 p hp).1,fun hlt=>?_⟩) (by simp) (fun i hi=>h4 i hi) h5 (by simp) (fun p hp=>.inl (ht p hp)) fun p hp e' he'=>?_
 ·rcases (h3 p hp).2 with h | h
  ·omega
  ·exact h
 ·obtain ⟨q,hq,hq2,hm,hr⟩:=hh p hp
  rw [he'] at hm
  cases hs : st.hp q.1 with
  | none=>rw [hs] at hm; cases hm
  | some e =>
    rw [hs] at hm
    have hm' : zax ρ sn st.hp 4 e = e':=by simpa using hm
    exact .inl ⟨q,hq,hq2,e,hs,by rw [hm']; exact zaI.rfl' (hr e' he')⟩
theorem LeH {np : Nat} {st st' : St} (ρ : List (Nat × Nat)) (sn : List Nat) (hsz : st'.sz = st.sz:=by rfl) (hside : zsb np st'.n ρ sn = true:=by rfl) (ht : ∀ p ∈ st'.t,Wk (conv ρ sn st.hp 4 (st.get p.1)) p.2:=by simp) (hh : ∀ p ∈ st'.h,∃ q ∈ ρ,q.2 = p.1 ∧ (st.hp q.1).map (zax ρ sn st.hp 4) = p.2 ∧ ∀ e,p.2 = some e → e.ro ≤ e.rows.length:=by simp) : Le np st st':=Le.go ρ sn hsz hside ht hh
theorem LeI {np : Nat} {st st' : St} (ρ : List (Nat × Nat)) (sn : List Nat) (hsz : st'.sz = st.sz:=by rfl) (hside : zsb np st'.n ρ sn = true:=by rfl) (ht : ∀ p ∈ st'.t,Wk (conv ρ sn st.hp 4 (st.get p.1)) p.2:=by simp) (hh : ∀ p ∈ st'.h,∃ q ∈ ρ,q.2 = p.1 ∧ (st.hp q.1).map (zax ρ sn st.hp 4) = p.2 ∧ ∀ e,p.2 = some e → e.ro ≤ e.rows.length:=by simp [fcd]) : Le np st st':=Le.go ρ sn hsz hside ht hh
theorem Le.cut {np : Nat} {st : St} (live keep sn : List Nat) (n : Nat) (hside : zsb np n (idm keep) sn = true) (hr : roOk keep st) : Le np st (cutS live keep sn n st):=by
 refine Le.go (idm keep) sn rfl hside (fun p hp=>?_) fun p hp=>?_
 ·obtain ⟨i,_,rfl⟩:=List.mem_map.1 hp
  exact .refl _
 ·obtain ⟨i,hi,rfl⟩:=List.mem_map.1 hp
  refine ⟨(i,i),List.mem_map.2 ⟨i,hi,rfl⟩,rfl,rfl,fun e he=>?_⟩
  simp only at he
  cases hs : st.hp i with
  | none=>rw [hs] at he; cases he
  | some e0 =>
    rw [hs] at he
    have he' : zax (idm keep) sn st.hp 4 e0 = e:=by simpa using he
    subst he'
    have:=hr i hi e0 hs
    simpa [zax] using this
theorem rx {P : Program} {np : Nat} {ops : List zbK} {Q : zd3 → St → Prop} {sz n : Nat} {t : List (Nat × AV)} {h : List (Nat × Option Ent)} {af : List (List Nat)} {b : ze0} {s : St} (live keep sn : List Nat)
  (hd : ((ops.all fun o=>o.dst.all (· < sz)) && zsb np (n + 8 * ops.length) (idm keep) sn) = true) (ho : zbe P np n 0 ops ⟨sz,t,h,n⟩ [] fun st' _=>roOk keep st' ∧ cutS live keep sn (n + 8 * ops.length) st' = s) (hq : awp P np b Q s) : awp P np (.seq (.reg false ops af) b) Q ⟨sz,t,h,n⟩:=by
 rw [Bool.and_eq_true] at hd
 refine zaa s hd.1 (zca _ _ _ _ _ _ _ (fun st' _ hc=>?_) ho) hq
 obtain ⟨h1,rfl⟩:=hc
 exact Le.cut (st:=⟨st'.sz,st'.t,st'.h,n + 8 * ops.length⟩) live keep sn _ hd.2 h1
def cutK (live keep : List Nat) (n : Nat) (st : St) : St:=⟨st.sz,live.map (fun i=>(i,st.get i)),keep.map (fun i=>(i,st.hp i)),n⟩
theorem Le.cutk {np : Nat} {st : St} (live keep : List Nat) (n : Nat) (hn : st.n ≤ n) : Le np st (cutK live keep n st) :=
 Le.keep rfl hn (fun p hp=>by obtain ⟨i,_,rfl⟩:=List.mem_map.1 hp; rfl) fun p hp e he=>by
  obtain ⟨i,_,rfl⟩:=List.mem_map.1 hp
  exact he
theorem rk {P : Program} {np : Nat} {ops : List zbK} {Q : zd3 → St → Prop} {sz n : Nat} {t : List (Nat × AV)} {h : List (Nat × Option Ent)} {af : List (List Nat)} {b : ze0} {s : St} (live keep : List Nat)
  (hd : (ops.all fun o=>o.dst.all (· < sz)) = true) (ho : zbe P np n 0 ops ⟨sz,t,h,n⟩ [] fun st' _=>cutK live keep (n + 8 * ops.length) st' = s) (hq : awp P np b Q s) : awp P np (.seq (.reg false ops af) b) Q ⟨sz,t,h,n⟩:=by
 refine zaa s hd (zca _ _ _ _ _ _ _ (fun st' _ hc=>?_) ho) hq
 subst hc
 exact Le.cutk (st:=⟨st'.sz,st'.t,st'.h,n + 8 * ops.length⟩) live keep _ (Nat.le_refl _)
@[simp] theorem zxw : idm [] = []:=(rfl)
@[simp] theorem zwS {i : Nat} {l : List Nat} : idm (i :: l) = (i,i) :: idm l:=(rfl)
@[simp] theorem zw7 {st : St} : roOk [] st = True:=by simp [roOk]
@[simp] theorem zwD {i : Nat} {l : List Nat} {st : St} : roOk (i :: l) st = ((∀ e,st.hp i = some e → e.ro ≤ e.rows.length) ∧ roOk l st):=by simp [roOk]
@[simp] theorem zw5 {live keep sn : List Nat} {n sz m : Nat} {t : List (Nat × AV)} {h : List (Nat × Option Ent)} : cutS live keep sn n ⟨sz,t,h,m⟩ = ⟨sz,live.map (fun i=>(i,conv (idm keep) sn (St.mk sz t h m).hp 4 ((St.mk sz t h m).get i))),keep.map (fun i=>(i,((St.mk sz t h m).hp i).map (zax (idm keep) sn (St.mk sz t h m).hp 4))),n⟩:=(rfl)
@[simp] theorem zw6 {live keep : List Nat} {n sz m : Nat} {t : List (Nat × AV)} {h : List (Nat × Option Ent)} : cutK live keep n ⟨sz,t,h,m⟩ = ⟨sz,live.map (fun i=>(i,(St.mk sz t h m).get i)),keep.map (fun i=>(i,(St.mk sz t h m).hp i)),n⟩:=(rfl)
abbrev pC (p : Pol) : List AV:=[ints p.seeds,ints p.table,.I p.lv]
abbrev eP (p : Pol) : AV:=.agg (pC p)
def zn5 (p : Pol) (i : Nat) : Prop:=∀ h : i < p.table.length,1 ≤ p.table[i] ∧ p.table[i] ≤ 1000 ∧ (0 < i → p.table[i] ≤ p.table[i - 1])
def zjf (n : Int) (p : Pol) : Prop:=p.seeds ≠ [] ∧ Rise p.seeds 0 (n - 1) ∧ (1 ≤ p.table.length ∧ p.table.length ≤ 8) ∧ (1 ≤ p.lv ∧ p.lv ≤ 3)
theorem zfe {n : Int} {p : Pol} : zaY n p ↔ zjf n p ∧ ∀ i,zn5 p i:=by
 unfold zaY zjf zn5
 constructor
 ·rintro ⟨a,b,c,d,e,f,g⟩; exact ⟨⟨a,b,⟨c,d⟩,e,f⟩,g⟩
 ·rintro ⟨⟨a,b,⟨c,d⟩,e,f⟩,g⟩; exact ⟨a,b,c,d,e,f,g⟩
theorem zlz (p : Pol) (d : Int) : zai Tryz.prog zgG [eP p,.I d] [] (.I (zex p d)) []:=by
 refine zo2.acalls (nbz rfl) (nbz rfl) (Nat.le_refl _) ?_
 show awp _ 0 _ _ ⟨19,[(0,eP p),(1,.I d)],[],16⟩
 refine rx (s:=?s1) [1,2] [] [16] rfl ?o1 ?q1
 case o1=>simp; rfl
 refine zaL (ι:=Unit) (fun _=>⟨19,[],[],200⟩) (fun _=>0 ≤ d ∧ (p.table.length : Int) ≤ d) ?_ fun _ hd=>?_
 ·refine zaf ?_
  refine rx (s:=?s2) [1,2,5] [] [] rfl ?o2 ?q2
  case o2=>simp; rfl
  refine zac _ rfl (fun h3=>?_) fun h3=>?_
  ·simp at h3
   refine rx (s:=?s4) [4] [] [] rfl ?o4 ?q4
   case o4=>simp; rfl
   refine zag ?_
   exact ⟨.inr rfl,zak.one (by simp [zhN h3])⟩
  simp at h3
  refine rx (s:=?s5) [1,2,8] [] [] rfl ?o5 ?q5
  case o5=>simp; rfl
  refine zac _ rfl (fun h6=>?_) fun h6=>?_
  ·simp at h6
   obtain ⟨k,rfl⟩ : ∃ k : Nat,d = k:=⟨d.toNat,by omega⟩
   have hk : k < p.table.length:=by omega
   refine rx (s:=?s7) [4] [] [] rfl ?o7 ?q7
   case o7=>simp [hk]; rfl
   refine zag ?_
   exact ⟨.inr rfl,zak.one (by simp [zex,hk,show ¬ ((k : Int) < 0) by omega])⟩
  simp at h6
  refine zae ?_
  exact ⟨(),⟨h3,h6⟩,Le.keep rfl (nbz rfl) (by simp) (by simp)⟩
 refine rx (s:=?s8) [4] [] [] rfl ?o8 ?q8
 case o8=>simp; rfl
 refine zag ?_
 have h1 : zex p d = 1:=by
  unfold zex
  rw [if_neg (by omega),List.getD_eq_getElem?_getD,List.getElem?_eq_none (by omega)]
  rfl
 exact ⟨.inr rfl,zak.one (by simp [h1])⟩
theorem zpK (p : Pol) (d : Int) : zai Tryz.prog zj7 [eP p,.I d] [] (.I (zex p d)) []:=by
 refine ztM.acalls (nbz rfl) (nbz rfl) (Nat.le_refl _) ?_
 show awp _ 0 _ _ ⟨17,[(0,eP p),(1,.I d)],[],16⟩
 refine rx (s:=?s1) [1,2] [] [16] rfl ?o1 ?q1
 case o1=>simp; rfl
 refine zab ?_
 refine rx (s:=?s2) [1,2,6] [] [] rfl ?o2 ?q2
 case o2=>simp; rfl
 refine zac _ rfl (fun h3=>?_) fun h3=>?_
 ·simp at h3
  refine rx (s:=?s4) [4] [] [] rfl ?o4 ?q4
  case o4=>simp; rfl
  refine zag ?_
  exact ⟨.inr rfl,zak.one (by simp [zhN h3])⟩
 simp at h3
 refine zae ?_
 refine zab ?_
 refine rx (s:=?s5) [1,2,11] [] [] rfl ?o5 ?q5
 case o5=>simp; rfl
 refine zac _ rfl (fun h6=>?_) fun h6=>?_
 ·simp at h6
  obtain ⟨k,rfl⟩ : ∃ k : Nat,d = k:=⟨d.toNat,by omega⟩
  have hk : k < p.table.length:=by omega
  refine rx (s:=?s7) [4] [] [] rfl ?o7 ?q7
  case o7=>simp [hk]; rfl
  refine zag ?_
  exact ⟨.inr rfl,zak.one (by simp [zex,hk,show ¬ ((k : Int) < 0) by omega])⟩
 simp at h6
 refine zae ?_
 refine rx (s:=?s8) [4] [] [] rfl ?o8 ?q8
 case o8=>simp; rfl
 refine zag ?_
 have h1 : zex p d = 1:=by
  unfold zex
  rw [if_neg (by omega),List.getD_eq_getElem?_getD,List.getElem?_eq_none (by omega)]
  rfl
 exact ⟨.inr rfl,zak.one (by simp [h1])⟩
open Classical in
theorem zck (g : Gr) (p : Pol) (hl : g.edges.length ≤ 140737488355328) (hl2 : g.gone.length ≤ 140737488355328) (hs : p.seeds.length ≤ 140737488355328) (ht : p.table.length ≤ 140737488355328) :
  zai Tryz.prog zbN [eG g,eP p] [] (.I (if GrOk g then if zaY g.size p then 0 else 15 else 14)) []:=by
 refine zkC.acalls (nbz rfl) (nbz rfl) (Nat.le_refl _) ?_
 show awp _ 0 _ _ ⟨65,[(0,eG g),(1,eP p)],[],16⟩
 refine rx (s:=?s1) [2,3] [] [16,24] rfl ?o1 ?q1
 case o1=>simp; rfl
 refine zab ?_
 refine rx (s:=?s2) [2,3,5] [] [] rfl ?o2 ?q2
 case o2=>simp; refine zaj (zeZ g hl hl2) (by simp) ?_; simp; rfl
 refine rx (s:=?s3) [2,3,5,11] [] [] rfl ?o3 ?q3
 case o3=>simp; rfl
 refine zac _ rfl (fun h4=>?_) fun h4=>?_
 ·simp at h4
  refine rx (s:=?s5) [4] [] [] rfl ?o5 ?q5
  case o5=>simp; rfl
  refine zag ?_
  exact ⟨.inr rfl,zak.one (by simp [h4])⟩
 simp at h4
 have hg0:=h4.1.1
 have hg1:=h4.1.2.1
 refine zae ?_
 refine zab ?_
 refine zaa ⟨65,[(3,.pv (pC p)),(38,.B (decide (¬ zjf g.size p)))],[],288⟩ rfl ?_ ?_
 ·simp
  repeat' first
   | (refine zd1 zbo rfl ?_; have hw : IntKind.i64.wrap (g.size - 1) = g.size - 1:=w64 (by omega) (by omega); rw [hw]; refine zaj (zeh _ _ _ hs) rfl ?_; simp)
   | (refine zd1 zaQ rfl ?_; refine zaj (zbs ..) rfl ?_; simp)
   | (refine zb5 (fun hb=>?_) (fun hb=>?_) <;> (try rw [hb]) <;> (try simp at hb) <;> simp [hb])
  all_goals exact Le.snap [] rfl rfl (by simp; first | exact wkB (by (try simp at *); grind [zjf]) | exact ⟨by rw [show pC p = [.vs 1 false [],ints p.table,.I p.lv] by simp [pC,ints,hb]]; exact .refl _,wkB (by (try simp at *); grind [zjf])⟩)
 refine zac _ rfl (fun h7=>?_) fun h7=>?_
 ·simp at h7
  refine rx (s:=?s8) [4] [] [] rfl ?o8 ?q8
  case o8=>simp; rfl
  refine zag ?_
  exact ⟨.inr rfl,zak.one (by simp [h4,zfe,h7])⟩
 simp at h7
 refine zae ?_
 refine zab ?_
 refine rx (s:=?s9) [3,40,41,42] [] [] rfl ?o9 ?q9
 case o9=>simp; rfl
 refine zaf ?_
 refine zao (ι:=Nat) (fun i=>⟨65,[(3,.pv (pC p)),(40,ints p.table),(41,.I p.table.length),(42,.I i)],[],320⟩) (fun i=>i ≤ p.table.length ∧ ∀ k,k < i → zn5 p k) (fun i=>p.table.length - i) 0 (by simp) (LeH [] []) ?_
 rintro i ⟨hi,hp⟩
 refine rx (s:=?s10) [3,40,41,42,43] [] [] rfl ?o10 ?q10
 case o10=>simp; rfl
 refine zab ?_
 refine zac _ rfl (fun h11=>?_) fun h11=>?_
 ·simp at h11
  have hw2 : IntKind.i64.wrap ((i : Int) + 1) = (i : Int) + 1:=w64 (by omega) (by omega)
  have hwp : 0 < i → IntKind.i64.wrap ((i : Int) - 1) = ((i - 1 : Nat) : Int):=fun h=>by rw [w64 (by omega) (by omega)]; omega
  have h11' : i - 1 < p.table.length:=by omega
  refine zae ?_
  refine zab ?_
  refine zaf ?_
  refine rx (s:=?s12) [3,6,7,40,41,42] [] [] rfl ?o12 ?q12
  case o12=>simp [h11]; rfl
  refine zaa ⟨65,[(3,.pv (pC p)),(40,ints p.table),(41,.I p.table.length),(42,.I i),(63,.B (decide (¬ zn5 p i)))],[],504⟩ rfl ?_ ?_
  ·simp
   repeat' first
    | (refine zd1 zaQ rfl ?_; refine zaj (zbs ..) rfl ?_; simp)
    | (refine zb5 (fun hb=>?_) (fun hb=>?_) <;> (try rw [hb]) <;> (try simp at hb) <;> simp [hb,h11,h11',hwp])
   all_goals exact Le.snap [] rfl rfl (by simp; exact wkB (by (try simp at *); grind [zn5]))
  refine zac _ rfl (fun h14=>?_) fun h14=>?_
  ·refine rx (s:=?s15) [4] [] [] rfl ?o15 ?q15
   case o15=>simp; rfl
   refine zag ?_
   have hn : ¬ zaY g.size p:=fun h=>by simp at h14; exact h14 ((zfe.1 h).2 i)
   exact ⟨.inr rfl,zak.one (by simp [h4,hn])⟩
  simp at h14
  refine zae ?_
  refine zad (s:=?s16) rfl ?o16 ?q16
  case o16=>simp; rfl
  refine ⟨i + 1,⟨h11,fun k hk=>?_⟩,?_,Le.go [] [] rfl rfl (by simp [hw2]) (by simp)⟩
  ·rcases Nat.lt_succ_iff_lt_or_eq.1 hk with h | rfl
   ·exact hp k h
   ·exact h14
  ·omega
 simp at h11
 have hy : zaY g.size p:=zfe.2 ⟨h7,fun k hk=>hp k (by omega) hk⟩
 refine zan ?_
 refine hit ?_
 refine rx (s:=?s17) [4] [] [] rfl ?o17 ?q17
 case o17=>simp; rfl
 refine zag ?_
 exact ⟨.inr rfl,zak.one (by simp [h4,hy])⟩
end Go.Proofs.YthmaflecfppoiaaGreat
