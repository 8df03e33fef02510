/- Texts of this claim,merged. -/
import Derived.Test.YthmaflecfppoiaaGreatRn15
import Derived.Test.YthmaflecfppoiaaGreatRn14
import Derived.Test.YthmaflecfppoiaaGreatRn9
import Derived.Test.YthmaflecfppoiaaGreatRn6
import Derived.Test.YthmaflecfppoiaaGreatRn7
set_option linter.unusedSimpArgs false
set_option linter.unusedVariables false
set_option linter.unusedSectionVars false
namespace Go.Proofs.YthmaflecfppoiaaGreat
open Go
theorem zl3 {o a r : List Int} (hn : o.Nodup) (h : za1 o a r = true) : o.Perm (a ++ r) :=
 zcf hn (fun x hx=>List.mem_append.2 (zk6 h x hx)) (by rw [zjV h,List.length_append]; exact Nat.le_refl _)
theorem zne {g : Gr} (hg : GrOk g) (p : Pol) : (ordL (zal g p.lv) p.seeds).length ≤ 64:=by
 have hsz:=hg.1.1
 have hsz2:=hg.1.2.1
 have hr : ∀ x ∈ ordL (zal g p.lv) p.seeds,0 ≤ x ∧ x < g.size:=fun x hx=>by have h:=zcg hx; exact h
 have:=zbC (b:=(List.range g.size.toNat).map fun i : Nat=>(i : Int)) (zbj (zal g p.lv) p.seeds) fun x hx=>by
  have:=hr x hx
  exact List.mem_map.2 ⟨x.toNat,List.mem_range.2 (by omega),by omega⟩
 rw [List.length_map,List.length_range] at this
 omega
set_option maxRecDepth 100000 in
set_option maxHeartbeats 4000000 in
open Classical in
theorem zjw (g : Gr) (p : Pol) (acc f : List Int) (R : List (Int × List Int)) (hg : GrOk g) (hp : za0 g.size p) (hs : p.seeds.length ≤ 64) (hN : g.size < 20) (ha : acc.length ≤ 1000) (hR : R.length ≤ 1000) (hf : f.length ≤ 1099511627776) (hsd : ∀ r ∈ R,r.2.length ≤ 9223372036854775807) :
  zai Tryz.prog zbd [eG g,eP p,eAcc acc f R] [] (.I (zia g p acc f R)) []:=by
 have hsz:=hg.1.1
 have hsz2:=hg.1.2.1
 have hel:=hg.edges_le
 have hgl:=hg.gone_le
 have hchk:=zdl g p (by omega) (by omega) (by omega) (by have:=hp.2.2.2.1; omega)
 rw [if_pos hg,if_pos hp] at hchk
 have hord:=zgk g p hg hN (by omega)
 have hol:=zne hg p
 unfold zia
 obtain ⟨o,ho⟩ : ∃ o,o = ordL (zal g p.lv) p.seeds:=⟨_,rfl⟩
 have hor : ∀ k ∈ o,0 ≤ k ∧ k < g.size:=fun k hk=>by rw [ho] at hk; have h:=zcg hk; exact h
 have hon : o.Nodup:=by rw [ho]; exact zbj _ _
 rw [← ho] at hord hol ⊢
 obtain ⟨L,hL,hpart⟩:=zj0 o acc f R (by omega) ha hR
 refine zmW.acalls (nbz rfl) (nbz rfl) (Nat.le_refl _) ?_
 show awp _ 0 _ _ ⟨80,[(0,eG g),(1,eP p),(2,eAcc acc f R)],[],16⟩
 refine zaa ⟨80,[(3,.pv (gC g)),(4,.pv (pC p)),(5,.pv [ints acc,ints f,.vs 2 false (zaJ R)])],[],60⟩ rfl ?_ ?_
 ·simp
  exact LeH [] [16,24,32]
 refine zab ?_
 refine rx (s:=?s2) [3,4,5,7] [] [] rfl ?o2 ?q2
 case o2=>simp; refine zaj hchk (by simp) ?_; simp; rfl
 refine rx (s:=?s3) [3,4,5,18] [] [] rfl ?o3 ?q3
 case o3=>simp; rfl
 refine zac _ rfl (fun h=>by cases h) fun _=>?_
 refine zae ?_
 refine zan ⟨80,[(3,.pv (gC g)),(4,.pv (pC p)),(5,.pv [ints acc,ints f,.vs 2 false (zaJ R)]),(8,ints L),(9,.B (za1 o acc (zaT R)))],[],300⟩ rfl ?_ ?_
 ·simp
  refine zaW hord (by simp) ?_
  simp
  refine zpb [124] (by simp) hpart (by simp [fcd,zap]) ?_
  simp
  exact ⟨rfl,LeH [] []⟩
 refine zab ?_
 refine zaa ⟨80,[(3,.pv (gC g)),(4,.pv (pC p)),(5,.pv [ints acc,ints f,.vs 2 false (zaJ R)]),(8,ints L),(29,.B (!za1 o acc (zaT R)))],[],400⟩ rfl ?_ ?_
 ·simp
  exact LeH [] []
 refine zac _ rfl (fun h8=>?_) fun h8=>?_
 ·have h8' : ¬ za1 o acc (zaT R) = true:=by simpa using h8
  rw [if_neg h8']
  refine rx (s:=?s9) [6] [] [] rfl ?o9 ?q9
  case o9=>simp; rfl
  refine zag ?_
  exact ⟨.inr rfl,zak.one (by simp)⟩
 have h8' : za1 o acc (zaT R) = true:=by simpa using h8
 rw [if_pos h8']
 have hL:=hL h8'
 have hsub:=zf5 h8'
 have hperm:=(zl3 hon h8').nodup_iff.1 hon
 have hkl : (zaT R).length = R.length:=by simp [zaT]
 have hrk : ∀ k ∈ zaT R,0 ≤ k ∧ k < g.size:=fun k hk=>hor k (hsub.2.subset hk)
 have hak : ∀ k ∈ acc,0 ≤ k ∧ k < g.size:=fun k hk=>hor k (hsub.1.subset hk)
 have han : acc.Nodup:=(List.nodup_append.1 hperm).1
 have hnet:=zce g p acc hg hp han hak hs
 have hnv : ∀ a : List Int,(∀ x ∈ a,0 ≤ x ∧ x < g.size) → za3 ⟨netN g,netA g p (zaw a)⟩:=fun a h=>zfl hg hp (zgx (zc4 h)) hs (zbm a)
 have hval:=zhX (f:=f) (hnv acc hak) hf
 have hvv:=zh0 (f:=f) (hnv acc hak) hf
 have hcut:=zkt (g:=g) (p:=p) (b:=[]) h8'
 obtain ⟨A,hA⟩ : ∃ A,A = netA g p (zaw acc):=⟨_,rfl⟩
 rw [← hA] at hnet hval hvv
 rw [← hA]
 refine zae ?_
 refine zab ?_
 refine zaa ⟨80,[(3,.pv (gC g)),(4,.pv (pC p)),(5,.pv [ints acc,ints f,.vs 2 false (zaJ R)]),(8,ints L),(10,.pv (nC ⟨netN g,A⟩))],[],500⟩ rfl ?_ ?_
 ·simp
  refine zaj hnet (by simp) ?_
  simp
  exact LeH [] [440]
 refine zan ⟨80,[(3,.pv (gC g)),(4,.pv (pC p)),(5,.pv [ints acc,ints f,.vs 2 false (zaJ R)]),(8,ints L),(49,.B (!decide (zaA (netN g) A f ∧ valF A f = acc.length)))],[],700⟩ rfl ?_ ?_
 ·by_cases hfo : zaA (netN g) A f
  ·rw [decide_eq_true hfo] at hval
   rw [if_pos hfo] at hvv
   simp
   refine zaj hval (by simp) ?_
   simp
   refine zaj hvv (by simp) ?_
   simp
   exact ⟨rfl,Le.go [] [] rfl rfl (by simp [hfo] <;> exact wkB (by rw [Bool.eq_iff_iff]; simp)) (by simp)⟩
  ·rw [decide_eq_false hfo] at hval
   simp
   refine zaj hval (by simp) ?_
   simp
   exact ⟨rfl,Le.go [] [] rfl rfl (by simp [hfo]) (by simp)⟩
 refine zac _ rfl (fun h12=>?_) fun h12=>?_
 ·have h12' : ¬ (zaA (netN g) A f ∧ valF A f = acc.length):=fun h=>by rw [decide_eq_true h] at h12; cases h12
  rw [if_neg h12']
  refine rx (s:=?s13) [6] [] [] rfl ?o13 ?q13
  case o13=>simp; rfl
  refine zag ?_
  exact ⟨.inr rfl,zak.one (by simp)⟩
 have h12' : zaA (netN g) A f ∧ valF A f = acc.length:=by simpa using h12
 rw [if_pos h12']
 refine zae ?_
 refine zab ?_
 refine rx (s:=?s14) [3,4,5,8,51,52,53] [] [] rfl ?o14 ?q14
 case o14=>simp; rfl
 refine zaf ?_
 refine zao (ι:=Nat) (fun i=>⟨80,[(3,.pv (gC g)),(4,.pv (pC p)),(5,.pv [ints acc,ints f,.vs 2 false (zaJ R)]),(8,ints L),(51,.vs 2 false (zaJ R)),(52,.I R.length),(53,.I i)],[],800⟩)
  (fun i=>i ≤ R.length ∧ ∀ j (h : j < R.length),j < i → zgi g p ([] ++ acc.take ((zbM 0 o acc (zaT R)).getD j 0 - 0)) R[j]) (fun i=>R.length - i) 0 ⟨Nat.zero_le _,fun j _ h=>absurd h (Nat.not_lt_zero _)⟩ (LeH [] []) ?_
 rintro i ⟨hi,hpre⟩
 refine rx (s:=?s15) [3,4,5,8,51,52,53,54] [] [] rfl ?o15 ?q15
 case o15=>simp; rfl
 refine zab ?_
 refine zac _ rfl (fun h16=>?_) fun h16=>?_
 ·simp at h16
  have hw1 : IntKind.i64.wrap ((i : Int) + 1) = (i : Int) + 1:=w64 (by omega) (by omega)
  have hail : i < (zbM 0 o acc (zaT R)).length:=by rw [zgF h8',hkl]; exact h16
  have hage:=zhJ (List.getElem_mem hail)
  have hgd : (zbM 0 o acc (zaT R)).getD i 0 = (zbM 0 o acc (zaT R))[i]:=by rw [List.getD_eq_getElem?_getD,List.getElem?_eq_getElem hail,Option.getD_some]
  obtain ⟨m,hm⟩ : ∃ m,m = (zbM 0 o acc (zaT R))[i]:=⟨_,rfl⟩
  rw [← hm] at hage hgd
  have hLi : L[i]? = some (m : Int):=by rw [hL,List.getElem?_map,List.getElem?_eq_getElem hail,← hm]; rfl
  have hiL : i < L.length:=(List.getElem?_eq_some_iff.1 hLi).1
  have hLi' : L[i] = (m : Int):=by rw [List.getElem?_eq_getElem hiL] at hLi; exact Option.some.inj hLi
  have hgoal : zgi g p ([] ++ acc.take ((zbM 0 o acc (zaT R)).getD i 0 - 0)) R[i] ↔ zgi g p (acc.take m) R[i]:=by rw [hgd,Nat.sub_zero,List.nil_append]
  have hsdi:=hsd _ (List.getElem_mem h16)
  obtain ⟨r,hr⟩ : ∃ r,r = R[i]:=⟨_,rfl⟩
  have hrm : r.1 ∈ zaT R:=by rw [hr]; exact List.mem_map.2 ⟨_,List.getElem_mem h16,rfl⟩
  rw [← hr] at hgoal hsdi
  have htl : (acc.take m).length = m:=by rw [List.length_take]; omega
  have hks : ∀ x ∈ acc.take m ++ [r.1],0 ≤ x ∧ x < g.size:=fun x hx=>by
   rcases List.mem_append.1 hx with h | h
   ·exact hak x (List.mem_of_mem_take h)
   ·rw [List.mem_singleton] at h; subst h; exact hrk _ hrm
  have hkn : (acc.take m ++ [r.1]).Nodup:=List.nodup_append.2 ⟨han.sublist (List.take_sublist _ _),by simp,fun a ha b hb=>by
   rw [List.mem_singleton] at hb
   subst hb
   exact (List.nodup_append.1 hperm).2.2 a (List.mem_of_mem_take ha) _ hrm⟩
  have hwith:=zg4 (acc.take m) r.1 (by omega)
  have hnet2:=zce g p (acc.take m ++ [r.1]) hg hp hkn hks hs
  have hprv:=zlr ⟨netN g,netA g p (zaw (acc.take m ++ [r.1]))⟩ r.2 m (by have:=(hnv _ hks).2.2.1; simp only at this ⊢; omega) hsdi
  have hpd : decide (zcV ⟨netN g,netA g p (zaw (acc.take m ++ [r.1]))⟩ r.2 m) = decide (zgi g p (acc.take m) r):=by
   unfold zgi
   rw [htl]
  rw [hpd] at hprv
  rw [htl] at hwith
  obtain ⟨W,hW⟩ : ∃ W,W = acc.take m ++ [r.1]:=⟨_,rfl⟩
  have hWl : W.length = m + 1:=by rw [hW,List.length_append,htl]; rfl
  rw [← hW] at hwith hnet2 hprv
  rw [← hWl] at hwith
  obtain ⟨A2,hA2⟩ : ∃ A2,A2 = netA g p (zaw W):=⟨_,rfl⟩
  rw [← hA2] at hnet2 hprv
  have hw2 : IntKind.i64.wrap ((W.length : Int) - 1) = (m : Int):=by rw [hWl,w64 (by omega) (by omega)]; omega
  have hma : m ≤ acc.length:=by omega
  refine zae ?_
  refine zab ?_
  refine zaf ?_
  refine zaa ⟨80,[(3,.pv (gC g)),(4,.pv (pC p)),(5,.pv [ints acc,ints f,.vs 2 false (zaJ R)]),(8,ints L),(11,.I i),(12,.pv [.I r.1,ints r.2]),(51,.vs 2 false (zaJ R)),(52,.I R.length),(53,.I i)],[],1000⟩ rfl ?_ ?_
  ·simp [h16,← hr]
   exact LeH [] [832]
  refine zan ⟨80,[(3,.pv (gC g)),(4,.pv (pC p)),(5,.pv [ints acc,ints f,.vs 2 false (zaJ R)]),(8,ints L),(12,.pv [.I r.1,ints r.2]),(13,ints W),(51,.vs 2 false (zaJ R)),(52,.I R.length),(53,.I i)],[],1200⟩ rfl ?_ ?_
  ·simp [hiL,hLi',hma]
   refine zaW hwith (by simp [List.map_take]) ?_
   simp
   exact ⟨rfl,Le.go [] [1072] rfl rfl (by simp [fcd,zap]) (by simp)⟩
  refine zan ⟨80,[(3,.pv (gC g)),(4,.pv (pC p)),(5,.pv [ints acc,ints f,.vs 2 false (zaJ R)]),(8,ints L),(51,.vs 2 false (zaJ R)),(52,.I R.length),(53,.I i),(78,.B (!decide (zgi g p (acc.take m) r)))],[],1400⟩ rfl ?_ ?_
  ·simp
   refine zaj hnet2 (by simp) ?_
   simp [hw2]
   refine zaj hprv (by simp) ?_
   simp
   exact ⟨rfl,LeH [] []⟩
  refine zac _ rfl (fun h20=>?_) fun h20=>?_
  ·have h20' : ¬ zgi g p (acc.take m) r:=by simpa using h20
   have hno : ¬ zda g p [] o acc R:=fun h=>h20' (hgoal.1 (by rw [hr]; exact hcut.1 h i h16))
   rw [if_neg hno]
   refine rx (s:=?s21) [6] [] [] rfl ?o21 ?q21
   case o21=>simp; rfl
   refine zag ?_
   exact ⟨.inr rfl,zak.one (by simp)⟩
  have h20' : zgi g p (acc.take m) r:=by simpa using h20
  refine zae ?_
  refine zar rfl ?_
  simp
  refine ⟨i + 1,⟨h16,fun j hj hji=>?_⟩,by omega,Le.go [] [] rfl rfl (by simp [hw1]) (by simp)⟩
  rcases Nat.lt_succ_iff_lt_or_eq.1 hji with h | h
  ·exact hpre j hj h
  ·subst h
   have h5:=hgoal.2 h20'
   rw [hr] at h5
   exact h5
 simp at h16
 obtain rfl : i = R.length:=by omega
 have hyes : zda g p [] o acc R:=hcut.2 fun j hj=>hpre j hj hj
 rw [if_pos hyes]
 refine zam ?_
 refine hit ?_
 refine rx (s:=?s22) [6] [] [] rfl ?o22 ?q22
 case o22=>simp; rfl
 refine zag ?_
 exact ⟨.inr rfl,zak.one (by simp)⟩
open Classical in
theorem zky (g : Gr) (p : Pol) (acc f : List Int) (R : List (Int × List Int)) (hg : GrOk g) (hp : za0 g.size p) (hs : p.seeds.length ≤ 64) (hN : g.size < 20) (ha : acc.length ≤ 1000) (hR : R.length ≤ 1000) (hf : f.length ≤ 1099511627776) (hsd : ∀ r ∈ R,r.2.length ≤ 140737488355328) : zai Tryz.prog zbd [eG g,eP p,eAcc acc f R] [] (.I (zia g p acc f R)) [] :=
 zjw g p acc f R hg hp hs hN ha hR hf (fun r hr=>by have:=hsd r hr; omega)
variable {N : Nat} {A : List Ed} {f : List Int}
theorem zqG (hl : f.length = A.length) (x : Int) : ∀ i,i ≤ A.length → (∀ j (h : j < f.length),j < i → 0 ≤ f[j] ∧ f[j] ≤ 1048576) → -(1048576 * (i : Int)) ≤ netG A f i x ∧ netG A f i x ≤ 1048576 * (i : Int)
 | 0,_,_=>by rw [zgj]; omega
 | i + 1,h,hb=>by
   have ih:=zqG hl x i (by omega) fun j h1 h2=>hb j h1 (by omega)
   have h2:=hb i (by omega) (by omega)
   rw [zf3 (by omega) (by omega)]
   split <;> split <;> omega
set_option maxRecDepth 100000 in
set_option maxHeartbeats 4000000 in
open Classical in
theorem zg2 (hn : za3 ⟨N,A⟩) (hfl0 : f.length ≤ 1099511627776) : zai Tryz.prog zdB [eN ⟨N,A⟩,ints f] [] (.B (decide (zaA N A f))) []:=by
 refine zjh.acalls (nbz rfl) (nbz rfl) (Nat.le_refl _) ?_
 show awp _ 0 _ _ ⟨87,[(0,eN ⟨N,A⟩),(1,ints f)],[],16⟩
 have hchk:=zdq ⟨N,A⟩ (by have:=hn.2.2.1; simp only at this ⊢; omega)
 rw [if_pos hn] at hchk
 obtain ⟨hn0,hn1,hal,hav⟩:=hn
 simp only at hn0 hn1 hal hav
 refine rx (s:=?s1) [1,2] [] [16] rfl ?o1 ?q1
 case o1=>simp; rfl
 refine zab ?_
 refine zaa ⟨87,[(1,ints f),(2,.pv (nC ⟨N,A⟩)),(18,.B (!decide (f.length = A.length)))],[],120⟩ rfl ?_ ?_
 ·simp
  refine zaj hchk (by simp) ?_
  simp
  exact Le.snap [] rfl rfl (by simp <;> exact wkB (by rw [Bool.eq_iff_iff]; simp <;> omega))
 refine zac _ rfl (fun h3=>?_) fun h3=>?_
 ·have h3' : ¬ f.length = A.length:=by simpa using h3
  have hno : ¬ zaA N A f:=fun h=>h3' (zcK.1 h).1
  refine rx (s:=?s3) [4] [] [] rfl ?o3 ?q3
  case o3=>simp; rfl
  refine zag ?_
  exact ⟨.inr rfl,zak.one (by simp [hno])⟩
 have hfl : f.length = A.length:=by simpa using h3
 refine zae ?_
 refine zaa ⟨87,[(1,ints f),(2,.pv (nC ⟨N,A⟩)),(5,.rs 136 0 N)],[(136,some ⟨1,zah (rowR N (netG A f 0)),0⟩)],144⟩ rfl ?_ ?_
 ·simp
  refine ⟨by omega,by omega,?_⟩
  have : rowR N (netG A f 0) = List.replicate N 0:=by
   unfold rowR
   simp only [zgj]
   simp [List.map_const']
  rw [this]
  exact LeH [(136,136)] []
 refine zab ?_
 refine zaa ⟨87,[(1,ints f),(2,.pv (nC ⟨N,A⟩)),(5,.rs 136 0 N),(6,.I 0)],[(136,some ⟨1,zah (rowR N (netG A f 0)),0⟩)],160⟩ rfl ?_ ?_
 ·simp
  exact LeI [(136,136)] []
 refine zaf ?_
 refine zao (ι:=Nat) (fun i=>⟨87,[(1,ints f),(2,.pv (nC ⟨N,A⟩)),(5,.rs 136 0 N),(6,.I i)],[(136,some ⟨1,zah (rowR N (netG A f i)),0⟩)],160⟩) (fun i=>i ≤ A.length ∧ ∀ k,k < i → zlO A f k) (fun i=>A.length - i) 0 ⟨Nat.zero_le _,fun k h=>absurd h (Nat.not_lt_zero _)⟩ (LeI [(136,136)] []) ?_
 rintro i ⟨hi,hp⟩
 have hfb : ∀ j (h : j < f.length),j < i → 0 ≤ f[j] ∧ f[j] ≤ 1048576:=fun j hj hji=>by
  have h1:=hp j hji
  unfold zlO at h1
  have e1 : f.getD j 0 = f[j]:=by rw [List.getD_eq_getElem?_getD,List.getElem?_eq_getElem hj,Option.getD_some]
  have e2 : arcD A j = A[j]'(by omega):=by unfold arcD; rw [List.getD_eq_getElem?_getD,List.getElem?_eq_getElem (by omega),Option.getD_some]
  rw [e1,e2] at h1
  have h2:=(hav _ (List.getElem_mem (show j < A.length by omega))).2.2.2.2.2.2.2.2
  omega
 have hbd:=fun x=>zqG hfl x i hi hfb
 refine zab ?_
 refine zaa ⟨87,[(1,ints f),(2,.pv (nC ⟨N,A⟩)),(5,.rs 136 0 N),(6,.I i),(25,.B (decide (i < f.length)))],[(136,some ⟨1,zah (rowR N (netG A f i)),0⟩)],192⟩ rfl ?_ ?_
 ·simp
  exact LeI [(136,136)] []
 refine zac _ rfl (fun h8=>?_) fun h8=>?_
 ·simp at h8
  have hiA : i < A.length:=by omega
  have hw1 : IntKind.i64.wrap ((i : Int) + 1) = (i : Int) + 1:=w64 (by omega) (by omega)
  have heo:=hav _ (List.getElem_mem hiA)
  have hsucc:=zf3 hiA h8
  have hbe:=hbd
  obtain ⟨e,he⟩ : ∃ e,e = A[i]:=⟨_,rfl⟩
  obtain ⟨w,hw⟩ : ∃ w,w = f[i]:=⟨_,rfl⟩
  rw [← he,← hw] at hsucc
  rw [← he] at heo
  obtain ⟨e1,e2,e3,e4,e5,e6,e7,e8,b3⟩:=heo
  have hfa : zlO A f i ↔ 0 ≤ w ∧ w ≤ e.v:=by
   unfold zlO arcD
   rw [List.getD_eq_getElem?_getD,List.getElem?_eq_getElem h8,Option.getD_some,List.getD_eq_getElem?_getD,List.getElem?_eq_getElem hiA,Option.getD_some,he,hw]
  have hg1 : A[i]? = some e:=by rw [List.getElem?_eq_getElem hiA,he]
  have hg2 : f[i]? = some w:=by rw [List.getElem?_eq_getElem h8,hw]
  have h2N : e.f < (N : Int) ∧ e.t < (N : Int):=by omega
  have h1:=hbe e.f
  have h2:=hbe e.t
  have hr1:=zc7 (N:=N) (g:=netG A f i) (x:=e.f) e1 (by omega)
  have hs1:=zgI (N:=N) (g:=netG A f i) (x:=e.f) (v:=netG A f i e.f - w) e1 (by omega)
  obtain ⟨g1,hg1d⟩ : ∃ g1 : Int → Int,g1 = fun y=>if y = e.f then netG A f i e.f - w else netG A f i y:=⟨_,rfl⟩
  rw [← hg1d] at hs1
  have hg1t : g1 e.t = netG A f i e.t:=by rw [hg1d]; exact if_neg fun h=>e5 h.symm
  have hr2:=zc7 (N:=N) (g:=g1) (x:=e.t) e3 (by omega)
  rw [hg1t] at hr2
  have hs2:=zgI (N:=N) (g:=g1) (x:=e.t) (v:=netG A f i e.t + w) e3 (by omega)
  have hend : (rowR N fun y=>if y = e.t then netG A f i e.t + w else g1 y) = rowR N (netG A f (i + 1)):=zgN fun x=>by
   rw [hsucc,hg1d]
   simp only
   by_cases h3 : x = e.t
   ·rw [h3,if_pos rfl,if_pos rfl,if_neg e5]
    omega
   ·by_cases h4 : x = e.f
    ·rw [if_neg h3,if_pos h4,if_neg fun h=>h3 h.symm,if_pos h4.symm,h4]
     omega
    ·rw [if_neg h3,if_neg h4,if_neg fun h=>h3 h.symm,if_neg fun h=>h4 h.symm]
     omega
  rw [hend] at hs2
  refine zae ?_
  refine zaL (ι:=Unit) (fun _=>⟨87,[(1,ints f),(2,.pv (nC ⟨N,A⟩)),(5,.rs 136 0 N),(6,.I i)],[(136,some ⟨1,zah (rowR N (netG A f (i + 1))),0⟩)],1000⟩) (fun _=>zlO A f i) ?_ fun _ hfit=>?_
  ·refine zaf ?_
   refine zab ?_
   refine zan ⟨87,[(1,ints f),(2,.pv (nC ⟨N,A⟩)),(5,.rs 136 0 N),(6,.I i),(45,.B (!decide (0 ≤ w ∧ w ≤ e.v)))],[(136,some ⟨1,zah (rowR N (netG A f i)),0⟩)],500⟩ rfl ?_ ?_
   ·simp [hg1,hg2,hiA,h8,← he,← hw]
    refine zb1 (fun hb=>?_) (fun hb=>?_) <;> (try rw [hb]) <;> (try simp at hb) <;> simp [hb,hg1,hg2,hiA,h8,← he,← hw]
    ·exact ⟨rfl,Le.go [(136,136)] [] rfl rfl (by simp <;> exact wkB (by rw [Bool.eq_iff_iff]; simp <;> omega)) (by simp [fcd])⟩
    ·exact ⟨rfl,Le.go [(136,136)] [] rfl rfl (by simp <;> exact wkB (by rw [Bool.eq_iff_iff]; simp <;> omega)) (by simp [fcd])⟩
   refine zac _ rfl (fun h45=>?_) fun h45=>?_
   ·have h45' : ¬ (0 ≤ w ∧ w ≤ e.v):=fun h=>by rw [decide_eq_true h] at h45; cases h45
    have hno : ¬ zaA N A f:=fun h=>h45' (hfa.1 ((zcK.1 h).2.1 i hiA))
    refine rx (s:=?s46) [4] [] [] rfl ?o46 ?q46
    case o46=>simp; rfl
    refine zag ?_
    exact ⟨.inr rfl,zak.one (by simp [hno])⟩
   have h45' : 0 ≤ w ∧ w ≤ e.v:=Decidable.byContradiction fun h=>by rw [decide_eq_false h] at h45; cases h45
   obtain ⟨b1,b2⟩:=h45'
   have hwx : IntKind.i64.wrap (netG A f i e.f - w) = netG A f i e.f - w:=w64 (by omega) (by omega)
   have hwy : IntKind.i64.wrap (netG A f i e.t + w) = netG A f i e.t + w:=w64 (by omega) (by omega)
   refine zae ?_
   refine zan ⟨87,[(1,ints f),(2,.pv (nC ⟨N,A⟩)),(5,.rs 136 0 N),(6,.I i)],[(136,some ⟨1,zah (rowR N g1),0⟩)],700⟩ rfl ?_ ?_
   ·simp [hg1,hg2,hiA,h8,← he,← hw,hr1,e1,h2N,hwx,zau]
    exact ⟨rfl,Le.go [(136,136)] [] rfl rfl (by simp) (by simp [fcd,← hs1])⟩
   refine zbx rfl ?_
   simp [hg1,hg2,hiA,h8,← he,← hw,hr2,e3,h2N,hwy,zau]
   exact ⟨rfl,hfa.2 ⟨b1,b2⟩,Le.go [(136,136)] [] rfl rfl (by simp) (by simp [fcd,← hs2])⟩
  refine zad (s:=?s20) rfl ?o20 ?q20
  case o20=>simp; rfl
  exact ⟨i + 1,⟨by omega,fun k hk=>by
   rcases Nat.lt_succ_iff_lt_or_eq.1 hk with h | h
   ·exact hp k h
   ·rw [h]; exact hfit⟩,by omega,Le.go [(136,136)] [] rfl rfl (by simp [hw1]) (by simp [fcd])⟩
 simp at h8
 obtain rfl : i = A.length:=by omega
 refine zam ?_
 refine hit ?_
 refine zab ?_
 refine zaa ⟨87,[(2,.pv (nC ⟨N,A⟩)),(5,.rs 136 0 N),(7,.I 2)],[(136,some ⟨1,zah (rowR N (netG A f A.length)),0⟩)],200⟩ rfl ?_ ?_
 ·simp
  exact LeI [(136,136)] []
 refine zaf ?_
 refine zao (ι:=Nat) (fun k=>⟨87,[(2,.pv (nC ⟨N,A⟩)),(5,.rs 136 0 N),(7,.I k)],[(136,some ⟨1,zah (rowR N (netG A f A.length)),0⟩)],200⟩) (fun k=>(2 ≤ k ∧ k ≤ N) ∧ ∀ x : Nat,2 ≤ x → x < k → exF A f x = 0) (fun k=>N - k) 2 ⟨by omega,fun x h1 h2=>by omega⟩ (LeI [(136,136)] []) ?_
 rintro k ⟨⟨hk1,hk2⟩,hz⟩
 refine zab ?_
 refine zaa ⟨87,[(2,.pv (nC ⟨N,A⟩)),(5,.rs 136 0 N),(7,.I k),(79,.B (decide (k < N)))],[(136,some ⟨1,zah (rowR N (netG A f A.length)),0⟩)],300⟩ rfl ?_ ?_
 ·simp
  exact LeI [(136,136)] []
 refine zac _ rfl (fun h15=>?_) fun h15=>?_
 ·simp at h15
  have hr:=zc7 (N:=N) (g:=netG A f A.length) (x:=(k : Int)) (by omega) (by omega)
  have hng:=zmD hfl (k : Int)
  obtain ⟨z,hzd⟩ : ∃ z,z = netG A f A.length k:=⟨_,rfl⟩
  rw [← hzd] at hr hng
  simp only [Int.toNat_natCast] at hr
  have hw1 : IntKind.i64.wrap ((k : Int) + 1) = (k : Int) + 1:=w64 (by omega) (by omega)
  refine zae ?_
  refine zab ?_
  refine zaf ?_
  refine zaa ⟨87,[(2,.pv (nC ⟨N,A⟩)),(5,.rs 136 0 N),(7,.I k),(86,.B (!decide (z = 0)))],[(136,some ⟨1,zah (rowR N (netG A f A.length)),0⟩)],400⟩ rfl ?_ ?_
  ·simp [hr,h15]
   exact Le.go [(136,136)] [] rfl rfl (by simp <;> exact wkB (by rw [Bool.eq_iff_iff]; simp)) (by simp [fcd])
  refine zac _ rfl (fun h86=>?_) fun h86=>?_
  ·have h86' : ¬ z = 0:=by simpa using h86
   have hno : ¬ zaA N A f:=fun h=>h86' (by rw [hng,(zcK.1 h).2.2 k hk1 h15]; rfl)
   refine rx (s:=?s87) [4] [] [] rfl ?o87 ?q87
   case o87=>simp; rfl
   refine zag ?_
   exact ⟨.inr rfl,zak.one (by simp [hno])⟩
  have h86' : z = 0:=by simpa using h86
  refine zae ?_
  refine zad (s:=?s21) rfl ?o21 ?q21
  case o21=>simp; rfl
  exact ⟨k + 1,⟨by omega,fun x h1 h2=>by
   rcases Nat.lt_succ_iff_lt_or_eq.1 h2 with h | h
   ·exact hz x h1 h
   ·subst h; omega⟩,by omega,Le.go [(136,136)] [] rfl rfl (by simp [hw1]) (by simp [fcd])⟩
 simp at h15
 have hyes : zaA N A f:=zcK.2 ⟨hfl,hp,fun x h1 h2=>hz x h1 (by omega)⟩
 refine zam ?_
 refine hit ?_
 refine zaa ⟨87,[(4,.B true)],[],400⟩ rfl ?_ ?_
 ·simp
  exact LeH [] []
 refine zag ?_
 exact ⟨.inr rfl,zak.one (by simp [hyes])⟩
set_option maxRecDepth 100000 in
open Classical in
theorem zll (hn : za3 ⟨N,A⟩) (hfl0 : f.length ≤ 1099511627776) : zai Tryz.prog zdA [eN ⟨N,A⟩,ints f] [] (.I (if zaA N A f then valF A f else 0)) []:=by
 by_cases hf : zaA N A f
 ·rw [if_pos hf]
  exact zfK hn hf
 rw [if_neg hf]
 have hchk:=zg2 hn hfl0
 rw [decide_eq_false hf] at hchk
 refine zi8.acalls (nbz rfl) (nbz rfl) (Nat.le_refl _) ?_
 show awp _ 0 _ _ ⟨31,[(0,eN ⟨N,A⟩),(1,ints f)],[],16⟩
 refine rx (s:=?s1) [1,2] [] [16] rfl ?o1 ?q1
 case o1=>simp; rfl
 refine zab ?_
 refine rx (s:=?s2) [1,2,10] [] [] rfl ?o2 ?q2
 case o2=>simp; refine zaj hchk (by simp) ?_; simp; rfl
 refine zac _ rfl (fun h=>?_) fun h=>by cases h
 refine rx (s:=?s3) [4] [] [] rfl ?o3 ?q3
 case o3=>simp; rfl
 refine zag ?_
 exact ⟨.inr rfl,zak.one (by simp)⟩
set_option maxRecDepth 100000
def zjq : AFun:=⟨65,[(4,none)],
 (.seq
 (.reg false [
  ⟨(some 3),(.box 3),[(.t 1)],none⟩,
  ⟨(some 4),.mv,[(.c (.bool false))],none⟩] [])
 (.seq
 (.reg false [
  ⟨(some 5),.mv,[(.c (.int .i64 0))],none⟩,
  ⟨(some 6),.mv,[(.c (.int .i64 0))],none⟩] [])
 (.seq
 (.seq
 (.reg false [
  ⟨(some 7),.mv,[(.c (.int .i64 0))],none⟩] [])
 (.block 0
 (.loop
 (.seq
 (.seq
 (.reg false [
  ⟨(some 8),.mv,[(.t 7)],none⟩,
  ⟨(some 9),.mv,[(.t 0)],none⟩,
  ⟨(some 10),.len,[(.t 9)],none⟩,
  ⟨(some 11),(.bin .lss),[(.t 8),(.t 10)],none⟩] [])
 (.cond (.t 11)
  .skip
  (.exit 0)))
 (.seq
 (.block 1
 (.seq
 (.reg true [
  ⟨(some 14),.mv,[(.t 5)],none⟩,
  ⟨(some 15),(.fad 0),[(.t 3)],none⟩,
  ⟨(some 16),(.ld false 1),[(.t 15)],none⟩,
  ⟨(some 17),.len,[(.t 16)],none⟩,
  ⟨(some 18),(.bin .lss),[(.t 14),(.t 17)],none⟩,
  ⟨(some 19),.mv,[(.t 18)],none⟩,
  ⟨(some 20),(.fad 0),[(.t 3)],(some (19,true))⟩,
  ⟨(some 21),(.ld false 1),[(.t 20)],(some (19,true))⟩,
  ⟨(some 22),.mv,[(.t 5)],(some (19,true))⟩,
  ⟨(some 23),(.iad 1),[(.t 21),(.t 22)],(some (19,true))⟩,
  ⟨(some 24),(.ld false 1),[(.t 23)],(some (19,true))⟩,
  ⟨(some 25),.mv,[(.t 0)],(some (19,true))⟩,
  ⟨(some 26),.mv,[(.t 7)],(some (19,true))⟩,
  ⟨(some 27),(.iad 1),[(.t 25),(.t 26)],(some (19,true))⟩,
  ⟨(some 28),(.ld false 1),[(.t 27)],(some (19,true))⟩,
  ⟨(some 29),(.bin .eql),[(.t 24),(.t 28)],(some (19,true))⟩,
  ⟨(some 30),.pick,[(.t 19),(.t 29),(.c (.bool false))],none⟩] [[],[],[1],[2],[0,3],[4],[5],[6,5],[5],[7,8,5],[9,5],[5],[5],[11,12,5],[13,5],[10,14,5],[5,15]])
 (.cond (.t 30)
  (.reg false [
   ⟨(some 31),.mv,[(.t 5)],none⟩,
   ⟨(some 32),(.bin .add),[(.t 31),(.c (.int .i64 1))],none⟩,
   ⟨(some 5),.mv,[(.t 32)],none⟩] [])
  (.seq
  (.reg true [
   ⟨(some 33),.mv,[(.t 6)],none⟩,
   ⟨(some 34),(.fad 2),[(.t 3)],none⟩,
   ⟨(some 35),(.ld false 1),[(.t 34)],none⟩,
   ⟨(some 36),.len,[(.t 35)],none⟩,
   ⟨(some 37),(.bin .lss),[(.t 33),(.t 36)],none⟩,
   ⟨(some 38),.mv,[(.t 37)],none⟩,
   ⟨(some 39),(.fad 2),[(.t 3)],(some (38,true))⟩,
   ⟨(some 40),(.ld false 1),[(.t 39)],(some (38,true))⟩,
   ⟨(some 41),.mv,[(.t 6)],(some (38,true))⟩,
   ⟨(some 42),(.iad 2),[(.t 40),(.t 41)],(some (38,true))⟩,
   ⟨(some 43),(.fad 0),[(.t 42)],(some (38,true))⟩,
   ⟨(some 44),(.ld false 1),[(.t 43)],(some (38,true))⟩,
   ⟨(some 45),.mv,[(.t 0)],(some (38,true))⟩,
   ⟨(some 46),.mv,[(.t 7)],(some (38,true))⟩,
   ⟨(some 47),(.iad 1),[(.t 45),(.t 46)],(some (38,true))⟩,
   ⟨(some 48),(.ld false 1),[(.t 47)],(some (38,true))⟩,
   ⟨(some 49),(.bin .eql),[(.t 44),(.t 48)],(some (38,true))⟩,
   ⟨(some 50),.pick,[(.t 38),(.t 49),(.c (.bool false))],none⟩] [[],[],[1],[2],[0,3],[4],[5],[6,5],[5],[7,8,5],[9,5],[10,5],[5],[5],[12,13,5],[14,5],[11,15,5],[5,16]])
  (.cond (.t 50)
   (.reg false [
    ⟨(some 51),.mv,[(.t 6)],none⟩,
    ⟨(some 52),(.bin .add),[(.t 51),(.c (.int .i64 1))],none⟩,
    ⟨(some 6),.mv,[(.t 52)],none⟩] [])
   (.seq
   (.reg false [
    ⟨(some 4),.mv,[(.c (.bool false))],none⟩] [])
   .ret))))))
 (.reg false [
  ⟨(some 12),.mv,[(.t 7)],none⟩,
  ⟨(some 13),(.bin .add),[(.t 12),(.c (.int .i64 1))],none⟩,
  ⟨(some 7),.mv,[(.t 13)],none⟩] []))))))
 (.seq
 (.reg false [
  ⟨(some 53),.mv,[(.t 5)],none⟩,
  ⟨(some 54),(.fad 0),[(.t 3)],none⟩,
  ⟨(some 55),(.ld false 1),[(.t 54)],none⟩,
  ⟨(some 56),.len,[(.t 55)],none⟩,
  ⟨(some 57),(.bin .eql),[(.t 53),(.t 56)],none⟩,
  ⟨(some 58),.mv,[(.t 57)],none⟩,
  ⟨(some 59),.mv,[(.t 6)],(some (58,true))⟩,
  ⟨(some 60),(.fad 2),[(.t 3)],(some (58,true))⟩,
  ⟨(some 61),(.ld false 1),[(.t 60)],(some (58,true))⟩,
  ⟨(some 62),.len,[(.t 61)],(some (58,true))⟩,
  ⟨(some 63),(.bin .eql),[(.t 59),(.t 62)],(some (58,true))⟩,
  ⟨(some 64),.pick,[(.t 58),(.t 63),(.c (.bool false))],none⟩,
  ⟨(some 4),.mv,[(.t 64)],none⟩] [])
 .ret))))⟩
theorem zjC : Src Tryz.prog zdK zjq:=mkS Tryz.f70
structure PnSt where
 n : Nat
 i : Nat
 k : Nat
set_option maxRecDepth 100000 in
set_option maxHeartbeats 4000000 in
theorem zhP (o acc f : List Int) (R : List (Int × List Int)) (hol : o.length ≤ 100) (ha : acc.length ≤ 1000) (hR : R.length ≤ 1000) : zai Tryz.prog zdK [ints o,eAcc acc f R] [] (.B (za1 o acc (zaT R))) []:=by
 refine zjC.acalls (nbz rfl) (nbz rfl) (Nat.le_refl _) ?_
 show awp _ 0 _ _ ⟨65,[(0,ints o),(1,eAcc acc f R)],[],16⟩
 have hkl : (zaT R).length = R.length:=by simp [zaT]
 obtain ⟨b,hb⟩ : ∃ b,b = za1 o acc (zaT R):=⟨_,rfl⟩
 rw [← hb]
 refine zaa ⟨65,[(0,ints o),(3,.pv [ints acc,ints f,.vs 2 false (zaJ R)])],[],40⟩ rfl ?_ ?_
 ·simp
  exact LeH [] [16]
 refine rx (s:=?s2) [0,3,5,6] [] [] rfl ?o2 ?q2
 case o2=>simp; rfl
 refine zab ?_
 refine rx (s:=?s3) [0,3,5,6,7] [] [] rfl ?o3 ?q3
 case o3=>simp; rfl
 refine zaf ?_
 refine zao (ι:=PnSt) (fun s=>⟨65,[(0,ints o),(3,.pv [ints acc,ints f,.vs 2 false (zaJ R)]),(5,.I s.i),(6,.I s.k),(7,.I s.n)],[],300⟩)
  (fun s=>s.n ≤ o.length ∧ s.i ≤ acc.length ∧ s.k ≤ R.length ∧ b = za1 (o.drop s.n) (acc.drop s.i) ((zaT R).drop s.k))
  (fun s=>o.length - s.n) ⟨0,0,0⟩ ⟨Nat.zero_le _,Nat.zero_le _,Nat.zero_le _,by simpa using hb⟩ (LeH [] []) ?_
 rintro ⟨n,i,k⟩ ⟨hn,hi,hk,hp⟩
 simp only at hn hi hk hp
 refine zab ?_
 refine zaa ⟨65,[(0,ints o),(3,.pv [ints acc,ints f,.vs 2 false (zaJ R)]),(5,.I i),(6,.I k),(7,.I n),(11,.B (decide (n < o.length)))],[],400⟩ rfl ?_ ?_
 ·simp
  exact LeH [] []
 refine zac _ rfl (fun h6=>?_) fun h6=>?_
 ·simp at h6
  have hw1 : IntKind.i64.wrap ((n : Int) + 1) = (n : Int) + 1:=w64 (by omega) (by omega)
  have hw2 : IntKind.i64.wrap ((i : Int) + 1) = (i : Int) + 1:=w64 (by omega) (by omega)
  have hw3 : IntKind.i64.wrap ((k : Int) + 1) = (k : Int) + 1:=w64 (by omega) (by omega)
  obtain ⟨x,hx⟩ : ∃ x,x = o[n]:=⟨_,rfl⟩
  have hod : o.drop n = x :: o.drop (n + 1):=by rw [List.drop_eq_getElem_cons h6,hx]
  rw [hod] at hp
  simp only [za1,List.tail_drop] at hp
  refine zae ?_
  refine zab ?_
  refine zaf ?_
  refine zan ⟨65,[(0,ints o),(3,.pv [ints acc,ints f,.vs 2 false (zaJ R)]),(5,.I i),(6,.I k),(7,.I n),(30,.B (decide ((acc.drop i).head? = some x)))],[],700⟩ rfl ?_ ?_
  ·by_cases hia : i < acc.length
   ·have hh:=zeU hia
    simp [hia,h6,← hx]
    exact ⟨rfl,Le.go [] [] rfl rfl (by simp <;> exact wkB (by rw [Bool.eq_iff_iff]; simp [hia])) (by simp)⟩
   ·have hh:=zct hia
    have hai : acc.length ≤ i:=by omega
    simp [hia]
    exact ⟨rfl,Le.go [] [] rfl rfl (by simp [hia]) (by simp)⟩
  refine zac _ rfl (fun h9=>?_) fun h9=>?_
  ·rw [decide_eq_true_eq] at h9
   rw [if_pos h9] at hp
   have hia : i < acc.length:=Decidable.byContradiction fun h=>by rw [zct h] at h9; cases h9
   refine zar rfl ?_
   simp
   refine zar rfl ?_
   simp
   exact ⟨⟨n + 1,i + 1,k⟩,⟨by simp only; omega,by simp only; omega,hk,hp⟩,by simp only; omega,Le.go [] [] rfl rfl (by simp [hw1,hw2]) (by simp)⟩
  rw [decide_eq_false_iff_not] at h9
  rw [if_neg h9] at hp
  refine zan ⟨65,[(0,ints o),(3,.pv [ints acc,ints f,.vs 2 false (zaJ R)]),(5,.I i),(6,.I k),(7,.I n),(50,.B (decide (((zaT R).drop k).head? = some x)))],[],900⟩ rfl ?_ ?_
  ·by_cases hkR : k < R.length
   ·have hh2 : (zaT R)[k]? = some R[k].1:=by rw [zaT,List.getElem?_map,List.getElem?_eq_getElem hkR]; rfl
    simp [hkR,h6,← hx]
    exact ⟨rfl,Le.go [] [] rfl rfl (by simp [hh2] <;> exact wkB (by rw [Bool.eq_iff_iff]; simp)) (by simp)⟩
   ·have hh2 : (zaT R)[k]? = none:=List.getElem?_eq_none (by omega)
    simp [hkR]
    exact ⟨rfl,Le.go [] [] rfl rfl (by simp [hh2,hkR]) (by simp)⟩
  refine zac _ rfl (fun h11=>?_) fun h11=>?_
  ·rw [decide_eq_true_eq] at h11
   rw [if_pos h11] at hp
   have hkR : k < R.length:=Decidable.byContradiction fun h=>by rw [List.head?_drop,List.getElem?_eq_none (by omega)] at h11; cases h11
   refine zar rfl ?_
   simp
   refine zar rfl ?_
   simp
   exact ⟨⟨n + 1,i,k + 1⟩,⟨by simp only; omega,hi,hkR,hp⟩,by simp only; omega,Le.go [] [] rfl rfl (by simp [hw1,hw3]) (by simp)⟩
  rw [decide_eq_false_iff_not] at h11
  rw [if_neg h11] at hp
  subst hp
  refine rx (s:=?s10) [4] [] [] rfl ?o10 ?q10
  case o10=>simp; rfl
  refine zag ?_
  exact ⟨.inr rfl,zak.one (by simp)⟩
 simp at h6
 obtain rfl : n = o.length:=by omega
 rw [List.drop_length] at hp
 have hp2 : b = (decide (i = acc.length) && decide (k = R.length)):=by
  rw [hp]
  simp only [za1]
  rw [Bool.eq_iff_iff]
  simp [List.isEmpty_iff]
  omega
 refine zam ?_
 refine hit ?_
 refine zaa ⟨65,[(4,.B b)],[],1000⟩ rfl ?_ ?_
 ·by_cases hia : i = acc.length
  ·simp [hia]
   exact Le.go [] [] rfl rfl (by simp [hp2,hia] <;> exact wkB (by rw [Bool.eq_iff_iff]; simp; omega)) (by simp)
  ·have hia2 : ¬ (i : Int) = acc.length:=by omega
   have hia3 : ((i : Int) == (acc.length : Int)) = false:=by simpa using hia2
   simp [hia3]
   exact Le.go [] [] rfl rfl (by simp [hp2,hia]) (by simp)
 refine zag ?_
 exact ⟨.inr rfl,zak.one (by simp)⟩
theorem zr2 {o : List Int} {x : Int} {a r : List Int} (h : za1 (x :: o) a r = true) (hn : (x :: o).Nodup) (hx : x ∈ a) : a.head? = some x:=by
 simp only [za1] at h
 split at h
 ·assumption
 ·split at h
  ·exact absurd ((zf5 h).1.subset hx) (List.nodup_cons.1 hn).1
  ·cases h
set_option maxRecDepth 100000 in
set_option maxHeartbeats 8000000 in
open Classical in
theorem zkK (g : Gr) (p : Pol) (acc f : List Int) (R : List (Int × List Int)) (hg : GrOk g) (hp : za0 g.size p) (hs : p.seeds.length ≤ 64) (ha : acc.length ≤ 1000) (hR : R.length ≤ 1000) (hf : f.length ≤ 1099511627776) (hsd : ∀ r ∈ R,r.2.length ≤ 9223372036854775807) :
  zai Tryz.prog zbg [eG g,eP p,eAcc acc f R] [] (.I (zia g p acc f R)) []:=by
 have hsz:=hg.1.1
 have hsz2:=hg.1.2.1
 have hel:=hg.edges_le
 have hgl:=hg.gone_le
 have hchk:=zeY g p (by omega) (by omega) (by omega) (by have:=hp.2.2.2.1; omega)
 rw [if_pos hg,if_pos hp] at hchk
 have hlev:=zdx g p.lv (by omega) (by omega)
 have hord:=zg5 (g:=zal g p.lv) (S:=p.seeds) (hg.level p.lv) (by omega)
 have hol:=zne hg p
 unfold zia
 obtain ⟨o,ho⟩ : ∃ o,o = ordL (zal g p.lv) p.seeds:=⟨_,rfl⟩
 have hor : ∀ k ∈ o,0 ≤ k ∧ k < g.size:=fun k hk=>by rw [ho] at hk; have h:=zcg hk; exact h
 have hon : o.Nodup:=by rw [ho]; exact zbj _ _
 rw [← ho] at hord hol ⊢
 have hpart:=zhP o acc f R (by omega) ha hR
 have hj0 : zaw [] = []:=rfl
 refine zoj.acalls (nbz rfl) (nbz rfl) (Nat.le_refl _) ?_
 show awp _ 0 _ _ ⟨114,[(0,eG g),(1,eP p),(2,eAcc acc f R)],[],16⟩
 refine zaa ⟨114,[(3,.pv (gC g)),(4,.pv (pC p)),(5,.pv [ints acc,ints f,.vs 2 false (zaJ R)])],[],60⟩ rfl ?_ ?_
 ·simp
  exact LeH [] [16,24,32]
 refine zab ?_
 refine rx (s:=?s2) [3,4,5,7] [] [] rfl ?o2 ?q2
 case o2=>simp; refine zaj hchk (by simp) ?_; simp; rfl
 refine rx (s:=?s3) [3,4,5,22] [] [] rfl ?o3 ?q3
 case o3=>simp; rfl
 refine zac _ rfl (fun h=>by cases h) fun _=>?_
 refine zae ?_
 refine zan ⟨114,[(3,.pv (gC g)),(4,.pv (pC p)),(5,.pv [ints acc,ints f,.vs 2 false (zaJ R)]),(8,ints o)],[],300⟩ rfl ?_ ?_
 ·simp
  refine zaj hlev (by simp) ?_
  simp
  refine zaW hord (by simp) ?_
  simp
  exact ⟨rfl,Le.go [] [156] rfl rfl (by simp [fcd,zap]) (by simp)⟩
 refine zab ?_
 refine zaa ⟨114,[(3,.pv (gC g)),(4,.pv (pC p)),(5,.pv [ints acc,ints f,.vs 2 false (zaJ R)]),(8,ints o),(34,.B (!za1 o acc (zaT R)))],[],400⟩ rfl ?_ ?_
 ·simp
  refine zaj hpart (by simp) ?_
  simp
  exact LeH [] []
 refine zac _ rfl (fun h8=>?_) fun h8=>?_
 ·have h8' : ¬ za1 o acc (zaT R) = true:=by simpa using h8
  rw [if_neg h8']
  refine rx (s:=?s9) [6] [] [] rfl ?o9 ?q9
  case o9=>simp; rfl
  refine zag ?_
  exact ⟨.inr rfl,zak.one (by simp)⟩
 have h8' : za1 o acc (zaT R) = true:=by simpa using h8
 rw [if_pos h8']
 have hsub:=zf5 h8'
 have hperm:=(zl3 hon h8').nodup_iff.1 hon
 have hkl : (zaT R).length = R.length:=by simp [zaT]
 have hrk : ∀ k ∈ zaT R,0 ≤ k ∧ k < g.size:=fun k hk=>hor k (hsub.2.subset hk)
 have hak : ∀ k ∈ acc,0 ≤ k ∧ k < g.size:=fun k hk=>hor k (hsub.1.subset hk)
 have h64 : ∀ a : List Int,(∀ x ∈ a,0 ≤ x ∧ x < g.size) → ∀ x ∈ a,0 ≤ x ∧ x < 64:=fun a h x hx=>by have:=h x hx; omega
 have han : acc.Nodup:=(List.nodup_append.1 hperm).1
 have hjl:=zgJ han (h64 acc hak)
 have hnet:=zdJ g p (zaw acc) hg hp (zc4 hak) hs (zbm acc)
 rw [← zfv hg,show za8 g p (zaN g p) (zaw acc) = netA g p (zaw acc) from rfl] at hnet
 have hnv : ∀ a : List Int,(∀ x ∈ a,0 ≤ x ∧ x < g.size) → za3 ⟨netN g,netA g p (zaw a)⟩:=fun a h=>zfl hg hp (zgx (zc4 h)) hs (zbm a)
 have hval:=zg2 (f:=f) (hnv acc hak) hf
 have hvv:=zll (f:=f) (hnv acc hak) hf
 obtain ⟨A,hA⟩ : ∃ A,A = netA g p (zaw acc):=⟨_,rfl⟩
 rw [← hA] at hnet hval hvv
 rw [← hA]
 refine zae ?_
 refine zaa ⟨114,[(3,.pv (gC g)),(4,.pv (pC p)),(5,.pv [ints acc,ints f,.vs 2 false (zaJ R)]),(8,ints o),(9,.vs 1 false [])],[],500⟩ rfl ?_ ?_
 ·simp
  exact LeH [] []
 refine zab ?_
 refine zaa ⟨114,[(3,.pv (gC g)),(4,.pv (pC p)),(5,.pv [ints acc,ints f,.vs 2 false (zaJ R)]),(8,ints o),(9,.vs 1 false []),(10,.I 0)],[],600⟩ rfl ?_ ?_
 ·simp
  exact LeH [] []
 refine zaf ?_
 refine zao (ι:=Nat) (fun i=>⟨114,[(3,.pv (gC g)),(4,.pv (pC p)),(5,.pv [ints acc,ints f,.vs 2 false (zaJ R)]),(8,ints o),(9,ints (zaw (acc.take i))),(10,.I i)],[],700⟩) (fun i=>i ≤ acc.length) (fun i=>acc.length - i) 0 (Nat.zero_le _) (Le.go [] [] rfl rfl (by simp [hj0]; exact .refl _) (by simp)) ?_
 intro i hi
 refine zab ?_
 refine zaa ⟨114,[(3,.pv (gC g)),(4,.pv (pC p)),(5,.pv [ints acc,ints f,.vs 2 false (zaJ R)]),(8,ints o),(9,ints (zaw (acc.take i))),(10,.I i),(39,.B (decide (i < acc.length)))],[],800⟩ rfl ?_ ?_
 ·simp
  exact LeH [] []
 refine zac _ rfl (fun h13=>?_) fun h13=>?_
 ·simp at h13
  have hw1 : IntKind.i64.wrap ((i : Int) + 1) = (i : Int) + 1:=w64 (by omega) (by omega)
  have hxr:=hak _ (List.getElem_mem h13)
  have hput:=zo0 (zaw (acc.take i)) acc[i] (by have:=zbm (acc.take i); omega)
  rw [zhK hxr.1 (by omega),← List.take_succ_eq_append_getElem h13] at hput
  obtain ⟨J,hJ⟩ : ∃ J,J = zaw (acc.take (i + 1)):=⟨_,rfl⟩
  rw [← hJ] at hput
  refine zae ?_
  refine zab ?_
  refine zaf ?_
  refine zar rfl ?_
  simp [h13]
  refine zaW hput (by simp) ?_
  simp
  refine zar rfl ?_
  simp
  exact ⟨i + 1,by omega,by omega,Le.go [] [848] rfl rfl (by simp [hw1,← hJ,fcd,zap]) (by simp)⟩
 simp at h13
 obtain rfl : i = acc.length:=by omega
 rw [List.take_length]
 refine zam ?_
 refine hit ?_
 refine zaa ⟨114,[(3,.pv (gC g)),(4,.pv (pC p)),(5,.pv [ints acc,ints f,.vs 2 false (zaJ R)]),(8,ints o),(9,ints (zaw acc)),(11,.pv (nC ⟨netN g,A⟩))],[],1000⟩ rfl ?_ ?_
 ·simp
  refine zaj hnet (by simp) ?_
  simp
  exact LeH [] [856]
 refine zab ?_
 refine zaa ⟨114,[(3,.pv (gC g)),(4,.pv (pC p)),(5,.pv [ints acc,ints f,.vs 2 false (zaJ R)]),(8,ints o),(69,.B (!decide (zaA (netN g) A f ∧ valF A f = acc.length)))],[],1200⟩ rfl ?_ ?_
 ·by_cases hfo : zaA (netN g) A f
  ·rw [decide_eq_true hfo] at hval
   rw [if_pos hfo] at hvv
   simp
   refine zaj hval (by simp) ?_
   simp
   refine zaj hvv (by simp) ?_
   simp
   exact Le.go [] [] rfl rfl (by simp [hfo,hjl] <;> exact wkB (by rw [Bool.eq_iff_iff]; simp)) (by simp)
  ·rw [decide_eq_false hfo] at hval
   simp
   refine zaj hval (by simp) ?_
   simp
   exact Le.go [] [] rfl rfl (by simp [hfo]) (by simp)
 refine zac _ rfl (fun h12=>?_) fun h12=>?_
 ·have h12' : ¬ (zaA (netN g) A f ∧ valF A f = acc.length):=fun h=>by rw [decide_eq_true h] at h12; cases h12
  rw [if_neg h12']
  refine rx (s:=?s13) [6] [] [] rfl ?o13 ?q13
  case o13=>simp; rfl
  refine zag ?_
  exact ⟨.inr rfl,zak.one (by simp)⟩
 have h12' : zaA (netN g) A f ∧ valF A f = acc.length:=by simpa using h12
 rw [if_pos h12']
 refine zae ?_
 refine zaa ⟨114,[(3,.pv (gC g)),(4,.pv (pC p)),(5,.pv [ints acc,ints f,.vs 2 false (zaJ R)]),(8,ints o),(13,.vs 1 false [])],[],1300⟩ rfl ?_ ?_
 ·simp
  exact LeH [] []
 refine zaa ⟨114,[(3,.pv (gC g)),(4,.pv (pC p)),(5,.pv [ints acc,ints f,.vs 2 false (zaJ R)]),(8,ints o),(13,.vs 1 false []),(14,.I 0)],[],1400⟩ rfl ?_ ?_
 ·simp
  exact LeH [] []
 refine zab ?_
 refine zaa ⟨114,[(3,.pv (gC g)),(4,.pv (pC p)),(5,.pv [ints acc,ints f,.vs 2 false (zaJ R)]),(8,ints o),(13,.vs 1 false []),(14,.I 0),(15,.I 0)],[],1500⟩ rfl ?_ ?_
 ·simp
  exact LeH [] []
 refine zaf ?_
 refine zao (ι:=PnSt) (fun s=>⟨114,[(3,.pv (gC g)),(4,.pv (pC p)),(5,.pv [ints acc,ints f,.vs 2 false (zaJ R)]),(8,ints o),(13,ints (zaw (acc.take s.i))),(14,.I s.k),(15,.I s.n)],[],1600⟩)
  (fun s=>s.n ≤ o.length ∧ s.i ≤ acc.length ∧ s.k ≤ R.length ∧ za1 (o.drop s.n) (acc.drop s.i) ((zaT R).drop s.k) = true ∧ (zda g p [] o acc R ↔ zda g p (acc.take s.i) (o.drop s.n) (acc.drop s.i) (R.drop s.k)) ∧ ∀ x ∈ acc.take s.i,x ∈ o.take s.n)
  (fun s=>o.length - s.n) ⟨0,0,0⟩ ⟨Nat.zero_le _,Nat.zero_le _,Nat.zero_le _,by simpa using h8',by simp,by simp⟩ (Le.go [] [] rfl rfl (by simp [hj0]; exact .refl _) (by simp)) ?_
 rintro ⟨n,i,k⟩ ⟨hn,hi,hk,hpp,hcc,hin⟩
 simp only at hn hi hk hpp hcc hin
 refine zab ?_
 refine zaa ⟨114,[(3,.pv (gC g)),(4,.pv (pC p)),(5,.pv [ints acc,ints f,.vs 2 false (zaJ R)]),(8,ints o),(13,ints (zaw (acc.take i))),(14,.I k),(15,.I n),(73,.B (decide (n < o.length)))],[],1700⟩ rfl ?_ ?_
 ·simp
  exact LeH [] []
 refine zac _ rfl (fun h22=>?_) fun h22=>?_
 ·simp at h22
  have hw1 : IntKind.i64.wrap ((n : Int) + 1) = (n : Int) + 1:=w64 (by omega) (by omega)
  have hw3 : IntKind.i64.wrap ((k : Int) + 1) = (k : Int) + 1:=w64 (by omega) (by omega)
  obtain ⟨x,hx⟩ : ∃ x,x = o[n]:=⟨_,rfl⟩
  have hxr : 0 ≤ x ∧ x < g.size:=by rw [hx]; exact hor _ (List.getElem_mem h22)
  have hod : o.drop n = x :: o.drop (n + 1):=by rw [List.drop_eq_getElem_cons h22,hx]
  have hdn : (x :: o.drop (n + 1)).Nodup:=by rw [← hod]; exact hon.sublist (List.drop_sublist _ _)
  rw [hod] at hpp hcc
  have hhead : x ∈ acc ↔ (acc.drop i).head? = some x:=by
   constructor
   ·intro hm
    rw [← List.take_append_drop i acc] at hm
    rcases List.mem_append.1 hm with h | h
    ·exfalso
     have h2:=hin x h
     obtain ⟨j,hj,hjx⟩:=List.mem_iff_getElem.1 h2
     rw [List.getElem_take] at hjx
     rw [List.length_take] at hj
     exact (List.pairwise_iff_getElem.1 hon) j n (by omega) h22 (by omega) (hjx.trans hx)
    ·exact zr2 hpp hdn h
   ·intro h
    exact List.mem_of_mem_drop (List.mem_of_mem_head? h)
  have hhas:=zl2 acc x (by omega)
  have hput:=zo0 (zaw (acc.take i)) x (by have:=zbm (acc.take i); omega)
  rw [zhK hxr.1 (by omega)] at hput
  have htn : o.take (n + 1) = o.take n ++ [x]:=by rw [List.take_succ_eq_append_getElem h22,hx]
  have hcd : (acc.contains x) = decide (x ∈ acc):=by rw [Bool.eq_iff_iff]; simp
  rw [hcd] at hhas
  refine zae ?_
  refine zaL (ι:=PnSt) (fun s=>⟨114,[(3,.pv (gC g)),(4,.pv (pC p)),(5,.pv [ints acc,ints f,.vs 2 false (zaJ R)]),(8,ints o),(13,ints (zaw (acc.take s.i))),(14,.I s.k),(15,.I n)],[],3000⟩)
   (fun s=>s.i ≤ acc.length ∧ s.k ≤ R.length ∧ za1 (o.drop (n + 1)) (acc.drop s.i) ((zaT R).drop s.k) = true ∧ (zda g p [] o acc R ↔ zda g p (acc.take s.i) (o.drop (n + 1)) (acc.drop s.i) (R.drop s.k)) ∧ ∀ x ∈ acc.take s.i,x ∈ o.take (n + 1)) ?_ fun s hs'=>?_
  ·refine zaf ?_
   refine zab ?_
   refine zan ⟨114,[(3,.pv (gC g)),(4,.pv (pC p)),(5,.pv [ints acc,ints f,.vs 2 false (zaJ R)]),(8,ints o),(13,ints (zaw (acc.take i))),(14,.I k),(15,.I n),(82,.B (decide (x ∈ acc)))],[],1800⟩ rfl ?_ ?_
   ·simp [h22,← hx]
    refine zaj hhas (by simp) ?_
    simp
    exact ⟨rfl,LeH [] []⟩
   refine zac _ rfl (fun h24=>?_) fun h24=>?_
   ·have h24':=hhead.1 (of_decide_eq_true h24)
    simp only [za1,zda,if_pos h24',List.tail_drop] at hpp hcc
    have hia : i < acc.length:=Decidable.byContradiction fun h=>by rw [zct h] at h24'; cases h24'
    have hai : acc[i] = x:=by rw [zeU hia] at h24'; exact Option.some.inj h24'
    have hti : acc.take (i + 1) = acc.take i ++ [x]:=by rw [List.take_succ_eq_append_getElem hia,hai]
    rw [← hti] at hput hcc
    obtain ⟨J,hJ⟩ : ∃ J,J = zaw (acc.take (i + 1)):=⟨_,rfl⟩
    rw [← hJ] at hput
    refine zaa ⟨114,[(3,.pv (gC g)),(4,.pv (pC p)),(5,.pv [ints acc,ints f,.vs 2 false (zaJ R)]),(8,ints o),(13,ints J),(14,.I k),(15,.I n)],[],1900⟩ rfl ?_ ?_
    ·simp [h22,← hx]
     refine zaW hput (by simp) ?_
     simp
     exact Le.go [] [1840] rfl rfl (by simp [fcd,zap]) (by simp)
    refine zam ?_
    refine hit ?_
    refine ⟨⟨n,i + 1,k⟩,⟨hia,hk,hpp,hcc,fun y hy=>?_⟩,Le.go [] [] rfl rfl (by simp [hJ]) (by simp)⟩
    simp only [hti] at hy
    rw [htn]
    rcases List.mem_append.1 hy with h | h
    ·exact List.mem_append_left _ (hin y h)
    ·exact List.mem_append_right _ h
   ·have h24' : ¬ (acc.drop i).head? = some x:=fun h=>(of_decide_eq_false h24) (hhead.2 h)
    simp only [za1,zda,if_neg h24',List.tail_drop] at hpp hcc
    have hrh : ((zaT R).drop k).head? = some x:=by
     split at hpp
     ·assumption
     ·cases hpp
    rw [if_pos hrh] at hpp
    have hkR : k < R.length:=Decidable.byContradiction fun h=>by rw [List.head?_drop,List.getElem?_eq_none (by omega)] at hrh; cases hrh
    have hrx : R[k].1 = x:=by
     rw [List.head?_drop,zaT,List.getElem?_map,List.getElem?_eq_getElem hkR] at hrh
     exact Option.some.inj hrh
    rw [List.drop_eq_getElem_cons hkR] at hcc
    simp only at hcc
    have hsdk:=hsd _ (List.getElem_mem hkR)
    obtain ⟨r,hr⟩ : ∃ r,r = R[k]:=⟨_,rfl⟩
    rw [← hr] at hcc hsdk hrx
    have hbr : ∀ y ∈ acc.take i,0 ≤ y ∧ y < g.size:=fun y hy=>hak y (List.mem_of_mem_take hy)
    have hbn : (acc.take i).Nodup:=han.sublist (List.take_sublist _ _)
    have hbl:=zgJ hbn (h64 _ hbr)
    have hks : ∀ y ∈ acc.take i ++ [x],0 ≤ y ∧ y < g.size:=fun y hy=>by
     rcases List.mem_append.1 hy with h | h
     ·exact hbr y h
     ·rw [List.mem_singleton] at h; subst h; exact hxr
    have hnet2:=zdJ g p (zaw (acc.take i ++ [x])) hg hp (zc4 hks) hs (zbm _)
    rw [← zfv hg,show za8 g p (zaN g p) (zaw (acc.take i ++ [x])) = netA g p (zaw (acc.take i ++ [x])) from rfl] at hnet2
    have hprv:=zjm ⟨netN g,netA g p (zaw (acc.take i ++ [x]))⟩ r.2 (zaw (acc.take i)).length (by have:=(hnv _ hks).2.2.1; simp only at this ⊢; omega) hsdk
    have hpd : decide (zcV ⟨netN g,netA g p (zaw (acc.take i ++ [x]))⟩ r.2 (zaw (acc.take i)).length) = decide (zgi g p (acc.take i) r):=by
     unfold zgi
     rw [hrx,hbl]
    rw [hpd] at hprv
    obtain ⟨W,hW⟩ : ∃ W,W = zaw (acc.take i ++ [x]):=⟨_,rfl⟩
    obtain ⟨B,hB⟩ : ∃ B,B = zaw (acc.take i):=⟨_,rfl⟩
    rw [← hW] at hput hnet2 hprv
    rw [← hB] at hput hprv
    rw [← hB]
    obtain ⟨A2,hA2⟩ : ∃ A2,A2 = netA g p W:=⟨_,rfl⟩
    rw [← hA2] at hnet2 hprv
    refine zae ?_
    refine zan ⟨114,[(3,.pv (gC g)),(4,.pv (pC p)),(5,.pv [ints acc,ints f,.vs 2 false (zaJ R)]),(8,ints o),(13,ints B),(14,.I k),(15,.I n),(16,.pv (nC ⟨netN g,A2⟩))],[],2000⟩ rfl ?_ ?_
    ·simp [h22,← hx]
     refine zaW hput (by simp) ?_
     simp
     refine zpb [1856] (by simp) hnet2 (by simp [fcd,zap]) ?_
     simp
     exact ⟨rfl,LeH [] [1896]⟩
    refine zab ?_
    refine zan ⟨114,[(3,.pv (gC g)),(4,.pv (pC p)),(5,.pv [ints acc,ints f,.vs 2 false (zaJ R)]),(8,ints o),(13,ints B),(14,.I k),(15,.I n),(111,.B (!decide (zgi g p (acc.take i) r)))],[],2200⟩ rfl ?_ ?_
    ·simp [hkR,← hr]
     refine zaj hprv (by simp) ?_
     simp
     exact ⟨rfl,LeH [] []⟩
    refine zac _ rfl (fun h28=>?_) fun h28=>?_
    ·have h28' : ¬ zgi g p (acc.take i) r:=by simpa using h28
     have hno : ¬ zda g p [] o acc R:=fun h=>h28' (hcc.1 h).1
     rw [if_neg hno]
     refine rx (s:=?s29) [6] [] [] rfl ?o29 ?q29
     case o29=>simp; rfl
     refine zag ?_
     exact ⟨.inr rfl,zak.one (by simp)⟩
    have h28' : zgi g p (acc.take i) r:=by simpa using h28
    refine zae ?_
    refine zar rfl ?_
    simp
    refine ⟨⟨n,i,k + 1⟩,⟨hi,hkR,hpp,?_,fun y hy=>by rw [htn]; exact List.mem_append_left _ (hin y hy)⟩,Le.go [] [] rfl rfl (by simp [hw3,hB]) (by simp)⟩
    rw [hcc]
    exact ⟨fun h=>h.2,fun h=>⟨h28',h⟩⟩
  obtain ⟨c1,c2,c3,c4,c5⟩:=hs'
  refine zar rfl ?_
  simp
  exact ⟨⟨n + 1,s.i,s.k⟩,⟨by simp only; omega,c1,c2,c3,c4,c5⟩,by simp only; omega,Le.go [] [] rfl rfl (by simp [hw1]) (by simp)⟩
 simp at h22
 obtain rfl : n = o.length:=by omega
 rw [List.drop_length] at hcc
 have hyes : zda g p [] o acc R:=hcc.2 (by simp [zda])
 rw [if_pos hyes]
 refine zam ?_
 refine hit ?_
 refine rx (s:=?s30) [6] [] [] rfl ?o30 ?q30
 case o30=>simp; rfl
 refine zag ?_
 exact ⟨.inr rfl,zak.one (by simp)⟩
open Classical in
theorem zlI (g : Gr) (p : Pol) (acc f : List Int) (R : List (Int × List Int)) (hg : GrOk g) (hp : za0 g.size p) (hs : p.seeds.length ≤ 64) (ha : acc.length ≤ 1000) (hR : R.length ≤ 1000) (hf : f.length ≤ 1099511627776) (hsd : ∀ r ∈ R,r.2.length ≤ 140737488355328) : zai Tryz.prog zbg [eG g,eP p,eAcc acc f R] [] (.I (zia g p acc f R)) [] :=
 zkK g p acc f R hg hp hs ha hR hf (fun r hr=>by have:=hsd r hr; omega)
set_option maxRecDepth 100000 in
theorem zkU (R S : List (Int × List Int)) (hR : R.length ≤ 1000) (hS : S.length ≤ 1000) (hr : ∀ r ∈ R,r.2.length ≤ 140737488355328) : zai Tryz.prog zcA [.vs 2 false (zaJ R),.vs 2 false (zaJ S)] [] (.B (decide (R = S))) []:=by
 refine zhz.acalls (nbz rfl) (nbz rfl) (Nat.le_refl _) ?_
 show awp _ 0 _ _ ⟨42,[(0,.vs 2 false (zaJ R)),(1,.vs 2 false (zaJ S))],[],16⟩
 refine rx (s:=?s1) [0,1] [] [] rfl ?o1 ?q1
 case o1=>simp; rfl
 refine zab ?_
 refine zaa ⟨42,[(0,.vs 2 false (zaJ R)),(1,.vs 2 false (zaJ S)),(10,.B (!decide (R.length = S.length)))],[],100⟩ rfl ?_ ?_
 ·simp
  exact Le.go [] [] rfl rfl (by simp <;> exact wkB (by rw [Bool.eq_iff_iff]; simp <;> omega)) (by simp)
 refine zac _ rfl (fun h3=>?_) fun h3=>?_
 ·have h3' : ¬ R.length = S.length:=by simpa using h3
  have hno : ¬ R = S:=fun h=>h3' (by rw [h])
  refine rx (s:=?s4) [4] [] [] rfl ?o4 ?q4
  case o4=>simp; rfl
  refine zag ?_
  exact ⟨.inr rfl,zak.one (by simp [hno])⟩
 have h3' : R.length = S.length:=by simpa using h3
 refine zae ?_
 refine zab ?_
 refine rx (s:=?s5) [0,1,5] [] [] rfl ?o5 ?q5
 case o5=>simp; rfl
 refine zaf ?_
 refine zao (ι:=Nat) (fun i=>⟨42,[(0,.vs 2 false (zaJ R)),(1,.vs 2 false (zaJ S)),(5,.I i)],[],200⟩) (fun i=>i ≤ R.length ∧ ∀ k (h : k < R.length) (h' : k < S.length),k < i → R[k] = S[k]) (fun i=>R.length - i) 0 ⟨Nat.zero_le _,fun k _ _ h=>absurd h (Nat.not_lt_zero _)⟩ (LeH [] []) ?_
 rintro i ⟨hi,hp⟩
 refine zab ?_
 refine rx (s:=?s6) [0,1,5,14] [] [] rfl ?o6 ?q6
 case o6=>simp; rfl
 refine zac _ rfl (fun h7=>?_) fun h7=>?_
 ·simp at h7
  have h7S : i < S.length:=by omega
  have hw1 : IntKind.i64.wrap ((i : Int) + 1) = (i : Int) + 1:=w64 (by omega) (by omega)
  have hrl:=hr _ (List.getElem_mem h7)
  obtain ⟨⟨k1,s1⟩,hr1⟩ : ∃ r,r = R[i]:=⟨_,rfl⟩
  obtain ⟨⟨k2,s2⟩,hr2⟩ : ∃ r,r = S[i]:=⟨_,rfl⟩
  rw [← hr1] at hrl
  have hsame:=zb7 s1 s2 hrl
  refine zae ?_
  refine zab ?_
  refine zaf ?_
  refine zan ⟨42,[(0,.vs 2 false (zaJ R)),(1,.vs 2 false (zaJ S)),(5,.I i),(41,.B (!decide (k1 = k2 ∧ s1 = s2)))],[],600⟩ rfl ?_ ?_
  ·by_cases hk : k1 = k2
   ·subst hk
    simp [h7,h7S,← hr1,← hr2]
    refine zaj hsame (by simp) ?_
    simp
    exact ⟨rfl,LeH [] []⟩
   ·have hk2 : (k1 == k2) = false:=by simpa using hk
    simp [h7,h7S,← hr1,← hr2,hk2,bne]
    exact ⟨rfl,Le.go [] [] rfl rfl (by simp [hk]) (by simp)⟩
  refine zac _ rfl (fun h9=>?_) fun h9=>?_
  ·have h9' : ¬ (k1 = k2 ∧ s1 = s2):=fun h=>by rw [decide_eq_true h] at h9; cases h9
   have hno : ¬ R = S:=fun h=>by
    subst h
    rw [← hr1] at hr2
    exact h9' ⟨(congrArg Prod.fst hr2).symm,(congrArg Prod.snd hr2).symm⟩
   refine rx (s:=?s10) [4] [] [] rfl ?o10 ?q10
   case o10=>simp; rfl
   refine zag ?_
   exact ⟨.inr rfl,zak.one (by simp [hno])⟩
  have h9' : k1 = k2 ∧ s1 = s2:=by simpa using h9
  refine zae ?_
  refine zar rfl ?_
  simp
  refine ⟨i + 1,⟨by omega,fun k h h' hki=>?_⟩,by omega,Le.go [] [] rfl rfl (by simp [hw1]) (by simp)⟩
  rcases Nat.lt_succ_iff_lt_or_eq.1 hki with h2 | h2
  ·exact hp k h h' h2
  ·subst h2
   rw [← hr1,← hr2,h9'.1,h9'.2]
 simp at h7
 have hyes : R = S:=List.ext_getElem h3' fun k h1 h2=>hp k h1 h2 (by omega)
 refine zam ?_
 refine hit ?_
 refine rx (s:=?s11) [4] [] [] rfl ?o11 ?q11
 case o11=>simp; rfl
 refine zag ?_
 exact ⟨.inr rfl,zak.one (by simp [hyes])⟩
theorem zub (a f b f' : List Int) (R S : List (Int × List Int)) (ha : a.length ≤ 140737488355328) (hR : R.length ≤ 1000) (hS : S.length ≤ 1000) (hr : ∀ r ∈ R,r.2.length ≤ 140737488355328) : zai Tryz.prog zfY [eAcc a f R,eAcc b f' S] [] (.B (decide (a = b ∧ R = S))) []:=by
 refine zoq.acalls (nbz rfl) (nbz rfl) (Nat.le_refl _) ?_
 show awp _ 0 _ _ ⟨17,[(0,eAcc a f R),(1,eAcc b f' S)],[],16⟩
 have h1:=zb7 a b ha
 have h2:=zkU R S hR hS hr
 refine zaa ⟨17,[(2,.pv [ints a,ints f,.vs 2 false (zaJ R)]),(3,.pv [ints b,ints f',.vs 2 false (zaJ S)])],[],60⟩ rfl ?_ ?_
 ·simp
  exact LeH [] [16,24]
 refine zaa ⟨17,[(4,.B (decide (a = b ∧ R = S)))],[],300⟩ rfl ?_ ?_
 ·by_cases hab : a = b
  ·rw [decide_eq_true hab] at h1
   simp
   refine zaj h1 (by simp) ?_
   simp
   refine zaj h2 (by simp) ?_
   simp
   exact Le.go [] [] rfl rfl (by simp [hab]) (by simp)
  ·rw [decide_eq_false hab] at h1
   simp
   refine zaj h1 (by simp) ?_
   simp
   exact Le.go [] [] rfl rfl (by simp [hab]) (by simp)
 refine zag ?_
 exact ⟨.inr rfl,zak.one (by simp)⟩
theorem znW (g : Gr) (p : Pol) : ∀ (n : Nat) (o : List Int),o.length = n → ∀ r ∈ refR g p o,r.2.length ≤ netN g
 | 0,o,h,r,hr=>by
   obtain rfl:=List.eq_nil_of_length_eq_zero h
   cases hr
 | n + 1,o,h,r,hr=>by
   have hne : o ≠ []:=fun e=>by rw [e] at h; cases h
   rw [← List.dropLast_concat_getLast hne] at hr
   have ih:=znW g p n o.dropLast (by rw [List.length_dropLast,h]; rfl)
   by_cases hc : zat g p (zaw (accR g p o.dropLast ++ [o.getLast hne]))
   ·rw [zhG hc] at hr; exact ih r hr
   ·rw [zkP hc] at hr
    rcases List.mem_append.1 hr with h2 | h2
    ·exact ih r h2
    ·rw [List.mem_singleton] at h2
     rw [h2]
     exact zo1 _ _
noncomputable abbrev accG (g : Gr) (p : Pol) : List Int:=accR g p (ordL (zal g p.lv) p.seeds)
noncomputable abbrev refG (g : Gr) (p : Pol) : List (Int × List Int):=refR g p (ordL (zal g p.lv) p.seeds)
theorem zgP {g : Gr} (hg : GrOk g) (p : Pol) : (accG g p).length ≤ 64:=Nat.le_trans (zny _) (zne hg p)
theorem zuw {g : Gr} (hg : GrOk g) (p : Pol) : (refG g p).length ≤ 64:=Nat.le_trans (znB _ _ _ _ rfl) (zne hg p)
theorem ztC {g : Gr} (hg : GrOk g) (p : Pol) : ∀ r ∈ refG g p,r.2.length ≤ 130:=fun r hr=>by
 have h1:=znW g p _ _ rfl r hr
 have h2:=zfv hg
 have h3:=hg.1.2.1
 omega
theorem zts {g : Gr} {p : Pol} {ks f : List Int} (hg : GrOk g) (hp : za0 g.size p) (hr : ∀ x ∈ ks,0 ≤ x ∧ x < g.size) (hs : p.seeds.length ≤ 64) (hl : ks.length ≤ 64) (hf : zcW g p ks f) : f.length ≤ 1200:=by
 have h1:=zfl hg hp hr hs hl
 have h2:=hf.ok.fit.len
 have h3:=h1.2.2.1
 simp only at h3
 omega
theorem zms {g : Gr} (p : Pol) : ∀ x ∈ accG g p,0 ≤ x ∧ x < g.size:=fun x hx=>by
 have h:=zcg (zd6 hx)
 exact h
section
variable {g : Gr} {p : Pol}
theorem zjT (hg : GrOk g) (hp : za0 g.size p) : (p.seeds.length : Int) ≤ g.size:=by
 have h:=hp.2.1
 have hsz:=hg.1.1
 rcases Nat.eq_zero_or_pos p.seeds.length with h0 | h0
 ·omega
 have h1:=zmr h (p.seeds.length - 1) (by omega)
 have h2:=zgx h (p.seeds[p.seeds.length - 1]'(by omega)) (List.getElem_mem _)
 omega
end
structure GStp where
 gone : Bool
 e : Ed
open Classical in
noncomputable def zas (g : Gr) (s : GStp) : Gr × Int:=if s.gone = true then zaR g s.e.f s.e.t else zbz g s.e
def HasE (g : Gr) (f t : Int) : Prop:=∃ x ∈ g.edges,x.f = f ∧ x.t = t
theorem Bef.asymm {a b : Ed} (h : Bef a b) : ¬ Bef b a:=by unfold Bef at *; omega
theorem Bef.irrefl (a : Ed) : ¬ Bef a a:=by unfold Bef; omega
theorem GrOk.of {s : Int} {E : List Ed} {go : List Int} (h0 : 0 ≤ s) (h1 : s ≤ 64) (hl : E.length ≤ 500) (hg : Rise go 0 (s - 1)) (hp : E.Pairwise Bef) (hf : ∀ e ∈ E,Fits ⟨s,E,go⟩ e ∧ 1 ≤ e.v ∧ e.v ≤ 3) : GrOk ⟨s,E,go⟩ :=
 ⟨⟨h0,h1,hl,hg⟩,fun i hi=>⟨(hf _ (List.getElem_mem hi)).1,(hf _ (List.getElem_mem hi)).2.1,(hf _ (List.getElem_mem hi)).2.2,fun h0=>zgt.2 (List.pairwise_iff_getElem.1 hp (i - 1) i (by simp only at hi; omega) hi (by omega))⟩⟩
variable {g : Gr} {f t : Int} {e : Ed}
theorem GrOk.val (hg : GrOk g) : ∀ e ∈ g.edges,1 ≤ e.v ∧ e.v ≤ 3:=fun e he=>by
 obtain ⟨i,hi,rfl⟩:=List.getElem_of_mem he
 exact ⟨(hg.2 i hi).2.1,(hg.2 i hi).2.2.1⟩
theorem GrOk.uniq (hg : GrOk g) {x y : Ed} (hx : x ∈ g.edges) (hy : y ∈ g.edges) (hf : x.f = y.f) (ht : x.t = y.t) : x = y:=by
 obtain ⟨i,hi,rfl⟩:=List.getElem_of_mem hx
 obtain ⟨j,hj,rfl⟩:=List.getElem_of_mem hy
 rcases Nat.lt_trichotomy i j with h | h | h
 ·have:=hg.lt j i hi hj h
  unfold Bef at this
  omega
 ·subst h; rfl
 ·have:=hg.lt i j hj hi h
  unfold Bef at this
  omega
theorem zvm {k : Nat} (h : AtE g.edges k f t) : HasE g f t:=by
 obtain ⟨h1,h2,h3⟩:=h
 exact ⟨_,List.getElem_mem h1,h2,h3⟩
theorem ztl (hg : GrOk g) {i : Nat} (hi : i < g.edges.length) (hf : g.edges[i].f = f) (ht : g.edges[i].t = t) : idxE g.edges ⟨f,t,0⟩ = i :=
 zqq (by omega) (fun j hj hjl=>by
  have:=hg.lt i j (by omega) hi hj
  unfold Bef at this ⊢
  rw [hf,ht] at this
  exact this) (fun _ hb=>by
  unfold Bef at hb
  simp only at hb
  omega)
theorem zmP (hg : GrOk g) : AtE g.edges (idxE g.edges ⟨f,t,0⟩) f t ↔ HasE g f t:=by
 refine ⟨zvm,?_⟩
 rintro ⟨x,hx,hf,ht⟩
 obtain ⟨i,hi,rfl⟩:=List.getElem_of_mem hx
 rw [ztl hg hi hf ht]
 exact ⟨hi,hf,ht⟩
theorem zhu (hg : GrOk g) (h : HasE g f t) : zaR g f t = (zew g f t,0) ∧ GrOk (zew g f t) ∧ ∀ x,x ∈ (zew g f t).edges ↔ x ∈ g.edges ∧ ¬ (x.f = f ∧ x.t = t):=by
 have hat:=(zmP hg).2 h
 obtain ⟨x,hx,hxf,hxt⟩:=h
 obtain ⟨i,hi,rfl⟩:=List.getElem_of_mem hx
 have hix:=ztl hg hi hxf hxt
 have hE : (zew g f t).edges = g.edges.take i ++ g.edges.drop (i + 1):=by unfold zew; rw [hix]
 have hsub : (g.edges.take i ++ g.edges.drop (i + 1)).Sublist g.edges:=by
  have h1 : (g.edges.drop (i + 1)).Sublist (g.edges.drop i):=by
   rw [List.drop_eq_getElem_cons hi]
   exact List.sublist_cons_self _ _
  have h2:=(List.Sublist.refl (g.edges.take i)).append h1
  rwa [List.take_append_drop] at h2
 have hmem : ∀ y,y ∈ (zew g f t).edges ↔ y ∈ g.edges ∧ ¬ (y.f = f ∧ y.t = t):=by
  intro y
  rw [hE]
  constructor
  ·intro hy
   refine ⟨hsub.subset hy,fun hc=>?_⟩
   have : y = g.edges[i]:=hg.uniq (hsub.subset hy) (List.getElem_mem hi) (hc.1.trans hxf.symm) (hc.2.trans hxt.symm)
   rcases List.mem_append.1 hy with h | h
   ·obtain ⟨j,hj,e⟩:=List.mem_take_iff_getElem.1 h
    have hjl : j < g.edges.length:=by omega
    have:=hg.lt i j hjl hi (by omega)
    rw [e,‹y = _›] at this
    exact Bef.irrefl _ this
   ·obtain ⟨j,hj,e⟩:=List.mem_drop_iff_getElem.1 h
    have:=hg.lt (i + 1 + j) i hi (by omega) (by omega)
    rw [e,‹y = _›] at this
    exact Bef.irrefl _ this
  ·rintro ⟨hy,hn⟩
   obtain ⟨j,hj,rfl⟩:=List.getElem_of_mem hy
   rcases Nat.lt_trichotomy j i with h | h | h
   ·exact List.mem_append_left _ (List.mem_take_iff_getElem.2 ⟨j,by omega,rfl⟩)
   ·subst h; exact absurd ⟨hxf,hxt⟩ hn
   ·refine List.mem_append_right _ (List.mem_drop_iff_getElem.2 ⟨j - (i + 1),by omega,?_⟩)
    congr 1
    omega
 refine ⟨?_,?_,hmem⟩
 ·unfold zaR
  rw [if_neg (fun h=>h hg),if_neg (fun h=>h hat)]
 ·have hl:=hsub.length_le
  have hp : (zew g f t).edges.Pairwise Bef:=by rw [hE]; exact hg.pair.sublist hsub
  exact GrOk.of hg.1.1 hg.1.2.1 (by have:=hg.1.2.2.1; simp only [zew,hix]; omega) hg.1.2.2.2 hp fun y hy=>⟨hg.fits y ((hmem y).1 hy).1,hg.val y ((hmem y).1 hy).1⟩
theorem zkA (hg : GrOk g) : (zaR g f t).2 = 0 ↔ HasE g f t:=by
 refine ⟨fun h=>?_,fun h=>by rw [(zhu hg h).1]⟩
 refine (zmP hg).1 (Classical.byContradiction fun hn=>?_)
 unfold zaR at h
 rw [if_neg (fun h=>h hg),if_pos hn] at h
 simp at h
theorem zti (g : Gr) (e : Ed) : ∀ x,x ∈ (ziM g e).edges ↔ x = e ∨ x ∈ g.edges:=by
 intro x
 have h : x ∈ g.edges ↔ x ∈ g.edges.take (idxE g.edges ⟨e.f,e.t,0⟩) ∨ x ∈ g.edges.drop (idxE g.edges ⟨e.f,e.t,0⟩):=by
  rw [← List.mem_append,List.take_append_drop]
 rw [h]
 simp only [ziM,List.mem_append,List.mem_cons]
 constructor <;> rintro (h | h | h) <;> simp [h]
theorem zq6 (hg : GrOk g) (hl : g.edges.length < 500) : (zbz g e).2 = 0 ↔ Fits g e ∧ (1 ≤ e.v ∧ e.v ≤ 3) ∧ ¬ HasE g e.f e.t:=by
 constructor
 ·intro h
  obtain ⟨_,h2,h3,h4,_⟩:=zjP h
  exact ⟨h2,h3,fun h=>h4 ((zmP hg).2 h)⟩
 ·rintro ⟨h1,h2,h3⟩
  unfold zbz
  rw [if_neg (fun h=>h hg),if_neg (fun h=>h h1),if_neg (fun h=>h h2),if_neg (fun h=>h3 ((zmP hg).1 h)),if_neg (by omega)]
theorem zrj : ∀ {a b : List Ed},a.Pairwise Bef → b.Pairwise Bef → (∀ x,x ∈ a ↔ x ∈ b) → a = b
 | [],[],_,_,_=>rfl
 | [],y :: b,_,_,h=>absurd ((h y).2 List.mem_cons_self) (by simp)
 | x :: a,[],_,_,h=>absurd ((h x).1 List.mem_cons_self) (by simp)
 | x :: a,y :: b,ha,hb,h=>by
   rw [List.pairwise_cons] at ha hb
   have hxy : x = y:=by
    rcases List.mem_cons.1 ((h x).1 List.mem_cons_self) with h1 | h1
    ·exact h1
    rcases List.mem_cons.1 ((h y).2 List.mem_cons_self) with h2 | h2
    ·exact h2.symm
    exact absurd (ha.1 y h2) (hb.1 x h1).asymm
   subst hxy
   rw [zrj ha.2 hb.2 fun z=>⟨fun hz=>?_,fun hz=>?_⟩]
   ·rcases List.mem_cons.1 ((h z).1 (List.mem_cons_of_mem _ hz)) with h1 | h1
    ·subst h1; exact absurd (ha.1 z hz) (Bef.irrefl z)
    ·exact h1
   ·rcases List.mem_cons.1 ((h z).2 (List.mem_cons_of_mem _ hz)) with h1 | h1
    ·subst h1; exact absurd (hb.1 z hz) (Bef.irrefl z)
    ·exact h1
theorem zuW {a b : Gr} (ha : GrOk a) (hb : GrOk b) (hs : a.size = b.size) (hg : a.gone = b.gone) (h : ∀ x,x ∈ a.edges ↔ x ∈ b.edges) : a = b:=by
 obtain ⟨s,E,go⟩:=a
 obtain ⟨s',E',go'⟩:=b
 have:=zrj ha.pair hb.pair h
 simp only at hs hg this
 subst hs hg this
 rfl
def OkS (g : Gr) (s : GStp) : Prop:=if s.gone = true then HasE g s.e.f s.e.t else Fits g s.e ∧ (1 ≤ s.e.v ∧ s.e.v ≤ 3) ∧ ¬ HasE g s.e.f s.e.t
structure zsW (g g' : Gr) (s : GStp) : Prop where
 ok : GrOk g'
 size : g'.size = g.size
 gone : g'.gone = g.gone
 len : g'.edges.length ≤ g.edges.length + 1
 mem : ∀ x,x ∈ g'.edges ↔ (s.gone = false ∧ x = s.e) ∨ (x ∈ g.edges ∧ ¬ (s.gone = true ∧ x.f = s.e.f ∧ x.t = s.e.t))
theorem zq7 (hg : GrOk g) (hl : g.edges.length < 500) (s : GStp) : (zas g s).2 = 0 ↔ OkS g s:=by
 unfold zas OkS
 by_cases h : s.gone = true
 ·rw [if_pos h,if_pos h]; exact zkA hg
 ·rw [if_neg h,if_neg h]; exact zq6 hg hl
theorem zpU (hg : GrOk g) (hl : g.edges.length < 500) {s : GStp} (h : OkS g s) : (zas g s).2 = 0 ∧ zsW g (zas g s).1 s:=by
 refine ⟨(zq7 hg hl s).2 h,?_⟩
 unfold OkS at h
 unfold zas
 by_cases hs : s.gone = true
 ·rw [if_pos hs] at h
  rw [if_pos hs]
  obtain ⟨h1,h2,h3⟩:=zhu hg h
  rw [h1]
  refine ⟨h2,rfl,rfl,?_,fun x=>?_⟩
  ·simp only [zew,List.length_append,List.length_take,List.length_drop]; omega
  ·simp only [h3,hs]; simp
 ·rw [if_neg hs] at h
  rw [if_neg hs]
  obtain ⟨h1,h2,h3⟩:=h
  obtain ⟨_,_,_,_,_,h4,h5⟩:=zjP ((zq6 hg hl).2 ⟨h1,h2,h3⟩)
  rw [h4]
  refine ⟨h5,rfl,rfl,?_,fun x=>?_⟩
  ·simp only [ziM,List.length_append,List.length_take,List.length_cons,List.length_drop]; omega
  ·rw [zti]; simp [hs]
theorem zsW.has {g' : Gr} {s : GStp} (h : zsW g g' s) {f t : Int} (hne : ¬ (s.e.f = f ∧ s.e.t = t)) : HasE g' f t ↔ HasE g f t:=by
 constructor
 ·rintro ⟨x,hx,hf,ht⟩
  rcases (h.mem x).1 hx with h1 | h1
  ·obtain ⟨_,rfl⟩:=h1
   exact absurd ⟨hf,ht⟩ hne
  ·exact ⟨x,h1.1,hf,ht⟩
 ·rintro ⟨x,hx,hf,ht⟩
  refine ⟨x,(h.mem x).2 (.inr ⟨hx,fun hc=>hne ?_⟩),hf,ht⟩
  exact ⟨hc.2.1.symm.trans hf,hc.2.2.symm.trans ht⟩
noncomputable def runS : Gr → List GStp → Gr × Nat × Int
 | g,[]=>(g,0,0)
 | g,s :: l=>if (zas g s).2 = 0 then ((runS (zas g s).1 l).1,(runS (zas g s).1 l).2.1 + 1,(runS (zas g s).1 l).2.2) else (g,0,(zas g s).2)
theorem zqk {s : GStp} {l : List GStp} (h : (zas g s).2 = 0) : runS g (s :: l) = ((runS (zas g s).1 l).1,(runS (zas g s).1 l).2.1 + 1,(runS (zas g s).1 l).2.2):=by simp only [runS]; rw [if_pos h]
theorem zs3 {s : GStp} {l : List GStp} (h : (zas g s).2 ≠ 0) : runS g (s :: l) = (g,0,(zas g s).2):=by simp only [runS]; rw [if_neg h]
theorem zed (hg : GrOk g) {s : GStp} (h : (zas g s).2 = 0) : GrOk (zas g s).1 ∧ (zas g s).1.size = g.size ∧ (zas g s).1.gone = g.gone ∧ (zas g s).1.edges.length ≤ g.edges.length + 1:=by
 have key : g.edges.length < 500 ∨ s.gone = true:=by
  by_cases hs : s.gone = true
  ·exact .inr hs
  ·unfold zas at h
   rw [if_neg hs] at h
   exact .inl (zjP h).2.2.2.2.1
 by_cases hs : s.gone = true
 ·unfold zas at h ⊢
  rw [if_pos hs] at h ⊢
  obtain ⟨h1,h2,h3⟩:=zhu hg ((zkA hg).1 h)
  rw [h1]
  refine ⟨h2,rfl,rfl,?_⟩
  simp only [zew,List.length_append,List.length_take,List.length_drop]; omega
 ·have hl : g.edges.length < 500:=key.elim id fun h=>absurd h hs
  have:=(zpU hg hl ((zq7 hg hl s).1 h)).2
  exact ⟨this.ok,this.size,this.gone,this.len⟩
theorem GrOk.nodup (hg : GrOk g) : g.edges.Nodup:=hg.pair.imp fun h he=>by subst he; exact Bef.irrefl _ h
abbrev tC (g : Gr) (p : Pol) (acc f : List Int) (R : List (Int × List Int)) : List AV:=[.I g.size,eEs g.edges,ints g.gone,ints p.seeds,ints p.table,.I p.lv,ints acc,ints f,.vs 2 false (zaJ R)]
abbrev eT (g : Gr) (p : Pol) (acc f : List Int) (R : List (Int × List Int)) : AV:=.agg (tC g p acc f R)
abbrev stC (s : GStp) : List AV:=[.B s.gone,.I s.e.f,.I s.e.t,.I s.e.v]
abbrev eSt (s : GStp) : AV:=.agg (stC s)
abbrev eSts (l : List GStp) : AV:=.vs 4 false (l.map fun s=>stC s)
@[simp] theorem zwT {ρ : List (Nat × Nat)} {sn : List Nat} {h : Nat → Option Ent} {n : Nat} {t : TypeId} {v : AV} : conv ρ sn h (n + 1) (.ifc t v) = .ifc t (conv ρ sn h n v):=(rfl)
def zex (a b : List Int) : List Int:=srt (a.filter fun x=>!decide (x ∈ b))
section
variable {P : Program} {np id : Nat} {h : Nat → Option Ent} {K : AV → List Nat → List (Nat × Option Ent) → Prop} {args args' : List AV} {res : AV}
theorem zuV {tbl : List (TypeId × FuncId)} {t : TypeId} {f : FuncId} {x : AV} (hl : lkp tbl t = some f) (hc : zai P f args' [] res []) (he : (x :: args).map (conv [] [] h 4) = args')
  (hk : K (conv (swp [] id) [] (fun _=>none) 4 res) [] []) : aK P np id (.inv tbl) (.ifc t x :: args) h K :=
 ⟨f,[],[],true,args',[],res,[],hl,by simp,by simp,by simp,by rw [List.zipIdx_nil,he]; exact zbQ _,rfl,hc,by simp,.inl rfl,by simpa [swp] using hk⟩
end
theorem zjI (p : Pol) (hs : p.seeds.length ≤ 1000000) (ht : p.table.length ≤ 1000000) : zai Tryz.prog zeZ [eP p] [] (eP p) []:=by
 refine zlq.acalls (nbz rfl) (nbz rfl) (Nat.zero_le _) ?_
 show awp _ 0 _ _ ⟨12,[(0,eP p)],[],16⟩
 refine zaa ⟨12,[(1,.pv (pC p)),(2,.pt 24 0 0)],[(24,some ⟨3,[[.nilS,.nilS,.I 0]],0⟩)],100⟩ rfl ?_ ?_
 ·simp
  exact LeH [(24,24)] [16]
 refine zan ⟨12,[(2,.pt 24 0 0)],[(24,some ⟨3,[pC p],0⟩)],300⟩ rfl ?_ ?_
 ·simp
  refine zaW (zgw p.seeds (by omega)) (by simp) ?_
  simp
  refine zaW (zgw p.table (by omega)) (by simp) ?_
  simp [zau]
  exact ⟨rfl,Le.go [(24,24)] [116,140] rfl rfl (by simp) (by simp [fcd,zap])⟩
 refine zag ?_
 exact ⟨.inr rfl,zak.out [] [24] rfl (by simp) (by simp) (by simp) (by simp)⟩
theorem ziJ (b : List Int) (x : Int) (hb : b.length ≤ 1000000) : zai Tryz.prog zcZ [.I x,.pv [ints b]] [] (.B (decide (x ∈ b))) []:=by
 refine zk2.acalls (nbz rfl) (nbz rfl) (Nat.le_refl _) ?_
 show awp _ 0 _ _ ⟨7,[(0,.I x),(1,.pv [ints b])],[],16⟩
 refine rx (s:=?s1) [0,1] [] [] rfl ?o1 ?q1
 case o1=>simp; rfl
 refine rx (s:=?s2) [3] [] [] rfl ?o2 ?q2
 case o2=>simp; refine zaj (zfy b x (by omega)) (by simp) ?_; simp; rfl
 refine zag ?_
 exact ⟨.inr rfl,zak.one (by simp)⟩
theorem zg1 (a b : List Int) (ha : a.length ≤ 1000000) (hb : b.length ≤ 1000000) : zai Tryz.prog zeK [ints a,ints b] [] (ints (zex a b)) []:=by
 obtain ⟨F,hF⟩ : ∃ F,F = a.filter fun x=>!decide (x ∈ b):=⟨_,rfl⟩
 have hFl : F.length ≤ a.length:=by rw [hF]; exact List.length_filter_le _ _
 have hdel:=zgZ zcZ [.pv [ints b]] (fun x=>decide (x ∈ b)) a a.length F.length rfl (by rw [hF]) (by omega) (fun ρ sn h n=>by simp) (fun e _=>ziJ b e hb)
 rw [← hF] at hdel
 have hsort:=zgf F (by omega)
 have hsl : (srt F).length = F.length:=List.length_mergeSort F
 have htk : ∀ h : Int → List AV,List.take F.length (List.map h (srt F)) = List.map h (srt F):=fun h=>List.take_of_length_le (by rw [List.length_map,hsl]; exact Nat.le_refl _)
 unfold zex
 rw [← hF]
 refine znQ.acalls (nbz rfl) (nbz rfl) (Nat.zero_le _) ?_
 show awp _ 0 _ _ ⟨10,[(0,ints a),(1,ints b)],[],16⟩
 refine zaa ⟨10,[(0,ints a),(3,.pv [ints b])],[],100⟩ rfl ?_ ?_
 ·simp
  exact LeH [] [16]
 refine zaa ⟨10,[(4,ints (srt F))],[],300⟩ rfl ?_ ?_
 ·simp
  refine zaW (zgw a (by omega)) (by simp) ?_
  simp
  refine zbf (i:=108) rfl (e':=⟨1,zah a,0⟩) (by simp [fcd]) hdel (by simp) (by simp) ?_
  simp [fcd]
  refine ziO [108] hsort (by simp [fcd]) (.rs _ _ _) zqH ?_
  simp [fcd]
  exact Le.go [] [132] rfl rfl (by simp [hsl,htk,fcd]) (by simp)
 refine zag ?_
 exact ⟨.inr rfl,zak.one (by simp)⟩
theorem zsb {g : Gr} (hg : GrOk g) : zal g 0 = g:=by
 obtain ⟨s,E,go⟩:=g
 unfold zal
 congr 1
 refine List.filter_eq_self.2 fun e he=>?_
 have:=(hg.val e he).1
 simp
 omega
theorem zeX (g : Gr) (p : Pol) (hg : GrOk g) (hp : za0 g.size p) (hN : g.size < 20) :
  ∃ f,zcW g p (zaw (accG g p)) f ∧ zai Tryz.prog zc3 [eG g,eP p] [] (.tup [eT g p (accG g p) f (refG g p),.I 0]) []:=by
 have hsl:=zjT hg hp
 have hel:=hg.edges_le
 have hgl:=hg.gone_le
 have htl:=hp.2.2.2.1
 obtain ⟨f,hf,hrun⟩:=zoW g p hg hp (by omega) hN
 refine ⟨f,hf,?_⟩
 have hlev:=zdr g 0 (by omega) (by omega)
 rw [zsb hg] at hlev
 have hpol:=zjI p (by omega) (by omega)
 have hrun : zai Tryz.prog zfH [eG g,eP p] [] (.tup [eAcc (accG g p) f (refG g p),.I 0]) []:=hrun
 generalize accG g p = acc at *
 generalize refG g p = R at *
 refine zmu.acalls (nbz rfl) (nbz rfl) (Nat.zero_le _) ?_
 show awp _ 0 _ _ ⟨24,[(0,eG g),(1,eP p)],[],16⟩
 refine zaa ⟨24,[(2,.pv (gC g)),(3,.pv (pC p)),(4,.pt 32 0 0)],[(32,some ⟨9,[[.I 0,.nilS,.nilS,.nilS,.nilS,.I 0,.nilS,.nilS,.nilS]],0⟩)],100⟩ rfl ?_ ?_
 ·simp
  exact LeH [(32,32)] [16,24]
 refine zaa ⟨24,[(2,.pv (gC g)),(3,.pv (pC p)),(4,.pt 32 0 0),(6,.pv [ints acc,ints f,.vs 2 false (zaJ R)]),(7,.I 0)],[(32,some ⟨9,[[.I 0,.nilS,.nilS,.nilS,.nilS,.I 0,.nilS,.nilS,.nilS]],0⟩)],200⟩ rfl ?_ ?_
 ·simp
  refine zaj hrun (by simp) ?_
  simp
  exact LeH [(32,32)] [148]
 refine zab ?_
 refine zaa ⟨24,[(2,.pv (gC g)),(3,.pv (pC p)),(4,.pt 32 0 0),(6,.pv [ints acc,ints f,.vs 2 false (zaJ R)]),(15,.B false)],[(32,some ⟨9,[[.I 0,.nilS,.nilS,.nilS,.nilS,.I 0,.nilS,.nilS,.nilS]],0⟩)],300⟩ rfl ?_ ?_
 ·simp
  exact LeH [(32,32)] []
 refine zac _ rfl (fun h=>by cases h) fun _=>?_
 refine zae ?_
 refine zan ⟨24,[(4,.pt 32 0 0),(5,.I 0)],[(32,some ⟨9,[tC g p acc f R],0⟩)],500⟩ rfl ?_ ?_
 ·simp
  refine zaj hlev (by simp) ?_
  simp
  refine zaj hpol (by simp) ?_
  simp [zau]
  exact ⟨rfl,LeH [(32,32)] []⟩
 refine zag ?_
 exact ⟨.inr rfl,zak.out [] [32] rfl (by simp) (by simp) (by simp) (by simp)⟩
theorem zkQ (e : Ed) (g : Gr) (hl : g.edges.length ≤ 1000000) (hl2 : g.gone.length ≤ 1000000) : zai Tryz.prog zbo [eE e,eG g] [] (.tup [eG (zbz g e).1,.I (zbz g e).2]) []:=by
 have hw:=zno g e (by omega) (by omega)
 generalize zbz g e = r at *
 obtain ⟨g',x⟩:=r
 refine zgR.acalls (nbz rfl) (nbz rfl) (Nat.zero_le _) ?_
 show awp _ 0 _ _ ⟨11,[(0,eE e),(1,eG g)],[],16⟩
 refine zaa ⟨11,[(2,.pv (eC e)),(3,.pv (gC g)),(4,.pt 32 0 0)],[(32,some ⟨3,[[.I 0,.nilS,.nilS]],0⟩)],100⟩ rfl ?_ ?_
 ·simp
  exact LeH [(32,32)] [16,24]
 refine zaa ⟨11,[(4,.pt 32 0 0),(5,.I x)],[(32,some ⟨3,[gC g'],0⟩)],300⟩ rfl ?_ ?_
 ·simp
  refine zaj hw (by simp) ?_
  simp [zau]
  exact LeH [(32,32)] []
 refine zag ?_
 exact ⟨.inr rfl,zak.out [] [32] rfl (by simp) (by simp) (by simp) (by simp)⟩
theorem zlS (e : Ed) (g : Gr) (hl : g.edges.length ≤ 1000000) (hl2 : g.gone.length ≤ 1000000) : zai Tryz.prog zbt [eE e,eG g] [] (.tup [eG (zaR g e.f e.t).1,.I (zaR g e.f e.t).2]) []:=by
 have hw:=zjs g e.f e.t (by omega) (by omega)
 generalize zaR g e.f e.t = r at *
 obtain ⟨g',x⟩:=r
 refine zg9.acalls (nbz rfl) (nbz rfl) (Nat.zero_le _) ?_
 show awp _ 0 _ _ ⟨14,[(0,eE e),(1,eG g)],[],16⟩
 refine zaa ⟨14,[(2,.pv (eC e)),(3,.pv (gC g)),(4,.pt 32 0 0)],[(32,some ⟨3,[[.I 0,.nilS,.nilS]],0⟩)],100⟩ rfl ?_ ?_
 ·simp
  exact LeH [(32,32)] [16,24]
 refine zaa ⟨14,[(4,.pt 32 0 0),(5,.I x)],[(32,some ⟨3,[gC g'],0⟩)],300⟩ rfl ?_ ?_
 ·simp
  refine zaj hw (by simp) ?_
  simp [zau]
  exact LeH [(32,32)] []
 refine zag ?_
 exact ⟨.inr rfl,zak.out [] [32] rfl (by simp) (by simp) (by simp) (by simp)⟩
theorem zje (s : GStp) : zai Tryz.prog zi0 [eSt s] [] (.ifc (if s.gone = true then 141 else 142) (eE s.e)) []:=by
 obtain ⟨go,e⟩:=s
 refine zrM.acalls (nbz rfl) (nbz rfl) (Nat.zero_le _) ?_
 show awp _ 0 _ _ ⟨11,[(0,eSt ⟨go,e⟩)],[],16⟩
 refine zaa ⟨11,[(1,.pv (stC ⟨go,e⟩))],[],100⟩ rfl ?_ ?_
 ·simp
  exact LeH [] [16]
 refine zab ?_
 refine zaa ⟨11,[(1,.pv (stC ⟨go,e⟩)),(4,.B go)],[],200⟩ rfl ?_ ?_
 ·simp
  exact LeH [] []
 refine zac _ rfl (fun h=>?_) fun h=>?_
 ·subst h
  refine zaa ⟨11,[(2,.ifc 141 (eE e))],[],300⟩ rfl ?_ ?_
  ·simp
   exact LeH [] []
  refine zag ?_
  exact ⟨.inr rfl,zak.one (by simp)⟩
 ·subst h
  refine zae ?_
  refine zaa ⟨11,[(2,.ifc 142 (eE e))],[],300⟩ rfl ?_ ?_
  ·simp
   exact LeH [] []
  refine zag ?_
  exact ⟨.inr rfl,zak.one (by simp)⟩
section
variable {H : Type} {P : Program} {tI tB tE tS : TypeId}
theorem zul {n : Nat} (hB : P.underlying tB = some .bool) {d : DataW H} {cs : List AV} (h : avs P (n + 1) tB d = some cs) : ∃ b,cs = [.B b]:=by
 cases d <;> simp [avs,hB] at h
 rename_i l
 cases l <;> simp at h
 subst h
 exact ⟨_,rfl⟩
theorem zrN {n : Nat} (hI : P.underlying tI = some (.int .i64)) (hB : P.underlying tB = some .bool) (hE : St3 P tE tI tI tI) (hS : St2 P tS tB tE) {d : DataW H} {x : AV} (h : zie P (n + 3) tS d = some x) : ∃ s : GStp,x = eSt s:=by
 have h' : ∃ cs,avs P (n + 3) tS d = some cs ∧ .agg cs = x:=by
  obtain ⟨f1,f2,hu,_⟩:=hS
  simpa only [zie,hu,Option.map_eq_some_iff] using h
 clear h
 obtain ⟨cs,h,rfl⟩:=h'
 obtain ⟨d1,d2,c1,c2,h1,h2,rfl⟩:=zwq hS h
 obtain ⟨b,rfl⟩:=zul hB h1
 obtain ⟨e,rfl⟩:=zvu hI hE h2
 exact ⟨⟨b,e⟩,rfl⟩
end
theorem zqF (g : Gr) (s : GStp) (hl : g.edges.length ≤ 1000000) (hl2 : g.gone.length ≤ 1000000) : ∃ f,lkp [(141,zbt),(142,zbo)] (if s.gone = true then 141 else 142) = some f ∧
  zai Tryz.prog f [eE s.e,eG g] [] (.tup [eG (zas g s).1,.I (zas g s).2]) []:=by
 obtain ⟨go,e⟩:=s
 cases go
 ·exact ⟨zbo,rfl,zkQ e g hl hl2⟩
 ·exact ⟨zbt,rfl,zlS e g hl hl2⟩
section
variable {g : Gr} {p : Pol} {acc f : List Int} {R : List (Int × List Int)} {s : GStp}
theorem zkv (hl : g.edges.length ≤ 1000000) (hl2 : g.gone.length ≤ 1000000) (h : (zas g s).2 ≠ 0) : zai Tryz.prog zeM [eT g p acc f R,eSt s] [] (.tup [eT g p acc f R,.I (zas g s).2]) []:=by
 obtain ⟨fm,htb,haf⟩:=zqF g s hl hl2
 have hof:=zje s
 generalize hty : (if s.gone = true then (141 : Nat) else 142) = ty at *
 generalize zas g s = r at *
 obtain ⟨g',x⟩:=r
 simp only at h haf
 have he' : (x != 0) = true:=by simp [h]
 refine zi9.acalls (nbz rfl) (nbz rfl) (Nat.zero_le _) ?_
 show awp _ 0 _ _ ⟨26,[(0,eT g p acc f R),(1,eSt s)],[],16⟩
 refine zaa ⟨26,[(2,.pv (tC g p acc f R)),(3,.pv (stC s)),(4,.pt 32 0 0)],[(32,some ⟨9,[[.I 0,.nilS,.nilS,.nilS,.nilS,.I 0,.nilS,.nilS,.nilS]],0⟩)],100⟩ rfl ?_ ?_
 ·simp
  exact LeH [(32,32)] [16,24]
 refine zan ⟨26,[(2,.pv (tC g p acc f R)),(4,.pt 32 0 0),(7,.I x)],[(32,some ⟨9,[[.I 0,.nilS,.nilS,.nilS,.nilS,.I 0,.nilS,.nilS,.nilS]],0⟩)],200⟩ rfl ?_ ?_
 ·simp
  refine zaj hof (by simp) ?_
  simp
  refine zuV htb haf (by simp) ?_
  simp [zau]
  exact ⟨rfl,LeH [(32,32)] []⟩
 refine zab ?_
 refine zaa ⟨26,[(2,.pv (tC g p acc f R)),(4,.pt 32 0 0),(7,.I x),(17,.B true)],[(32,some ⟨9,[[.I 0,.nilS,.nilS,.nilS,.nilS,.I 0,.nilS,.nilS,.nilS]],0⟩)],300⟩ rfl ?_ ?_
 ·simp
  exact Le.go [(32,32)] [] rfl rfl (by simp [he']) (by simp)
 refine zac _ rfl (fun _=>?_) fun h=>by cases h
 refine zaa ⟨26,[(4,.pt 32 0 0),(5,.I x)],[(32,some ⟨9,[tC g p acc f R],0⟩)],400⟩ rfl ?_ ?_
 ·simp [zau]
  exact LeH [(32,32)] []
 refine zag ?_
 exact ⟨.inr rfl,zak.out [] [32] rfl (by simp) (by simp) (by simp <;> exact .refl _) (by simp)⟩
theorem zkX (hg : GrOk g) (hp : za0 g.size p) (hN : g.size < 20) (h : (zas g s).2 = 0) :
  ∃ f',zcW (zas g s).1 p (zaw (accG (zas g s).1 p)) f' ∧ zai Tryz.prog zeM [eT g p acc f R,eSt s] [] (.tup [eT (zas g s).1 p (accG (zas g s).1 p) f' (refG (zas g s).1 p),.I 0]) []:=by
 have hel:=hg.edges_le
 have hgl:=hg.gone_le
 obtain ⟨k1,k2,k3,k4⟩:=zed hg h
 obtain ⟨fm,htb,haf⟩:=zqF g s (by omega) (by omega)
 have hof:=zje s
 generalize hty : (if s.gone = true then (141 : Nat) else 142) = ty at *
 rw [h] at haf
 generalize (zas g s).1 = g' at *
 obtain ⟨f',hf',hst⟩:=zeX g' p k1 (by rw [k2]; exact hp) (by omega)
 refine ⟨f',hf',?_⟩
 generalize accG g' p = acc' at *
 generalize refG g' p = R' at *
 refine zi9.acalls (nbz rfl) (nbz rfl) (Nat.zero_le _) ?_
 show awp _ 0 _ _ ⟨26,[(0,eT g p acc f R),(1,eSt s)],[],16⟩
 refine zaa ⟨26,[(2,.pv (tC g p acc f R)),(3,.pv (stC s)),(4,.pt 32 0 0)],[(32,some ⟨9,[[.I 0,.nilS,.nilS,.nilS,.nilS,.I 0,.nilS,.nilS,.nilS]],0⟩)],100⟩ rfl ?_ ?_
 ·simp
  exact LeH [(32,32)] [16,24]
 refine zan ⟨26,[(2,.pv (tC g p acc f R)),(4,.pt 32 0 0),(6,.pv (gC g')),(7,.I 0)],[(32,some ⟨9,[[.I 0,.nilS,.nilS,.nilS,.nilS,.I 0,.nilS,.nilS,.nilS]],0⟩)],200⟩ rfl ?_ ?_
 ·simp
  refine zaj hof (by simp) ?_
  simp
  refine zuV htb haf (by simp) ?_
  simp [zau]
  exact ⟨rfl,LeH [(32,32)] [164]⟩
 refine zab ?_
 refine zaa ⟨26,[(2,.pv (tC g p acc f R)),(4,.pt 32 0 0),(6,.pv (gC g')),(17,.B false)],[(32,some ⟨9,[[.I 0,.nilS,.nilS,.nilS,.nilS,.I 0,.nilS,.nilS,.nilS]],0⟩)],300⟩ rfl ?_ ?_
 ·simp
  exact LeH [(32,32)] []
 refine zac _ rfl (fun h=>by cases h) fun _=>?_
 refine zae ?_
 refine zaa ⟨26,[(4,.pt 32 0 0),(5,.I 0)],[(32,some ⟨9,[tC g' p acc' f' R'],0⟩)],400⟩ rfl ?_ ?_
 ·simp
  refine zaj hst (by simp) ?_
  simp [zau]
  exact LeH [(32,32)] []
 refine zag ?_
 exact ⟨.inr rfl,zak.out [] [32] rfl (by simp) (by simp) (by simp <;> exact .refl _) (by simp)⟩
variable {e : Int}
theorem zfM (hc : zai Tryz.prog zbd [eG g,eP p,eAcc acc f R] [] (.I 0) []) (hl : g.edges.length ≤ 1000000) (hl2 : g.gone.length ≤ 1000000) (h : (zas g s).2 ≠ 0) :
  zai Tryz.prog zch [eT g p acc f R,eSt s] [] (.tup [eT g p acc f R,ints [],ints [],.I (zas g s).2]) []:=by
 have hnx:=zkv (p:=p) (acc:=acc) (f:=f) (R:=R) hl hl2 h
 generalize (zas g s).2 = x at *
 have he' : (x != 0) = true:=by simp [h]
 refine zh1.acalls (nbz rfl) (nbz rfl) (Nat.zero_le _) ?_
 show awp _ 0 _ _ ⟨44,[(0,eT g p acc f R),(1,eSt s)],[],16⟩
 refine zaa ⟨44,[(2,.pv (tC g p acc f R)),(3,.pv (stC s)),(4,.pt 32 0 0)],[(32,some ⟨9,[[.I 0,.nilS,.nilS,.nilS,.nilS,.I 0,.nilS,.nilS,.nilS]],0⟩)],100⟩ rfl ?_ ?_
 ·simp
  exact LeH [(32,32)] [16,24]
 refine zab ?_
 refine zaa ⟨44,[(2,.pv (tC g p acc f R)),(3,.pv (stC s)),(4,.pt 32 0 0),(19,.B false)],[(32,some ⟨9,[[.I 0,.nilS,.nilS,.nilS,.nilS,.I 0,.nilS,.nilS,.nilS]],0⟩)],200⟩ rfl ?_ ?_
 ·simp
  refine zaj hc (by simp) ?_
  simp
  exact LeH [(32,32)] []
 refine zac _ rfl (fun h=>by cases h) fun _=>?_
 refine zae ?_
 refine zaa ⟨44,[(2,.pv (tC g p acc f R)),(4,.pt 32 0 0),(9,.I x)],[(32,some ⟨9,[[.I 0,.nilS,.nilS,.nilS,.nilS,.I 0,.nilS,.nilS,.nilS]],0⟩)],300⟩ rfl ?_ ?_
 ·simp
  refine zaj hnx (by simp) ?_
  simp [zau]
  exact LeH [(32,32)] []
 refine zab ?_
 refine zaa ⟨44,[(2,.pv (tC g p acc f R)),(4,.pt 32 0 0),(9,.I x),(28,.B true)],[(32,some ⟨9,[[.I 0,.nilS,.nilS,.nilS,.nilS,.I 0,.nilS,.nilS,.nilS]],0⟩)],400⟩ rfl ?_ ?_
 ·simp
  exact Le.go [(32,32)] [] rfl rfl (by simp [he']) (by simp)
 refine zac _ rfl (fun _=>?_) fun h=>by cases h
 refine zaa ⟨44,[(4,.pt 32 0 0),(5,.vs 1 false []),(6,.vs 1 false []),(7,.I x)],[(32,some ⟨9,[tC g p acc f R],0⟩)],500⟩ rfl ?_ ?_
 ·simp [zau]
  exact LeH [(32,32)] []
 refine zag ?_
 exact ⟨.inr rfl,zak.out [] [32] rfl (by simp) (by simp) (by simp <;> exact .refl _) (by simp)⟩
theorem zdP (hc : zai Tryz.prog zbd [eG g,eP p,eAcc acc f R] [] (.I 0) []) (hg : GrOk g) (hp : za0 g.size p) (hN : g.size < 20) (ha : acc.length ≤ 1000) (h : (zas g s).2 = 0) :
  ∃ f',zcW (zas g s).1 p (zaw (accG (zas g s).1 p)) f' ∧ zai Tryz.prog zch [eT g p acc f R,eSt s] [] (.tup [eT (zas g s).1 p (accG (zas g s).1 p) f' (refG (zas g s).1 p),ints (zex (accG (zas g s).1 p) acc),ints (zex acc (accG (zas g s).1 p)),.I 0]) []:=by
 obtain ⟨f',hf',hnx⟩:=zkX (acc:=acc) (f:=f) (R:=R) hg hp hN h
 refine ⟨f',hf',?_⟩
 have hal:=zgP (zed hg h).1 p
 generalize (zas g s).1 = g' at *
 generalize accG g' p = acc' at *
 generalize refG g' p = R' at *
 have hl1:=zg1 acc' acc (by omega) (by omega)
 have hl2:=zg1 acc acc' (by omega) (by omega)
 generalize zex acc' acc = gi at *
 generalize zex acc acc' = lo at *
 refine zh1.acalls (nbz rfl) (nbz rfl) (Nat.zero_le _) ?_
 show awp _ 0 _ _ ⟨44,[(0,eT g p acc f R),(1,eSt s)],[],16⟩
 refine zaa ⟨44,[(2,.pv (tC g p acc f R)),(3,.pv (stC s)),(4,.pt 32 0 0)],[(32,some ⟨9,[[.I 0,.nilS,.nilS,.nilS,.nilS,.I 0,.nilS,.nilS,.nilS]],0⟩)],100⟩ rfl ?_ ?_
 ·simp
  exact LeH [(32,32)] [16,24]
 refine zab ?_
 refine zaa ⟨44,[(2,.pv (tC g p acc f R)),(3,.pv (stC s)),(4,.pt 32 0 0),(19,.B false)],[(32,some ⟨9,[[.I 0,.nilS,.nilS,.nilS,.nilS,.I 0,.nilS,.nilS,.nilS]],0⟩)],200⟩ rfl ?_ ?_
 ·simp
  refine zaj hc (by simp) ?_
  simp
  exact LeH [(32,32)] []
 refine zac _ rfl (fun h=>by cases h) fun _=>?_
 refine zae ?_
 refine zaa ⟨44,[(2,.pv (tC g p acc f R)),(4,.pt 32 0 0),(8,.pv (tC g' p acc' f' R')),(9,.I 0)],[(32,some ⟨9,[[.I 0,.nilS,.nilS,.nilS,.nilS,.I 0,.nilS,.nilS,.nilS]],0⟩)],300⟩ rfl ?_ ?_
 ·simp
  refine zaj hnx (by simp) ?_
  simp [zau]
  exact LeH [(32,32)] [248]
 refine zab ?_
 refine zaa ⟨44,[(2,.pv (tC g p acc f R)),(4,.pt 32 0 0),(8,.pv (tC g' p acc' f' R')),(28,.B false)],[(32,some ⟨9,[[.I 0,.nilS,.nilS,.nilS,.nilS,.I 0,.nilS,.nilS,.nilS]],0⟩)],400⟩ rfl ?_ ?_
 ·simp
  exact LeH [(32,32)] []
 refine zac _ rfl (fun h=>by cases h) fun _=>?_
 refine zae ?_
 refine zan ⟨44,[(4,.pt 32 0 0),(8,.pv (tC g' p acc' f' R')),(10,ints acc),(11,ints acc')],[(32,some ⟨9,[[.I 0,.nilS,.nilS,.nilS,.nilS,.I 0,.nilS,.nilS,.nilS]],0⟩)],500⟩ rfl ?_ ?_
 ·simp
  exact ⟨rfl,LeH [(32,32)] []⟩
 refine zan ⟨44,[(4,.pt 32 0 0),(5,ints gi),(6,ints lo),(7,.I 0)],[(32,some ⟨9,[tC g' p acc' f' R'],0⟩)],700⟩ rfl ?_ ?_
 ·simp
  refine zaj hl1 (by simp) ?_
  simp
  refine zaj hl2 (by simp) ?_
  simp [zau]
  exact ⟨rfl,LeH [(32,32)] []⟩
 refine zag ?_
 exact ⟨.inr rfl,zak.out [] [32] rfl (by simp) (by simp) (by simp <;> exact .refl _) (by simp)⟩
end
set_option maxRecDepth 100000 in
set_option maxHeartbeats 4000000 in
theorem zj5 (acc fl : List Int) (R : List (Int × List Int)) (ha : acc.length ≤ 1000) (hf : fl.length ≤ 2000) (hR : R.length ≤ 1000) (hs : ∀ r ∈ R,r.2.length ≤ 1000) :
  zai Tryz.prog zhk [eAcc acc fl R] [] (.agg [.rs 0 0 acc.length,.rs 1 0 fl.length,.rs 2 0 R.length]) [some ⟨1,zah acc,0⟩,some ⟨1,zah fl,0⟩,some ⟨2,zaJ R,0⟩]:=by
 refine zqi.acalls (nbz rfl) (nbz rfl) (Nat.zero_le _) ?_
 show awp _ 0 _ _ ⟨39,[(0,eAcc acc fl R)],[],16⟩
 refine zaa ⟨39,[(1,.pv [ints acc,ints fl,.vs 2 false (zaJ R)]),(2,.pt 24 0 0)],[(24,some ⟨3,[[.nilS,.nilS,.nilS]],0⟩)],100⟩ rfl ?_ ?_
 ·simp
  exact LeH [(24,24)] [16]
 refine zan ⟨39,[(1,.pv [ints acc,ints fl,.vs 2 false (zaJ R)]),(2,.pt 24 0 0),(3,.pt 40 0 0)],[(24,some ⟨3,[[.nilS,.nilS,.nilS]],0⟩),(40,some ⟨3,[[.rs 41 0 acc.length,.rs 42 0 fl.length,.nilS]],0⟩),(41,some ⟨1,zah acc,0⟩),(42,some ⟨1,zah fl,0⟩)],200⟩ rfl ?_ ?_
 ·simp [zau]
  exact ⟨by omega,by omega,by omega,by omega,rfl,LeI [(24,24),(156,40),(116,41),(140,42)] []⟩
 refine zab ?_
 refine zaa ⟨39,[(1,.pv [ints acc,ints fl,.vs 2 false (zaJ R)]),(2,.pt 24 0 0),(3,.pt 40 0 0),(4,.I 0)],[(24,some ⟨3,[[.nilS,.nilS,.nilS]],0⟩),(40,some ⟨3,[[.rs 41 0 acc.length,.rs 42 0 fl.length,.nilS]],0⟩),(41,some ⟨1,zah acc,0⟩),(42,some ⟨1,zah fl,0⟩)],300⟩ rfl ?_ ?_
 ·simp
  exact LeI [(24,24),(40,40),(41,41),(42,42)] []
 refine zaf ?_
 refine zao (ι:=Nat) (fun i=>⟨39,[(1,.pv [ints acc,ints fl,.vs 2 false (zaJ R)]),(2,.pt 24 0 0),(3,.pt 40 0 0),(4,.I i)],[(24,some ⟨3,[[.nilS,.nilS,.nilS]],0⟩),(40,some ⟨3,[[.rs 41 0 acc.length,.rs 42 0 fl.length,.rs 43 0 i]],0⟩),(41,some ⟨1,zah acc,0⟩),(42,some ⟨1,zah fl,0⟩),(43,some ⟨2,zaJ (tkL R i),0⟩)],300⟩) (fun i=>i ≤ R.length) (fun i=>R.length - i) 0 (Nat.zero_le _) (Le.lst [(24,24),(40,40),(41,41),(42,42)] [] [(43,2)] rfl (by simp) (by simp) (by simp) (by simp) (by simp) (by simp) (by simp) (by simp [Up]) (by simp [fcd,zum]; exact ⟨zaH.rfl' (by simp),zaH.row rfl (by omega) (by simp [UpL,Up,Wk.refl]),zaH.rfl' (by simp),zaH.rfl' (by simp)⟩)) ?_
 intro i hi
 have hTl : (tkL R i).length = i:=zvx hi
 refine zab ?_
 refine zaa ⟨39,[(1,.pv [ints acc,ints fl,.vs 2 false (zaJ R)]),(2,.pt 24 0 0),(3,.pt 40 0 0),(4,.I i),(16,.B (decide (i < R.length)))],[(24,some ⟨3,[[.nilS,.nilS,.nilS]],0⟩),(40,some ⟨3,[[.rs 41 0 acc.length,.rs 42 0 fl.length,.rs 43 0 i]],0⟩),(41,some ⟨1,zah acc,0⟩),(42,some ⟨1,zah fl,0⟩),(43,some ⟨2,zaJ (tkL R i),0⟩)],400⟩ rfl ?_ ?_
 ·simp
  exact LeI [(24,24),(40,40),(41,41),(42,42),(43,43)] []
 refine zac _ rfl (fun h5=>?_) fun h5=>?_
 ·rw [decide_eq_true_eq] at h5
  have hwi : IntKind.i64.wrap ((i : Int) + 1) = ((i + 1 : Nat) : Int):=by rw [w64 (by omega) (by omega)]; omega
  obtain ⟨r,hr⟩ : ∃ r,r = R[i]:=⟨_,rfl⟩
  have hrl:=hs _ (List.getElem_mem h5)
  have htk:=zuI h5
  rw [← hr] at hrl htk
  obtain ⟨k,sd⟩:=r
  simp only at hrl
  obtain ⟨T,hT⟩ : ∃ T,T = tkL R i:=⟨_,rfl⟩
  rw [← hT] at hTl htk ⊢
  have htT : ∀ h : Int × List Int → List AV,List.take i (List.map h T) = List.map h T:=fun h=>List.take_of_length_le (by simp; omega)
  refine zae ?_
  refine zab ?_
  refine zaf ?_
  refine zbx rfl ?_
  simp [h5,← hr,htT,hTl,zau]
  refine ⟨by omega,by omega,by omega,by omega,rfl,?_⟩
  refine zar rfl ?_
  simp
  exact ⟨i + 1,h5,by omega,Le.go [(24,24),(40,40),(41,41),(42,42),(536,43)] [512] rfl rfl (by simp [hwi]) (by simp [htk,fcd,zap])⟩
 rw [decide_eq_false_iff_not] at h5
 obtain rfl : i = R.length:=by omega
 rw [zvh]
 refine zam ?_
 refine hit ?_
 refine zaa ⟨39,[(2,.pt 24 0 0)],[(24,some ⟨3,[[.rs 41 0 acc.length,.rs 42 0 fl.length,.rs 43 0 R.length]],0⟩),(41,some ⟨1,zah acc,0⟩),(42,some ⟨1,zah fl,0⟩),(43,some ⟨2,zaJ R,0⟩)],400⟩ rfl ?_ ?_
 ·simp [zau]
  exact LeI [(24,24),(41,41),(42,42),(43,43)] []
 refine zag ?_
 exact ⟨.inr rfl,zak.out [41,42,43] [] rfl (by simp) (by simp) (by simp) (by simp [fcd])⟩
end Go.Proofs.YthmaflecfppoiaaGreat
