/- Texts of this claim,merged. -/
import Derived.Test.YthmaflecfppoiaaGreatRq14
import Derived.Test.YthmaflecfppoiaaGreatRq9
import Derived.Test.YthmaflecfppoiaaGreatRq15
import Derived.Test.YthmaflecfppoiaaGreatRq6
import Derived.Test.YthmaflecfppoiaaGreatRq10
import Derived.Test.YthmaflecfppoiaaGreatRq7
set_option linter.unusedSimpArgs false
set_option linter.unusedVariables false
set_option linter.unusedSectionVars false
namespace Go.Proofs.YthmaflecfppoiaaGreat
open Go
variable {N : Nat} {A : List Ed} {f : List Int}
theorem zrx (hl : f.length=A.length) (x : Int) : ∀ i,i≤A.length→(∀ j (h : j<f.length),j<i→0≤f[j]∧f[j]≤1048576) → -(1048576*(i : Int))≤netG A f i x∧netG A f i x≤1048576*(i : Int)
 | 0,_,_=>by rw [zgv]; omega
 | i+1,h,hb=>by
   have ih:=zrx hl x i (by omega) fun j h1 h2=>hb j h1 (by omega)
   have h2:=hb i (by omega) (by omega)
   rw [zgl (by omega) (by omega)]
   split <;> split <;> omega
set_option maxRecDepth 100000 in
set_option maxHeartbeats 4000000 in
open Classical in
theorem zg1 (hn : za2 ⟨N,A⟩) (hfl0 : f.length≤1099511627776) : zai Tryz.prog zdG [eN ⟨N,A⟩,ints f] [] (.B (decide (zaz N A f))) []:=by
 refine zjj.acalls (nbz rfl) (nbz rfl) (Nat.le_refl _) ?_
 show awp _ 0 _ _ ⟨87,[(0,eN ⟨N,A⟩),(1,ints f)],[],16⟩
 have hchk:=zdA ⟨N,A⟩ (by have:=hn.2.2.1; simp only at this ⊢; omega)
 rw [if_pos hn] at hchk
 obtain ⟨hn0,hn1,hal,hav⟩:=hn
 simp only at hn0 hn1 hal hav
 refine rx (s:=?s1) [1,2] [] [16] rfl ?o1 ?q1
 case o1=>simp; rfl
 refine zab ?_
 refine zaa ⟨87,[(1,ints f),(2,.pv (nC ⟨N,A⟩)),(18,.B (!decide (f.length=A.length)))],[],120⟩ rfl ?_ ?_
 ·simp
  refine zaj hchk (by simp) ?_
  simp
  exact Le.snap [] rfl rfl (by simp <;> exact wkB (by rw [Bool.eq_iff_iff]; simp <;> omega))
 refine zac _ rfl (fun h3=>?_) fun h3=>?_
 ·have h3' : ¬ f.length=A.length:=by simpa using h3
  have hno : ¬ zaz N A f:=fun h=>h3' (zcN.1 h).1
  refine rx (s:=?s3) [4] [] [] rfl ?o3 ?q3
  case o3=>simp; rfl
  refine zag ?_
  exact ⟨.inr rfl,zak.one (by simp [hno])⟩
 have hfl : f.length=A.length:=by simpa using h3
 refine zad ?_
 refine zaa ⟨87,[(1,ints f),(2,.pv (nC ⟨N,A⟩)),(5,.rs 136 0 N)],[(136,some ⟨1,zah (rowR N (netG A f 0)),0⟩)],144⟩ rfl ?_ ?_
 ·simp
  refine ⟨by omega,by omega,?_⟩
  have : rowR N (netG A f 0)=List.replicate N 0:=by
   unfold rowR
   simp only [zgv]
   simp [List.map_const']
  rw [this]
  exact LeH [(136,136)] []
 refine zab ?_
 refine zaa ⟨87,[(1,ints f),(2,.pv (nC ⟨N,A⟩)),(5,.rs 136 0 N),(6,.I 0)],[(136,some ⟨1,zah (rowR N (netG A f 0)),0⟩)],160⟩ rfl ?_ ?_
 ·simp
  exact LeI [(136,136)] []
 refine zaf ?_
 refine zan (ι:=Nat) (fun i=>⟨87,[(1,ints f),(2,.pv (nC ⟨N,A⟩)),(5,.rs 136 0 N),(6,.I i)],[(136,some ⟨1,zah (rowR N (netG A f i)),0⟩)],160⟩) (fun i=>i≤A.length ∧ ∀ k,k<i→zl2 A f k) (fun i=>A.length - i) 0 ⟨Nat.zero_le _,fun k h=>absurd h (Nat.not_lt_zero _)⟩ (LeI [(136,136)] []) ?_
 rintro i ⟨hi,hp⟩
 have hfb : ∀ j (h : j<f.length),j<i→0≤f[j]∧f[j]≤1048576:=fun j hj hji=>by
  have h1:=hp j hji
  unfold zl2 at h1
  have e1 : f.getD j 0=f[j]:=by rw [List.getD_eq_getElem?_getD,List.getElem?_eq_getElem hj,Option.getD_some]
  have e2 : arcD A j=A[j]'(by omega):=by unfold arcD; rw [List.getD_eq_getElem?_getD,List.getElem?_eq_getElem (by omega),Option.getD_some]
  rw [e1,e2] at h1
  have h2:=(hav _ (List.getElem_mem (show j<A.length by omega))).2.2.2.2.2.2.2.2
  omega
 have hbd:=fun x=>zrx hfl x i hi hfb
 refine zab ?_
 refine zaa ⟨87,[(1,ints f),(2,.pv (nC ⟨N,A⟩)),(5,.rs 136 0 N),(6,.I i),(25,.B (decide (i<f.length)))],[(136,some ⟨1,zah (rowR N (netG A f i)),0⟩)],192⟩ rfl ?_ ?_
 ·simp
  exact LeI [(136,136)] []
 refine zac _ rfl (fun h8=>?_) fun h8=>?_
 ·simp at h8
  have hiA : i<A.length:=by omega
  have hw1 : IntKind.i64.wrap ((i : Int)+1)=(i : Int)+1:=w64 (by omega) (by omega)
  have heo:=hav _ (List.getElem_mem hiA)
  have hsucc:=zgl hiA h8
  have hbe:=hbd
  obtain ⟨e,he⟩ : ∃ e,e=A[i]:=⟨_,rfl⟩
  obtain ⟨w,hw⟩ : ∃ w,w=f[i]:=⟨_,rfl⟩
  rw [← he,← hw] at hsucc
  rw [← he] at heo
  obtain ⟨e1,e2,e3,e4,e5,e6,e7,e8,b3⟩:=heo
  have hfa : zl2 A f i↔0≤w∧w≤e.v:=by
   unfold zl2 arcD
   rw [List.getD_eq_getElem?_getD,List.getElem?_eq_getElem h8,Option.getD_some,List.getD_eq_getElem?_getD,List.getElem?_eq_getElem hiA,Option.getD_some,he,hw]
  have hg1 : A[i]? = some e:=by rw [List.getElem?_eq_getElem hiA,he]
  have hg2 : f[i]? = some w:=by rw [List.getElem?_eq_getElem h8,hw]
  have h2N : e.f<(N : Int)∧e.t<(N : Int):=by omega
  have h1:=hbe e.f
  have h2:=hbe e.t
  have hr1:=zc5 (N:=N) (g:=netG A f i) (x:=e.f) e1 (by omega)
  have hs1:=zgP (N:=N) (g:=netG A f i) (x:=e.f) (v:=netG A f i e.f - w) e1 (by omega)
  obtain ⟨g1,hg1d⟩ : ∃ g1 : Int→Int,g1=fun y=>if y=e.f then netG A f i e.f - w else netG A f i y:=⟨_,rfl⟩
  rw [← hg1d] at hs1
  have hg1t : g1 e.t=netG A f i e.t:=by rw [hg1d]; exact if_neg fun h=>e5 h.symm
  have hr2:=zc5 (N:=N) (g:=g1) (x:=e.t) e3 (by omega)
  rw [hg1t] at hr2
  have hs2:=zgP (N:=N) (g:=g1) (x:=e.t) (v:=netG A f i e.t+w) e3 (by omega)
  have hend : (rowR N fun y=>if y=e.t then netG A f i e.t+w else g1 y)=rowR N (netG A f (i+1)):=zgL fun x=>by
   rw [hsucc,hg1d]
   simp only
   by_cases h3 : x=e.t
   ·rw [h3,if_pos rfl,if_pos rfl,if_neg e5]
    omega
   ·by_cases h4 : x=e.f
    ·rw [if_neg h3,if_pos h4,if_neg fun h=>h3 h.symm,if_pos h4.symm,h4]
     omega
    ·rw [if_neg h3,if_neg h4,if_neg fun h=>h3 h.symm,if_neg fun h=>h4 h.symm]
     omega
  rw [hend] at hs2
  refine zad ?_
  refine zaK (ι:=Unit) (fun _=>⟨87,[(1,ints f),(2,.pv (nC ⟨N,A⟩)),(5,.rs 136 0 N),(6,.I i)],[(136,some ⟨1,zah (rowR N (netG A f (i+1))),0⟩)],1000⟩) (fun _=>zl2 A f i) ?_ fun _ hfit=>?_
  ·refine zaf ?_
   refine zab ?_
   refine zaq ⟨87,[(1,ints f),(2,.pv (nC ⟨N,A⟩)),(5,.rs 136 0 N),(6,.I i),(45,.B (!decide (0≤w∧w≤e.v)))],[(136,some ⟨1,zah (rowR N (netG A f i)),0⟩)],500⟩ rfl ?_ ?_
   ·simp [hg1,hg2,hiA,h8,← he,← hw]
    refine zb5 (fun hb=>?_) (fun hb=>?_) <;> (try rw [hb]) <;> (try simp at hb) <;> simp [hb,hg1,hg2,hiA,h8,← he,← hw]
    ·exact ⟨rfl,Le.go [(136,136)] [] rfl rfl (by simp <;> exact wkB (by rw [Bool.eq_iff_iff]; simp <;> omega)) (by simp [fcd])⟩
    ·exact ⟨rfl,Le.go [(136,136)] [] rfl rfl (by simp <;> exact wkB (by rw [Bool.eq_iff_iff]; simp <;> omega)) (by simp [fcd])⟩
   refine zac _ rfl (fun h45=>?_) fun h45=>?_
   ·have h45' : ¬ (0≤w∧w≤e.v):=fun h=>by rw [decide_eq_true h] at h45; cases h45
    have hno : ¬ zaz N A f:=fun h=>h45' (hfa.1 ((zcN.1 h).2.1 i hiA))
    refine rx (s:=?s46) [4] [] [] rfl ?o46 ?q46
    case o46=>simp; rfl
    refine zag ?_
    exact ⟨.inr rfl,zak.one (by simp [hno])⟩
   have h45' : 0≤w∧w≤e.v:=Decidable.byContradiction fun h=>by rw [decide_eq_false h] at h45; cases h45
   obtain ⟨b1,b2⟩:=h45'
   have hwx : IntKind.i64.wrap (netG A f i e.f - w)=netG A f i e.f - w:=w64 (by omega) (by omega)
   have hwy : IntKind.i64.wrap (netG A f i e.t+w)=netG A f i e.t+w:=w64 (by omega) (by omega)
   refine zad ?_
   refine zaq ⟨87,[(1,ints f),(2,.pv (nC ⟨N,A⟩)),(5,.rs 136 0 N),(6,.I i)],[(136,some ⟨1,zah (rowR N g1),0⟩)],700⟩ rfl ?_ ?_
   ·simp [hg1,hg2,hiA,h8,← he,← hw,hr1,e1,h2N,hwx,zay]
    exact ⟨rfl,Le.go [(136,136)] [] rfl rfl (by simp) (by simp [fcd,← hs1])⟩
   refine zbG rfl ?_
   simp [hg1,hg2,hiA,h8,← he,← hw,hr2,e3,h2N,hwy,zay]
   exact ⟨rfl,hfa.2 ⟨b1,b2⟩,Le.go [(136,136)] [] rfl rfl (by simp) (by simp [fcd,← hs2])⟩
  refine zae (s:=?s20) rfl ?o20 ?q20
  case o20=>simp; rfl
  exact ⟨i+1,⟨by omega,fun k hk=>by
   rcases Nat.lt_succ_iff_lt_or_eq.1 hk with h | h
   ·exact hp k h
   ·rw [h]; exact hfit⟩,by omega,Le.go [(136,136)] [] rfl rfl (by simp [hw1]) (by simp [fcd])⟩
 simp at h8
 obtain rfl : i=A.length:=by omega
 refine zal ?_
 refine hit ?_
 refine zab ?_
 refine zaa ⟨87,[(2,.pv (nC ⟨N,A⟩)),(5,.rs 136 0 N),(7,.I 2)],[(136,some ⟨1,zah (rowR N (netG A f A.length)),0⟩)],200⟩ rfl ?_ ?_
 ·simp
  exact LeI [(136,136)] []
 refine zaf ?_
 refine zan (ι:=Nat) (fun k=>⟨87,[(2,.pv (nC ⟨N,A⟩)),(5,.rs 136 0 N),(7,.I k)],[(136,some ⟨1,zah (rowR N (netG A f A.length)),0⟩)],200⟩) (fun k=>(2≤k∧k≤N) ∧ ∀ x : Nat,2≤x→x<k→exF A f x=0) (fun k=>N - k) 2 ⟨by omega,fun x h1 h2=>by omega⟩ (LeI [(136,136)] []) ?_
 rintro k ⟨⟨hk1,hk2⟩,hz⟩
 refine zab ?_
 refine zaa ⟨87,[(2,.pv (nC ⟨N,A⟩)),(5,.rs 136 0 N),(7,.I k),(79,.B (decide (k<N)))],[(136,some ⟨1,zah (rowR N (netG A f A.length)),0⟩)],300⟩ rfl ?_ ?_
 ·simp
  exact LeI [(136,136)] []
 refine zac _ rfl (fun h15=>?_) fun h15=>?_
 ·simp at h15
  have hr:=zc5 (N:=N) (g:=netG A f A.length) (x:=(k : Int)) (by omega) (by omega)
  have hng:=zmO hfl (k : Int)
  obtain ⟨z,hzd⟩ : ∃ z,z=netG A f A.length k:=⟨_,rfl⟩
  rw [← hzd] at hr hng
  simp only [Int.toNat_natCast] at hr
  have hw1 : IntKind.i64.wrap ((k : Int)+1)=(k : Int)+1:=w64 (by omega) (by omega)
  refine zad ?_
  refine zab ?_
  refine zaf ?_
  refine zaa ⟨87,[(2,.pv (nC ⟨N,A⟩)),(5,.rs 136 0 N),(7,.I k),(86,.B (!decide (z=0)))],[(136,some ⟨1,zah (rowR N (netG A f A.length)),0⟩)],400⟩ rfl ?_ ?_
  ·simp [hr,h15]
   exact Le.go [(136,136)] [] rfl rfl (by simp <;> exact wkB (by rw [Bool.eq_iff_iff]; simp)) (by simp [fcd])
  refine zac _ rfl (fun h86=>?_) fun h86=>?_
  ·have h86' : ¬ z=0:=by simpa using h86
   have hno : ¬ zaz N A f:=fun h=>h86' (by rw [hng,(zcN.1 h).2.2 k hk1 h15]; rfl)
   refine rx (s:=?s87) [4] [] [] rfl ?o87 ?q87
   case o87=>simp; rfl
   refine zag ?_
   exact ⟨.inr rfl,zak.one (by simp [hno])⟩
  have h86' : z=0:=by simpa using h86
  refine zad ?_
  refine zae (s:=?s21) rfl ?o21 ?q21
  case o21=>simp; rfl
  exact ⟨k+1,⟨by omega,fun x h1 h2=>by
   rcases Nat.lt_succ_iff_lt_or_eq.1 h2 with h | h
   ·exact hz x h1 h
   ·subst h; omega⟩,by omega,Le.go [(136,136)] [] rfl rfl (by simp [hw1]) (by simp [fcd])⟩
 simp at h15
 have hyes : zaz N A f:=zcN.2 ⟨hfl,hp,fun x h1 h2=>hz x h1 (by omega)⟩
 refine zal ?_
 refine hit ?_
 refine zaa ⟨87,[(4,.B true)],[],400⟩ rfl ?_ ?_
 ·simp
  exact LeH [] []
 refine zag ?_
 exact ⟨.inr rfl,zak.one (by simp [hyes])⟩
set_option maxRecDepth 100000 in
open Classical in
theorem zlB (hn : za2 ⟨N,A⟩) (hfl0 : f.length≤1099511627776) : zai Tryz.prog zdO [eN ⟨N,A⟩,ints f] [] (.I (if zaz N A f then valF A f else 0)) []:=by
 by_cases hf : zaz N A f
 ·rw [if_pos hf]
  exact zfT hn hf
 rw [if_neg hf]
 have hchk:=zg1 hn hfl0
 rw [decide_eq_false hf] at hchk
 refine zjp.acalls (nbz rfl) (nbz rfl) (Nat.le_refl _) ?_
 show awp _ 0 _ _ ⟨31,[(0,eN ⟨N,A⟩),(1,ints f)],[],16⟩
 refine rx (s:=?s1) [1,2] [] [16] rfl ?o1 ?q1
 case o1=>simp; rfl
 refine zab ?_
 refine rx (s:=?s2) [1,2,10] [] [] rfl ?o2 ?q2
 case o2=>simp; refine zaj hchk (by simp) ?_; simp; rfl
 refine zac _ rfl (fun h=>?_) fun h=>by cases h
 refine rx (s:=?s3) [4] [] [] rfl ?o3 ?q3
 case o3=>simp; rfl
 refine zag ?_
 exact ⟨.inr rfl,zak.one (by simp)⟩
set_option maxRecDepth 100000
def zjV : AFun:=⟨65,[(4,none)],
 (.seq
 (.reg false [
  ⟨(some 3),(.box 3),[(.t 1)],none⟩,
  ⟨(some 4),.mv,[(.c (.bool false))],none⟩] [])
 (.seq
 (.reg false [
  ⟨(some 5),.mv,[(.c (.int .i64 0))],none⟩,
  ⟨(some 6),.mv,[(.c (.int .i64 0))],none⟩] [])
 (.seq
 (.seq
 (.reg false [
  ⟨(some 7),.mv,[(.c (.int .i64 0))],none⟩] [])
 (.block 0
 (.loop
 (.seq
 (.seq
 (.reg false [
  ⟨(some 8),.mv,[(.t 7)],none⟩,
  ⟨(some 9),.mv,[(.t 0)],none⟩,
  ⟨(some 10),.len,[(.t 9)],none⟩,
  ⟨(some 11),(.bin .lss),[(.t 8),(.t 10)],none⟩] [])
 (.cond (.t 11)
  .skip
  (.exit 0)))
 (.seq
 (.block 1
 (.seq
 (.reg true [
  ⟨(some 14),.mv,[(.t 5)],none⟩,
  ⟨(some 15),(.fad 0),[(.t 3)],none⟩,
  ⟨(some 16),(.ld false 1),[(.t 15)],none⟩,
  ⟨(some 17),.len,[(.t 16)],none⟩,
  ⟨(some 18),(.bin .lss),[(.t 14),(.t 17)],none⟩,
  ⟨(some 19),.mv,[(.t 18)],none⟩,
  ⟨(some 20),(.fad 0),[(.t 3)],(some (19,true))⟩,
  ⟨(some 21),(.ld false 1),[(.t 20)],(some (19,true))⟩,
  ⟨(some 22),.mv,[(.t 5)],(some (19,true))⟩,
  ⟨(some 23),(.iad 1),[(.t 21),(.t 22)],(some (19,true))⟩,
  ⟨(some 24),(.ld false 1),[(.t 23)],(some (19,true))⟩,
  ⟨(some 25),.mv,[(.t 0)],(some (19,true))⟩,
  ⟨(some 26),.mv,[(.t 7)],(some (19,true))⟩,
  ⟨(some 27),(.iad 1),[(.t 25),(.t 26)],(some (19,true))⟩,
  ⟨(some 28),(.ld false 1),[(.t 27)],(some (19,true))⟩,
  ⟨(some 29),(.bin .eql),[(.t 24),(.t 28)],(some (19,true))⟩,
  ⟨(some 30),.pick,[(.t 19),(.t 29),(.c (.bool false))],none⟩] [[],[],[1],[2],[0,3],[4],[5],[6,5],[5],[7,8,5],[9,5],[5],[5],[11,12,5],[13,5],[10,14,5],[5,15]])
 (.cond (.t 30)
  (.reg false [
   ⟨(some 31),.mv,[(.t 5)],none⟩,
   ⟨(some 32),(.bin .add),[(.t 31),(.c (.int .i64 1))],none⟩,
   ⟨(some 5),.mv,[(.t 32)],none⟩] [])
  (.seq
  (.reg true [
   ⟨(some 33),.mv,[(.t 6)],none⟩,
   ⟨(some 34),(.fad 2),[(.t 3)],none⟩,
   ⟨(some 35),(.ld false 1),[(.t 34)],none⟩,
   ⟨(some 36),.len,[(.t 35)],none⟩,
   ⟨(some 37),(.bin .lss),[(.t 33),(.t 36)],none⟩,
   ⟨(some 38),.mv,[(.t 37)],none⟩,
   ⟨(some 39),(.fad 2),[(.t 3)],(some (38,true))⟩,
   ⟨(some 40),(.ld false 1),[(.t 39)],(some (38,true))⟩,
   ⟨(some 41),.mv,[(.t 6)],(some (38,true))⟩,
   ⟨(some 42),(.iad 2),[(.t 40),(.t 41)],(some (38,true))⟩,
   ⟨(some 43),(.fad 0),[(.t 42)],(some (38,true))⟩,
   ⟨(some 44),(.ld false 1),[(.t 43)],(some (38,true))⟩,
   ⟨(some 45),.mv,[(.t 0)],(some (38,true))⟩,
   ⟨(some 46),.mv,[(.t 7)],(some (38,true))⟩,
   ⟨(some 47),(.iad 1),[(.t 45),(.t 46)],(some (38,true))⟩,
   ⟨(some 48),(.ld false 1),[(.t 47)],(some (38,true))⟩,
   ⟨(some 49),(.bin .eql),[(.t 44),(.t 48)],(some (38,true))⟩,
   ⟨(some 50),.pick,[(.t 38),(.t 49),(.c (.bool false))],none⟩] [[],[],[1],[2],[0,3],[4],[5],[6,5],[5],[7,8,5],[9,5],[10,5],[5],[5],[12,13,5],[14,5],[11,15,5],[5,16]])
  (.cond (.t 50)
   (.reg false [
    ⟨(some 51),.mv,[(.t 6)],none⟩,
    ⟨(some 52),(.bin .add),[(.t 51),(.c (.int .i64 1))],none⟩,
    ⟨(some 6),.mv,[(.t 52)],none⟩] [])
   (.seq
   (.reg false [
    ⟨(some 4),.mv,[(.c (.bool false))],none⟩] [])
   .ret))))))
 (.reg false [
  ⟨(some 12),.mv,[(.t 7)],none⟩,
  ⟨(some 13),(.bin .add),[(.t 12),(.c (.int .i64 1))],none⟩,
  ⟨(some 7),.mv,[(.t 13)],none⟩] []))))))
 (.seq
 (.reg false [
  ⟨(some 53),.mv,[(.t 5)],none⟩,
  ⟨(some 54),(.fad 0),[(.t 3)],none⟩,
  ⟨(some 55),(.ld false 1),[(.t 54)],none⟩,
  ⟨(some 56),.len,[(.t 55)],none⟩,
  ⟨(some 57),(.bin .eql),[(.t 53),(.t 56)],none⟩,
  ⟨(some 58),.mv,[(.t 57)],none⟩,
  ⟨(some 59),.mv,[(.t 6)],(some (58,true))⟩,
  ⟨(some 60),(.fad 2),[(.t 3)],(some (58,true))⟩,
  ⟨(some 61),(.ld false 1),[(.t 60)],(some (58,true))⟩,
  ⟨(some 62),.len,[(.t 61)],(some (58,true))⟩,
  ⟨(some 63),(.bin .eql),[(.t 59),(.t 62)],(some (58,true))⟩,
  ⟨(some 64),.pick,[(.t 58),(.t 63),(.c (.bool false))],none⟩,
  ⟨(some 4),.mv,[(.t 64)],none⟩] [])
 .ret))))⟩
theorem zjL : Src Tryz.prog zdY zjV:=mkS Tryz.f70
structure PnSt where
 n : Nat
 i : Nat
 k : Nat
set_option maxRecDepth 100000 in
set_option maxHeartbeats 4000000 in
theorem zhQ (o acc f : List Int) (R : List (Int × List Int)) (hol : o.length≤100) (ha : acc.length≤1000) (hR : R.length≤1000) : zai Tryz.prog zdY [ints o,eAcc acc f R] [] (.B (za0 o acc (zaT R))) []:=by
 refine zjL.acalls (nbz rfl) (nbz rfl) (Nat.le_refl _) ?_
 show awp _ 0 _ _ ⟨65,[(0,ints o),(1,eAcc acc f R)],[],16⟩
 have hkl : (zaT R).length=R.length:=by simp [zaT]
 obtain ⟨b,hb⟩ : ∃ b,b=za0 o acc (zaT R):=⟨_,rfl⟩
 rw [← hb]
 refine zaa ⟨65,[(0,ints o),(3,.pv [ints acc,ints f,.vs 2 false (zaJ R)])],[],40⟩ rfl ?_ ?_
 ·simp
  exact LeH [] [16]
 refine rx (s:=?s2) [0,3,5,6] [] [] rfl ?o2 ?q2
 case o2=>simp; rfl
 refine zab ?_
 refine rx (s:=?s3) [0,3,5,6,7] [] [] rfl ?o3 ?q3
 case o3=>simp; rfl
 refine zaf ?_
 refine zan (ι:=PnSt) (fun s=>⟨65,[(0,ints o),(3,.pv [ints acc,ints f,.vs 2 false (zaJ R)]),(5,.I s.i),(6,.I s.k),(7,.I s.n)],[],300⟩)
  (fun s=>s.n≤o.length∧s.i≤acc.length∧s.k≤R.length∧b=za0 (o.drop s.n) (acc.drop s.i) ((zaT R).drop s.k))
  (fun s=>o.length - s.n) ⟨0,0,0⟩ ⟨Nat.zero_le _,Nat.zero_le _,Nat.zero_le _,by simpa using hb⟩ (LeH [] []) ?_
 rintro ⟨n,i,k⟩ ⟨hn,hi,hk,hp⟩
 simp only at hn hi hk hp
 refine zab ?_
 refine zaa ⟨65,[(0,ints o),(3,.pv [ints acc,ints f,.vs 2 false (zaJ R)]),(5,.I i),(6,.I k),(7,.I n),(11,.B (decide (n<o.length)))],[],400⟩ rfl ?_ ?_
 ·simp
  exact LeH [] []
 refine zac _ rfl (fun h6=>?_) fun h6=>?_
 ·simp at h6
  have hw1 : IntKind.i64.wrap ((n : Int)+1)=(n : Int)+1:=w64 (by omega) (by omega)
  have hw2 : IntKind.i64.wrap ((i : Int)+1)=(i : Int)+1:=w64 (by omega) (by omega)
  have hw3 : IntKind.i64.wrap ((k : Int)+1)=(k : Int)+1:=w64 (by omega) (by omega)
  obtain ⟨x,hx⟩ : ∃ x,x=o[n]:=⟨_,rfl⟩
  have hod : o.drop n=x::o.drop (n+1):=by rw [List.drop_eq_getElem_cons h6,hx]
  rw [hod] at hp
  simp only [za0,List.tail_drop] at hp
  refine zad ?_
  refine zab ?_
  refine zaf ?_
  refine zaq ⟨65,[(0,ints o),(3,.pv [ints acc,ints f,.vs 2 false (zaJ R)]),(5,.I i),(6,.I k),(7,.I n),(30,.B (decide ((acc.drop i).head? = some x)))],[],700⟩ rfl ?_ ?_
  ·by_cases hia : i<acc.length
   ·have hh:=ze5 hia
    simp [hia,h6,← hx]
    exact ⟨rfl,Le.go [] [] rfl rfl (by simp <;> exact wkB (by rw [Bool.eq_iff_iff]; simp [hia])) (by simp)⟩
   ·have hh:=zcs hia
    have hai : acc.length≤i:=by omega
    simp [hia]
    exact ⟨rfl,Le.go [] [] rfl rfl (by simp [hia]) (by simp)⟩
  refine zac _ rfl (fun h9=>?_) fun h9=>?_
  ·rw [decide_eq_true_eq] at h9
   rw [if_pos h9] at hp
   have hia : i<acc.length:=Decidable.byContradiction fun h=>by rw [zcs h] at h9; cases h9
   refine zar rfl ?_
   simp
   refine zar rfl ?_
   simp
   exact ⟨⟨n+1,i+1,k⟩,⟨by simp only; omega,by simp only; omega,hk,hp⟩,by simp only; omega,Le.go [] [] rfl rfl (by simp [hw1,hw2]) (by simp)⟩
  rw [decide_eq_false_iff_not] at h9
  rw [if_neg h9] at hp
  refine zaq ⟨65,[(0,ints o),(3,.pv [ints acc,ints f,.vs 2 false (zaJ R)]),(5,.I i),(6,.I k),(7,.I n),(50,.B (decide (((zaT R).drop k).head? = some x)))],[],900⟩ rfl ?_ ?_
  ·by_cases hkR : k<R.length
   ·have hh2 : (zaT R)[k]? = some R[k].1:=by rw [zaT,List.getElem?_map,List.getElem?_eq_getElem hkR]; rfl
    simp [hkR,h6,← hx]
    exact ⟨rfl,Le.go [] [] rfl rfl (by simp [hh2] <;> exact wkB (by rw [Bool.eq_iff_iff]; simp)) (by simp)⟩
   ·have hh2 : (zaT R)[k]? = none:=List.getElem?_eq_none (by omega)
    simp [hkR]
    exact ⟨rfl,Le.go [] [] rfl rfl (by simp [hh2,hkR]) (by simp)⟩
  refine zac _ rfl (fun h11=>?_) fun h11=>?_
  ·rw [decide_eq_true_eq] at h11
   rw [if_pos h11] at hp
   have hkR : k<R.length:=Decidable.byContradiction fun h=>by rw [List.head?_drop,List.getElem?_eq_none (by omega)] at h11; cases h11
   refine zar rfl ?_
   simp
   refine zar rfl ?_
   simp
   exact ⟨⟨n+1,i,k+1⟩,⟨by simp only; omega,hi,hkR,hp⟩,by simp only; omega,Le.go [] [] rfl rfl (by simp [hw1,hw3]) (by simp)⟩
  rw [decide_eq_false_iff_not] at h11
  rw [if_neg h11] at hp
  subst hp
  refine rx (s:=?s10) [4] [] [] rfl ?o10 ?q10
  case o10=>simp; rfl
  refine zag ?_
  exact ⟨.inr rfl,zak.one (by simp)⟩
 simp at h6
 obtain rfl : n=o.length:=by omega
 rw [List.drop_length] at hp
 have hp2 : b=(decide (i=acc.length) && decide (k=R.length)):=by
  rw [hp]
  simp only [za0]
  rw [Bool.eq_iff_iff]
  simp [List.isEmpty_iff]
  omega
 refine zal ?_
 refine hit ?_
 refine zaa ⟨65,[(4,.B b)],[],1000⟩ rfl ?_ ?_
 ·by_cases hia : i=acc.length
  ·simp [hia]
   exact Le.go [] [] rfl rfl (by simp [hp2,hia] <;> exact wkB (by rw [Bool.eq_iff_iff]; simp; omega)) (by simp)
  ·have hia2 : ¬ (i : Int)=acc.length:=by omega
   have hia3 : ((i : Int) == (acc.length : Int))=false:=by simpa using hia2
   simp [hia3]
   exact Le.go [] [] rfl rfl (by simp [hp2,hia]) (by simp)
 refine zag ?_
 exact ⟨.inr rfl,zak.one (by simp)⟩
theorem zsf {o : List Int} {x : Int} {a r : List Int} (h : za0 (x::o) a r=true) (hn : (x::o).Nodup) (hx : x∈a) : a.head? = some x:=by
 simp only [za0] at h
 split at h
 ·assumption
 ·split at h
  ·exact absurd ((zf3 h).1.subset hx) (List.nodup_cons.1 hn).1
  ·cases h
set_option maxRecDepth 100000 in
set_option maxHeartbeats 8000000 in
open Classical in
theorem zlb (g : Gr) (p : Pol) (acc f : List Int) (R : List (Int × List Int)) (hg : GrOk g) (hp : za3 g.size p) (hs : p.seeds.length≤64) (ha : acc.length≤1000) (hR : R.length≤1000) (hf : f.length≤1099511627776) (hsd : ∀ r∈R,r.2.length≤9223372036854775807) :
  zai Tryz.prog zdK [eG g,eP p,eAcc acc f R] [] (.I (zif g p acc f R)) []:=by
 have hsz:=hg.1.1
 have hsz2:=hg.1.2.1
 have hel:=hg.edges_le
 have hgl:=hg.gone_le
 have hchk:=zeY g p (by omega) (by omega) (by omega) (by have:=hp.2.2.2.1; omega)
 rw [if_pos hg,if_pos hp] at hchk
 have hlev:=zdy g p.lv (by omega) (by omega)
 have hord:=zg0 (g:=zao g p.lv) (S:=p.seeds) (hg.level p.lv) (by omega)
 have hol:=zm5 hg p
 unfold zif
 obtain ⟨o,ho⟩ : ∃ o,o=ordL (zao g p.lv) p.seeds:=⟨_,rfl⟩
 have hor : ∀ k∈o,0≤k∧k<g.size:=fun k hk=>by rw [ho] at hk; have h:=zch hk; exact h
 have hon : o.Nodup:=by rw [ho]; exact zbr _ _
 rw [← ho] at hord hol ⊢
 have hpart:=zhQ o acc f R (by omega) ha hR
 have hj0 : zau []=[]:=rfl
 refine zo5.acalls (nbz rfl) (nbz rfl) (Nat.le_refl _) ?_
 show awp _ 0 _ _ ⟨114,[(0,eG g),(1,eP p),(2,eAcc acc f R)],[],16⟩
 refine zaa ⟨114,[(3,.pv (gC g)),(4,.pv (pC p)),(5,.pv [ints acc,ints f,.vs 2 false (zaJ R)])],[],60⟩ rfl ?_ ?_
 ·simp
  exact LeH [] [16,24,32]
 refine zab ?_
 refine rx (s:=?s2) [3,4,5,7] [] [] rfl ?o2 ?q2
 case o2=>simp; refine zaj hchk (by simp) ?_; simp; rfl
 refine rx (s:=?s3) [3,4,5,22] [] [] rfl ?o3 ?q3
 case o3=>simp; rfl
 refine zac _ rfl (fun h=>by cases h) fun _=>?_
 refine zad ?_
 refine zaq ⟨114,[(3,.pv (gC g)),(4,.pv (pC p)),(5,.pv [ints acc,ints f,.vs 2 false (zaJ R)]),(8,ints o)],[],300⟩ rfl ?_ ?_
 ·simp
  refine zaj hlev (by simp) ?_
  simp
  refine zaY hord (by simp) ?_
  simp
  exact ⟨rfl,Le.go [] [156] rfl rfl (by simp [fcd,zap]) (by simp)⟩
 refine zab ?_
 refine zaa ⟨114,[(3,.pv (gC g)),(4,.pv (pC p)),(5,.pv [ints acc,ints f,.vs 2 false (zaJ R)]),(8,ints o),(34,.B (!za0 o acc (zaT R)))],[],400⟩ rfl ?_ ?_
 ·simp
  refine zaj hpart (by simp) ?_
  simp
  exact LeH [] []
 refine zac _ rfl (fun h8=>?_) fun h8=>?_
 ·have h8' : ¬ za0 o acc (zaT R)=true:=by simpa using h8
  rw [if_neg h8']
  refine rx (s:=?s9) [6] [] [] rfl ?o9 ?q9
  case o9=>simp; rfl
  refine zag ?_
  exact ⟨.inr rfl,zak.one (by simp)⟩
 have h8' : za0 o acc (zaT R)=true:=by simpa using h8
 rw [if_pos h8']
 have hsub:=zf3 h8'
 have hperm:=(zmI hon h8').nodup_iff.1 hon
 have hkl : (zaT R).length=R.length:=by simp [zaT]
 have hrk : ∀ k∈zaT R,0≤k∧k<g.size:=fun k hk=>hor k (hsub.2.subset hk)
 have hak : ∀ k∈acc,0≤k∧k<g.size:=fun k hk=>hor k (hsub.1.subset hk)
 have h64 : ∀ a : List Int,(∀ x∈a,0≤x∧x<g.size) → ∀ x∈a,0≤x∧x<64:=fun a h x hx=>by have:=h x hx; omega
 have han : acc.Nodup:=(List.nodup_append.1 hperm).1
 have hjl:=zgN han (h64 acc hak)
 have hnet:=zdT g p (zau acc) hg hp (zde hak) hs (zbN acc)
 rw [← zfk hg,show za9 g p (zaP g p) (zau acc)=netA g p (zau acc) from rfl] at hnet
 have hnv : ∀ a : List Int,(∀ x∈a,0≤x∧x<g.size)→za2 ⟨netN g,netA g p (zau a)⟩:=fun a h=>zfp hg hp (zgi (zde h)) hs (zbN a)
 have hval:=zg1 (f:=f) (hnv acc hak) hf
 have hvv:=zlB (f:=f) (hnv acc hak) hf
 obtain ⟨A,hA⟩ : ∃ A,A=netA g p (zau acc):=⟨_,rfl⟩
 rw [← hA] at hnet hval hvv
 rw [← hA]
 refine zad ?_
 refine zaa ⟨114,[(3,.pv (gC g)),(4,.pv (pC p)),(5,.pv [ints acc,ints f,.vs 2 false (zaJ R)]),(8,ints o),(9,.vs 1 false [])],[],500⟩ rfl ?_ ?_
 ·simp
  exact LeH [] []
 refine zab ?_
 refine zaa ⟨114,[(3,.pv (gC g)),(4,.pv (pC p)),(5,.pv [ints acc,ints f,.vs 2 false (zaJ R)]),(8,ints o),(9,.vs 1 false []),(10,.I 0)],[],600⟩ rfl ?_ ?_
 ·simp
  exact LeH [] []
 refine zaf ?_
 refine zan (ι:=Nat) (fun i=>⟨114,[(3,.pv (gC g)),(4,.pv (pC p)),(5,.pv [ints acc,ints f,.vs 2 false (zaJ R)]),(8,ints o),(9,ints (zau (acc.take i))),(10,.I i)],[],700⟩) (fun i=>i≤acc.length) (fun i=>acc.length - i) 0 (Nat.zero_le _) (Le.go [] [] rfl rfl (by simp [hj0]; exact .refl _) (by simp)) ?_
 intro i hi
 refine zab ?_
 refine zaa ⟨114,[(3,.pv (gC g)),(4,.pv (pC p)),(5,.pv [ints acc,ints f,.vs 2 false (zaJ R)]),(8,ints o),(9,ints (zau (acc.take i))),(10,.I i),(39,.B (decide (i<acc.length)))],[],800⟩ rfl ?_ ?_
 ·simp
  exact LeH [] []
 refine zac _ rfl (fun h13=>?_) fun h13=>?_
 ·simp at h13
  have hw1 : IntKind.i64.wrap ((i : Int)+1)=(i : Int)+1:=w64 (by omega) (by omega)
  have hxr:=hak _ (List.getElem_mem h13)
  have hput:=zrG (zau (acc.take i)) acc[i] (by have:=zbN (acc.take i); omega)
  rw [zkj hxr.1 (by omega),← List.take_succ_eq_append_getElem h13] at hput
  obtain ⟨J,hJ⟩ : ∃ J,J=zau (acc.take (i+1)):=⟨_,rfl⟩
  rw [← hJ] at hput
  refine zad ?_
  refine zab ?_
  refine zaf ?_
  refine zar rfl ?_
  simp [h13]
  refine zaY hput (by simp) ?_
  simp
  refine zar rfl ?_
  simp
  exact ⟨i+1,by omega,by omega,Le.go [] [848] rfl rfl (by simp [hw1,← hJ,fcd,zap]) (by simp)⟩
 simp at h13
 obtain rfl : i=acc.length:=by omega
 rw [List.take_length]
 refine zal ?_
 refine hit ?_
 refine zaa ⟨114,[(3,.pv (gC g)),(4,.pv (pC p)),(5,.pv [ints acc,ints f,.vs 2 false (zaJ R)]),(8,ints o),(9,ints (zau acc)),(11,.pv (nC ⟨netN g,A⟩))],[],1000⟩ rfl ?_ ?_
 ·simp
  refine zaj hnet (by simp) ?_
  simp
  exact LeH [] [856]
 refine zab ?_
 refine zaa ⟨114,[(3,.pv (gC g)),(4,.pv (pC p)),(5,.pv [ints acc,ints f,.vs 2 false (zaJ R)]),(8,ints o),(69,.B (!decide (zaz (netN g) A f∧valF A f=acc.length)))],[],1200⟩ rfl ?_ ?_
 ·by_cases hfo : zaz (netN g) A f
  ·rw [decide_eq_true hfo] at hval
   rw [if_pos hfo] at hvv
   simp
   refine zaj hval (by simp) ?_
   simp
   refine zaj hvv (by simp) ?_
   simp
   exact Le.go [] [] rfl rfl (by simp [hfo,hjl] <;> exact wkB (by rw [Bool.eq_iff_iff]; simp)) (by simp)
  ·rw [decide_eq_false hfo] at hval
   simp
   refine zaj hval (by simp) ?_
   simp
   exact Le.go [] [] rfl rfl (by simp [hfo]) (by simp)
 refine zac _ rfl (fun h12=>?_) fun h12=>?_
 ·have h12' : ¬ (zaz (netN g) A f∧valF A f=acc.length):=fun h=>by rw [decide_eq_true h] at h12; cases h12
  rw [if_neg h12']
  refine rx (s:=?s13) [6] [] [] rfl ?o13 ?q13
  case o13=>simp; rfl
  refine zag ?_
  exact ⟨.inr rfl,zak.one (by simp)⟩
 have h12' : zaz (netN g) A f∧valF A f=acc.length:=by simpa using h12
 rw [if_pos h12']
 refine zad ?_
 refine zaa ⟨114,[(3,.pv (gC g)),(4,.pv (pC p)),(5,.pv [ints acc,ints f,.vs 2 false (zaJ R)]),(8,ints o),(13,.vs 1 false [])],[],1300⟩ rfl ?_ ?_
 ·simp
  exact LeH [] []
 refine zaa ⟨114,[(3,.pv (gC g)),(4,.pv (pC p)),(5,.pv [ints acc,ints f,.vs 2 false (zaJ R)]),(8,ints o),(13,.vs 1 false []),(14,.I 0)],[],1400⟩ rfl ?_ ?_
 ·simp
  exact LeH [] []
 refine zab ?_
 refine zaa ⟨114,[(3,.pv (gC g)),(4,.pv (pC p)),(5,.pv [ints acc,ints f,.vs 2 false (zaJ R)]),(8,ints o),(13,.vs 1 false []),(14,.I 0),(15,.I 0)],[],1500⟩ rfl ?_ ?_
 ·simp
  exact LeH [] []
 refine zaf ?_
 refine zan (ι:=PnSt) (fun s=>⟨114,[(3,.pv (gC g)),(4,.pv (pC p)),(5,.pv [ints acc,ints f,.vs 2 false (zaJ R)]),(8,ints o),(13,ints (zau (acc.take s.i))),(14,.I s.k),(15,.I s.n)],[],1600⟩)
  (fun s=>s.n≤o.length∧s.i≤acc.length∧s.k≤R.length∧za0 (o.drop s.n) (acc.drop s.i) ((zaT R).drop s.k)=true∧(zdl g p [] o acc R↔zdl g p (acc.take s.i) (o.drop s.n) (acc.drop s.i) (R.drop s.k)) ∧ ∀ x∈acc.take s.i,x∈o.take s.n)
  (fun s=>o.length - s.n) ⟨0,0,0⟩ ⟨Nat.zero_le _,Nat.zero_le _,Nat.zero_le _,by simpa using h8',by simp,by simp⟩ (Le.go [] [] rfl rfl (by simp [hj0]; exact .refl _) (by simp)) ?_
 rintro ⟨n,i,k⟩ ⟨hn,hi,hk,hpp,hcc,hin⟩
 simp only at hn hi hk hpp hcc hin
 refine zab ?_
 refine zaa ⟨114,[(3,.pv (gC g)),(4,.pv (pC p)),(5,.pv [ints acc,ints f,.vs 2 false (zaJ R)]),(8,ints o),(13,ints (zau (acc.take i))),(14,.I k),(15,.I n),(73,.B (decide (n<o.length)))],[],1700⟩ rfl ?_ ?_
 ·simp
  exact LeH [] []
 refine zac _ rfl (fun h22=>?_) fun h22=>?_
 ·simp at h22
  have hw1 : IntKind.i64.wrap ((n : Int)+1)=(n : Int)+1:=w64 (by omega) (by omega)
  have hw3 : IntKind.i64.wrap ((k : Int)+1)=(k : Int)+1:=w64 (by omega) (by omega)
  obtain ⟨x,hx⟩ : ∃ x,x=o[n]:=⟨_,rfl⟩
  have hxr : 0≤x∧x<g.size:=by rw [hx]; exact hor _ (List.getElem_mem h22)
  have hod : o.drop n=x::o.drop (n+1):=by rw [List.drop_eq_getElem_cons h22,hx]
  have hdn : (x::o.drop (n+1)).Nodup:=by rw [← hod]; exact hon.sublist (List.drop_sublist _ _)
  rw [hod] at hpp hcc
  have hhead : x∈acc↔(acc.drop i).head? = some x:=by
   constructor
   ·intro hm
    rw [← List.take_append_drop i acc] at hm
    rcases List.mem_append.1 hm with h | h
    ·exfalso
     have h2:=hin x h
     obtain ⟨j,hj,hjx⟩:=List.mem_iff_getElem.1 h2
     rw [List.getElem_take] at hjx
     rw [List.length_take] at hj
     exact (List.pairwise_iff_getElem.1 hon) j n (by omega) h22 (by omega) (hjx.trans hx)
    ·exact zsf hpp hdn h
   ·intro h
    exact List.mem_of_mem_drop (List.mem_of_mem_head? h)
  have hhas:=zo2 acc x (by omega)
  have hput:=zrG (zau (acc.take i)) x (by have:=zbN (acc.take i); omega)
  rw [zkj hxr.1 (by omega)] at hput
  have htn : o.take (n+1)=o.take n++[x]:=by rw [List.take_succ_eq_append_getElem h22,hx]
  have hcd : (acc.contains x)=decide (x∈acc):=by rw [Bool.eq_iff_iff]; simp
  rw [hcd] at hhas
  refine zad ?_
  refine zaK (ι:=PnSt) (fun s=>⟨114,[(3,.pv (gC g)),(4,.pv (pC p)),(5,.pv [ints acc,ints f,.vs 2 false (zaJ R)]),(8,ints o),(13,ints (zau (acc.take s.i))),(14,.I s.k),(15,.I n)],[],3000⟩)
   (fun s=>s.i≤acc.length∧s.k≤R.length∧za0 (o.drop (n+1)) (acc.drop s.i) ((zaT R).drop s.k)=true∧(zdl g p [] o acc R↔zdl g p (acc.take s.i) (o.drop (n+1)) (acc.drop s.i) (R.drop s.k)) ∧ ∀ x∈acc.take s.i,x∈o.take (n+1)) ?_ fun s hs'=>?_
  ·refine zaf ?_
   refine zab ?_
   refine zaq ⟨114,[(3,.pv (gC g)),(4,.pv (pC p)),(5,.pv [ints acc,ints f,.vs 2 false (zaJ R)]),(8,ints o),(13,ints (zau (acc.take i))),(14,.I k),(15,.I n),(82,.B (decide (x∈acc)))],[],1800⟩ rfl ?_ ?_
   ·simp [h22,← hx]
    refine zaj hhas (by simp) ?_
    simp
    exact ⟨rfl,LeH [] []⟩
   refine zac _ rfl (fun h24=>?_) fun h24=>?_
   ·have h24':=hhead.1 (of_decide_eq_true h24)
    simp only [za0,zdl,if_pos h24',List.tail_drop] at hpp hcc
    have hia : i<acc.length:=Decidable.byContradiction fun h=>by rw [zcs h] at h24'; cases h24'
    have hai : acc[i]=x:=by rw [ze5 hia] at h24'; exact Option.some.inj h24'
    have hti : acc.take (i+1)=acc.take i++[x]:=by rw [List.take_succ_eq_append_getElem hia,hai]
    rw [← hti] at hput hcc
    obtain ⟨J,hJ⟩ : ∃ J,J=zau (acc.take (i+1)):=⟨_,rfl⟩
    rw [← hJ] at hput
    refine zaa ⟨114,[(3,.pv (gC g)),(4,.pv (pC p)),(5,.pv [ints acc,ints f,.vs 2 false (zaJ R)]),(8,ints o),(13,ints J),(14,.I k),(15,.I n)],[],1900⟩ rfl ?_ ?_
    ·simp [h22,← hx]
     refine zaY hput (by simp) ?_
     simp
     exact Le.go [] [1840] rfl rfl (by simp [fcd,zap]) (by simp)
    refine zal ?_
    refine hit ?_
    refine ⟨⟨n,i+1,k⟩,⟨hia,hk,hpp,hcc,fun y hy=>?_⟩,Le.go [] [] rfl rfl (by simp [hJ]) (by simp)⟩
    simp only [hti] at hy
    rw [htn]
    rcases List.mem_append.1 hy with h | h
    ·exact List.mem_append_left _ (hin y h)
    ·exact List.mem_append_right _ h
   ·have h24' : ¬ (acc.drop i).head? = some x:=fun h=>(of_decide_eq_false h24) (hhead.2 h)
    simp only [za0,zdl,if_neg h24',List.tail_drop] at hpp hcc
    have hrh : ((zaT R).drop k).head? = some x:=by
     split at hpp
     ·assumption
     ·cases hpp
    rw [if_pos hrh] at hpp
    have hkR : k<R.length:=Decidable.byContradiction fun h=>by rw [List.head?_drop,List.getElem?_eq_none (by omega)] at hrh; cases hrh
    have hrx : R[k].1=x:=by
     rw [List.head?_drop,zaT,List.getElem?_map,List.getElem?_eq_getElem hkR] at hrh
     exact Option.some.inj hrh
    rw [List.drop_eq_getElem_cons hkR] at hcc
    simp only at hcc
    have hsdk:=hsd _ (List.getElem_mem hkR)
    obtain ⟨r,hr⟩ : ∃ r,r=R[k]:=⟨_,rfl⟩
    rw [← hr] at hcc hsdk hrx
    have hbr : ∀ y∈acc.take i,0≤y∧y<g.size:=fun y hy=>hak y (List.mem_of_mem_take hy)
    have hbn : (acc.take i).Nodup:=han.sublist (List.take_sublist _ _)
    have hbl:=zgN hbn (h64 _ hbr)
    have hks : ∀ y∈acc.take i++[x],0≤y∧y<g.size:=fun y hy=>by
     rcases List.mem_append.1 hy with h | h
     ·exact hbr y h
     ·rw [List.mem_singleton] at h; subst h; exact hxr
    have hnet2:=zdT g p (zau (acc.take i++[x])) hg hp (zde hks) hs (zbN _)
    rw [← zfk hg,show za9 g p (zaP g p) (zau (acc.take i++[x]))=netA g p (zau (acc.take i++[x])) from rfl] at hnet2
    have hprv:=zjC ⟨netN g,netA g p (zau (acc.take i++[x]))⟩ r.2 (zau (acc.take i)).length (by have:=(hnv _ hks).2.2.1; simp only at this ⊢; omega) hsdk
    have hpd : decide (zc2 ⟨netN g,netA g p (zau (acc.take i++[x]))⟩ r.2 (zau (acc.take i)).length)=decide (zgn g p (acc.take i) r):=by
     unfold zgn
     rw [hrx,hbl]
    rw [hpd] at hprv
    obtain ⟨W,hW⟩ : ∃ W,W=zau (acc.take i++[x]):=⟨_,rfl⟩
    obtain ⟨B,hB⟩ : ∃ B,B=zau (acc.take i):=⟨_,rfl⟩
    rw [← hW] at hput hnet2 hprv
    rw [← hB] at hput hprv
    rw [← hB]
    obtain ⟨A2,hA2⟩ : ∃ A2,A2=netA g p W:=⟨_,rfl⟩
    rw [← hA2] at hnet2 hprv
    refine zad ?_
    refine zaq ⟨114,[(3,.pv (gC g)),(4,.pv (pC p)),(5,.pv [ints acc,ints f,.vs 2 false (zaJ R)]),(8,ints o),(13,ints B),(14,.I k),(15,.I n),(16,.pv (nC ⟨netN g,A2⟩))],[],2000⟩ rfl ?_ ?_
    ·simp [h22,← hx]
     refine zaY hput (by simp) ?_
     simp
     refine zoT [1856] (by simp) hnet2 (by simp [fcd,zap]) ?_
     simp
     exact ⟨rfl,LeH [] [1896]⟩
    refine zab ?_
    refine zaq ⟨114,[(3,.pv (gC g)),(4,.pv (pC p)),(5,.pv [ints acc,ints f,.vs 2 false (zaJ R)]),(8,ints o),(13,ints B),(14,.I k),(15,.I n),(111,.B (!decide (zgn g p (acc.take i) r)))],[],2200⟩ rfl ?_ ?_
    ·simp [hkR,← hr]
     refine zaj hprv (by simp) ?_
     simp
     exact ⟨rfl,LeH [] []⟩
    refine zac _ rfl (fun h28=>?_) fun h28=>?_
    ·have h28' : ¬ zgn g p (acc.take i) r:=by simpa using h28
     have hno : ¬ zdl g p [] o acc R:=fun h=>h28' (hcc.1 h).1
     rw [if_neg hno]
     refine rx (s:=?s29) [6] [] [] rfl ?o29 ?q29
     case o29=>simp; rfl
     refine zag ?_
     exact ⟨.inr rfl,zak.one (by simp)⟩
    have h28' : zgn g p (acc.take i) r:=by simpa using h28
    refine zad ?_
    refine zar rfl ?_
    simp
    refine ⟨⟨n,i,k+1⟩,⟨hi,hkR,hpp,?_,fun y hy=>by rw [htn]; exact List.mem_append_left _ (hin y hy)⟩,Le.go [] [] rfl rfl (by simp [hw3,hB]) (by simp)⟩
    rw [hcc]
    exact ⟨fun h=>h.2,fun h=>⟨h28',h⟩⟩
  obtain ⟨c1,c2,c3,c4,c5⟩:=hs'
  refine zar rfl ?_
  simp
  exact ⟨⟨n+1,s.i,s.k⟩,⟨by simp only; omega,c1,c2,c3,c4,c5⟩,by simp only; omega,Le.go [] [] rfl rfl (by simp [hw1]) (by simp)⟩
 simp at h22
 obtain rfl : n=o.length:=by omega
 rw [List.drop_length] at hcc
 have hyes : zdl g p [] o acc R:=hcc.2 (by simp [zdl])
 rw [if_pos hyes]
 refine zal ?_
 refine hit ?_
 refine rx (s:=?s30) [6] [] [] rfl ?o30 ?q30
 case o30=>simp; rfl
 refine zag ?_
 exact ⟨.inr rfl,zak.one (by simp)⟩
open Classical in
theorem zl8 (g : Gr) (p : Pol) (acc f : List Int) (R : List (Int × List Int)) (hg : GrOk g) (hp : za3 g.size p) (hs : p.seeds.length≤64) (ha : acc.length≤1000) (hR : R.length≤1000) (hf : f.length≤1099511627776) (hsd : ∀ r∈R,r.2.length≤140737488355328) : zai Tryz.prog zdK [eG g,eP p,eAcc acc f R] [] (.I (zif g p acc f R)) [] :=
 zlb g p acc f R hg hp hs ha hR hf (fun r hr=>by have:=hsd r hr; omega)
set_option maxRecDepth 100000 in
theorem zlo (R S : List (Int × List Int)) (hR : R.length≤1000) (hS : S.length≤1000) (hr : ∀ r∈R,r.2.length≤140737488355328) : zai Tryz.prog zcE [.vs 2 false (zaJ R),.vs 2 false (zaJ S)] [] (.B (decide (R=S))) []:=by
 refine zhl.acalls (nbz rfl) (nbz rfl) (Nat.le_refl _) ?_
 show awp _ 0 _ _ ⟨42,[(0,.vs 2 false (zaJ R)),(1,.vs 2 false (zaJ S))],[],16⟩
 refine rx (s:=?s1) [0,1] [] [] rfl ?o1 ?q1
 case o1=>simp; rfl
 refine zab ?_
 refine zaa ⟨42,[(0,.vs 2 false (zaJ R)),(1,.vs 2 false (zaJ S)),(10,.B (!decide (R.length=S.length)))],[],100⟩ rfl ?_ ?_
 ·simp
  exact Le.go [] [] rfl rfl (by simp <;> exact wkB (by rw [Bool.eq_iff_iff]; simp <;> omega)) (by simp)
 refine zac _ rfl (fun h3=>?_) fun h3=>?_
 ·have h3' : ¬ R.length=S.length:=by simpa using h3
  have hno : ¬ R=S:=fun h=>h3' (by rw [h])
  refine rx (s:=?s4) [4] [] [] rfl ?o4 ?q4
  case o4=>simp; rfl
  refine zag ?_
  exact ⟨.inr rfl,zak.one (by simp [hno])⟩
 have h3' : R.length=S.length:=by simpa using h3
 refine zad ?_
 refine zab ?_
 refine rx (s:=?s5) [0,1,5] [] [] rfl ?o5 ?q5
 case o5=>simp; rfl
 refine zaf ?_
 refine zan (ι:=Nat) (fun i=>⟨42,[(0,.vs 2 false (zaJ R)),(1,.vs 2 false (zaJ S)),(5,.I i)],[],200⟩) (fun i=>i≤R.length ∧ ∀ k (h : k<R.length) (h' : k<S.length),k<i→R[k]=S[k]) (fun i=>R.length - i) 0 ⟨Nat.zero_le _,fun k _ _ h=>absurd h (Nat.not_lt_zero _)⟩ (LeH [] []) ?_
 rintro i ⟨hi,hp⟩
 refine zab ?_
 refine rx (s:=?s6) [0,1,5,14] [] [] rfl ?o6 ?q6
 case o6=>simp; rfl
 refine zac _ rfl (fun h7=>?_) fun h7=>?_
 ·simp at h7
  have h7S : i<S.length:=by omega
  have hw1 : IntKind.i64.wrap ((i : Int)+1)=(i : Int)+1:=w64 (by omega) (by omega)
  have hrl:=hr _ (List.getElem_mem h7)
  obtain ⟨⟨k1,s1⟩,hr1⟩ : ∃ r,r=R[i]:=⟨_,rfl⟩
  obtain ⟨⟨k2,s2⟩,hr2⟩ : ∃ r,r=S[i]:=⟨_,rfl⟩
  rw [← hr1] at hrl
  have hsame:=zcB s1 s2 hrl
  refine zad ?_
  refine zab ?_
  refine zaf ?_
  refine zaq ⟨42,[(0,.vs 2 false (zaJ R)),(1,.vs 2 false (zaJ S)),(5,.I i),(41,.B (!decide (k1=k2∧s1=s2)))],[],600⟩ rfl ?_ ?_
  ·by_cases hk : k1=k2
   ·subst hk
    simp [h7,h7S,← hr1,← hr2]
    refine zaj hsame (by simp) ?_
    simp
    exact ⟨rfl,LeH [] []⟩
   ·have hk2 : (k1 == k2)=false:=by simpa using hk
    simp [h7,h7S,← hr1,← hr2,hk2,bne]
    exact ⟨rfl,Le.go [] [] rfl rfl (by simp [hk]) (by simp)⟩
  refine zac _ rfl (fun h9=>?_) fun h9=>?_
  ·have h9' : ¬ (k1=k2∧s1=s2):=fun h=>by rw [decide_eq_true h] at h9; cases h9
   have hno : ¬ R=S:=fun h=>by
    subst h
    rw [← hr1] at hr2
    exact h9' ⟨(congrArg Prod.fst hr2).symm,(congrArg Prod.snd hr2).symm⟩
   refine rx (s:=?s10) [4] [] [] rfl ?o10 ?q10
   case o10=>simp; rfl
   refine zag ?_
   exact ⟨.inr rfl,zak.one (by simp [hno])⟩
  have h9' : k1=k2∧s1=s2:=by simpa using h9
  refine zad ?_
  refine zar rfl ?_
  simp
  refine ⟨i+1,⟨by omega,fun k h h' hki=>?_⟩,by omega,Le.go [] [] rfl rfl (by simp [hw1]) (by simp)⟩
  rcases Nat.lt_succ_iff_lt_or_eq.1 hki with h2 | h2
  ·exact hp k h h' h2
  ·subst h2
   rw [← hr1,← hr2,h9'.1,h9'.2]
 simp at h7
 have hyes : R=S:=List.ext_getElem h3' fun k h1 h2=>hp k h1 h2 (by omega)
 refine zal ?_
 refine hit ?_
 refine rx (s:=?s11) [4] [] [] rfl ?o11 ?q11
 case o11=>simp; rfl
 refine zag ?_
 exact ⟨.inr rfl,zak.one (by simp [hyes])⟩
theorem zup (a f b f' : List Int) (R S : List (Int × List Int)) (ha : a.length≤140737488355328) (hR : R.length≤1000) (hS : S.length≤1000) (hr : ∀ r∈R,r.2.length≤140737488355328) : zai Tryz.prog zgc [eAcc a f R,eAcc b f' S] [] (.B (decide (a=b∧R=S))) []:=by
 refine zoB.acalls (nbz rfl) (nbz rfl) (Nat.le_refl _) ?_
 show awp _ 0 _ _ ⟨17,[(0,eAcc a f R),(1,eAcc b f' S)],[],16⟩
 have h1:=zcB a b ha
 have h2:=zlo R S hR hS hr
 refine zaa ⟨17,[(2,.pv [ints a,ints f,.vs 2 false (zaJ R)]),(3,.pv [ints b,ints f',.vs 2 false (zaJ S)])],[],60⟩ rfl ?_ ?_
 ·simp
  exact LeH [] [16,24]
 refine zaa ⟨17,[(4,.B (decide (a=b∧R=S)))],[],300⟩ rfl ?_ ?_
 ·by_cases hab : a=b
  ·rw [decide_eq_true hab] at h1
   simp
   refine zaj h1 (by simp) ?_
   simp
   refine zaj h2 (by simp) ?_
   simp
   exact Le.go [] [] rfl rfl (by simp [hab]) (by simp)
  ·rw [decide_eq_false hab] at h1
   simp
   refine zaj h1 (by simp) ?_
   simp
   exact Le.go [] [] rfl rfl (by simp [hab]) (by simp)
 refine zag ?_
 exact ⟨.inr rfl,zak.one (by simp)⟩
theorem zpt (g : Gr) (p : Pol) : ∀ (n : Nat) (o : List Int),o.length=n → ∀ r∈refR g p o,r.2.length≤netN g
 | 0,o,h,r,hr=>by
   obtain rfl:=List.eq_nil_of_length_eq_zero h
   cases hr
 | n+1,o,h,r,hr=>by
   have hne : o≠[]:=fun e=>by rw [e] at h; cases h
   rw [← List.dropLast_concat_getLast hne] at hr
   have ih:=zpt g p n o.dropLast (by rw [List.length_dropLast,h]; rfl)
   by_cases hc : zas g p (zau (accR g p o.dropLast++[o.getLast hne]))
   ·rw [zhO hc] at hr; exact ih r hr
   ·rw [zlh hc] at hr
    rcases List.mem_append.1 hr with h2 | h2
    ·exact ih r h2
    ·rw [List.mem_singleton] at h2
     rw [h2]
     exact zoH _ _
noncomputable abbrev accG (g : Gr) (p : Pol) : List Int:=accR g p (ordL (zao g p.lv) p.seeds)
noncomputable abbrev refG (g : Gr) (p : Pol) : List (Int × List Int):=refR g p (ordL (zao g p.lv) p.seeds)
theorem zmJ {g : Gr} (hg : GrOk g) (p : Pol) : (accG g p).length≤64:=Nat.le_trans (zmP _) (zm5 hg p)
theorem zuZ {g : Gr} (hg : GrOk g) (p : Pol) : (refG g p).length≤64:=Nat.le_trans (zmS _ _ _ _ rfl) (zm5 hg p)
theorem zta {g : Gr} (hg : GrOk g) (p : Pol) : ∀ r∈refG g p,r.2.length≤130:=fun r hr=>by
 have h1:=zpt g p _ _ rfl r hr
 have h2:=zfk hg
 have h3:=hg.1.2.1
 omega
theorem zui {g : Gr} {p : Pol} {ks f : List Int} (hg : GrOk g) (hp : za3 g.size p) (hr : ∀ x∈ks,0≤x∧x<g.size) (hs : p.seeds.length≤64) (hl : ks.length≤64) (hf : zdP g p ks f) : f.length≤1200:=by
 have h1:=zfp hg hp hr hs hl
 have h2:=hf.ok.fit.len
 have h3:=h1.2.2.1
 simp only at h3
 omega
theorem zrc {g : Gr} (p : Pol) : ∀ x∈accG g p,0≤x∧x<g.size:=fun x hx=>by
 have h:=zch (zd8 hx)
 exact h
section
variable {g : Gr} {p : Pol}
theorem zkc (hg : GrOk g) (hp : za3 g.size p) : (p.seeds.length : Int)≤g.size:=by
 have h:=hp.2.1
 have hsz:=hg.1.1
 rcases Nat.eq_zero_or_pos p.seeds.length with h0 | h0
 ·omega
 have h1:=zmW h (p.seeds.length - 1) (by omega)
 have h2:=zgi h (p.seeds[p.seeds.length - 1]'(by omega)) (List.getElem_mem _)
 omega
end
structure GStp where
 gone : Bool
 e : Ed
open Classical in
noncomputable def zaD (g : Gr) (s : GStp) : Gr × Int:=if s.gone=true then zaO g s.e.f s.e.t else zbu g s.e
def HasE (g : Gr) (f t : Int) : Prop:=∃ x∈g.edges,x.f=f∧x.t=t
theorem Bef.asymm {a b : Ed} (h : Bef a b) : ¬ Bef b a:=by unfold Bef at *; omega
theorem Bef.irrefl (a : Ed) : ¬ Bef a a:=by unfold Bef; omega
theorem GrOk.of {s : Int} {E : List Ed} {go : List Int} (h0 : 0≤s) (h1 : s≤64) (hl : E.length≤500) (hg : Rise go 0 (s - 1)) (hp : E.Pairwise Bef) (hf : ∀ e∈E,Fits ⟨s,E,go⟩ e∧1≤e.v∧e.v≤3) : GrOk ⟨s,E,go⟩ :=
 ⟨⟨h0,h1,hl,hg⟩,fun i hi=>⟨(hf _ (List.getElem_mem hi)).1,(hf _ (List.getElem_mem hi)).2.1,(hf _ (List.getElem_mem hi)).2.2,fun h0=>zgd.2 (List.pairwise_iff_getElem.1 hp (i - 1) i (by simp only at hi; omega) hi (by omega))⟩⟩
variable {g : Gr} {f t : Int} {e : Ed}
theorem GrOk.val (hg : GrOk g) : ∀ e∈g.edges,1≤e.v∧e.v≤3:=fun e he=>by
 obtain ⟨i,hi,rfl⟩:=List.getElem_of_mem he
 exact ⟨(hg.2 i hi).2.1,(hg.2 i hi).2.2.1⟩
theorem GrOk.uniq (hg : GrOk g) {x y : Ed} (hx : x∈g.edges) (hy : y∈g.edges) (hf : x.f=y.f) (ht : x.t=y.t) : x=y:=by
 obtain ⟨i,hi,rfl⟩:=List.getElem_of_mem hx
 obtain ⟨j,hj,rfl⟩:=List.getElem_of_mem hy
 rcases Nat.lt_trichotomy i j with h | h | h
 ·have:=hg.lt j i hi hj h
  unfold Bef at this
  omega
 ·subst h; rfl
 ·have:=hg.lt i j hj hi h
  unfold Bef at this
  omega
theorem zvU {k : Nat} (h : AtE g.edges k f t) : HasE g f t:=by
 obtain ⟨h1,h2,h3⟩:=h
 exact ⟨_,List.getElem_mem h1,h2,h3⟩
theorem ztL (hg : GrOk g) {i : Nat} (hi : i<g.edges.length) (hf : g.edges[i].f=f) (ht : g.edges[i].t=t) : idxE g.edges ⟨f,t,0⟩=i :=
 zqU (by omega) (fun j hj hjl=>by
  have:=hg.lt i j (by omega) hi hj
  unfold Bef at this ⊢
  rw [hf,ht] at this
  exact this) (fun _ hb=>by
  unfold Bef at hb
  simp only at hb
  omega)
theorem zm4 (hg : GrOk g) : AtE g.edges (idxE g.edges ⟨f,t,0⟩) f t↔HasE g f t:=by
 refine ⟨zvU,?_⟩
 rintro ⟨x,hx,hf,ht⟩
 obtain ⟨i,hi,rfl⟩:=List.getElem_of_mem hx
 rw [ztL hg hi hf ht]
 exact ⟨hi,hf,ht⟩
theorem zhd (hg : GrOk g) (h : HasE g f t) : zaO g f t=(zev g f t,0)∧GrOk (zev g f t) ∧ ∀ x,x∈(zev g f t).edges↔x∈g.edges∧¬ (x.f=f∧x.t=t):=by
 have hat:=(zm4 hg).2 h
 obtain ⟨x,hx,hxf,hxt⟩:=h
 obtain ⟨i,hi,rfl⟩:=List.getElem_of_mem hx
 have hix:=ztL hg hi hxf hxt
 have hE : (zev g f t).edges=g.edges.take i++g.edges.drop (i+1):=by unfold zev; rw [hix]
 have hsub : (g.edges.take i++g.edges.drop (i+1)).Sublist g.edges:=by
  have h1 : (g.edges.drop (i+1)).Sublist (g.edges.drop i):=by
   rw [List.drop_eq_getElem_cons hi]
   exact List.sublist_cons_self _ _
  have h2:=(List.Sublist.refl (g.edges.take i)).append h1
  rwa [List.take_append_drop] at h2
 have hmem : ∀ y,y∈(zev g f t).edges↔y∈g.edges∧¬ (y.f=f∧y.t=t):=by
  intro y
  rw [hE]
  constructor
  ·intro hy
   refine ⟨hsub.subset hy,fun hc=>?_⟩
   have : y=g.edges[i]:=hg.uniq (hsub.subset hy) (List.getElem_mem hi) (hc.1.trans hxf.symm) (hc.2.trans hxt.symm)
   rcases List.mem_append.1 hy with h | h
   ·obtain ⟨j,hj,e⟩:=List.mem_take_iff_getElem.1 h
    have hjl : j<g.edges.length:=by omega
    have:=hg.lt i j hjl hi (by omega)
    rw [e,‹y=_›] at this
    exact Bef.irrefl _ this
   ·obtain ⟨j,hj,e⟩:=List.mem_drop_iff_getElem.1 h
    have:=hg.lt (i+1+j) i hi (by omega) (by omega)
    rw [e,‹y=_›] at this
    exact Bef.irrefl _ this
  ·rintro ⟨hy,hn⟩
   obtain ⟨j,hj,rfl⟩:=List.getElem_of_mem hy
   rcases Nat.lt_trichotomy j i with h | h | h
   ·exact List.mem_append_left _ (List.mem_take_iff_getElem.2 ⟨j,by omega,rfl⟩)
   ·subst h; exact absurd ⟨hxf,hxt⟩ hn
   ·refine List.mem_append_right _ (List.mem_drop_iff_getElem.2 ⟨j - (i+1),by omega,?_⟩)
    congr 1
    omega
 refine ⟨?_,?_,hmem⟩
 ·unfold zaO
  rw [if_neg (fun h=>h hg),if_neg (fun h=>h hat)]
 ·have hl:=hsub.length_le
  have hp : (zev g f t).edges.Pairwise Bef:=by rw [hE]; exact hg.pair.sublist hsub
  exact GrOk.of hg.1.1 hg.1.2.1 (by have:=hg.1.2.2.1; simp only [zev,hix]; omega) hg.1.2.2.2 hp fun y hy=>⟨hg.fits y ((hmem y).1 hy).1,hg.val y ((hmem y).1 hy).1⟩
theorem zlv (hg : GrOk g) : (zaO g f t).2=0↔HasE g f t:=by
 refine ⟨fun h=>?_,fun h=>by rw [(zhd hg h).1]⟩
 refine (zm4 hg).1 (Classical.byContradiction fun hn=>?_)
 unfold zaO at h
 rw [if_neg (fun h=>h hg),if_pos hn] at h
 simp at h
theorem ztf (g : Gr) (e : Ed) : ∀ x,x∈(zix g e).edges↔x=e∨x∈g.edges:=by
 intro x
 have h : x∈g.edges↔x∈g.edges.take (idxE g.edges ⟨e.f,e.t,0⟩)∨x∈g.edges.drop (idxE g.edges ⟨e.f,e.t,0⟩):=by
  rw [← List.mem_append,List.take_append_drop]
 rw [h]
 simp only [zix,List.mem_append,List.mem_cons]
 constructor <;> rintro (h | h | h) <;> simp [h]
theorem zrD (hg : GrOk g) (hl : g.edges.length<500) : (zbu g e).2=0↔Fits g e∧(1≤e.v∧e.v≤3)∧¬ HasE g e.f e.t:=by
 constructor
 ·intro h
  obtain ⟨_,h2,h3,h4,_⟩:=zj6 h
  exact ⟨h2,h3,fun h=>h4 ((zm4 hg).2 h)⟩
 ·rintro ⟨h1,h2,h3⟩
  unfold zbu
  rw [if_neg (fun h=>h hg),if_neg (fun h=>h h1),if_neg (fun h=>h h2),if_neg (fun h=>h3 ((zm4 hg).1 h)),if_neg (by omega)]
theorem zrl : ∀ {a b : List Ed},a.Pairwise Bef→b.Pairwise Bef→(∀ x,x∈a↔x∈b)→a=b
 | [],[],_,_,_=>rfl
 | [],y::b,_,_,h=>absurd ((h y).2 List.mem_cons_self) (by simp)
 | x::a,[],_,_,h=>absurd ((h x).1 List.mem_cons_self) (by simp)
 | x::a,y::b,ha,hb,h=>by
   rw [List.pairwise_cons] at ha hb
   have hxy : x=y:=by
    rcases List.mem_cons.1 ((h x).1 List.mem_cons_self) with h1 | h1
    ·exact h1
    rcases List.mem_cons.1 ((h y).2 List.mem_cons_self) with h2 | h2
    ·exact h2.symm
    exact absurd (ha.1 y h2) (hb.1 x h1).asymm
   subst hxy
   rw [zrl ha.2 hb.2 fun z=>⟨fun hz=>?_,fun hz=>?_⟩]
   ·rcases List.mem_cons.1 ((h z).1 (List.mem_cons_of_mem _ hz)) with h1 | h1
    ·subst h1; exact absurd (ha.1 z hz) (Bef.irrefl z)
    ·exact h1
   ·rcases List.mem_cons.1 ((h z).2 (List.mem_cons_of_mem _ hz)) with h1 | h1
    ·subst h1; exact absurd (hb.1 z hz) (Bef.irrefl z)
    ·exact h1
theorem zsT {a b : Gr} (ha : GrOk a) (hb : GrOk b) (hs : a.size=b.size) (hg : a.gone=b.gone) (h : ∀ x,x∈a.edges↔x∈b.edges) : a=b:=by
 obtain ⟨s,E,go⟩:=a
 obtain ⟨s',E',go'⟩:=b
 have:=zrl ha.pair hb.pair h
 simp only at hs hg this
 subst hs hg this
 rfl
def OkS (g : Gr) (s : GStp) : Prop:=if s.gone=true then HasE g s.e.f s.e.t else Fits g s.e∧(1≤s.e.v∧s.e.v≤3)∧¬ HasE g s.e.f s.e.t
structure ztW (g g' : Gr) (s : GStp) : Prop where
 ok : GrOk g'
 size : g'.size=g.size
 gone : g'.gone=g.gone
 len : g'.edges.length≤g.edges.length+1
 mem : ∀ x,x∈g'.edges↔(s.gone=false∧x=s.e)∨(x∈g.edges∧¬ (s.gone=true∧x.f=s.e.f∧x.t=s.e.t))
theorem zri (hg : GrOk g) (hl : g.edges.length<500) (s : GStp) : (zaD g s).2=0↔OkS g s:=by
 unfold zaD OkS
 by_cases h : s.gone=true
 ·rw [if_pos h,if_pos h]; exact zlv hg
 ·rw [if_neg h,if_neg h]; exact zrD hg hl
theorem zla (hg : GrOk g) (hl : g.edges.length<500) {s : GStp} (h : OkS g s) : (zaD g s).2=0∧ztW g (zaD g s).1 s:=by
 refine ⟨(zri hg hl s).2 h,?_⟩
 unfold OkS at h
 unfold zaD
 by_cases hs : s.gone=true
 ·rw [if_pos hs] at h
  rw [if_pos hs]
  obtain ⟨h1,h2,h3⟩:=zhd hg h
  rw [h1]
  refine ⟨h2,rfl,rfl,?_,fun x=>?_⟩
  ·simp only [zev,List.length_append,List.length_take,List.length_drop]; omega
  ·simp only [h3,hs]; simp
 ·rw [if_neg hs] at h
  rw [if_neg hs]
  obtain ⟨h1,h2,h3⟩:=h
  obtain ⟨_,_,_,_,_,h4,h5⟩:=zj6 ((zrD hg hl).2 ⟨h1,h2,h3⟩)
  rw [h4]
  refine ⟨h5,rfl,rfl,?_,fun x=>?_⟩
  ·simp only [zix,List.length_append,List.length_take,List.length_cons,List.length_drop]; omega
  ·rw [ztf]; simp [hs]
theorem ztW.has {g' : Gr} {s : GStp} (h : ztW g g' s) {f t : Int} (hne : ¬ (s.e.f=f∧s.e.t=t)) : HasE g' f t↔HasE g f t:=by
 constructor
 ·rintro ⟨x,hx,hf,ht⟩
  rcases (h.mem x).1 hx with h1 | h1
  ·obtain ⟨_,rfl⟩:=h1
   exact absurd ⟨hf,ht⟩ hne
  ·exact ⟨x,h1.1,hf,ht⟩
 ·rintro ⟨x,hx,hf,ht⟩
  refine ⟨x,(h.mem x).2 (.inr ⟨hx,fun hc=>hne ?_⟩),hf,ht⟩
  exact ⟨hc.2.1.symm.trans hf,hc.2.2.symm.trans ht⟩
noncomputable def runS : Gr→List GStp→Gr × Nat × Int
 | g,[]=>(g,0,0)
 | g,s::l=>if (zaD g s).2=0 then ((runS (zaD g s).1 l).1,(runS (zaD g s).1 l).2.1+1,(runS (zaD g s).1 l).2.2) else (g,0,(zaD g s).2)
theorem zm8 {s : GStp} {l : List GStp} (h : (zaD g s).2=0) : runS g (s::l)=((runS (zaD g s).1 l).1,(runS (zaD g s).1 l).2.1+1,(runS (zaD g s).1 l).2.2):=by simp only [runS]; rw [if_pos h]
theorem zv1 {s : GStp} {l : List GStp} (h : (zaD g s).2≠0) : runS g (s::l)=(g,0,(zaD g s).2):=by simp only [runS]; rw [if_neg h]
theorem zgK (hg : GrOk g) {s : GStp} (h : (zaD g s).2=0) : GrOk (zaD g s).1∧(zaD g s).1.size=g.size∧(zaD g s).1.gone=g.gone∧(zaD g s).1.edges.length≤g.edges.length+1:=by
 have key : g.edges.length<500∨s.gone=true:=by
  by_cases hs : s.gone=true
  ·exact .inr hs
  ·unfold zaD at h
   rw [if_neg hs] at h
   exact .inl (zj6 h).2.2.2.2.1
 by_cases hs : s.gone=true
 ·unfold zaD at h ⊢
  rw [if_pos hs] at h ⊢
  obtain ⟨h1,h2,h3⟩:=zhd hg ((zlv hg).1 h)
  rw [h1]
  refine ⟨h2,rfl,rfl,?_⟩
  simp only [zev,List.length_append,List.length_take,List.length_drop]; omega
 ·have hl : g.edges.length<500:=key.elim id fun h=>absurd h hs
  have:=(zla hg hl ((zri hg hl s).1 h)).2
  exact ⟨this.ok,this.size,this.gone,this.len⟩
theorem zi3 : ∀ {a b : List Ed},a.Nodup→(∀ x∈a,x∈b)→a.length≤b.length
 | [],_,_,_=>Nat.zero_le _
 | x::a,b,hn,h=>by
   rw [List.nodup_cons] at hn
   obtain ⟨s,t,rfl⟩:=List.append_of_mem (h x List.mem_cons_self)
   have:=zi3 (a:=a) (b:=s++t) hn.2 fun y hy=>by
    have:=h y (List.mem_cons_of_mem _ hy)
    simp only [List.mem_append,List.mem_cons] at this ⊢
    rcases this with h | h | h
    ·exact .inl h
    ·subst h; exact absurd hy hn.1
    ·exact .inr h
   simp only [List.length_append,List.length_cons] at this ⊢
   omega
theorem GrOk.nodup (hg : GrOk g) : g.edges.Nodup:=hg.pair.imp fun h he=>by subst he; exact Bef.irrefl _ h
theorem zrB : ∀ (D : List Ed) {g : Gr},GrOk g→g.edges.length<500→D.Nodup→(∀ x∈D,x∈g.edges) → ∃ g',GrOk g'∧g'.size=g.size∧g'.gone=g.gone∧(∀ x,x∈g'.edges↔x∈g.edges∧x∉D) ∧
  ∀ r,runS g (D.map (⟨true,·⟩)++r)=((runS g' r).1,(runS g' r).2.1+D.length,(runS g' r).2.2)
 | [],g,hg,_,_,_=>⟨g,hg,rfl,rfl,by simp,fun r=>by simp⟩
 | e::D,g,hg,hl,hn,hs=>by
   rw [List.nodup_cons] at hn
   have hh : OkS g ⟨true,e⟩:=⟨e,hs e List.mem_cons_self,rfl,rfl⟩
   obtain ⟨h1,h2⟩:=zla hg hl hh
   have hm : ∀ x,x∈(zaD g ⟨true,e⟩).1.edges↔x∈g.edges∧x≠e:=fun x=>by
    rw [h2.mem]
    simp only [Bool.true_eq_false,false_and,false_or,true_and]
    refine and_congr_right fun hx=>not_congr ⟨fun h=>hg.uniq hx (hs e List.mem_cons_self) h.1 h.2,fun h=>by subst h; exact ⟨rfl,rfl⟩⟩
   have hlen : (zaD g ⟨true,e⟩).1.edges.length<500:=by
    have:=zi3 h2.ok.nodup fun x hx=>((hm x).1 hx).1
    omega
   obtain ⟨g',k1,k2,k3,k4,k5⟩:=zrB D h2.ok hlen hn.2 fun x hx=>(hm x).2 ⟨hs x (List.mem_cons_of_mem _ hx),fun h=>hn.1 (h ▸ hx)⟩
   refine ⟨g',k1,k2.trans h2.size,k3.trans h2.gone,fun x=>?_,fun r=>?_⟩
   ·rw [k4,hm]; simp [and_assoc]
   ·rw [List.map_cons,List.cons_append,zm8 h1,k5]
    simp only [List.length_cons]
    rw [Nat.add_assoc]
theorem zrH {b : Gr} (hb : GrOk b) : ∀ (C : List Ed) {g : Gr},GrOk g→g.size=b.size→g.gone=b.gone→C.Nodup→(∀ x∈C,x∈b.edges∧x∉g.edges)→(∀ x∈g.edges,x∈b.edges) → ∃ g',GrOk g'∧g'.size=b.size∧g'.gone=b.gone∧(∀ x,x∈g'.edges↔x∈g.edges∨x∈C) ∧
  ∀ r,runS g (C.map (⟨false,·⟩)++r)=((runS g' r).1,(runS g' r).2.1+C.length,(runS g' r).2.2)
 | [],g,hg,hz,ho,_,_,_=>⟨g,hg,hz,ho,by simp,fun r=>by simp⟩
 | e::C,g,hg,hz,ho,hn,hs,hsub=>by
   rw [List.nodup_cons] at hn
   obtain ⟨he1,he2⟩:=hs e List.mem_cons_self
   have hl : g.edges.length<500:=by
    have:=zi3 (a:=e::g.edges) (b:=b.edges) (List.nodup_cons.2 ⟨he2,hg.nodup⟩) fun x hx=>by
     rcases List.mem_cons.1 hx with h | h
     ·subst h; exact he1
     ·exact hsub x h
    have h3:=hb.1.2.2.1
    simp only [List.length_cons] at this
    omega
   have hh : OkS g ⟨false,e⟩:=by
    refine ⟨?_,hb.val e he1,?_⟩
    ·have:=hb.fits e he1
     unfold Fits at this ⊢
     rw [hz,ho]
     exact this
    ·rintro ⟨x,hx,h1,h2⟩
     have:=hb.uniq (hsub x hx) he1 h1 h2
     subst this
     exact he2 hx
   obtain ⟨h1,h2⟩:=zla hg hl hh
   have hm : ∀ x,x∈(zaD g ⟨false,e⟩).1.edges↔x=e∨x∈g.edges:=fun x=>by
    rw [h2.mem]; simp
   obtain ⟨g',k1,k2,k3,k4,k5⟩:=zrH hb C h2.ok (h2.size.trans hz) (h2.gone.trans ho) hn.2 (fun x hx=>⟨(hs x (List.mem_cons_of_mem _ hx)).1,fun h=>by
    rcases (hm x).1 h with h | h
    ·exact hn.1 (h ▸ hx)
    ·exact (hs x (List.mem_cons_of_mem _ hx)).2 h⟩) fun x hx=>by
    rcases (hm x).1 hx with h | h
    ·subst h; exact he1
    ·exact hsub x h
   refine ⟨g',k1,k2,k3,fun x=>?_,fun r=>?_⟩
   ·rw [k4,hm,List.mem_cons]
    constructor
    ·rintro ((h | h) | h) <;> simp [h]
    ·rintro (h | h | h) <;> simp [h]
   ·rw [List.map_cons,List.cons_append,zm8 h1,k5]
    simp only [List.length_cons]
    rw [Nat.add_assoc]
open Classical in
noncomputable def zki (a b : Gr) : List GStp:=(a.edges.filter fun e=>decide (e∉b.edges)).map (⟨true,·⟩)++(b.edges.filter fun e=>decide (e∉a.edges)).map (⟨false,·⟩)
theorem zrO (a b : Gr) : (zki a b).length≤a.edges.length+b.edges.length:=by
 unfold zki
 simp only [List.length_append,List.length_map]
 have h1:=List.length_filter_le (fun e=>decide (e∉b.edges)) a.edges
 have h2:=List.length_filter_le (fun e=>decide (e∉a.edges)) b.edges
 omega
theorem zsG {a b : Gr} (ha : GrOk a) (hb : GrOk b) (hl : a.edges.length<500) (hs : a.size=b.size) (hg : a.gone=b.gone) : runS a (zki a b)=(b,(zki a b).length,0):=by
 unfold zki
 obtain ⟨c,c1,c2,c3,c4,c5⟩:=zrB (a.edges.filter fun e=>decide (e∉b.edges)) ha hl (ha.nodup.sublist List.filter_sublist) fun x hx=>(List.mem_filter.1 hx).1
 have hc : ∀ x,x∈c.edges↔x∈a.edges∧x∈b.edges:=fun x=>by
  rw [c4,List.mem_filter,decide_eq_true_eq]
  constructor
  ·rintro ⟨h1,h2⟩; exact ⟨h1,Classical.byContradiction fun h=>h2 ⟨h1,h⟩⟩
  ·rintro ⟨h1,h2⟩; exact ⟨h1,fun h=>h.2 h2⟩
 obtain ⟨d,d1,d2,d3,d4,d5⟩:=zrH hb (b.edges.filter fun e=>decide (e∉a.edges)) c1 (c2.trans hs) (c3.trans hg) (hb.nodup.sublist List.filter_sublist) (fun x hx=>by
  obtain ⟨h1,h2⟩:=List.mem_filter.1 hx
  rw [decide_eq_true_eq] at h2
  exact ⟨h1,fun h=>h2 ((hc x).1 h).1⟩) fun x hx=>((hc x).1 hx).2
 have hdb : d=b:=zsT d1 hb d2 d3 fun x=>by
  rw [d4,hc,List.mem_filter,decide_eq_true_eq]
  constructor
  ·rintro (h | h)
   ·exact h.2
   ·exact h.1
  ·intro h
   by_cases h2 : x∈a.edges
   ·exact .inl ⟨h2,h⟩
   ·exact .inr ⟨h,h2⟩
 subst hdb
 have h5:=d5 []
 rw [List.append_nil] at h5
 rw [c5,h5]
 simp only [runS,List.length_append,List.length_map]
 refine Prod.ext rfl (Prod.ext ?_ rfl)
 simp only
 omega
abbrev tC (g : Gr) (p : Pol) (acc f : List Int) (R : List (Int × List Int)) : List AV:=[.I g.size,eEs g.edges,ints g.gone,ints p.seeds,ints p.table,.I p.lv,ints acc,ints f,.vs 2 false (zaJ R)]
abbrev eT (g : Gr) (p : Pol) (acc f : List Int) (R : List (Int × List Int)) : AV:=.agg (tC g p acc f R)
abbrev stC (s : GStp) : List AV:=[.B s.gone,.I s.e.f,.I s.e.t,.I s.e.v]
abbrev eSt (s : GStp) : AV:=.agg (stC s)
abbrev eSts (l : List GStp) : AV:=.vs 4 false (l.map fun s=>stC s)
@[simp] theorem zxa {ρ : List (Nat × Nat)} {sn : List Nat} {h : Nat→Option Ent} {n : Nat} {t : TypeId} {v : AV} : conv ρ sn h (n+1) (.ifc t v) = .ifc t (conv ρ sn h n v):=(rfl)
def zjy (a b : List Int) : List Int:=srt (a.filter fun x=>!decide (x∈b))
section
variable {P : Program} {np id : Nat} {h : Nat→Option Ent} {K : AV→List Nat→List (Nat × Option Ent)→Prop} {args args' : List AV} {res : AV}
theorem zva {tbl : List (TypeId × FuncId)} {t : TypeId} {f : FuncId} {x : AV} (hl : lkp tbl t=some f) (hc : zai P f args' [] res []) (he : (x::args).map (conv [] [] h 4)=args')
  (hk : K (conv (swp [] id) [] (fun _=>none) 4 res) [] []) : aK P np id (.inv tbl) (.ifc t x::args) h K :=
 ⟨f,[],[],true,args',[],res,[],hl,by simp,by simp,by simp,by rw [List.zipIdx_nil,he]; exact zbU _,rfl,hc,by simp,.inl rfl,by simpa [swp] using hk⟩
end
theorem zjQ (p : Pol) (hs : p.seeds.length≤1000000) (ht : p.table.length≤1000000) : zai Tryz.prog ze4 [eP p] [] (eP p) []:=by
 refine zlD.acalls (nbz rfl) (nbz rfl) (Nat.zero_le _) ?_
 show awp _ 0 _ _ ⟨12,[(0,eP p)],[],16⟩
 refine zaa ⟨12,[(1,.pv (pC p)),(2,.pt 24 0 0)],[(24,some ⟨3,[[.nilS,.nilS,.I 0]],0⟩)],100⟩ rfl ?_ ?_
 ·simp
  exact LeH [(24,24)] [16]
 refine zaq ⟨12,[(2,.pt 24 0 0)],[(24,some ⟨3,[pC p],0⟩)],300⟩ rfl ?_ ?_
 ·simp
  refine zaY (zgw p.seeds (by omega)) (by simp) ?_
  simp
  refine zaY (zgw p.table (by omega)) (by simp) ?_
  simp [zay]
  exact ⟨rfl,Le.go [(24,24)] [116,140] rfl rfl (by simp) (by simp [fcd,zap])⟩
 refine zag ?_
 exact ⟨.inr rfl,zak.out [] [24] rfl (by simp) (by simp) (by simp) (by simp)⟩
theorem ziJ (b : List Int) (x : Int) (hb : b.length≤1000000) : zai Tryz.prog zc6 [.I x,.pv [ints b]] [] (.B (decide (x∈b))) []:=by
 refine zlj.acalls (nbz rfl) (nbz rfl) (Nat.le_refl _) ?_
 show awp _ 0 _ _ ⟨7,[(0,.I x),(1,.pv [ints b])],[],16⟩
 refine rx (s:=?s1) [0,1] [] [] rfl ?o1 ?q1
 case o1=>simp; rfl
 refine rx (s:=?s2) [3] [] [] rfl ?o2 ?q2
 case o2=>simp; refine zaj (zfq b x (by omega)) (by simp) ?_; simp; rfl
 refine zag ?_
 exact ⟨.inr rfl,zak.one (by simp)⟩
theorem zg2 (a b : List Int) (ha : a.length≤1000000) (hb : b.length≤1000000) : zai Tryz.prog zeL [ints a,ints b] [] (ints (zjy a b)) []:=by
 obtain ⟨F,hF⟩ : ∃ F,F=a.filter fun x=>!decide (x∈b):=⟨_,rfl⟩
 have hFl : F.length≤a.length:=by rw [hF]; exact List.length_filter_le _ _
 have hdel:=zg3 zc6 [.pv [ints b]] (fun x=>decide (x∈b)) a a.length F.length rfl (by rw [hF]) (by omega) (fun ρ sn h n=>by simp) (fun e _=>ziJ b e hb)
 rw [← hF] at hdel
 have hsort:=zf0 F (by omega)
 have hsl : (srt F).length=F.length:=List.length_mergeSort F
 have htk : ∀ h : Int→List AV,List.take F.length (List.map h (srt F))=List.map h (srt F):=fun h=>List.take_of_length_le (by rw [List.length_map,hsl]; exact Nat.le_refl _)
 unfold zjy
 rw [← hF]
 refine zoo.acalls (nbz rfl) (nbz rfl) (Nat.zero_le _) ?_
 show awp _ 0 _ _ ⟨10,[(0,ints a),(1,ints b)],[],16⟩
 refine zaa ⟨10,[(0,ints a),(3,.pv [ints b])],[],100⟩ rfl ?_ ?_
 ·simp
  exact LeH [] [16]
 refine zaa ⟨10,[(4,ints (srt F))],[],300⟩ rfl ?_ ?_
 ·simp
  refine zaY (zgw a (by omega)) (by simp) ?_
  simp
  refine zbk (i:=108) rfl (e':=⟨1,zah a,0⟩) (by simp [fcd]) hdel (by simp) (by simp) ?_
  simp [fcd]
  refine ziH [108] hsort (by simp [fcd]) (.rs _ _ _) zrr ?_
  simp [fcd]
  exact Le.go [] [132] rfl rfl (by simp [hsl,htk,fcd]) (by simp)
 refine zag ?_
 exact ⟨.inr rfl,zak.one (by simp)⟩
theorem zsa {g : Gr} (hg : GrOk g) : zao g 0=g:=by
 obtain ⟨s,E,go⟩:=g
 unfold zao
 congr 1
 refine List.filter_eq_self.2 fun e he=>?_
 have:=(hg.val e he).1
 simp
 omega
theorem zgX (g : Gr) (p : Pol) (hg : GrOk g) (hp : za3 g.size p) (hN : g.size<20) :
  ∃ f,zdP g p (zau (accG g p)) f∧zai Tryz.prog zec [eG g,eP p] [] (.tup [eT g p (accG g p) f (refG g p),.I 0]) []:=by
 have hsl:=zkc hg hp
 have hel:=hg.edges_le
 have hgl:=hg.gone_le
 have htl:=hp.2.2.2.1
 obtain ⟨f,hf,hrun⟩:=zoi g p hg hp (by omega) hN
 refine ⟨f,hf,?_⟩
 have hlev:=zdz g 0 (by omega) (by omega)
 rw [zsa hg] at hlev
 have hpol:=zjQ p (by omega) (by omega)
 have hrun : zai Tryz.prog zft [eG g,eP p] [] (.tup [eAcc (accG g p) f (refG g p),.I 0]) []:=hrun
 generalize accG g p=acc at *
 generalize refG g p=R at *
 refine znM.acalls (nbz rfl) (nbz rfl) (Nat.zero_le _) ?_
 show awp _ 0 _ _ ⟨24,[(0,eG g),(1,eP p)],[],16⟩
 refine zaa ⟨24,[(2,.pv (gC g)),(3,.pv (pC p)),(4,.pt 32 0 0)],[(32,some ⟨9,[[.I 0,.nilS,.nilS,.nilS,.nilS,.I 0,.nilS,.nilS,.nilS]],0⟩)],100⟩ rfl ?_ ?_
 ·simp
  exact LeH [(32,32)] [16,24]
 refine zaa ⟨24,[(2,.pv (gC g)),(3,.pv (pC p)),(4,.pt 32 0 0),(6,.pv [ints acc,ints f,.vs 2 false (zaJ R)]),(7,.I 0)],[(32,some ⟨9,[[.I 0,.nilS,.nilS,.nilS,.nilS,.I 0,.nilS,.nilS,.nilS]],0⟩)],200⟩ rfl ?_ ?_
 ·simp
  refine zaj hrun (by simp) ?_
  simp
  exact LeH [(32,32)] [148]
 refine zab ?_
 refine zaa ⟨24,[(2,.pv (gC g)),(3,.pv (pC p)),(4,.pt 32 0 0),(6,.pv [ints acc,ints f,.vs 2 false (zaJ R)]),(15,.B false)],[(32,some ⟨9,[[.I 0,.nilS,.nilS,.nilS,.nilS,.I 0,.nilS,.nilS,.nilS]],0⟩)],300⟩ rfl ?_ ?_
 ·simp
  exact LeH [(32,32)] []
 refine zac _ rfl (fun h=>by cases h) fun _=>?_
 refine zad ?_
 refine zaq ⟨24,[(4,.pt 32 0 0),(5,.I 0)],[(32,some ⟨9,[tC g p acc f R],0⟩)],500⟩ rfl ?_ ?_
 ·simp
  refine zaj hlev (by simp) ?_
  simp
  refine zaj hpol (by simp) ?_
  simp [zay]
  exact ⟨rfl,LeH [(32,32)] []⟩
 refine zag ?_
 exact ⟨.inr rfl,zak.out [] [32] rfl (by simp) (by simp) (by simp) (by simp)⟩
theorem zlc (e : Ed) (g : Gr) (hl : g.edges.length≤1000000) (hl2 : g.gone.length≤1000000) : zai Tryz.prog zbm [eE e,eG g] [] (.tup [eG (zbu g e).1,.I (zbu g e).2]) []:=by
 have hw:=zng g e (by omega) (by omega)
 generalize zbu g e=r at *
 obtain ⟨g',x⟩:=r
 refine zgR.acalls (nbz rfl) (nbz rfl) (Nat.zero_le _) ?_
 show awp _ 0 _ _ ⟨11,[(0,eE e),(1,eG g)],[],16⟩
 refine zaa ⟨11,[(2,.pv (eC e)),(3,.pv (gC g)),(4,.pt 32 0 0)],[(32,some ⟨3,[[.I 0,.nilS,.nilS]],0⟩)],100⟩ rfl ?_ ?_
 ·simp
  exact LeH [(32,32)] [16,24]
 refine zaa ⟨11,[(4,.pt 32 0 0),(5,.I x)],[(32,some ⟨3,[gC g'],0⟩)],300⟩ rfl ?_ ?_
 ·simp
  refine zaj hw (by simp) ?_
  simp [zay]
  exact LeH [(32,32)] []
 refine zag ?_
 exact ⟨.inr rfl,zak.out [] [32] rfl (by simp) (by simp) (by simp) (by simp)⟩
theorem zlG (e : Ed) (g : Gr) (hl : g.edges.length≤1000000) (hl2 : g.gone.length≤1000000) : zai Tryz.prog zbw [eE e,eG g] [] (.tup [eG (zaO g e.f e.t).1,.I (zaO g e.f e.t).2]) []:=by
 have hw:=zjU g e.f e.t (by omega) (by omega)
 generalize zaO g e.f e.t=r at *
 obtain ⟨g',x⟩:=r
 refine zhA.acalls (nbz rfl) (nbz rfl) (Nat.zero_le _) ?_
 show awp _ 0 _ _ ⟨14,[(0,eE e),(1,eG g)],[],16⟩
 refine zaa ⟨14,[(2,.pv (eC e)),(3,.pv (gC g)),(4,.pt 32 0 0)],[(32,some ⟨3,[[.I 0,.nilS,.nilS]],0⟩)],100⟩ rfl ?_ ?_
 ·simp
  exact LeH [(32,32)] [16,24]
 refine zaa ⟨14,[(4,.pt 32 0 0),(5,.I x)],[(32,some ⟨3,[gC g'],0⟩)],300⟩ rfl ?_ ?_
 ·simp
  refine zaj hw (by simp) ?_
  simp [zay]
  exact LeH [(32,32)] []
 refine zag ?_
 exact ⟨.inr rfl,zak.out [] [32] rfl (by simp) (by simp) (by simp) (by simp)⟩
theorem zjf (s : GStp) : zai Tryz.prog zja [eSt s] [] (.ifc (if s.gone=true then 141 else 142) (eE s.e)) []:=by
 obtain ⟨go,e⟩:=s
 refine zsc.acalls (nbz rfl) (nbz rfl) (Nat.zero_le _) ?_
 show awp _ 0 _ _ ⟨11,[(0,eSt ⟨go,e⟩)],[],16⟩
 refine zaa ⟨11,[(1,.pv (stC ⟨go,e⟩))],[],100⟩ rfl ?_ ?_
 ·simp
  exact LeH [] [16]
 refine zab ?_
 refine zaa ⟨11,[(1,.pv (stC ⟨go,e⟩)),(4,.B go)],[],200⟩ rfl ?_ ?_
 ·simp
  exact LeH [] []
 refine zac _ rfl (fun h=>?_) fun h=>?_
 ·subst h
  refine zaa ⟨11,[(2,.ifc 141 (eE e))],[],300⟩ rfl ?_ ?_
  ·simp
   exact LeH [] []
  refine zag ?_
  exact ⟨.inr rfl,zak.one (by simp)⟩
 ·subst h
  refine zad ?_
  refine zaa ⟨11,[(2,.ifc 142 (eE e))],[],300⟩ rfl ?_ ?_
  ·simp
   exact LeH [] []
  refine zag ?_
  exact ⟨.inr rfl,zak.one (by simp)⟩
theorem zrz (g : Gr) (s : GStp) (hl : g.edges.length≤1000000) (hl2 : g.gone.length≤1000000) : ∃ f,lkp [(141,zbw),(142,zbm)] (if s.gone=true then 141 else 142)=some f ∧
  zai Tryz.prog f [eE s.e,eG g] [] (.tup [eG (zaD g s).1,.I (zaD g s).2]) []:=by
 obtain ⟨go,e⟩:=s
 cases go
 ·exact ⟨zbm,rfl,zlc e g hl hl2⟩
 ·exact ⟨zbw,rfl,zlG e g hl hl2⟩
section
variable {g : Gr} {p : Pol} {acc f : List Int} {R : List (Int × List Int)} {s : GStp}
theorem zku (hl : g.edges.length≤1000000) (hl2 : g.gone.length≤1000000) (h : (zaD g s).2≠0) : zai Tryz.prog zeK [eT g p acc f R,eSt s] [] (.tup [eT g p acc f R,.I (zaD g s).2]) []:=by
 obtain ⟨fm,htb,haf⟩:=zrz g s hl hl2
 have hof:=zjf s
 generalize hty : (if s.gone=true then (141 : Nat) else 142)=ty at *
 generalize zaD g s=r at *
 obtain ⟨g',x⟩:=r
 simp only at h haf
 have he' : (x != 0)=true:=by simp [h]
 refine zjc.acalls (nbz rfl) (nbz rfl) (Nat.zero_le _) ?_
 show awp _ 0 _ _ ⟨26,[(0,eT g p acc f R),(1,eSt s)],[],16⟩
 refine zaa ⟨26,[(2,.pv (tC g p acc f R)),(3,.pv (stC s)),(4,.pt 32 0 0)],[(32,some ⟨9,[[.I 0,.nilS,.nilS,.nilS,.nilS,.I 0,.nilS,.nilS,.nilS]],0⟩)],100⟩ rfl ?_ ?_
 ·simp
  exact LeH [(32,32)] [16,24]
 refine zaq ⟨26,[(2,.pv (tC g p acc f R)),(4,.pt 32 0 0),(7,.I x)],[(32,some ⟨9,[[.I 0,.nilS,.nilS,.nilS,.nilS,.I 0,.nilS,.nilS,.nilS]],0⟩)],200⟩ rfl ?_ ?_
 ·simp
  refine zaj hof (by simp) ?_
  simp
  refine zva htb haf (by simp) ?_
  simp [zay]
  exact ⟨rfl,LeH [(32,32)] []⟩
 refine zab ?_
 refine zaa ⟨26,[(2,.pv (tC g p acc f R)),(4,.pt 32 0 0),(7,.I x),(17,.B true)],[(32,some ⟨9,[[.I 0,.nilS,.nilS,.nilS,.nilS,.I 0,.nilS,.nilS,.nilS]],0⟩)],300⟩ rfl ?_ ?_
 ·simp
  exact Le.go [(32,32)] [] rfl rfl (by simp [he']) (by simp)
 refine zac _ rfl (fun _=>?_) fun h=>by cases h
 refine zaa ⟨26,[(4,.pt 32 0 0),(5,.I x)],[(32,some ⟨9,[tC g p acc f R],0⟩)],400⟩ rfl ?_ ?_
 ·simp [zay]
  exact LeH [(32,32)] []
 refine zag ?_
 exact ⟨.inr rfl,zak.out [] [32] rfl (by simp) (by simp) (by simp <;> exact .refl _) (by simp)⟩
theorem zkx (hg : GrOk g) (hp : za3 g.size p) (hN : g.size<20) (h : (zaD g s).2=0) :
  ∃ f',zdP (zaD g s).1 p (zau (accG (zaD g s).1 p)) f'∧zai Tryz.prog zeK [eT g p acc f R,eSt s] [] (.tup [eT (zaD g s).1 p (accG (zaD g s).1 p) f' (refG (zaD g s).1 p),.I 0]) []:=by
 have hel:=hg.edges_le
 have hgl:=hg.gone_le
 obtain ⟨k1,k2,k3,k4⟩:=zgK hg h
 obtain ⟨fm,htb,haf⟩:=zrz g s (by omega) (by omega)
 have hof:=zjf s
 generalize hty : (if s.gone=true then (141 : Nat) else 142)=ty at *
 rw [h] at haf
 generalize (zaD g s).1=g' at *
 obtain ⟨f',hf',hst⟩:=zgX g' p k1 (by rw [k2]; exact hp) (by omega)
 refine ⟨f',hf',?_⟩
 generalize accG g' p=acc' at *
 generalize refG g' p=R' at *
 refine zjc.acalls (nbz rfl) (nbz rfl) (Nat.zero_le _) ?_
 show awp _ 0 _ _ ⟨26,[(0,eT g p acc f R),(1,eSt s)],[],16⟩
 refine zaa ⟨26,[(2,.pv (tC g p acc f R)),(3,.pv (stC s)),(4,.pt 32 0 0)],[(32,some ⟨9,[[.I 0,.nilS,.nilS,.nilS,.nilS,.I 0,.nilS,.nilS,.nilS]],0⟩)],100⟩ rfl ?_ ?_
 ·simp
  exact LeH [(32,32)] [16,24]
 refine zaq ⟨26,[(2,.pv (tC g p acc f R)),(4,.pt 32 0 0),(6,.pv (gC g')),(7,.I 0)],[(32,some ⟨9,[[.I 0,.nilS,.nilS,.nilS,.nilS,.I 0,.nilS,.nilS,.nilS]],0⟩)],200⟩ rfl ?_ ?_
 ·simp
  refine zaj hof (by simp) ?_
  simp
  refine zva htb haf (by simp) ?_
  simp [zay]
  exact ⟨rfl,LeH [(32,32)] [164]⟩
 refine zab ?_
 refine zaa ⟨26,[(2,.pv (tC g p acc f R)),(4,.pt 32 0 0),(6,.pv (gC g')),(17,.B false)],[(32,some ⟨9,[[.I 0,.nilS,.nilS,.nilS,.nilS,.I 0,.nilS,.nilS,.nilS]],0⟩)],300⟩ rfl ?_ ?_
 ·simp
  exact LeH [(32,32)] []
 refine zac _ rfl (fun h=>by cases h) fun _=>?_
 refine zad ?_
 refine zaa ⟨26,[(4,.pt 32 0 0),(5,.I 0)],[(32,some ⟨9,[tC g' p acc' f' R'],0⟩)],400⟩ rfl ?_ ?_
 ·simp
  refine zaj hst (by simp) ?_
  simp [zay]
  exact LeH [(32,32)] []
 refine zag ?_
 exact ⟨.inr rfl,zak.out [] [32] rfl (by simp) (by simp) (by simp <;> exact .refl _) (by simp)⟩
variable {e : Int}
theorem zjW (hc : zai Tryz.prog zbf [eG g,eP p,eAcc acc f R] [] (.I 0) []) (hl : g.edges.length≤1000000) (hl2 : g.gone.length≤1000000) (h : (zaD g s).2≠0) :
  zai Tryz.prog zdb [eT g p acc f R,eSt s] [] (.tup [eT g p acc f R,ints [],ints [],.I (zaD g s).2]) []:=by
 have hnx:=zku (p:=p) (acc:=acc) (f:=f) (R:=R) hl hl2 h
 generalize (zaD g s).2=x at *
 have he' : (x != 0)=true:=by simp [h]
 refine zh7.acalls (nbz rfl) (nbz rfl) (Nat.zero_le _) ?_
 show awp _ 0 _ _ ⟨44,[(0,eT g p acc f R),(1,eSt s)],[],16⟩
 refine zaa ⟨44,[(2,.pv (tC g p acc f R)),(3,.pv (stC s)),(4,.pt 32 0 0)],[(32,some ⟨9,[[.I 0,.nilS,.nilS,.nilS,.nilS,.I 0,.nilS,.nilS,.nilS]],0⟩)],100⟩ rfl ?_ ?_
 ·simp
  exact LeH [(32,32)] [16,24]
 refine zab ?_
 refine zaa ⟨44,[(2,.pv (tC g p acc f R)),(3,.pv (stC s)),(4,.pt 32 0 0),(19,.B false)],[(32,some ⟨9,[[.I 0,.nilS,.nilS,.nilS,.nilS,.I 0,.nilS,.nilS,.nilS]],0⟩)],200⟩ rfl ?_ ?_
 ·simp
  refine zaj hc (by simp) ?_
  simp
  exact LeH [(32,32)] []
 refine zac _ rfl (fun h=>by cases h) fun _=>?_
 refine zad ?_
 refine zaa ⟨44,[(2,.pv (tC g p acc f R)),(4,.pt 32 0 0),(9,.I x)],[(32,some ⟨9,[[.I 0,.nilS,.nilS,.nilS,.nilS,.I 0,.nilS,.nilS,.nilS]],0⟩)],300⟩ rfl ?_ ?_
 ·simp
  refine zaj hnx (by simp) ?_
  simp [zay]
  exact LeH [(32,32)] []
 refine zab ?_
 refine zaa ⟨44,[(2,.pv (tC g p acc f R)),(4,.pt 32 0 0),(9,.I x),(28,.B true)],[(32,some ⟨9,[[.I 0,.nilS,.nilS,.nilS,.nilS,.I 0,.nilS,.nilS,.nilS]],0⟩)],400⟩ rfl ?_ ?_
 ·simp
  exact Le.go [(32,32)] [] rfl rfl (by simp [he']) (by simp)
 refine zac _ rfl (fun _=>?_) fun h=>by cases h
 refine zaa ⟨44,[(4,.pt 32 0 0),(5,.vs 1 false []),(6,.vs 1 false []),(7,.I x)],[(32,some ⟨9,[tC g p acc f R],0⟩)],500⟩ rfl ?_ ?_
 ·simp [zay]
  exact LeH [(32,32)] []
 refine zag ?_
 exact ⟨.inr rfl,zak.out [] [32] rfl (by simp) (by simp) (by simp <;> exact .refl _) (by simp)⟩
theorem zfS (hc : zai Tryz.prog zbf [eG g,eP p,eAcc acc f R] [] (.I 0) []) (hg : GrOk g) (hp : za3 g.size p) (hN : g.size<20) (ha : acc.length≤1000) (h : (zaD g s).2=0) :
  ∃ f',zdP (zaD g s).1 p (zau (accG (zaD g s).1 p)) f'∧zai Tryz.prog zdb [eT g p acc f R,eSt s] [] (.tup [eT (zaD g s).1 p (accG (zaD g s).1 p) f' (refG (zaD g s).1 p),ints (zjy (accG (zaD g s).1 p) acc),ints (zjy acc (accG (zaD g s).1 p)),.I 0]) []:=by
 obtain ⟨f',hf',hnx⟩:=zkx (acc:=acc) (f:=f) (R:=R) hg hp hN h
 refine ⟨f',hf',?_⟩
 have hal:=zmJ (zgK hg h).1 p
 generalize (zaD g s).1=g' at *
 generalize accG g' p=acc' at *
 generalize refG g' p=R' at *
 have hl1:=zg2 acc' acc (by omega) (by omega)
 have hl2:=zg2 acc acc' (by omega) (by omega)
 generalize zjy acc' acc=gi at *
 generalize zjy acc acc'=lo at *
 refine zh7.acalls (nbz rfl) (nbz rfl) (Nat.zero_le _) ?_
 show awp _ 0 _ _ ⟨44,[(0,eT g p acc f R),(1,eSt s)],[],16⟩
 refine zaa ⟨44,[(2,.pv (tC g p acc f R)),(3,.pv (stC s)),(4,.pt 32 0 0)],[(32,some ⟨9,[[.I 0,.nilS,.nilS,.nilS,.nilS,.I 0,.nilS,.nilS,.nilS]],0⟩)],100⟩ rfl ?_ ?_
 ·simp
  exact LeH [(32,32)] [16,24]
 refine zab ?_
 refine zaa ⟨44,[(2,.pv (tC g p acc f R)),(3,.pv (stC s)),(4,.pt 32 0 0),(19,.B false)],[(32,some ⟨9,[[.I 0,.nilS,.nilS,.nilS,.nilS,.I 0,.nilS,.nilS,.nilS]],0⟩)],200⟩ rfl ?_ ?_
 ·simp
  refine zaj hc (by simp) ?_
  simp
  exact LeH [(32,32)] []
 refine zac _ rfl (fun h=>by cases h) fun _=>?_
 refine zad ?_
 refine zaa ⟨44,[(2,.pv (tC g p acc f R)),(4,.pt 32 0 0),(8,.pv (tC g' p acc' f' R')),(9,.I 0)],[(32,some ⟨9,[[.I 0,.nilS,.nilS,.nilS,.nilS,.I 0,.nilS,.nilS,.nilS]],0⟩)],300⟩ rfl ?_ ?_
 ·simp
  refine zaj hnx (by simp) ?_
  simp [zay]
  exact LeH [(32,32)] [248]
 refine zab ?_
 refine zaa ⟨44,[(2,.pv (tC g p acc f R)),(4,.pt 32 0 0),(8,.pv (tC g' p acc' f' R')),(28,.B false)],[(32,some ⟨9,[[.I 0,.nilS,.nilS,.nilS,.nilS,.I 0,.nilS,.nilS,.nilS]],0⟩)],400⟩ rfl ?_ ?_
 ·simp
  exact LeH [(32,32)] []
 refine zac _ rfl (fun h=>by cases h) fun _=>?_
 refine zad ?_
 refine zaq ⟨44,[(4,.pt 32 0 0),(8,.pv (tC g' p acc' f' R')),(10,ints acc),(11,ints acc')],[(32,some ⟨9,[[.I 0,.nilS,.nilS,.nilS,.nilS,.I 0,.nilS,.nilS,.nilS]],0⟩)],500⟩ rfl ?_ ?_
 ·simp
  exact ⟨rfl,LeH [(32,32)] []⟩
 refine zaq ⟨44,[(4,.pt 32 0 0),(5,ints gi),(6,ints lo),(7,.I 0)],[(32,some ⟨9,[tC g' p acc' f' R'],0⟩)],700⟩ rfl ?_ ?_
 ·simp
  refine zaj hl1 (by simp) ?_
  simp
  refine zaj hl2 (by simp) ?_
  simp [zay]
  exact ⟨rfl,LeH [(32,32)] []⟩
 refine zag ?_
 exact ⟨.inr rfl,zak.out [] [32] rfl (by simp) (by simp) (by simp <;> exact .refl _) (by simp)⟩
end
set_option maxRecDepth 100000 in
set_option maxHeartbeats 4000000 in
theorem zkU (acc fl : List Int) (R : List (Int × List Int)) (ha : acc.length≤1000) (hf : fl.length≤2000) (hR : R.length≤1000) (hs : ∀ r∈R,r.2.length≤1000) :
  zai Tryz.prog zhf [eAcc acc fl R] [] (.agg [.rs 0 0 acc.length,.rs 1 0 fl.length,.rs 2 0 R.length]) [some ⟨1,zah acc,0⟩,some ⟨1,zah fl,0⟩,some ⟨2,zaJ R,0⟩]:=by
 refine zqd.acalls (nbz rfl) (nbz rfl) (Nat.zero_le _) ?_
 show awp _ 0 _ _ ⟨39,[(0,eAcc acc fl R)],[],16⟩
 refine zaa ⟨39,[(1,.pv [ints acc,ints fl,.vs 2 false (zaJ R)]),(2,.pt 24 0 0)],[(24,some ⟨3,[[.nilS,.nilS,.nilS]],0⟩)],100⟩ rfl ?_ ?_
 ·simp
  exact LeH [(24,24)] [16]
 refine zaq ⟨39,[(1,.pv [ints acc,ints fl,.vs 2 false (zaJ R)]),(2,.pt 24 0 0),(3,.pt 40 0 0)],[(24,some ⟨3,[[.nilS,.nilS,.nilS]],0⟩),(40,some ⟨3,[[.rs 41 0 acc.length,.rs 42 0 fl.length,.nilS]],0⟩),(41,some ⟨1,zah acc,0⟩),(42,some ⟨1,zah fl,0⟩)],200⟩ rfl ?_ ?_
 ·simp [zay]
  exact ⟨by omega,by omega,by omega,by omega,rfl,LeI [(24,24),(156,40),(116,41),(140,42)] []⟩
 refine zab ?_
 refine zaa ⟨39,[(1,.pv [ints acc,ints fl,.vs 2 false (zaJ R)]),(2,.pt 24 0 0),(3,.pt 40 0 0),(4,.I 0)],[(24,some ⟨3,[[.nilS,.nilS,.nilS]],0⟩),(40,some ⟨3,[[.rs 41 0 acc.length,.rs 42 0 fl.length,.nilS]],0⟩),(41,some ⟨1,zah acc,0⟩),(42,some ⟨1,zah fl,0⟩)],300⟩ rfl ?_ ?_
 ·simp
  exact LeI [(24,24),(40,40),(41,41),(42,42)] []
 refine zaf ?_
 refine zan (ι:=Nat) (fun i=>⟨39,[(1,.pv [ints acc,ints fl,.vs 2 false (zaJ R)]),(2,.pt 24 0 0),(3,.pt 40 0 0),(4,.I i)],[(24,some ⟨3,[[.nilS,.nilS,.nilS]],0⟩),(40,some ⟨3,[[.rs 41 0 acc.length,.rs 42 0 fl.length,.rs 43 0 i]],0⟩),(41,some ⟨1,zah acc,0⟩),(42,some ⟨1,zah fl,0⟩),(43,some ⟨2,zaJ (tkL R i),0⟩)],300⟩) (fun i=>i≤R.length) (fun i=>R.length - i) 0 (Nat.zero_le _) (Le.lst [(24,24),(40,40),(41,41),(42,42)] [] [(43,2)] rfl (by simp) (by simp) (by simp) (by simp) (by simp) (by simp) (by simp) (by simp [Up]) (by simp [fcd,zu9]; exact ⟨zaH.rfl' (by simp),zaH.row rfl (by omega) (by simp [UpL,Up,Wk.refl]),zaH.rfl' (by simp),zaH.rfl' (by simp)⟩)) ?_
 intro i hi
 have hTl : (tkL R i).length=i:=zvQ hi
 refine zab ?_
 refine zaa ⟨39,[(1,.pv [ints acc,ints fl,.vs 2 false (zaJ R)]),(2,.pt 24 0 0),(3,.pt 40 0 0),(4,.I i),(16,.B (decide (i<R.length)))],[(24,some ⟨3,[[.nilS,.nilS,.nilS]],0⟩),(40,some ⟨3,[[.rs 41 0 acc.length,.rs 42 0 fl.length,.rs 43 0 i]],0⟩),(41,some ⟨1,zah acc,0⟩),(42,some ⟨1,zah fl,0⟩),(43,some ⟨2,zaJ (tkL R i),0⟩)],400⟩ rfl ?_ ?_
 ·simp
  exact LeI [(24,24),(40,40),(41,41),(42,42),(43,43)] []
 refine zac _ rfl (fun h5=>?_) fun h5=>?_
 ·rw [decide_eq_true_eq] at h5
  have hwi : IntKind.i64.wrap ((i : Int)+1)=((i+1 : Nat) : Int):=by rw [w64 (by omega) (by omega)]; omega
  obtain ⟨r,hr⟩ : ∃ r,r=R[i]:=⟨_,rfl⟩
  have hrl:=hs _ (List.getElem_mem h5)
  have htk:=zuO h5
  rw [← hr] at hrl htk
  obtain ⟨k,sd⟩:=r
  simp only at hrl
  obtain ⟨T,hT⟩ : ∃ T,T=tkL R i:=⟨_,rfl⟩
  rw [← hT] at hTl htk ⊢
  have htT : ∀ h : Int × List Int→List AV,List.take i (List.map h T)=List.map h T:=fun h=>List.take_of_length_le (by simp; omega)
  refine zad ?_
  refine zab ?_
  refine zaf ?_
  refine zbG rfl ?_
  simp [h5,← hr,htT,hTl,zay]
  refine ⟨by omega,by omega,by omega,by omega,rfl,?_⟩
  refine zar rfl ?_
  simp
  exact ⟨i+1,h5,by omega,Le.go [(24,24),(40,40),(41,41),(42,42),(536,43)] [512] rfl rfl (by simp [hwi]) (by simp [htk,fcd,zap])⟩
 rw [decide_eq_false_iff_not] at h5
 obtain rfl : i=R.length:=by omega
 rw [zvP]
 refine zal ?_
 refine hit ?_
 refine zaa ⟨39,[(2,.pt 24 0 0)],[(24,some ⟨3,[[.rs 41 0 acc.length,.rs 42 0 fl.length,.rs 43 0 R.length]],0⟩),(41,some ⟨1,zah acc,0⟩),(42,some ⟨1,zah fl,0⟩),(43,some ⟨2,zaJ R,0⟩)],400⟩ rfl ?_ ?_
 ·simp [zay]
  exact LeI [(24,24),(41,41),(42,42),(43,43)] []
 refine zag ?_
 exact ⟨.inr rfl,zak.out [41,42,43] [] rfl (by simp) (by simp) (by simp) (by simp [fcd])⟩
section
variable {P : Program} {np id : Nat} {h : Nat→Option Ent} {K : AV→List Nat→List (Nat × Option Ent)→Prop} {f : FuncId} {first capt args args' : List AV} {res : AV}
theorem zw1 {e e2 e3 : Ent} (hc : zai P f args' [] res [some e,some e2,some e3]) (he : (first++args++capt).map (conv [] [] h 4)=args')
  (hk : K (conv (swp [] id) [] (fun _=>none) 4 res) [] [(id,some (zax (swp [] id) [] (fun _=>none) 4 e)),(id+1,some (zax (swp [] id) [] (fun _=>none) 4 e2)),(id+2,some (zax (swp [] id) [] (fun _=>none) 4 e3))]) : aK P np id .call (.fn (.func f) first capt::args) h K :=
 ⟨[],[],true,args',[],res,[some e,some e2,some e3],by simp,by simp,by simp,by rw [List.zipIdx_nil,he]; exact zbU _,rfl,hc,by simp,.inl rfl,hk⟩
end
theorem zn5 (p : Pol) (hs : p.seeds.length≤1000000) (ht : p.table.length≤1000000) : zai Tryz.prog zdr [eP p] [] (eP p) []:=by
 refine ziU.acalls (nbz rfl) (nbz rfl) (Nat.zero_le _) ?_
 show awp _ 0 _ _ ⟨12,[(0,eP p)],[],16⟩
 refine zaa ⟨12,[(1,.pv (pC p)),(2,.pt 24 0 0)],[(24,some ⟨3,[[.nilS,.nilS,.I 0]],0⟩)],100⟩ rfl ?_ ?_
 ·simp
  exact LeH [(24,24)] [16]
 refine zaq ⟨12,[(2,.pt 24 0 0)],[(24,some ⟨3,[pC p],0⟩)],300⟩ rfl ?_ ?_
 ·simp [zay]
  exact ⟨by omega,by omega,by omega,by omega,rfl,Le.go [(24,24)] [116,140] rfl rfl (by simp) (by simp [fcd,zap])⟩
 refine zag ?_
 exact ⟨.inr rfl,zak.out [] [24] rfl (by simp) (by simp) (by simp) (by simp)⟩
structure TLen (g : Gr) (p : Pol) (acc f : List Int) (R : List (Int × List Int)) : Prop where
 e : g.edges.length≤1000000
 o : g.gone.length≤1000000
 s : p.seeds.length≤1000000
 t : p.table.length≤1000000
 a : acc.length≤1000
 f : f.length≤2000
 r : R.length≤1000
 d : ∀ r∈R,r.2.length≤1000
section
variable {g : Gr} {p : Pol} {acc f : List Int} {R : List (Int × List Int)} {s : GStp} {e : Int}
theorem znd (h : TLen g p acc f R) : zai Tryz.prog zhy [eT g p acc f R] [] (eT g p acc f R) []:=by
 have h1:=zcY g (by have:=h.e; omega) (by have:=h.o; omega)
 have h2:=zn5 p h.s h.t
 have h3:=zkU acc f R h.a h.f h.r h.d
 refine zqy.acalls (nbz rfl) (nbz rfl) (Nat.zero_le _) ?_
 show awp _ 0 _ _ ⟨13,[(0,eT g p acc f R)],[],16⟩
 refine zaa ⟨13,[(1,.pv (tC g p acc f R)),(2,.pt 24 0 0)],[(24,some ⟨9,[[.I 0,.nilS,.nilS,.nilS,.nilS,.I 0,.nilS,.nilS,.nilS]],0⟩)],100⟩ rfl ?_ ?_
 ·simp
  exact LeH [(24,24)] [16]
 refine zaq ⟨13,[(2,.pt 24 0 0)],[(24,some ⟨9,[tC g p acc f R],0⟩)],300⟩ rfl ?_ ?_
 ·simp
  refine zje h1 (by simp) ?_
  simp
  refine zaj h2 (by simp) ?_
  simp
  refine zw1 h3 (by simp) ?_
  simp [zay]
  exact ⟨rfl,Le.go [(24,24)] [116,117,164,165,166] rfl rfl (by simp) (by simp [fcd,zap])⟩
 refine zag ?_
 exact ⟨.inr rfl,zak.out [] [24] rfl (by simp) (by simp) (by simp) (by simp)⟩
theorem zp3 {f f' : List Int} (he : g.edges.length≤1000000) (ho : g.gone.length≤1000000) (hs : p.seeds.length≤1000000) (ht : p.table.length≤1000000) (ha : acc.length≤1000000) (hR : R.length≤1000) (hd : ∀ r∈R,r.2.length≤140737488355328) :
  zai Tryz.prog zf4 [eT g p acc f R,eT g p acc f' R] [] (.B true) []:=by
 have h1:=znQ g g (by omega) (by omega)
 rw [decide_eq_true (show EqG g g from ⟨rfl,rfl,rfl⟩)] at h1
 have h2:=zcB p.seeds p.seeds (by omega)
 rw [decide_eq_true rfl] at h2
 have h3:=zcB p.table p.table (by omega)
 rw [decide_eq_true rfl] at h3
 have h4:=zup acc f acc f' R R (by omega) hR hR hd
 rw [decide_eq_true (show acc=acc∧R=R from ⟨rfl,rfl⟩)] at h4
 refine zoA.acalls (nbz rfl) (nbz rfl) (Nat.zero_le _) ?_
 show awp _ 0 _ _ ⟨44,[(0,eT g p acc f R),(1,eT g p acc f' R)],[],16⟩
 refine zaa ⟨44,[(2,.pv (tC g p acc f R)),(3,.pv (tC g p acc f' R))],[],100⟩ rfl ?_ ?_
 ·simp
  exact LeH [] [16,24]
 refine zaa ⟨44,[(4,.B true)],[],600⟩ rfl ?_ ?_
 ·simp
  refine zaj h1 (by simp) ?_
  simp
  refine zaj h2 (by simp) ?_
  simp
  refine zaj h3 (by simp) ?_
  simp
  refine zaj h4 (by simp) ?_
  simp
  exact LeH [] []
 refine zag ?_
 exact ⟨.inr rfl,zak.one (by simp)⟩
theorem zez {f : List Int} (hg : GrOk g) (hp : za3 g.size p) (hf : zdP g p (zau (accG g p)) f) : TLen g p (accG g p) f (refG g p):=by
 have h1:=zkc hg hp
 have h2:=hg.edges_le
 have h3:=hg.gone_le
 have h4:=hp.2.2.2.1
 have h5:=zmJ hg p
 have h6:=zuZ hg p
 have h8:=hg.1.2.1
 have h7:=zui hg hp (fun x hx=>zrc p x (zdN.1 hx).1) (by have:=hg.1.2.1; omega) (zbN _) hf
 exact ⟨by omega,by omega,by omega,by omega,by omega,by omega,by omega,fun r hr=>by have:=zta hg p r hr; omega⟩
theorem zik (hg : GrOk g) (hp : za3 g.size p) : ∃ f,zdP g p (zau (accG g p)) f∧zai Tryz.prog zeT [eG g,eP p] [] (.tup [eT g p (accG g p) f (refG g p),.I 0]) []:=by
 obtain ⟨⟨R,f⟩,⟨hR,hf⟩,hrun⟩:=zxQ g p hg hp (by have:=zkc hg hp; have:=hg.1.2.1; omega)
 have hR:=hR.eq
 simp only at hR hf hrun
 rw [hR] at hrun
 have hf : zdP g p (zau (accG g p)) f:=hf
 refine ⟨f,hf,?_⟩
 have hcp:=znd (zez hg hp hf)
 have hrun : zai Tryz.prog zgG [eG g,eP p] [] (.tup [eAcc (accG g p) f (refG g p),.I 0]) []:=hrun
 generalize accG g p=acc at *
 generalize refG g p=R at *
 refine zpE.acalls (nbz rfl) (nbz rfl) (Nat.zero_le _) ?_
 show awp _ 0 _ _ ⟨23,[(0,eG g),(1,eP p)],[],16⟩
 refine zaa ⟨23,[(2,.pv (gC g)),(3,.pv (pC p)),(4,.pt 32 0 0)],[(32,some ⟨9,[[.I 0,.nilS,.nilS,.nilS,.nilS,.I 0,.nilS,.nilS,.nilS]],0⟩)],100⟩ rfl ?_ ?_
 ·simp
  exact LeH [(32,32)] [16,24]
 refine zaa ⟨23,[(2,.pv (gC g)),(3,.pv (pC p)),(4,.pt 32 0 0),(6,.pv [ints acc,ints f,.vs 2 false (zaJ R)]),(7,.I 0)],[(32,some ⟨9,[[.I 0,.nilS,.nilS,.nilS,.nilS,.I 0,.nilS,.nilS,.nilS]],0⟩)],200⟩ rfl ?_ ?_
 ·simp
  refine zaj hrun (by simp) ?_
  simp
  exact LeH [(32,32)] [148]
 refine zab ?_
 refine zaa ⟨23,[(2,.pv (gC g)),(3,.pv (pC p)),(4,.pt 32 0 0),(6,.pv [ints acc,ints f,.vs 2 false (zaJ R)]),(15,.B false)],[(32,some ⟨9,[[.I 0,.nilS,.nilS,.nilS,.nilS,.I 0,.nilS,.nilS,.nilS]],0⟩)],300⟩ rfl ?_ ?_
 ·simp
  exact LeH [(32,32)] []
 refine zac _ rfl (fun h=>by cases h) fun _=>?_
 refine zad ?_
 refine zaa ⟨23,[(4,.pt 32 0 0),(5,.I 0)],[(32,some ⟨9,[tC g p acc f R],0⟩)],500⟩ rfl ?_ ?_
 ·simp
  refine zaj hcp (by simp) ?_
  simp [zay]
  exact LeH [(32,32)] []
 refine zag ?_
 exact ⟨.inr rfl,zak.out [] [32] rfl (by simp) (by simp) (by simp <;> exact .refl _) (by simp)⟩
theorem zoX {a b : List Int} (hn : a.Nodup) (hr : ∀ k∈a,0≤k∧k<64) : zjy a b=zau (a.filter fun x=>!decide (x∈b)):=by
 unfold zjy
 exact zka (hn.sublist List.filter_sublist) fun k hk=>hr k (List.mem_filter.1 hk).1
section
variable (hT : TLen g p acc f R) (hc : zai Tryz.prog zdK [eG g,eP p,eAcc acc f R] [] (.I 0) [])
include hT hc
end
end
end Go.Proofs.YthmaflecfppoiaaGreat
