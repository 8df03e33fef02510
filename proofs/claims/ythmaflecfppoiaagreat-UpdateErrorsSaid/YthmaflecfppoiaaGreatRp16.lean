/- Texts of this claim,merged. -/
import Derived.Test.YthmaflecfppoiaaGreatRp9
import Derived.Test.YthmaflecfppoiaaGreatRp15
import Derived.Test.YthmaflecfppoiaaGreatRp6
import Derived.Test.YthmaflecfppoiaaGreatRp10
import Derived.Test.YthmaflecfppoiaaGreatRp7
set_option linter.unusedSimpArgs false
set_option linter.unusedVariables false
set_option linter.unusedSectionVars false
namespace Go.Proofs.YthmaflecfppoiaaGreat
open Go
set_option maxRecDepth 100000
def zju:AFun:=⟨65,[(4,none)],
 (.seq
 (.reg false [
  ⟨(some 3),(.box 3),[(.t 1)],none⟩,
  ⟨(some 4),.mv,[(.c (.bool false))],none⟩] [])
 (.seq
 (.reg false [
  ⟨(some 5),.mv,[(.c (.int .i64 0))],none⟩,
  ⟨(some 6),.mv,[(.c (.int .i64 0))],none⟩] [])
 (.seq
 (.seq
 (.reg false [
  ⟨(some 7),.mv,[(.c (.int .i64 0))],none⟩] [])
 (.block 0
 (.loop
 (.seq
 (.seq
 (.reg false [
  ⟨(some 8),.mv,[(.t 7)],none⟩,
  ⟨(some 9),.mv,[(.t 0)],none⟩,
  ⟨(some 10),.len,[(.t 9)],none⟩,
  ⟨(some 11),(.bin .lss),[(.t 8),(.t 10)],none⟩] [])
 (.cond (.t 11)
  .skip
  (.exit 0)))
 (.seq
 (.block 1
 (.seq
 (.reg true [
  ⟨(some 14),.mv,[(.t 5)],none⟩,
  ⟨(some 15),(.fad 0),[(.t 3)],none⟩,
  ⟨(some 16),(.ld false 1),[(.t 15)],none⟩,
  ⟨(some 17),.len,[(.t 16)],none⟩,
  ⟨(some 18),(.bin .lss),[(.t 14),(.t 17)],none⟩,
  ⟨(some 19),.mv,[(.t 18)],none⟩,
  ⟨(some 20),(.fad 0),[(.t 3)],(some (19,true))⟩,
  ⟨(some 21),(.ld false 1),[(.t 20)],(some (19,true))⟩,
  ⟨(some 22),.mv,[(.t 5)],(some (19,true))⟩,
  ⟨(some 23),(.iad 1),[(.t 21),(.t 22)],(some (19,true))⟩,
  ⟨(some 24),(.ld false 1),[(.t 23)],(some (19,true))⟩,
  ⟨(some 25),.mv,[(.t 0)],(some (19,true))⟩,
  ⟨(some 26),.mv,[(.t 7)],(some (19,true))⟩,
  ⟨(some 27),(.iad 1),[(.t 25),(.t 26)],(some (19,true))⟩,
  ⟨(some 28),(.ld false 1),[(.t 27)],(some (19,true))⟩,
  ⟨(some 29),(.bin .eql),[(.t 24),(.t 28)],(some (19,true))⟩,
  ⟨(some 30),.pick,[(.t 19),(.t 29),(.c (.bool false))],none⟩] [[],[],[1],[2],[0,3],[4],[5],[6,5],[5],[7,8,5],[9,5],[5],[5],[11,12,5],[13,5],[10,14,5],[5,15]])
 (.cond (.t 30)
  (.reg false [
   ⟨(some 31),.mv,[(.t 5)],none⟩,
   ⟨(some 32),(.bin .add),[(.t 31),(.c (.int .i64 1))],none⟩,
   ⟨(some 5),.mv,[(.t 32)],none⟩] [])
  (.seq
  (.reg true [
   ⟨(some 33),.mv,[(.t 6)],none⟩,
   ⟨(some 34),(.fad 2),[(.t 3)],none⟩,
   ⟨(some 35),(.ld false 1),[(.t 34)],none⟩,
   ⟨(some 36),.len,[(.t 35)],none⟩,
   ⟨(some 37),(.bin .lss),[(.t 33),(.t 36)],none⟩,
   ⟨(some 38),.mv,[(.t 37)],none⟩,
   ⟨(some 39),(.fad 2),[(.t 3)],(some (38,true))⟩,
   ⟨(some 40),(.ld false 1),[(.t 39)],(some (38,true))⟩,
   ⟨(some 41),.mv,[(.t 6)],(some (38,true))⟩,
   ⟨(some 42),(.iad 2),[(.t 40),(.t 41)],(some (38,true))⟩,
   ⟨(some 43),(.fad 0),[(.t 42)],(some (38,true))⟩,
   ⟨(some 44),(.ld false 1),[(.t 43)],(some (38,true))⟩,
   ⟨(some 45),.mv,[(.t 0)],(some (38,true))⟩,
   ⟨(some 46),.mv,[(.t 7)],(some (38,true))⟩,
   ⟨(some 47),(.iad 1),[(.t 45),(.t 46)],(some (38,true))⟩,
   ⟨(some 48),(.ld false 1),[(.t 47)],(some (38,true))⟩,
   ⟨(some 49),(.bin .eql),[(.t 44),(.t 48)],(some (38,true))⟩,
   ⟨(some 50),.pick,[(.t 38),(.t 49),(.c (.bool false))],none⟩] [[],[],[1],[2],[0,3],[4],[5],[6,5],[5],[7,8,5],[9,5],[10,5],[5],[5],[12,13,5],[14,5],[11,15,5],[5,16]])
  (.cond (.t 50)
   (.reg false [
    ⟨(some 51),.mv,[(.t 6)],none⟩,
    ⟨(some 52),(.bin .add),[(.t 51),(.c (.int .i64 1))],none⟩,
    ⟨(some 6),.mv,[(.t 52)],none⟩] [])
   (.seq
   (.reg false [
    ⟨(some 4),.mv,[(.c (.bool false))],none⟩] [])
   .ret))))))
 (.reg false [
  ⟨(some 12),.mv,[(.t 7)],none⟩,
  ⟨(some 13),(.bin .add),[(.t 12),(.c (.int .i64 1))],none⟩,
  ⟨(some 7),.mv,[(.t 13)],none⟩] []))))))
 (.seq
 (.reg false [
  ⟨(some 53),.mv,[(.t 5)],none⟩,
  ⟨(some 54),(.fad 0),[(.t 3)],none⟩,
  ⟨(some 55),(.ld false 1),[(.t 54)],none⟩,
  ⟨(some 56),.len,[(.t 55)],none⟩,
  ⟨(some 57),(.bin .eql),[(.t 53),(.t 56)],none⟩,
  ⟨(some 58),.mv,[(.t 57)],none⟩,
  ⟨(some 59),.mv,[(.t 6)],(some (58,true))⟩,
  ⟨(some 60),(.fad 2),[(.t 3)],(some (58,true))⟩,
  ⟨(some 61),(.ld false 1),[(.t 60)],(some (58,true))⟩,
  ⟨(some 62),.len,[(.t 61)],(some (58,true))⟩,
  ⟨(some 63),(.bin .eql),[(.t 59),(.t 62)],(some (58,true))⟩,
  ⟨(some 64),.pick,[(.t 58),(.t 63),(.c (.bool false))],none⟩,
  ⟨(some 4),.mv,[(.t 64)],none⟩] [])
 .ret))))⟩
theorem zjI:Src Tryz.prog zdP zju:=mkS Tryz.f70
structure PnSt where
 n:Nat
 i:Nat
 k:Nat
set_option maxRecDepth 100000 in
set_option maxHeartbeats 4000000 in
theorem zie (o acc f:List Int) (R:List (Int × List Int)) (hol:o.length≤100) (ha:acc.length≤1000) (hR:R.length≤1000):zai Tryz.prog zdP [ints o,eAcc acc f R] [] (.B (za2 o acc (zaS R))) []:=by
 refine zjI.acalls (nbz rfl) (nbz rfl) (Nat.le_refl _) ?_
 show awp _ 0 _ _ ⟨65,[(0,ints o),(1,eAcc acc f R)],[],16⟩
 have hkl:(zaS R).length=R.length:=by simp [zaS]
 obtain⟨b,hb⟩ : ∃ b,b=za2 o acc (zaS R):=⟨_,rfl⟩
 rw [← hb]
 refine zaa ⟨65,[(0,ints o),(3,.pv [ints acc,ints f,.vs 2 false (zaG R)])],[],40⟩ rfl ?_ ?_
 ·simp
  exact LeH [] [16]
 refine rx (s:=?s2) [0,3,5,6] [] [] rfl ?o2 ?q2
 case o2=>simp; rfl
 refine zab ?_
 refine rx (s:=?s3) [0,3,5,6,7] [] [] rfl ?o3 ?q3
 case o3=>simp; rfl
 refine zaf ?_
 refine zao (ι:=PnSt) (fun s=>⟨65,[(0,ints o),(3,.pv [ints acc,ints f,.vs 2 false (zaG R)]),(5,.I s.i),(6,.I s.k),(7,.I s.n)],[],300⟩)
  (fun s=>s.n≤o.length∧s.i≤acc.length∧s.k≤R.length∧b=za2 (o.drop s.n) (acc.drop s.i) ((zaS R).drop s.k))
  (fun s=>o.length - s.n) ⟨0,0,0⟩ ⟨Nat.zero_le _,Nat.zero_le _,Nat.zero_le _,by simpa using hb⟩ (LeH [] []) ?_
 rintro⟨n,i,k⟩ ⟨hn,hi,hk,hp⟩
 simp only at hn hi hk hp
 refine zab ?_
 refine zaa ⟨65,[(0,ints o),(3,.pv [ints acc,ints f,.vs 2 false (zaG R)]),(5,.I i),(6,.I k),(7,.I n),(11,.B (decide (n<o.length)))],[],400⟩ rfl ?_ ?_
 ·simp
  exact LeH [] []
 refine zac _ rfl (fun h6=>?_) fun h6=>?_
 ·simp at h6
  have hw1:IntKind.i64.wrap ((n:Int)+1)=(n:Int)+1:=w64 (by omega) (by omega)
  have hw2:IntKind.i64.wrap ((i:Int)+1)=(i:Int)+1:=w64 (by omega) (by omega)
  have hw3:IntKind.i64.wrap ((k:Int)+1)=(k:Int)+1:=w64 (by omega) (by omega)
  obtain⟨x,hx⟩ : ∃ x,x=o[n]:=⟨_,rfl⟩
  have hod:o.drop n=x::o.drop (n+1):=by rw [List.drop_eq_getElem_cons h6,hx]
  rw [hod] at hp
  simp only [za2,List.tail_drop] at hp
  refine zae ?_
  refine zab ?_
  refine zaf ?_
  refine zaq ⟨65,[(0,ints o),(3,.pv [ints acc,ints f,.vs 2 false (zaG R)]),(5,.I i),(6,.I k),(7,.I n),(30,.B (decide ((acc.drop i).head? = some x)))],[],700⟩ rfl ?_ ?_
  ·by_cases hia:i<acc.length
   ·have hh:=ze1 hia
    simp [hia,h6,← hx]
    exact⟨rfl,Le.go [] [] rfl rfl (by simp <;> exact wkB (by rw [Bool.eq_iff_iff]; simp [hia])) (by simp)⟩
   ·have hh:=zcu hia
    have hai:acc.length≤i:=by omega
    simp [hia]
    exact⟨rfl,Le.go [] [] rfl rfl (by simp [hia]) (by simp)⟩
  refine zac _ rfl (fun h9=>?_) fun h9=>?_
  ·rw [decide_eq_true_eq] at h9
   rw [if_pos h9] at hp
   have hia:i<acc.length:=Decidable.byContradiction fun h=>by rw [zcu h] at h9; cases h9
   refine zas rfl ?_
   simp
   refine zas rfl ?_
   simp
   exact⟨⟨n+1,i+1,k⟩,⟨by simp only; omega,by simp only; omega,hk,hp⟩,by simp only; omega,Le.go [] [] rfl rfl (by simp [hw1,hw2]) (by simp)⟩
  rw [decide_eq_false_iff_not] at h9
  rw [if_neg h9] at hp
  refine zaq ⟨65,[(0,ints o),(3,.pv [ints acc,ints f,.vs 2 false (zaG R)]),(5,.I i),(6,.I k),(7,.I n),(50,.B (decide (((zaS R).drop k).head? = some x)))],[],900⟩ rfl ?_ ?_
  ·by_cases hkR:k<R.length
   ·have hh2:(zaS R)[k]? = some R[k].1:=by rw [zaS,List.getElem?_map,List.getElem?_eq_getElem hkR]; rfl
    simp [hkR,h6,← hx]
    exact⟨rfl,Le.go [] [] rfl rfl (by simp [hh2] <;> exact wkB (by rw [Bool.eq_iff_iff]; simp)) (by simp)⟩
   ·have hh2:(zaS R)[k]? = none:=List.getElem?_eq_none (by omega)
    simp [hkR]
    exact⟨rfl,Le.go [] [] rfl rfl (by simp [hh2,hkR]) (by simp)⟩
  refine zac _ rfl (fun h11=>?_) fun h11=>?_
  ·rw [decide_eq_true_eq] at h11
   rw [if_pos h11] at hp
   have hkR:k<R.length:=Decidable.byContradiction fun h=>by rw [List.head?_drop,List.getElem?_eq_none (by omega)] at h11; cases h11
   refine zas rfl ?_
   simp
   refine zas rfl ?_
   simp
   exact⟨⟨n+1,i,k+1⟩,⟨by simp only; omega,hi,hkR,hp⟩,by simp only; omega,Le.go [] [] rfl rfl (by simp [hw1,hw3]) (by simp)⟩
  rw [decide_eq_false_iff_not] at h11
  rw [if_neg h11] at hp
  subst hp
  refine rx (s:=?s10) [4] [] [] rfl ?o10 ?q10
  case o10=>simp; rfl
  refine zag ?_
  exact⟨.inr rfl,zak.one (by simp)⟩
 simp at h6
 obtain rfl:n=o.length:=by omega
 rw [List.drop_length] at hp
 have hp2:b=(decide (i=acc.length) && decide (k=R.length)):=by
  rw [hp]
  simp only [za2]
  rw [Bool.eq_iff_iff]
  simp [List.isEmpty_iff]
  omega
 refine zan ?_
 refine hit ?_
 refine zaa ⟨65,[(4,.B b)],[],1000⟩ rfl ?_ ?_
 ·by_cases hia:i=acc.length
  ·simp [hia]
   exact Le.go [] [] rfl rfl (by simp [hp2,hia] <;> exact wkB (by rw [Bool.eq_iff_iff]; simp; omega)) (by simp)
  ·have hia2:¬ (i:Int)=acc.length:=by omega
   have hia3:((i:Int) == (acc.length:Int))=false:=by simpa using hia2
   simp [hia3]
   exact Le.go [] [] rfl rfl (by simp [hp2,hia]) (by simp)
 refine zag ?_
 exact⟨.inr rfl,zak.one (by simp)⟩
theorem zrL {o:List Int} {x:Int} {a r:List Int} (h:za2 (x::o) a r=true) (hn:(x::o).Nodup) (hx:x∈a):a.head? = some x:=by
 simp only [za2] at h
 split at h
 ·assumption
 ·split at h
  ·exact absurd ((zfb h).1.subset hx) (List.nodup_cons.1 hn).1
  ·cases h
set_option maxRecDepth 100000 in
set_option maxHeartbeats 8000000 in
open Classical in
theorem zkV (g:Gr) (p:Pol) (acc f:List Int) (R:List (Int × List Int)) (hg:GrOk g) (hp:zaY g.size p) (hs:p.seeds.length≤64) (ha:acc.length≤1000) (hR:R.length≤1000) (hf:f.length≤1099511627776) (hsd:∀ r∈R,r.2.length≤9223372036854775807) :
  zai Tryz.prog zaX [eG g,eP p,eAcc acc f R] [] (.I (zf8 g p acc f R)) []:=by
 have hsz:=hg.1.1
 have hsz2:=hg.1.2.1
 have hel:=hg.edges_le
 have hgl:=hg.gone_le
 have hchk:=zdy g p (by omega) (by omega) (by omega) (by have:=hp.2.2.2.1; omega)
 rw [if_pos hg,if_pos hp] at hchk
 have hlev:=zdw g p.lv (by omega) (by omega)
 have hord:=zg6 (g:=zam g p.lv) (S:=p.seeds) (hg.level p.lv) (by omega)
 have hol:=znr hg p
 unfold zf8
 obtain⟨o,ho⟩ : ∃ o,o=ordL (zam g p.lv) p.seeds:=⟨_,rfl⟩
 have hor:∀ k∈o,0≤k∧k<g.size:=fun k hk=>by rw [ho] at hk; have h:=zb3 hk; exact h
 have hon:o.Nodup:=by rw [ho]; exact zbf _ _
 rw [← ho] at hord hol ⊢
 have hpart:=zie o acc f R (by omega) ha hR
 have hj0:zav []=[]:=rfl
 refine zja.acalls (nbz rfl) (nbz rfl) (Nat.le_refl _) ?_
 show awp _ 0 _ _ ⟨114,[(0,eG g),(1,eP p),(2,eAcc acc f R)],[],16⟩
 refine zaa ⟨114,[(3,.pv (gC g)),(4,.pv (pC p)),(5,.pv [ints acc,ints f,.vs 2 false (zaG R)])],[],60⟩ rfl ?_ ?_
 ·simp
  exact LeH [] [16,24,32]
 refine zab ?_
 refine rx (s:=?s2) [3,4,5,7] [] [] rfl ?o2 ?q2
 case o2=>simp; refine zaj hchk (by simp) ?_; simp; rfl
 refine rx (s:=?s3) [3,4,5,22] [] [] rfl ?o3 ?q3
 case o3=>simp; rfl
 refine zac _ rfl (fun h=>by cases h) fun _=>?_
 refine zae ?_
 refine zaq ⟨114,[(3,.pv (gC g)),(4,.pv (pC p)),(5,.pv [ints acc,ints f,.vs 2 false (zaG R)]),(8,ints o)],[],300⟩ rfl ?_ ?_
 ·simp
  refine zaj hlev (by simp) ?_
  simp
  refine za0 hord (by simp) ?_
  simp
  exact⟨rfl,Le.go [] [156] rfl rfl (by simp [fcd,zal]) (by simp)⟩
 refine zab ?_
 refine zaa ⟨114,[(3,.pv (gC g)),(4,.pv (pC p)),(5,.pv [ints acc,ints f,.vs 2 false (zaG R)]),(8,ints o),(34,.B (!za2 o acc (zaS R)))],[],400⟩ rfl ?_ ?_
 ·simp
  refine zaj hpart (by simp) ?_
  simp
  exact LeH [] []
 refine zac _ rfl (fun h8=>?_) fun h8=>?_
 ·have h8':¬ za2 o acc (zaS R)=true:=by simpa using h8
  rw [if_neg h8']
  refine rx (s:=?s9) [6] [] [] rfl ?o9 ?q9
  case o9=>simp; rfl
  refine zag ?_
  exact⟨.inr rfl,zak.one (by simp)⟩
 have h8':za2 o acc (zaS R)=true:=by simpa using h8
 rw [if_pos h8']
 have hsub:=zfb h8'
 have hperm:=(zmA hon h8').nodup_iff.1 hon
 have hkl:(zaS R).length=R.length:=by simp [zaS]
 have hrk:∀ k∈zaS R,0≤k∧k<g.size:=fun k hk=>hor k (hsub.2.subset hk)
 have hak:∀ k∈acc,0≤k∧k<g.size:=fun k hk=>hor k (hsub.1.subset hk)
 have h64:∀ a:List Int,(∀ x∈a,0≤x∧x<g.size) → ∀ x∈a,0≤x∧x<64:=fun a h x hx=>by have:=h x hx; omega
 have han:acc.Nodup:=(List.nodup_append.1 hperm).1
 have hjl:=zgL han (h64 acc hak)
 have hnet:=zdO g p (zav acc) hg hp (zdb hak) hs (zbr acc)
 rw [← zfD hg,show zba g p (zaO g p) (zav acc)=netA g p (zav acc) from rfl] at hnet
 have hnv:∀ a:List Int,(∀ x∈a,0≤x∧x<g.size)→za5 ⟨netN g,netA g p (zav a)⟩:=fun a h=>zfo hg hp (zgv (zdb h)) hs (zbr a)
 have hval:=zg8 (f:=f) (hnv acc hak) hf
 have hvv:=zlG (f:=f) (hnv acc hak) hf
 obtain⟨A,hA⟩ : ∃ A,A=netA g p (zav acc):=⟨_,rfl⟩
 rw [← hA] at hnet hval hvv
 rw [← hA]
 refine zae ?_
 refine zaa ⟨114,[(3,.pv (gC g)),(4,.pv (pC p)),(5,.pv [ints acc,ints f,.vs 2 false (zaG R)]),(8,ints o),(9,.vs 1 false [])],[],500⟩ rfl ?_ ?_
 ·simp
  exact LeH [] []
 refine zab ?_
 refine zaa ⟨114,[(3,.pv (gC g)),(4,.pv (pC p)),(5,.pv [ints acc,ints f,.vs 2 false (zaG R)]),(8,ints o),(9,.vs 1 false []),(10,.I 0)],[],600⟩ rfl ?_ ?_
 ·simp
  exact LeH [] []
 refine zaf ?_
 refine zao (ι:=Nat) (fun i=>⟨114,[(3,.pv (gC g)),(4,.pv (pC p)),(5,.pv [ints acc,ints f,.vs 2 false (zaG R)]),(8,ints o),(9,ints (zav (acc.take i))),(10,.I i)],[],700⟩) (fun i=>i≤acc.length) (fun i=>acc.length - i) 0 (Nat.zero_le _) (Le.go [] [] rfl rfl (by simp [hj0]; exact .refl _) (by simp)) ?_
 intro i hi
 refine zab ?_
 refine zaa ⟨114,[(3,.pv (gC g)),(4,.pv (pC p)),(5,.pv [ints acc,ints f,.vs 2 false (zaG R)]),(8,ints o),(9,ints (zav (acc.take i))),(10,.I i),(39,.B (decide (i<acc.length)))],[],800⟩ rfl ?_ ?_
 ·simp
  exact LeH [] []
 refine zac _ rfl (fun h13=>?_) fun h13=>?_
 ·simp at h13
  have hw1:IntKind.i64.wrap ((i:Int)+1)=(i:Int)+1:=w64 (by omega) (by omega)
  have hxr:=hak _ (List.getElem_mem h13)
  have hput:=zpf (zav (acc.take i)) acc[i] (by have:=zbr (acc.take i); omega)
  rw [zh9 hxr.1 (by omega),← List.take_succ_eq_append_getElem h13] at hput
  obtain⟨J,hJ⟩ : ∃ J,J=zav (acc.take (i+1)):=⟨_,rfl⟩
  rw [← hJ] at hput
  refine zae ?_
  refine zab ?_
  refine zaf ?_
  refine zas rfl ?_
  simp [h13]
  refine za0 hput (by simp) ?_
  simp
  refine zas rfl ?_
  simp
  exact⟨i+1,by omega,by omega,Le.go [] [848] rfl rfl (by simp [hw1,← hJ,fcd,zal]) (by simp)⟩
 simp at h13
 obtain rfl:i=acc.length:=by omega
 rw [List.take_length]
 refine zan ?_
 refine hit ?_
 refine zaa ⟨114,[(3,.pv (gC g)),(4,.pv (pC p)),(5,.pv [ints acc,ints f,.vs 2 false (zaG R)]),(8,ints o),(9,ints (zav acc)),(11,.pv (nC ⟨netN g,A⟩))],[],1000⟩ rfl ?_ ?_
 ·simp
  refine zaj hnet (by simp) ?_
  simp
  exact LeH [] [856]
 refine zab ?_
 refine zaa ⟨114,[(3,.pv (gC g)),(4,.pv (pC p)),(5,.pv [ints acc,ints f,.vs 2 false (zaG R)]),(8,ints o),(69,.B (!decide (zaA (netN g) A f∧valF A f=acc.length)))],[],1200⟩ rfl ?_ ?_
 ·by_cases hfo:zaA (netN g) A f
  ·rw [decide_eq_true hfo] at hval
   rw [if_pos hfo] at hvv
   simp
   refine zaj hval (by simp) ?_
   simp
   refine zaj hvv (by simp) ?_
   simp
   exact Le.go [] [] rfl rfl (by simp [hfo,hjl] <;> exact wkB (by rw [Bool.eq_iff_iff]; simp)) (by simp)
  ·rw [decide_eq_false hfo] at hval
   simp
   refine zaj hval (by simp) ?_
   simp
   exact Le.go [] [] rfl rfl (by simp [hfo]) (by simp)
 refine zac _ rfl (fun h12=>?_) fun h12=>?_
 ·have h12':¬ (zaA (netN g) A f∧valF A f=acc.length):=fun h=>by rw [decide_eq_true h] at h12; cases h12
  rw [if_neg h12']
  refine rx (s:=?s13) [6] [] [] rfl ?o13 ?q13
  case o13=>simp; rfl
  refine zag ?_
  exact⟨.inr rfl,zak.one (by simp)⟩
 have h12':zaA (netN g) A f∧valF A f=acc.length:=by simpa using h12
 rw [if_pos h12']
 refine zae ?_
 refine zaa ⟨114,[(3,.pv (gC g)),(4,.pv (pC p)),(5,.pv [ints acc,ints f,.vs 2 false (zaG R)]),(8,ints o),(13,.vs 1 false [])],[],1300⟩ rfl ?_ ?_
 ·simp
  exact LeH [] []
 refine zaa ⟨114,[(3,.pv (gC g)),(4,.pv (pC p)),(5,.pv [ints acc,ints f,.vs 2 false (zaG R)]),(8,ints o),(13,.vs 1 false []),(14,.I 0)],[],1400⟩ rfl ?_ ?_
 ·simp
  exact LeH [] []
 refine zab ?_
 refine zaa ⟨114,[(3,.pv (gC g)),(4,.pv (pC p)),(5,.pv [ints acc,ints f,.vs 2 false (zaG R)]),(8,ints o),(13,.vs 1 false []),(14,.I 0),(15,.I 0)],[],1500⟩ rfl ?_ ?_
 ·simp
  exact LeH [] []
 refine zaf ?_
 refine zao (ι:=PnSt) (fun s=>⟨114,[(3,.pv (gC g)),(4,.pv (pC p)),(5,.pv [ints acc,ints f,.vs 2 false (zaG R)]),(8,ints o),(13,ints (zav (acc.take s.i))),(14,.I s.k),(15,.I s.n)],[],1600⟩)
  (fun s=>s.n≤o.length∧s.i≤acc.length∧s.k≤R.length∧za2 (o.drop s.n) (acc.drop s.i) ((zaS R).drop s.k)=true∧(zde g p [] o acc R↔zde g p (acc.take s.i) (o.drop s.n) (acc.drop s.i) (R.drop s.k)) ∧ ∀ x∈acc.take s.i,x∈o.take s.n)
  (fun s=>o.length - s.n) ⟨0,0,0⟩ ⟨Nat.zero_le _,Nat.zero_le _,Nat.zero_le _,by simpa using h8',by simp,by simp⟩ (Le.go [] [] rfl rfl (by simp [hj0]; exact .refl _) (by simp)) ?_
 rintro⟨n,i,k⟩ ⟨hn,hi,hk,hpp,hcc,hin⟩
 simp only at hn hi hk hpp hcc hin
 refine zab ?_
 refine zaa ⟨114,[(3,.pv (gC g)),(4,.pv (pC p)),(5,.pv [ints acc,ints f,.vs 2 false (zaG R)]),(8,ints o),(13,ints (zav (acc.take i))),(14,.I k),(15,.I n),(73,.B (decide (n<o.length)))],[],1700⟩ rfl ?_ ?_
 ·simp
  exact LeH [] []
 refine zac _ rfl (fun h22=>?_) fun h22=>?_
 ·simp at h22
  have hw1:IntKind.i64.wrap ((n:Int)+1)=(n:Int)+1:=w64 (by omega) (by omega)
  have hw3:IntKind.i64.wrap ((k:Int)+1)=(k:Int)+1:=w64 (by omega) (by omega)
  obtain⟨x,hx⟩ : ∃ x,x=o[n]:=⟨_,rfl⟩
  have hxr:0≤x∧x<g.size:=by rw [hx]; exact hor _ (List.getElem_mem h22)
  have hod:o.drop n=x::o.drop (n+1):=by rw [List.drop_eq_getElem_cons h22,hx]
  have hdn:(x::o.drop (n+1)).Nodup:=by rw [← hod]; exact hon.sublist (List.drop_sublist _ _)
  rw [hod] at hpp hcc
  have hhead:x∈acc↔(acc.drop i).head? = some x:=by
   constructor
   ·intro hm
    rw [← List.take_append_drop i acc] at hm
    rcases List.mem_append.1 hm with h | h
    ·exfalso
     have h2:=hin x h
     obtain⟨j,hj,hjx⟩:=List.mem_iff_getElem.1 h2
     rw [List.getElem_take] at hjx
     rw [List.length_take] at hj
     exact (List.pairwise_iff_getElem.1 hon) j n (by omega) h22 (by omega) (hjx.trans hx)
    ·exact zrL hpp hdn h
   ·intro h
    exact List.mem_of_mem_drop (List.mem_of_mem_head? h)
  have hhas:=zme acc x (by omega)
  have hput:=zpf (zav (acc.take i)) x (by have:=zbr (acc.take i); omega)
  rw [zh9 hxr.1 (by omega)] at hput
  have htn:o.take (n+1)=o.take n++[x]:=by rw [List.take_succ_eq_append_getElem h22,hx]
  have hcd:(acc.contains x)=decide (x∈acc):=by rw [Bool.eq_iff_iff]; simp
  rw [hcd] at hhas
  refine zae ?_
  refine zaL (ι:=PnSt) (fun s=>⟨114,[(3,.pv (gC g)),(4,.pv (pC p)),(5,.pv [ints acc,ints f,.vs 2 false (zaG R)]),(8,ints o),(13,ints (zav (acc.take s.i))),(14,.I s.k),(15,.I n)],[],3000⟩)
   (fun s=>s.i≤acc.length∧s.k≤R.length∧za2 (o.drop (n+1)) (acc.drop s.i) ((zaS R).drop s.k)=true∧(zde g p [] o acc R↔zde g p (acc.take s.i) (o.drop (n+1)) (acc.drop s.i) (R.drop s.k)) ∧ ∀ x∈acc.take s.i,x∈o.take (n+1)) ?_ fun s hs'=>?_
  ·refine zaf ?_
   refine zab ?_
   refine zaq ⟨114,[(3,.pv (gC g)),(4,.pv (pC p)),(5,.pv [ints acc,ints f,.vs 2 false (zaG R)]),(8,ints o),(13,ints (zav (acc.take i))),(14,.I k),(15,.I n),(82,.B (decide (x∈acc)))],[],1800⟩ rfl ?_ ?_
   ·simp [h22,← hx]
    refine zaj hhas (by simp) ?_
    simp
    exact⟨rfl,LeH [] []⟩
   refine zac _ rfl (fun h24=>?_) fun h24=>?_
   ·have h24':=hhead.1 (of_decide_eq_true h24)
    simp only [za2,zde,if_pos h24',List.tail_drop] at hpp hcc
    have hia:i<acc.length:=Decidable.byContradiction fun h=>by rw [zcu h] at h24'; cases h24'
    have hai:acc[i]=x:=by rw [ze1 hia] at h24'; exact Option.some.inj h24'
    have hti:acc.take (i+1)=acc.take i++[x]:=by rw [List.take_succ_eq_append_getElem hia,hai]
    rw [← hti] at hput hcc
    obtain⟨J,hJ⟩ : ∃ J,J=zav (acc.take (i+1)):=⟨_,rfl⟩
    rw [← hJ] at hput
    refine zaa ⟨114,[(3,.pv (gC g)),(4,.pv (pC p)),(5,.pv [ints acc,ints f,.vs 2 false (zaG R)]),(8,ints o),(13,ints J),(14,.I k),(15,.I n)],[],1900⟩ rfl ?_ ?_
    ·simp [h22,← hx]
     refine za0 hput (by simp) ?_
     simp
     exact Le.go [] [1840] rfl rfl (by simp [fcd,zal]) (by simp)
    refine zan ?_
    refine hit ?_
    refine⟨⟨n,i+1,k⟩,⟨hia,hk,hpp,hcc,fun y hy=>?_⟩,Le.go [] [] rfl rfl (by simp [hJ]) (by simp)⟩
    simp only [hti] at hy
    rw [htn]
    rcases List.mem_append.1 hy with h | h
    ·exact List.mem_append_left _ (hin y h)
    ·exact List.mem_append_right _ h
   ·have h24':¬ (acc.drop i).head? = some x:=fun h=>(of_decide_eq_false h24) (hhead.2 h)
    simp only [za2,zde,if_neg h24',List.tail_drop] at hpp hcc
    have hrh:((zaS R).drop k).head? = some x:=by
     split at hpp
     ·assumption
     ·cases hpp
    rw [if_pos hrh] at hpp
    have hkR:k<R.length:=Decidable.byContradiction fun h=>by rw [List.head?_drop,List.getElem?_eq_none (by omega)] at hrh; cases hrh
    have hrx:R[k].1=x:=by
     rw [List.head?_drop,zaS,List.getElem?_map,List.getElem?_eq_getElem hkR] at hrh
     exact Option.some.inj hrh
    rw [List.drop_eq_getElem_cons hkR] at hcc
    simp only at hcc
    have hsdk:=hsd _ (List.getElem_mem hkR)
    obtain⟨r,hr⟩ : ∃ r,r=R[k]:=⟨_,rfl⟩
    rw [← hr] at hcc hsdk hrx
    have hbr:∀ y∈acc.take i,0≤y∧y<g.size:=fun y hy=>hak y (List.mem_of_mem_take hy)
    have hbn:(acc.take i).Nodup:=han.sublist (List.take_sublist _ _)
    have hbl:=zgL hbn (h64 _ hbr)
    have hks:∀ y∈acc.take i++[x],0≤y∧y<g.size:=fun y hy=>by
     rcases List.mem_append.1 hy with h | h
     ·exact hbr y h
     ·rw [List.mem_singleton] at h; subst h; exact hxr
    have hnet2:=zdO g p (zav (acc.take i++[x])) hg hp (zdb hks) hs (zbr _)
    rw [← zfD hg,show zba g p (zaO g p) (zav (acc.take i++[x]))=netA g p (zav (acc.take i++[x])) from rfl] at hnet2
    have hprv:=zjA ⟨netN g,netA g p (zav (acc.take i++[x]))⟩ r.2 (zav (acc.take i)).length (by have:=(hnv _ hks).2.2.1; simp only at this ⊢; omega) hsdk
    have hpd:decide (zc9 ⟨netN g,netA g p (zav (acc.take i++[x]))⟩ r.2 (zav (acc.take i)).length)=decide (zgn g p (acc.take i) r):=by
     unfold zgn
     rw [hrx,hbl]
    rw [hpd] at hprv
    obtain⟨W,hW⟩ : ∃ W,W=zav (acc.take i++[x]):=⟨_,rfl⟩
    obtain⟨B,hB⟩ : ∃ B,B=zav (acc.take i):=⟨_,rfl⟩
    rw [← hW] at hput hnet2 hprv
    rw [← hB] at hput hprv
    rw [← hB]
    obtain⟨A2,hA2⟩ : ∃ A2,A2=netA g p W:=⟨_,rfl⟩
    rw [← hA2] at hnet2 hprv
    refine zae ?_
    refine zaq ⟨114,[(3,.pv (gC g)),(4,.pv (pC p)),(5,.pv [ints acc,ints f,.vs 2 false (zaG R)]),(8,ints o),(13,ints B),(14,.I k),(15,.I n),(16,.pv (nC ⟨netN g,A2⟩))],[],2000⟩ rfl ?_ ?_
    ·simp [h22,← hx]
     refine za0 hput (by simp) ?_
     simp
     refine zkE [1856] (by simp) hnet2 (by simp [fcd,zal]) ?_
     simp
     exact⟨rfl,LeH [] [1896]⟩
    refine zab ?_
    refine zaq ⟨114,[(3,.pv (gC g)),(4,.pv (pC p)),(5,.pv [ints acc,ints f,.vs 2 false (zaG R)]),(8,ints o),(13,ints B),(14,.I k),(15,.I n),(111,.B (!decide (zgn g p (acc.take i) r)))],[],2200⟩ rfl ?_ ?_
    ·simp [hkR,← hr]
     refine zaj hprv (by simp) ?_
     simp
     exact⟨rfl,LeH [] []⟩
    refine zac _ rfl (fun h28=>?_) fun h28=>?_
    ·have h28':¬ zgn g p (acc.take i) r:=by simpa using h28
     have hno:¬ zde g p [] o acc R:=fun h=>h28' (hcc.1 h).1
     rw [if_neg hno]
     refine rx (s:=?s29) [6] [] [] rfl ?o29 ?q29
     case o29=>simp; rfl
     refine zag ?_
     exact⟨.inr rfl,zak.one (by simp)⟩
    have h28':zgn g p (acc.take i) r:=by simpa using h28
    refine zae ?_
    refine zas rfl ?_
    simp
    refine⟨⟨n,i,k+1⟩,⟨hi,hkR,hpp,?_,fun y hy=>by rw [htn]; exact List.mem_append_left _ (hin y hy)⟩,Le.go [] [] rfl rfl (by simp [hw3,hB]) (by simp)⟩
    rw [hcc]
    exact⟨fun h=>h.2,fun h=>⟨h28',h⟩⟩
  obtain⟨c1,c2,c3,c4,c5⟩:=hs'
  refine zas rfl ?_
  simp
  exact⟨⟨n+1,s.i,s.k⟩,⟨by simp only; omega,c1,c2,c3,c4,c5⟩,by simp only; omega,Le.go [] [] rfl rfl (by simp [hw1]) (by simp)⟩
 simp at h22
 obtain rfl:n=o.length:=by omega
 rw [List.drop_length] at hcc
 have hyes:zde g p [] o acc R:=hcc.2 (by simp [zde])
 rw [if_pos hyes]
 refine zan ?_
 refine hit ?_
 refine rx (s:=?s30) [6] [] [] rfl ?o30 ?q30
 case o30=>simp; rfl
 refine zag ?_
 exact⟨.inr rfl,zak.one (by simp)⟩
open Classical in
theorem zg9 (g:Gr) (p:Pol) (acc f:List Int) (R:List (Int × List Int)) (hg:GrOk g) (hp:zaY g.size p) (hs:p.seeds.length≤64) (ha:acc.length≤1000) (hR:R.length≤1000) (hf:f.length≤1099511627776) (hsd:∀ r∈R,r.2.length≤140737488355328):zai Tryz.prog zaX [eG g,eP p,eAcc acc f R] [] (.I (zf8 g p acc f R)) [] :=
 zkV g p acc f R hg hp hs ha hR hf (fun r hr=>by have:=hsd r hr; omega)
set_option maxRecDepth 100000 in
theorem zkF (R S:List (Int × List Int)) (hR:R.length≤1000) (hS:S.length≤1000) (hr:∀ r∈R,r.2.length≤140737488355328):zai Tryz.prog zcE [.vs 2 false (zaG R),.vs 2 false (zaG S)] [] (.B (decide (R=S))) []:=by
 refine zhr.acalls (nbz rfl) (nbz rfl) (Nat.le_refl _) ?_
 show awp _ 0 _ _ ⟨42,[(0,.vs 2 false (zaG R)),(1,.vs 2 false (zaG S))],[],16⟩
 refine rx (s:=?s1) [0,1] [] [] rfl ?o1 ?q1
 case o1=>simp; rfl
 refine zab ?_
 refine zaa ⟨42,[(0,.vs 2 false (zaG R)),(1,.vs 2 false (zaG S)),(10,.B (!decide (R.length=S.length)))],[],100⟩ rfl ?_ ?_
 ·simp
  exact Le.go [] [] rfl rfl (by simp <;> exact wkB (by rw [Bool.eq_iff_iff]; simp <;> omega)) (by simp)
 refine zac _ rfl (fun h3=>?_) fun h3=>?_
 ·have h3':¬ R.length=S.length:=by simpa using h3
  have hno:¬ R=S:=fun h=>h3' (by rw [h])
  refine rx (s:=?s4) [4] [] [] rfl ?o4 ?q4
  case o4=>simp; rfl
  refine zag ?_
  exact⟨.inr rfl,zak.one (by simp [hno])⟩
 have h3':R.length=S.length:=by simpa using h3
 refine zae ?_
 refine zab ?_
 refine rx (s:=?s5) [0,1,5] [] [] rfl ?o5 ?q5
 case o5=>simp; rfl
 refine zaf ?_
 refine zao (ι:=Nat) (fun i=>⟨42,[(0,.vs 2 false (zaG R)),(1,.vs 2 false (zaG S)),(5,.I i)],[],200⟩) (fun i=>i≤R.length ∧ ∀ k (h:k<R.length) (h':k<S.length),k<i→R[k]=S[k]) (fun i=>R.length - i) 0 ⟨Nat.zero_le _,fun k _ _ h=>absurd h (Nat.not_lt_zero _)⟩ (LeH [] []) ?_
 rintro i ⟨hi,hp⟩
 refine zab ?_
 refine rx (s:=?s6) [0,1,5,14] [] [] rfl ?o6 ?q6
 case o6=>simp; rfl
 refine zac _ rfl (fun h7=>?_) fun h7=>?_
 ·simp at h7
  have h7S:i<S.length:=by omega
  have hw1:IntKind.i64.wrap ((i:Int)+1)=(i:Int)+1:=w64 (by omega) (by omega)
  have hrl:=hr _ (List.getElem_mem h7)
  obtain⟨⟨k1,s1⟩,hr1⟩ : ∃ r,r=R[i]:=⟨_,rfl⟩
  obtain⟨⟨k2,s2⟩,hr2⟩ : ∃ r,r=S[i]:=⟨_,rfl⟩
  rw [← hr1] at hrl
  have hsame:=zcD s1 s2 hrl
  refine zae ?_
  refine zab ?_
  refine zaf ?_
  refine zaq ⟨42,[(0,.vs 2 false (zaG R)),(1,.vs 2 false (zaG S)),(5,.I i),(41,.B (!decide (k1=k2∧s1=s2)))],[],600⟩ rfl ?_ ?_
  ·by_cases hk:k1=k2
   ·subst hk
    simp [h7,h7S,← hr1,← hr2]
    refine zaj hsame (by simp) ?_
    simp
    exact⟨rfl,LeH [] []⟩
   ·have hk2:(k1 == k2)=false:=by simpa using hk
    simp [h7,h7S,← hr1,← hr2,hk2,bne]
    exact⟨rfl,Le.go [] [] rfl rfl (by simp [hk]) (by simp)⟩
  refine zac _ rfl (fun h9=>?_) fun h9=>?_
  ·have h9':¬ (k1=k2∧s1=s2):=fun h=>by rw [decide_eq_true h] at h9; cases h9
   have hno:¬ R=S:=fun h=>by
    subst h
    rw [← hr1] at hr2
    exact h9' ⟨(congrArg Prod.fst hr2).symm,(congrArg Prod.snd hr2).symm⟩
   refine rx (s:=?s10) [4] [] [] rfl ?o10 ?q10
   case o10=>simp; rfl
   refine zag ?_
   exact⟨.inr rfl,zak.one (by simp [hno])⟩
  have h9':k1=k2∧s1=s2:=by simpa using h9
  refine zae ?_
  refine zas rfl ?_
  simp
  refine⟨i+1,⟨by omega,fun k h h' hki=>?_⟩,by omega,Le.go [] [] rfl rfl (by simp [hw1]) (by simp)⟩
  rcases Nat.lt_succ_iff_lt_or_eq.1 hki with h2 | h2
  ·exact hp k h h' h2
  ·subst h2
   rw [← hr1,← hr2,h9'.1,h9'.2]
 simp at h7
 have hyes:R=S:=List.ext_getElem h3' fun k h1 h2=>hp k h1 h2 (by omega)
 refine zan ?_
 refine hit ?_
 refine rx (s:=?s11) [4] [] [] rfl ?o11 ?q11
 case o11=>simp; rfl
 refine zag ?_
 exact⟨.inr rfl,zak.one (by simp [hyes])⟩
theorem zuF (a f b f':List Int) (R S:List (Int × List Int)) (ha:a.length≤140737488355328) (hR:R.length≤1000) (hS:S.length≤1000) (hr:∀ r∈R,r.2.length≤140737488355328):zai Tryz.prog zgs [eAcc a f R,eAcc b f' S] [] (.B (decide (a=b∧R=S))) []:=by
 refine zod.acalls (nbz rfl) (nbz rfl) (Nat.le_refl _) ?_
 show awp _ 0 _ _ ⟨17,[(0,eAcc a f R),(1,eAcc b f' S)],[],16⟩
 have h1:=zcD a b ha
 have h2:=zkF R S hR hS hr
 refine zaa ⟨17,[(2,.pv [ints a,ints f,.vs 2 false (zaG R)]),(3,.pv [ints b,ints f',.vs 2 false (zaG S)])],[],60⟩ rfl ?_ ?_
 ·simp
  exact LeH [] [16,24]
 refine zaa ⟨17,[(4,.B (decide (a=b∧R=S)))],[],300⟩ rfl ?_ ?_
 ·by_cases hab:a=b
  ·rw [decide_eq_true hab] at h1
   simp
   refine zaj h1 (by simp) ?_
   simp
   refine zaj h2 (by simp) ?_
   simp
   exact Le.go [] [] rfl rfl (by simp [hab]) (by simp)
  ·rw [decide_eq_false hab] at h1
   simp
   refine zaj h1 (by simp) ?_
   simp
   exact Le.go [] [] rfl rfl (by simp [hab]) (by simp)
 refine zag ?_
 exact⟨.inr rfl,zak.one (by simp)⟩
theorem zoH (g:Gr) (p:Pol):∀ (n:Nat) (o:List Int),o.length=n → ∀ r∈refR g p o,r.2.length≤netN g
 | 0,o,h,r,hr=>by
   obtain rfl:=List.eq_nil_of_length_eq_zero h
   cases hr
 | n+1,o,h,r,hr=>by
   have hne:o≠[]:=fun e=>by rw [e] at h; cases h
   rw [← List.dropLast_concat_getLast hne] at hr
   have ih:=zoH g p n o.dropLast (by rw [List.length_dropLast,h]; rfl)
   by_cases hc:zat g p (zav (accR g p o.dropLast++[o.getLast hne]))
   ·rw [zhZ hc] at hr; exact ih r hr
   ·rw [zk1 hc] at hr
    rcases List.mem_append.1 hr with h2 | h2
    ·exact ih r h2
    ·rw [List.mem_singleton] at h2
     rw [h2]
     exact zoT _ _
noncomputable abbrev accG (g:Gr) (p:Pol):List Int:=accR g p (ordL (zam g p.lv) p.seeds)
noncomputable abbrev refG (g:Gr) (p:Pol):List (Int × List Int):=refR g p (ordL (zam g p.lv) p.seeds)
theorem zhM {g:Gr} (hg:GrOk g) (p:Pol):(accG g p).length≤64:=Nat.le_trans (znx _) (znr hg p)
theorem zq1 {g:Gr} (hg:GrOk g) (p:Pol):(refG g p).length≤64:=Nat.le_trans (zna _ _ _ _ rfl) (znr hg p)
theorem zty {g:Gr} (hg:GrOk g) (p:Pol):∀ r∈refG g p,r.2.length≤130:=fun r hr=>by
 have h1:=zoH g p _ _ rfl r hr
 have h2:=zfD hg
 have h3:=hg.1.2.1
 omega
theorem zoM {g:Gr} {p:Pol} {ks f:List Int} (hg:GrOk g) (hp:zaY g.size p) (hr:∀ x∈ks,0≤x∧x<g.size) (hs:p.seeds.length≤64) (hl:ks.length≤64) (hf:zcH g p ks f):f.length≤1200:=by
 have h1:=zfo hg hp hr hs hl
 have h2:=hf.ok.fit.len
 have h3:=h1.2.2.1
 simp only at h3
 omega
theorem zj0 {g:Gr} (p:Pol):∀ x∈accG g p,0≤x∧x<g.size:=fun x hx=>by
 have h:=zb3 (zea hx)
 exact h
section
variable {g:Gr} {p:Pol}
theorem zjP (acc f:List Int) (R:List (Int × List Int)) (he:chkE g p≠0) (hl:g.edges.length≤140737488355328) (hl2:g.gone.length≤140737488355328) (hs:p.seeds.length≤140737488355328) (ht:p.table.length≤140737488355328) :
  zai Tryz.prog zaM [eG g,eP p,eAcc acc f R] [] (.I (chkE g p)) []:=by
 have hchk:=zjk g p hl hl2 hs ht
 obtain⟨e,hed⟩ : ∃ e,e=chkE g p:=⟨_,rfl⟩
 rw [← hed] at he hchk ⊢
 have he':(e != 0)=true:=by simp [he]
 refine zhX.acalls (nbz rfl) (nbz rfl) (Nat.le_refl _) ?_
 show awp _ 0 _ _ ⟨80,[(0,eG g),(1,eP p),(2,eAcc acc f R)],[],16⟩
 refine zaa ⟨80,[(3,.pv (gC g)),(4,.pv (pC p))],[],60⟩ rfl ?_ ?_
 ·simp
  exact LeH [] [16,24,32]
 refine zab ?_
 refine rx (s:=?s2) [7] [] [] rfl ?o2 ?q2
 case o2=>simp; refine zaj hchk (by simp) ?_; simp; rfl
 refine zaa ⟨80,[(7,.I e),(18,.B true)],[],300⟩ rfl ?_ ?_
 ·simp
  exact Le.go [] [] rfl rfl (by simp [he']) (by simp)
 refine zac _ rfl (fun _=>?_) fun h=>by cases h
 refine rx (s:=?s5) [6] [] [] rfl ?o5 ?q5
 case o5=>simp; rfl
 refine zag ?_
 exact⟨.inr rfl,zak.one (by simp)⟩
theorem zkR (acc f:List Int) (R:List (Int × List Int)) (he:chkE g p≠0) (hl:g.edges.length≤140737488355328) (hl2:g.gone.length≤140737488355328) (hs:p.seeds.length≤140737488355328) (ht:p.table.length≤140737488355328) :
  zai Tryz.prog zaX [eG g,eP p,eAcc acc f R] [] (.I (chkE g p)) []:=by
 have hchk:=zot g p hl hl2 hs ht
 obtain⟨e,hed⟩ : ∃ e,e=chkE g p:=⟨_,rfl⟩
 rw [← hed] at he hchk ⊢
 have he':(e != 0)=true:=by simp [he]
 refine zja.acalls (nbz rfl) (nbz rfl) (Nat.le_refl _) ?_
 show awp _ 0 _ _ ⟨114,[(0,eG g),(1,eP p),(2,eAcc acc f R)],[],16⟩
 refine zaa ⟨114,[(3,.pv (gC g)),(4,.pv (pC p))],[],60⟩ rfl ?_ ?_
 ·simp
  exact LeH [] [16,24,32]
 refine zab ?_
 refine rx (s:=?s2) [7] [] [] rfl ?o2 ?q2
 case o2=>simp; refine zaj hchk (by simp) ?_; simp; rfl
 refine zaa ⟨114,[(7,.I e),(22,.B true)],[],300⟩ rfl ?_ ?_
 ·simp
  exact Le.go [] [] rfl rfl (by simp [he']) (by simp)
 refine zac _ rfl (fun _=>?_) fun h=>by cases h
 refine rx (s:=?s5) [6] [] [] rfl ?o5 ?q5
 case o5=>simp; rfl
 refine zag ?_
 exact⟨.inr rfl,zak.one (by simp)⟩
theorem zgT (hg:GrOk g) (hp:zaY g.size p):(p.seeds.length:Int)≤g.size:=by
 have h:=hp.2.1
 have hsz:=hg.1.1
 rcases Nat.eq_zero_or_pos p.seeds.length with h0 | h0
 ·omega
 have h1:=znQ h (p.seeds.length - 1) (by omega)
 have h2:=zgv h (p.seeds[p.seeds.length - 1]'(by omega)) (List.getElem_mem _)
 omega
end
structure GStp where
 gone:Bool
 e:Ed
open Classical in
noncomputable def zaw (g:Gr) (s:GStp):Gr × Int:=if s.gone=true then zaU g s.e.f s.e.t else zbv g s.e
def HasE (g:Gr) (f t:Int):Prop:=∃ x∈g.edges,x.f=f∧x.t=t
theorem Bef.asymm {a b:Ed} (h:Bef a b):¬ Bef b a:=by unfold Bef at *; omega
theorem Bef.irrefl (a:Ed):¬ Bef a a:=by unfold Bef; omega
theorem GrOk.of {s:Int} {E:List Ed} {go:List Int} (h0:0≤s) (h1:s≤64) (hl:E.length≤500) (hg:Rise go 0 (s - 1)) (hp:E.Pairwise Bef) (hf:∀ e∈E,Fits ⟨s,E,go⟩ e∧1≤e.v∧e.v≤3):GrOk ⟨s,E,go⟩ :=
 ⟨⟨h0,h1,hl,hg⟩,fun i hi=>⟨(hf _ (List.getElem_mem hi)).1,(hf _ (List.getElem_mem hi)).2.1,(hf _ (List.getElem_mem hi)).2.2,fun h0=>zgD.2 (List.pairwise_iff_getElem.1 hp (i - 1) i (by simp only at hi; omega) hi (by omega))⟩⟩
variable {g:Gr} {f t:Int} {e:Ed}
theorem GrOk.val (hg:GrOk g):∀ e∈g.edges,1≤e.v∧e.v≤3:=fun e he=>by
 obtain⟨i,hi,rfl⟩:=List.getElem_of_mem he
 exact⟨(hg.2 i hi).2.1,(hg.2 i hi).2.2.1⟩
theorem GrOk.uniq (hg:GrOk g) {x y:Ed} (hx:x∈g.edges) (hy:y∈g.edges) (hf:x.f=y.f) (ht:x.t=y.t):x=y:=by
 obtain⟨i,hi,rfl⟩:=List.getElem_of_mem hx
 obtain⟨j,hj,rfl⟩:=List.getElem_of_mem hy
 rcases Nat.lt_trichotomy i j with h | h | h
 ·have:=hg.lt j i hi hj h
  unfold Bef at this
  omega
 ·subst h; rfl
 ·have:=hg.lt i j hj hi h
  unfold Bef at this
  omega
theorem zu5 {k:Nat} (h:AtE g.edges k f t):HasE g f t:=by
 obtain⟨h1,h2,h3⟩:=h
 exact⟨_,List.getElem_mem h1,h2,h3⟩
theorem zs3 (hg:GrOk g) {i:Nat} (hi:i<g.edges.length) (hf:g.edges[i].f=f) (ht:g.edges[i].t=t):idxE g.edges ⟨f,t,0⟩=i :=
 zpY (by omega) (fun j hj hjl=>by
  have:=hg.lt i j (by omega) hi hj
  unfold Bef at this ⊢
  rw [hf,ht] at this
  exact this) (fun _ hb=>by
  unfold Bef at hb
  simp only at hb
  omega)
theorem zmH (hg:GrOk g):AtE g.edges (idxE g.edges ⟨f,t,0⟩) f t↔HasE g f t:=by
 refine⟨zu5,?_⟩
 rintro⟨x,hx,hf,ht⟩
 obtain⟨i,hi,rfl⟩:=List.getElem_of_mem hx
 rw [zs3 hg hi hf ht]
 exact⟨hi,hf,ht⟩
theorem zhb (hg:GrOk g) (h:HasE g f t):zaU g f t=(zei g f t,0)∧GrOk (zei g f t) ∧ ∀ x,x∈(zei g f t).edges↔x∈g.edges∧¬ (x.f=f∧x.t=t):=by
 have hat:=(zmH hg).2 h
 obtain⟨x,hx,hxf,hxt⟩:=h
 obtain⟨i,hi,rfl⟩:=List.getElem_of_mem hx
 have hix:=zs3 hg hi hxf hxt
 have hE:(zei g f t).edges=g.edges.take i++g.edges.drop (i+1):=by unfold zei; rw [hix]
 have hsub:(g.edges.take i++g.edges.drop (i+1)).Sublist g.edges:=by
  have h1:(g.edges.drop (i+1)).Sublist (g.edges.drop i):=by
   rw [List.drop_eq_getElem_cons hi]
   exact List.sublist_cons_self _ _
  have h2:=(List.Sublist.refl (g.edges.take i)).append h1
  rwa [List.take_append_drop] at h2
 have hmem:∀ y,y∈(zei g f t).edges↔y∈g.edges∧¬ (y.f=f∧y.t=t):=by
  intro y
  rw [hE]
  constructor
  ·intro hy
   refine⟨hsub.subset hy,fun hc=>?_⟩
   have:y=g.edges[i]:=hg.uniq (hsub.subset hy) (List.getElem_mem hi) (hc.1.trans hxf.symm) (hc.2.trans hxt.symm)
   rcases List.mem_append.1 hy with h | h
   ·obtain⟨j,hj,e⟩:=List.mem_take_iff_getElem.1 h
    have hjl:j<g.edges.length:=by omega
    have:=hg.lt i j hjl hi (by omega)
    rw [e,‹y=_›] at this
    exact Bef.irrefl _ this
   ·obtain⟨j,hj,e⟩:=List.mem_drop_iff_getElem.1 h
    have:=hg.lt (i+1+j) i hi (by omega) (by omega)
    rw [e,‹y=_›] at this
    exact Bef.irrefl _ this
  ·rintro⟨hy,hn⟩
   obtain⟨j,hj,rfl⟩:=List.getElem_of_mem hy
   rcases Nat.lt_trichotomy j i with h | h | h
   ·exact List.mem_append_left _ (List.mem_take_iff_getElem.2 ⟨j,by omega,rfl⟩)
   ·subst h; exact absurd ⟨hxf,hxt⟩ hn
   ·refine List.mem_append_right _ (List.mem_drop_iff_getElem.2 ⟨j - (i+1),by omega,?_⟩)
    congr 1
    omega
 refine⟨?_,?_,hmem⟩
 ·unfold zaU
  rw [if_neg (fun h=>h hg),if_neg (fun h=>h hat)]
 ·have hl:=hsub.length_le
  have hp:(zei g f t).edges.Pairwise Bef:=by rw [hE]; exact hg.pair.sublist hsub
  exact GrOk.of hg.1.1 hg.1.2.1 (by have:=hg.1.2.2.1; simp only [zei,hix]; omega) hg.1.2.2.2 hp fun y hy=>⟨hg.fits y ((hmem y).1 hy).1,hg.val y ((hmem y).1 hy).1⟩
theorem zj3 (hg:GrOk g):(zaU g f t).2=0↔HasE g f t:=by
 refine⟨fun h=>?_,fun h=>by rw [(zhb hg h).1]⟩
 refine (zmH hg).1 (Classical.byContradiction fun hn=>?_)
 unfold zaU at h
 rw [if_neg (fun h=>h hg),if_pos hn] at h
 simp at h
theorem ztQ (g:Gr) (e:Ed):∀ x,x∈(ziw g e).edges↔x=e∨x∈g.edges:=by
 intro x
 have h:x∈g.edges↔x∈g.edges.take (idxE g.edges ⟨e.f,e.t,0⟩)∨x∈g.edges.drop (idxE g.edges ⟨e.f,e.t,0⟩):=by
  rw [← List.mem_append,List.take_append_drop]
 rw [h]
 simp only [ziw,List.mem_append,List.mem_cons]
 constructor <;> rintro (h | h | h) <;> simp [h]
theorem zrm (hg:GrOk g) (hl:g.edges.length<500):(zbv g e).2=0↔Fits g e∧(1≤e.v∧e.v≤3)∧¬ HasE g e.f e.t:=by
 constructor
 ·intro h
  obtain⟨_,h2,h3,h4,_⟩:=zjX h
  exact⟨h2,h3,fun h=>h4 ((zmH hg).2 h)⟩
 ·rintro⟨h1,h2,h3⟩
  unfold zbv
  rw [if_neg (fun h=>h hg),if_neg (fun h=>h h1),if_neg (fun h=>h h2),if_neg (fun h=>h3 ((zmH hg).1 h)),if_neg (by omega)]
theorem zq7:∀ {a b:List Ed},a.Pairwise Bef→b.Pairwise Bef→(∀ x,x∈a↔x∈b)→a=b
 | [],[],_,_,_=>rfl
 | [],y::b,_,_,h=>absurd ((h y).2 List.mem_cons_self) (by simp)
 | x::a,[],_,_,h=>absurd ((h x).1 List.mem_cons_self) (by simp)
 | x::a,y::b,ha,hb,h=>by
   rw [List.pairwise_cons] at ha hb
   have hxy:x=y:=by
    rcases List.mem_cons.1 ((h x).1 List.mem_cons_self) with h1 | h1
    ·exact h1
    rcases List.mem_cons.1 ((h y).2 List.mem_cons_self) with h2 | h2
    ·exact h2.symm
    exact absurd (ha.1 y h2) (hb.1 x h1).asymm
   subst hxy
   rw [zq7 ha.2 hb.2 fun z=>⟨fun hz=>?_,fun hz=>?_⟩]
   ·rcases List.mem_cons.1 ((h z).1 (List.mem_cons_of_mem _ hz)) with h1 | h1
    ·subst h1; exact absurd (ha.1 z hz) (Bef.irrefl z)
    ·exact h1
   ·rcases List.mem_cons.1 ((h z).2 (List.mem_cons_of_mem _ hz)) with h1 | h1
    ·subst h1; exact absurd (hb.1 z hz) (Bef.irrefl z)
    ·exact h1
theorem zu0 {a b:Gr} (ha:GrOk a) (hb:GrOk b) (hs:a.size=b.size) (hg:a.gone=b.gone) (h:∀ x,x∈a.edges↔x∈b.edges):a=b:=by
 obtain⟨s,E,go⟩:=a
 obtain⟨s',E',go'⟩:=b
 have:=zq7 ha.pair hb.pair h
 simp only at hs hg this
 subst hs hg this
 rfl
def OkS (g:Gr) (s:GStp):Prop:=if s.gone=true then HasE g s.e.f s.e.t else Fits g s.e∧(1≤s.e.v∧s.e.v≤3)∧¬ HasE g s.e.f s.e.t
structure ztR (g g':Gr) (s:GStp):Prop where
 ok:GrOk g'
 size:g'.size=g.size
 gone:g'.gone=g.gone
 len:g'.edges.length≤g.edges.length+1
 mem:∀ x,x∈g'.edges↔(s.gone=false∧x=s.e)∨(x∈g.edges∧¬ (s.gone=true∧x.f=s.e.f∧x.t=s.e.t))
theorem zqR (hg:GrOk g) (hl:g.edges.length<500) (s:GStp):(zaw g s).2=0↔OkS g s:=by
 unfold zaw OkS
 by_cases h:s.gone=true
 ·rw [if_pos h,if_pos h]; exact zj3 hg
 ·rw [if_neg h,if_neg h]; exact zrm hg hl
theorem zpF (hg:GrOk g) (hl:g.edges.length<500) {s:GStp} (h:OkS g s):(zaw g s).2=0∧ztR g (zaw g s).1 s:=by
 refine⟨(zqR hg hl s).2 h,?_⟩
 unfold OkS at h
 unfold zaw
 by_cases hs:s.gone=true
 ·rw [if_pos hs] at h
  rw [if_pos hs]
  obtain⟨h1,h2,h3⟩:=zhb hg h
  rw [h1]
  refine⟨h2,rfl,rfl,?_,fun x=>?_⟩
  ·simp only [zei,List.length_append,List.length_take,List.length_drop]; omega
  ·simp only [h3,hs]; simp
 ·rw [if_neg hs] at h
  rw [if_neg hs]
  obtain⟨h1,h2,h3⟩:=h
  obtain⟨_,_,_,_,_,h4,h5⟩:=zjX ((zrm hg hl).2 ⟨h1,h2,h3⟩)
  rw [h4]
  refine⟨h5,rfl,rfl,?_,fun x=>?_⟩
  ·simp only [ziw,List.length_append,List.length_take,List.length_cons,List.length_drop]; omega
  ·rw [ztQ]; simp [hs]
theorem ztR.has {g':Gr} {s:GStp} (h:ztR g g' s) {f t:Int} (hne:¬ (s.e.f=f∧s.e.t=t)):HasE g' f t↔HasE g f t:=by
 constructor
 ·rintro⟨x,hx,hf,ht⟩
  rcases (h.mem x).1 hx with h1 | h1
  ·obtain⟨_,rfl⟩:=h1
   exact absurd ⟨hf,ht⟩ hne
  ·exact⟨x,h1.1,hf,ht⟩
 ·rintro⟨x,hx,hf,ht⟩
  refine⟨x,(h.mem x).2 (.inr ⟨hx,fun hc=>hne ?_⟩),hf,ht⟩
  exact⟨hc.2.1.symm.trans hf,hc.2.2.symm.trans ht⟩
noncomputable def runS:Gr→List GStp→Gr × Nat × Int
 | g,[]=>(g,0,0)
 | g,s::l=>if (zaw g s).2=0 then ((runS (zaw g s).1 l).1,(runS (zaw g s).1 l).2.1+1,(runS (zaw g s).1 l).2.2) else (g,0,(zaw g s).2)
theorem ztB {s:GStp} {l:List GStp} (h:(zaw g s).2=0):runS g (s::l)=((runS (zaw g s).1 l).1,(runS (zaw g s).1 l).2.1+1,(runS (zaw g s).1 l).2.2):=by simp only [runS]; rw [if_pos h]
theorem zvn {s:GStp} {l:List GStp} (h:(zaw g s).2≠0):runS g (s::l)=(g,0,(zaw g s).2):=by simp only [runS]; rw [if_neg h]
theorem zfd (hg:GrOk g) {s:GStp} (h:(zaw g s).2=0):GrOk (zaw g s).1∧(zaw g s).1.size=g.size∧(zaw g s).1.gone=g.gone∧(zaw g s).1.edges.length≤g.edges.length+1:=by
 have key:g.edges.length<500∨s.gone=true:=by
  by_cases hs:s.gone=true
  ·exact .inr hs
  ·unfold zaw at h
   rw [if_neg hs] at h
   exact .inl (zjX h).2.2.2.2.1
 by_cases hs:s.gone=true
 ·unfold zaw at h ⊢
  rw [if_pos hs] at h ⊢
  obtain⟨h1,h2,h3⟩:=zhb hg ((zj3 hg).1 h)
  rw [h1]
  refine⟨h2,rfl,rfl,?_⟩
  simp only [zei,List.length_append,List.length_take,List.length_drop]; omega
 ·have hl:g.edges.length<500:=key.elim id fun h=>absurd h hs
  have:=(zpF hg hl ((zqR hg hl s).1 h)).2
  exact⟨this.ok,this.size,this.gone,this.len⟩
theorem GrOk.nodup (hg:GrOk g):g.edges.Nodup:=hg.pair.imp fun h he=>by subst he; exact Bef.irrefl _ h
abbrev tC (g:Gr) (p:Pol) (acc f:List Int) (R:List (Int × List Int)):List AV:=[.I g.size,eEs g.edges,ints g.gone,ints p.seeds,ints p.table,.I p.lv,ints acc,ints f,.vs 2 false (zaG R)]
abbrev eT (g:Gr) (p:Pol) (acc f:List Int) (R:List (Int × List Int)):AV:=.agg (tC g p acc f R)
abbrev stC (s:GStp):List AV:=[.B s.gone,.I s.e.f,.I s.e.t,.I s.e.v]
abbrev eSt (s:GStp):AV:=.agg (stC s)
abbrev eSts (l:List GStp):AV:=.vs 4 false (l.map fun s=>stC s)
@[simp] theorem zw1 {ρ : List (Nat × Nat)} {sn:List Nat} {h:Nat→Option Ent} {n:Nat} {t:TypeId} {v:AV}:conv ρ sn h (n+1) (.ifc t v) = .ifc t (conv ρ sn h n v):=(rfl)
def ze8 (a b:List Int):List Int:=srt (a.filter fun x=>!decide (x∈b))
section
variable {P:Program} {np id:Nat} {h:Nat→Option Ent} {K:AV→List Nat→List (Nat × Option Ent)→Prop} {args args':List AV} {res:AV}
theorem zuS {tbl:List (TypeId × FuncId)} {t:TypeId} {f:FuncId} {x:AV} (hl:lkp tbl t=some f) (hc:zai P f args' [] res []) (he:(x::args).map (conv [] [] h 4)=args')
  (hk:K (conv (swp [] id) [] (fun _=>none) 4 res) [] []):aK P np id (.inv tbl) (.ifc t x::args) h K :=
 ⟨f,[],[],true,args',[],res,[],hl,by simp,by simp,by simp,by rw [List.zipIdx_nil,he]; exact zbM _,rfl,hc,by simp,.inl rfl,by simpa [swp] using hk⟩
end
theorem zjv (p:Pol) (hs:p.seeds.length≤1000000) (ht:p.table.length≤1000000):zai Tryz.prog ze4 [eP p] [] (eP p) []:=by
 refine zlJ.acalls (nbz rfl) (nbz rfl) (Nat.zero_le _) ?_
 show awp _ 0 _ _ ⟨12,[(0,eP p)],[],16⟩
 refine zaa ⟨12,[(1,.pv (pC p)),(2,.pt 24 0 0)],[(24,some ⟨3,[[.nilS,.nilS,.I 0]],0⟩)],100⟩ rfl ?_ ?_
 ·simp
  exact LeH [(24,24)] [16]
 refine zaq ⟨12,[(2,.pt 24 0 0)],[(24,some ⟨3,[pC p],0⟩)],300⟩ rfl ?_ ?_
 ·simp
  refine za0 (zgr p.seeds (by omega)) (by simp) ?_
  simp
  refine za0 (zgr p.table (by omega)) (by simp) ?_
  simp [zar]
  exact⟨rfl,Le.go [(24,24)] [116,140] rfl rfl (by simp) (by simp [fcd,zal])⟩
 refine zag ?_
 exact⟨.inr rfl,zak.out [] [24] rfl (by simp) (by simp) (by simp) (by simp)⟩
theorem ziS (b:List Int) (x:Int) (hb:b.length≤1000000):zai Tryz.prog zc4 [.I x,.pv [ints b]] [] (.B (decide (x∈b))) []:=by
 refine zld.acalls (nbz rfl) (nbz rfl) (Nat.le_refl _) ?_
 show awp _ 0 _ _ ⟨7,[(0,.I x),(1,.pv [ints b])],[],16⟩
 refine rx (s:=?s1) [0,1] [] [] rfl ?o1 ?q1
 case o1=>simp; rfl
 refine rx (s:=?s2) [3] [] [] rfl ?o2 ?q2
 case o2=>simp; refine zaj (zfF b x (by omega)) (by simp) ?_; simp; rfl
 refine zag ?_
 exact⟨.inr rfl,zak.one (by simp)⟩
theorem zg5 (a b:List Int) (ha:a.length≤1000000) (hb:b.length≤1000000):zai Tryz.prog zeP [ints a,ints b] [] (ints (ze8 a b)) []:=by
 obtain⟨F,hF⟩ : ∃ F,F=a.filter fun x=>!decide (x∈b):=⟨_,rfl⟩
 have hFl:F.length≤a.length:=by rw [hF]; exact List.length_filter_le _ _
 have hdel:=zg2 zc4 [.pv [ints b]] (fun x=>decide (x∈b)) a a.length F.length rfl (by rw [hF]) (by omega) (fun ρ sn h n=>by simp) (fun e _=>ziS b e hb)
 rw [← hF] at hdel
 have hsort:=zfY F (by omega)
 have hsl:(srt F).length=F.length:=List.length_mergeSort F
 have htk:∀ h:Int→List AV,List.take F.length (List.map h (srt F))=List.map h (srt F):=fun h=>List.take_of_length_le (by rw [List.length_map,hsl]; exact Nat.le_refl _)
 unfold ze8
 rw [← hF]
 refine zoN.acalls (nbz rfl) (nbz rfl) (Nat.zero_le _) ?_
 show awp _ 0 _ _ ⟨10,[(0,ints a),(1,ints b)],[],16⟩
 refine zaa ⟨10,[(0,ints a),(3,.pv [ints b])],[],100⟩ rfl ?_ ?_
 ·simp
  exact LeH [] [16]
 refine zaa ⟨10,[(4,ints (srt F))],[],300⟩ rfl ?_ ?_
 ·simp
  refine za0 (zgr a (by omega)) (by simp) ?_
  simp
  refine zbH (i:=108) rfl (e':=⟨1,zah a,0⟩) (by simp [fcd]) hdel (by simp) (by simp) ?_
  simp [fcd]
  refine ziE [108] hsort (by simp [fcd]) (.rs _ _ _) zro ?_
  simp [fcd]
  exact Le.go [] [132] rfl rfl (by simp [hsl,htk,fcd]) (by simp)
 refine zag ?_
 exact⟨.inr rfl,zak.one (by simp)⟩
theorem zr3 {g:Gr} (hg:GrOk g):zam g 0=g:=by
 obtain⟨s,E,go⟩:=g
 unfold zam
 congr 1
 refine List.filter_eq_self.2 fun e he=>?_
 have:=(hg.val e he).1
 simp
 omega
theorem ze3 (g:Gr) (p:Pol) (hg:GrOk g) (hp:zaY g.size p) (hN:g.size<20) :
  ∃ f,zcH g p (zav (accG g p)) f∧zai Tryz.prog zbU [eG g,eP p] [] (.tup [eT g p (accG g p) f (refG g p),.I 0]) []:=by
 have hsl:=zgT hg hp
 have hel:=hg.edges_le
 have hgl:=hg.gone_le
 have htl:=hp.2.2.2.1
 obtain⟨f,hf,hrun⟩:=zo3 g p hg hp (by omega) hN
 refine⟨f,hf,?_⟩
 have hlev:=zdx g 0 (by omega) (by omega)
 rw [zr3 hg] at hlev
 have hpol:=zjv p (by omega) (by omega)
 have hrun:zai Tryz.prog zes [eG g,eP p] [] (.tup [eAcc (accG g p) f (refG g p),.I 0]) []:=hrun
 generalize accG g p=acc at *
 generalize refG g p=R at *
 refine zhT.acalls (nbz rfl) (nbz rfl) (Nat.zero_le _) ?_
 show awp _ 0 _ _ ⟨24,[(0,eG g),(1,eP p)],[],16⟩
 refine zaa ⟨24,[(2,.pv (gC g)),(3,.pv (pC p)),(4,.pt 32 0 0)],[(32,some ⟨9,[[.I 0,.nilS,.nilS,.nilS,.nilS,.I 0,.nilS,.nilS,.nilS]],0⟩)],100⟩ rfl ?_ ?_
 ·simp
  exact LeH [(32,32)] [16,24]
 refine zaa ⟨24,[(2,.pv (gC g)),(3,.pv (pC p)),(4,.pt 32 0 0),(6,.pv [ints acc,ints f,.vs 2 false (zaG R)]),(7,.I 0)],[(32,some ⟨9,[[.I 0,.nilS,.nilS,.nilS,.nilS,.I 0,.nilS,.nilS,.nilS]],0⟩)],200⟩ rfl ?_ ?_
 ·simp
  refine zaj hrun (by simp) ?_
  simp
  exact LeH [(32,32)] [148]
 refine zab ?_
 refine zaa ⟨24,[(2,.pv (gC g)),(3,.pv (pC p)),(4,.pt 32 0 0),(6,.pv [ints acc,ints f,.vs 2 false (zaG R)]),(15,.B false)],[(32,some ⟨9,[[.I 0,.nilS,.nilS,.nilS,.nilS,.I 0,.nilS,.nilS,.nilS]],0⟩)],300⟩ rfl ?_ ?_
 ·simp
  exact LeH [(32,32)] []
 refine zac _ rfl (fun h=>by cases h) fun _=>?_
 refine zae ?_
 refine zaq ⟨24,[(4,.pt 32 0 0),(5,.I 0)],[(32,some ⟨9,[tC g p acc f R],0⟩)],500⟩ rfl ?_ ?_
 ·simp
  refine zaj hlev (by simp) ?_
  simp
  refine zaj hpol (by simp) ?_
  simp [zar]
  exact⟨rfl,LeH [(32,32)] []⟩
 refine zag ?_
 exact⟨.inr rfl,zak.out [] [32] rfl (by simp) (by simp) (by simp) (by simp)⟩
def polZ:Pol:=⟨[],[],0⟩
theorem wk9 {a b c d e f g h i a' b' c' d' e' f' g' h' i':AV} (h1:Wk a a') (h2:Wk b b') (h3:Wk c c') (h4:Wk d d') (h5:Wk e e') (h6:Wk f f') (h7:Wk g g') (h8:Wk h h') (h9:Wk i i'):Wk (.agg [a,b,c,d,e,f,g,h,i]) (.agg [a',b',c',d',e',f',g',h',i']) :=
 .agg _ _ rfl fun j=>match j with | 0=>h1 | 1=>h2 | 2=>h3 | 3=>h4 | 4=>h5 | 5=>h6 | 6=>h7 | 7=>h8 | 8=>h9 | _+9=>.refl _
theorem zjt {g:Gr} {p:Pol} (he:chkE g p≠0) (hl:g.edges.length≤140737488355328) (hl2:g.gone.length≤140737488355328) (hs:p.seeds.length≤140737488355328) (ht:p.table.length≤140737488355328) :
  zai Tryz.prog zbU [eG g,eP p] [] (.tup [eT zbd polZ [] [] [],.I (chkE g p)]) []:=by
 have hrun:=zlv he hl hl2 hs ht
 obtain⟨e,hed⟩ : ∃ e,e=chkE g p:=⟨_,rfl⟩
 rw [← hed] at he hrun ⊢
 have he':(e != 0)=true:=by simp [he]
 refine zhT.acalls (nbz rfl) (nbz rfl) (Nat.zero_le _) ?_
 show awp _ 0 _ _ ⟨24,[(0,eG g),(1,eP p)],[],16⟩
 refine zaa ⟨24,[(2,.pv (gC g)),(3,.pv (pC p)),(4,.pt 32 0 0)],[(32,some ⟨9,[[.I 0,.nilS,.nilS,.nilS,.nilS,.I 0,.nilS,.nilS,.nilS]],0⟩)],100⟩ rfl ?_ ?_
 ·simp
  exact LeH [(32,32)] [16,24]
 refine zaa ⟨24,[(4,.pt 32 0 0),(7,.I e)],[(32,some ⟨9,[[.I 0,.nilS,.nilS,.nilS,.nilS,.I 0,.nilS,.nilS,.nilS]],0⟩)],200⟩ rfl ?_ ?_
 ·simp
  refine zaj hrun (by simp) ?_
  simp
  exact LeH [(32,32)] []
 refine zab ?_
 refine zaa ⟨24,[(4,.pt 32 0 0),(7,.I e),(15,.B true)],[(32,some ⟨9,[[.I 0,.nilS,.nilS,.nilS,.nilS,.I 0,.nilS,.nilS,.nilS]],0⟩)],300⟩ rfl ?_ ?_
 ·simp
  exact Le.go [(32,32)] [] rfl rfl (by simp [he']) (by simp)
 refine zac _ rfl (fun _=>?_) fun h=>by cases h
 refine zaa ⟨24,[(4,.pt 32 0 0),(5,.I e)],[(32,some ⟨9,[[.I 0,.nilS,.nilS,.nilS,.nilS,.I 0,.nilS,.nilS,.nilS]],0⟩)],400⟩ rfl ?_ ?_
 ·simp [zar]
  exact LeH [(32,32)] []
 refine zag ?_
 exact⟨.inr rfl,zak.out [] [32] rfl (by simp) (by simp) (by simp; exact wkT2 (wk9 (.refl _) (.nil _ _) (.nil _ _) (.nil _ _) (.nil _ _) (.refl _) (.nil _ _) (.nil _ _) (.nil _ _)) (.refl _)) (by simp)⟩
theorem zkx (e:Ed) (g:Gr) (hl:g.edges.length≤1000000) (hl2:g.gone.length≤1000000):zai Tryz.prog zbm [eE e,eG g] [] (.tup [eG (zbv g e).1,.I (zbv g e).2]) []:=by
 have hw:=znq g e (by omega) (by omega)
 generalize zbv g e=r at *
 obtain⟨g',x⟩:=r
 refine zgW.acalls (nbz rfl) (nbz rfl) (Nat.zero_le _) ?_
 show awp _ 0 _ _ ⟨11,[(0,eE e),(1,eG g)],[],16⟩
 refine zaa ⟨11,[(2,.pv (eC e)),(3,.pv (gC g)),(4,.pt 32 0 0)],[(32,some ⟨3,[[.I 0,.nilS,.nilS]],0⟩)],100⟩ rfl ?_ ?_
 ·simp
  exact LeH [(32,32)] [16,24]
 refine zaa ⟨11,[(4,.pt 32 0 0),(5,.I x)],[(32,some ⟨3,[gC g'],0⟩)],300⟩ rfl ?_ ?_
 ·simp
  refine zaj hw (by simp) ?_
  simp [zar]
  exact LeH [(32,32)] []
 refine zag ?_
 exact⟨.inr rfl,zak.out [] [32] rfl (by simp) (by simp) (by simp) (by simp)⟩
theorem zlF (e:Ed) (g:Gr) (hl:g.edges.length≤1000000) (hl2:g.gone.length≤1000000):zai Tryz.prog zbt [eE e,eG g] [] (.tup [eG (zaU g e.f e.t).1,.I (zaU g e.f e.t).2]) []:=by
 have hw:=zjG g e.f e.t (by omega) (by omega)
 generalize zaU g e.f e.t=r at *
 obtain⟨g',x⟩:=r
 refine zhn.acalls (nbz rfl) (nbz rfl) (Nat.zero_le _) ?_
 show awp _ 0 _ _ ⟨14,[(0,eE e),(1,eG g)],[],16⟩
 refine zaa ⟨14,[(2,.pv (eC e)),(3,.pv (gC g)),(4,.pt 32 0 0)],[(32,some ⟨3,[[.I 0,.nilS,.nilS]],0⟩)],100⟩ rfl ?_ ?_
 ·simp
  exact LeH [(32,32)] [16,24]
 refine zaa ⟨14,[(4,.pt 32 0 0),(5,.I x)],[(32,some ⟨3,[gC g'],0⟩)],300⟩ rfl ?_ ?_
 ·simp
  refine zaj hw (by simp) ?_
  simp [zar]
  exact LeH [(32,32)] []
 refine zag ?_
 exact⟨.inr rfl,zak.out [] [32] rfl (by simp) (by simp) (by simp) (by simp)⟩
theorem zjl (s:GStp):zai Tryz.prog ziO [eSt s] [] (.ifc (if s.gone=true then 141 else 142) (eE s.e)) []:=by
 obtain⟨go,e⟩:=s
 refine zsj.acalls (nbz rfl) (nbz rfl) (Nat.zero_le _) ?_
 show awp _ 0 _ _ ⟨11,[(0,eSt ⟨go,e⟩)],[],16⟩
 refine zaa ⟨11,[(1,.pv (stC ⟨go,e⟩))],[],100⟩ rfl ?_ ?_
 ·simp
  exact LeH [] [16]
 refine zab ?_
 refine zaa ⟨11,[(1,.pv (stC ⟨go,e⟩)),(4,.B go)],[],200⟩ rfl ?_ ?_
 ·simp
  exact LeH [] []
 refine zac _ rfl (fun h=>?_) fun h=>?_
 ·subst h
  refine zaa ⟨11,[(2,.ifc 141 (eE e))],[],300⟩ rfl ?_ ?_
  ·simp
   exact LeH [] []
  refine zag ?_
  exact⟨.inr rfl,zak.one (by simp)⟩
 ·subst h
  refine zae ?_
  refine zaa ⟨11,[(2,.ifc 142 (eE e))],[],300⟩ rfl ?_ ?_
  ·simp
   exact LeH [] []
  refine zag ?_
  exact⟨.inr rfl,zak.one (by simp)⟩
theorem zrp (g:Gr) (s:GStp) (hl:g.edges.length≤1000000) (hl2:g.gone.length≤1000000):∃ f,lkp [(141,zbt),(142,zbm)] (if s.gone=true then 141 else 142)=some f ∧
  zai Tryz.prog f [eE s.e,eG g] [] (.tup [eG (zaw g s).1,.I (zaw g s).2]) []:=by
 obtain⟨go,e⟩:=s
 cases go
 ·exact⟨zbm,rfl,zkx e g hl hl2⟩
 ·exact⟨zbt,rfl,zlF e g hl hl2⟩
section
variable {g:Gr} {p:Pol} {acc f:List Int} {R:List (Int × List Int)} {s:GStp}
theorem zkW (hl:g.edges.length≤1000000) (hl2:g.gone.length≤1000000) (h:(zaw g s).2≠0):zai Tryz.prog zeN [eT g p acc f R,eSt s] [] (.tup [eT g p acc f R,.I (zaw g s).2]) []:=by
 obtain⟨fm,htb,haf⟩:=zrp g s hl hl2
 have hof:=zjl s
 generalize hty:(if s.gone=true then (141:Nat) else 142)=ty at *
 generalize zaw g s=r at *
 obtain⟨g',x⟩:=r
 simp only at h haf
 have he':(x != 0)=true:=by simp [h]
 refine zjg.acalls (nbz rfl) (nbz rfl) (Nat.zero_le _) ?_
 show awp _ 0 _ _ ⟨26,[(0,eT g p acc f R),(1,eSt s)],[],16⟩
 refine zaa ⟨26,[(2,.pv (tC g p acc f R)),(3,.pv (stC s)),(4,.pt 32 0 0)],[(32,some ⟨9,[[.I 0,.nilS,.nilS,.nilS,.nilS,.I 0,.nilS,.nilS,.nilS]],0⟩)],100⟩ rfl ?_ ?_
 ·simp
  exact LeH [(32,32)] [16,24]
 refine zaq ⟨26,[(2,.pv (tC g p acc f R)),(4,.pt 32 0 0),(7,.I x)],[(32,some ⟨9,[[.I 0,.nilS,.nilS,.nilS,.nilS,.I 0,.nilS,.nilS,.nilS]],0⟩)],200⟩ rfl ?_ ?_
 ·simp
  refine zaj hof (by simp) ?_
  simp
  refine zuS htb haf (by simp) ?_
  simp [zar]
  exact⟨rfl,LeH [(32,32)] []⟩
 refine zab ?_
 refine zaa ⟨26,[(2,.pv (tC g p acc f R)),(4,.pt 32 0 0),(7,.I x),(17,.B true)],[(32,some ⟨9,[[.I 0,.nilS,.nilS,.nilS,.nilS,.I 0,.nilS,.nilS,.nilS]],0⟩)],300⟩ rfl ?_ ?_
 ·simp
  exact Le.go [(32,32)] [] rfl rfl (by simp [he']) (by simp)
 refine zac _ rfl (fun _=>?_) fun h=>by cases h
 refine zaa ⟨26,[(4,.pt 32 0 0),(5,.I x)],[(32,some ⟨9,[tC g p acc f R],0⟩)],400⟩ rfl ?_ ?_
 ·simp [zar]
  exact LeH [(32,32)] []
 refine zag ?_
 exact⟨.inr rfl,zak.out [] [32] rfl (by simp) (by simp) (by simp <;> exact .refl _) (by simp)⟩
theorem zli (hg:GrOk g) (hp:zaY g.size p) (hN:g.size<20) (h:(zaw g s).2=0) :
  ∃ f',zcH (zaw g s).1 p (zav (accG (zaw g s).1 p)) f'∧zai Tryz.prog zeN [eT g p acc f R,eSt s] [] (.tup [eT (zaw g s).1 p (accG (zaw g s).1 p) f' (refG (zaw g s).1 p),.I 0]) []:=by
 have hel:=hg.edges_le
 have hgl:=hg.gone_le
 obtain⟨k1,k2,k3,k4⟩:=zfd hg h
 obtain⟨fm,htb,haf⟩:=zrp g s (by omega) (by omega)
 have hof:=zjl s
 generalize hty:(if s.gone=true then (141:Nat) else 142)=ty at *
 rw [h] at haf
 generalize (zaw g s).1=g' at *
 obtain⟨f',hf',hst⟩:=ze3 g' p k1 (by rw [k2]; exact hp) (by omega)
 refine⟨f',hf',?_⟩
 generalize accG g' p=acc' at *
 generalize refG g' p=R' at *
 refine zjg.acalls (nbz rfl) (nbz rfl) (Nat.zero_le _) ?_
 show awp _ 0 _ _ ⟨26,[(0,eT g p acc f R),(1,eSt s)],[],16⟩
 refine zaa ⟨26,[(2,.pv (tC g p acc f R)),(3,.pv (stC s)),(4,.pt 32 0 0)],[(32,some ⟨9,[[.I 0,.nilS,.nilS,.nilS,.nilS,.I 0,.nilS,.nilS,.nilS]],0⟩)],100⟩ rfl ?_ ?_
 ·simp
  exact LeH [(32,32)] [16,24]
 refine zaq ⟨26,[(2,.pv (tC g p acc f R)),(4,.pt 32 0 0),(6,.pv (gC g')),(7,.I 0)],[(32,some ⟨9,[[.I 0,.nilS,.nilS,.nilS,.nilS,.I 0,.nilS,.nilS,.nilS]],0⟩)],200⟩ rfl ?_ ?_
 ·simp
  refine zaj hof (by simp) ?_
  simp
  refine zuS htb haf (by simp) ?_
  simp [zar]
  exact⟨rfl,LeH [(32,32)] [164]⟩
 refine zab ?_
 refine zaa ⟨26,[(2,.pv (tC g p acc f R)),(4,.pt 32 0 0),(6,.pv (gC g')),(17,.B false)],[(32,some ⟨9,[[.I 0,.nilS,.nilS,.nilS,.nilS,.I 0,.nilS,.nilS,.nilS]],0⟩)],300⟩ rfl ?_ ?_
 ·simp
  exact LeH [(32,32)] []
 refine zac _ rfl (fun h=>by cases h) fun _=>?_
 refine zae ?_
 refine zaa ⟨26,[(4,.pt 32 0 0),(5,.I 0)],[(32,some ⟨9,[tC g' p acc' f' R'],0⟩)],400⟩ rfl ?_ ?_
 ·simp
  refine zaj hst (by simp) ?_
  simp [zar]
  exact LeH [(32,32)] []
 refine zag ?_
 exact⟨.inr rfl,zak.out [] [32] rfl (by simp) (by simp) (by simp <;> exact .refl _) (by simp)⟩
variable {e:Int}
theorem zfh (hc:zai Tryz.prog zaM [eG g,eP p,eAcc acc f R] [] (.I e) []) (he:e≠0):zai Tryz.prog zbA [eT g p acc f R,eSt s] [] (.tup [eT g p acc f R,ints [],ints [],.I 1]) []:=by
 have he':(e != 0)=true:=by simp [he]
 refine zfk.acalls (nbz rfl) (nbz rfl) (Nat.zero_le _) ?_
 show awp _ 0 _ _ ⟨44,[(0,eT g p acc f R),(1,eSt s)],[],16⟩
 refine zaa ⟨44,[(2,.pv (tC g p acc f R)),(4,.pt 32 0 0)],[(32,some ⟨9,[[.I 0,.nilS,.nilS,.nilS,.nilS,.I 0,.nilS,.nilS,.nilS]],0⟩)],100⟩ rfl ?_ ?_
 ·simp
  exact LeH [(32,32)] [16,24]
 refine zab ?_
 refine zaa ⟨44,[(2,.pv (tC g p acc f R)),(4,.pt 32 0 0),(19,.B true)],[(32,some ⟨9,[[.I 0,.nilS,.nilS,.nilS,.nilS,.I 0,.nilS,.nilS,.nilS]],0⟩)],200⟩ rfl ?_ ?_
 ·simp
  refine zaj hc (by simp) ?_
  simp
  exact Le.go [(32,32)] [] rfl rfl (by simp [he']) (by simp)
 refine zac _ rfl (fun _=>?_) fun h=>by cases h
 refine zaa ⟨44,[(4,.pt 32 0 0),(5,.vs 1 false []),(6,.vs 1 false []),(7,.I 1)],[(32,some ⟨9,[tC g p acc f R],0⟩)],400⟩ rfl ?_ ?_
 ·simp [zar]
  exact LeH [(32,32)] []
 refine zag ?_
 exact⟨.inr rfl,zak.out [] [32] rfl (by simp) (by simp) (by simp <;> exact .refl _) (by simp)⟩
theorem zfN (hc:zai Tryz.prog zaM [eG g,eP p,eAcc acc f R] [] (.I 0) []) (hl:g.edges.length≤1000000) (hl2:g.gone.length≤1000000) (h:(zaw g s).2≠0) :
  zai Tryz.prog zbA [eT g p acc f R,eSt s] [] (.tup [eT g p acc f R,ints [],ints [],.I (zaw g s).2]) []:=by
 have hnx:=zkW (p:=p) (acc:=acc) (f:=f) (R:=R) hl hl2 h
 generalize (zaw g s).2=x at *
 have he':(x != 0)=true:=by simp [h]
 refine zfk.acalls (nbz rfl) (nbz rfl) (Nat.zero_le _) ?_
 show awp _ 0 _ _ ⟨44,[(0,eT g p acc f R),(1,eSt s)],[],16⟩
 refine zaa ⟨44,[(2,.pv (tC g p acc f R)),(3,.pv (stC s)),(4,.pt 32 0 0)],[(32,some ⟨9,[[.I 0,.nilS,.nilS,.nilS,.nilS,.I 0,.nilS,.nilS,.nilS]],0⟩)],100⟩ rfl ?_ ?_
 ·simp
  exact LeH [(32,32)] [16,24]
 refine zab ?_
 refine zaa ⟨44,[(2,.pv (tC g p acc f R)),(3,.pv (stC s)),(4,.pt 32 0 0),(19,.B false)],[(32,some ⟨9,[[.I 0,.nilS,.nilS,.nilS,.nilS,.I 0,.nilS,.nilS,.nilS]],0⟩)],200⟩ rfl ?_ ?_
 ·simp
  refine zaj hc (by simp) ?_
  simp
  exact LeH [(32,32)] []
 refine zac _ rfl (fun h=>by cases h) fun _=>?_
 refine zae ?_
 refine zaa ⟨44,[(2,.pv (tC g p acc f R)),(4,.pt 32 0 0),(9,.I x)],[(32,some ⟨9,[[.I 0,.nilS,.nilS,.nilS,.nilS,.I 0,.nilS,.nilS,.nilS]],0⟩)],300⟩ rfl ?_ ?_
 ·simp
  refine zaj hnx (by simp) ?_
  simp [zar]
  exact LeH [(32,32)] []
 refine zab ?_
 refine zaa ⟨44,[(2,.pv (tC g p acc f R)),(4,.pt 32 0 0),(9,.I x),(28,.B true)],[(32,some ⟨9,[[.I 0,.nilS,.nilS,.nilS,.nilS,.I 0,.nilS,.nilS,.nilS]],0⟩)],400⟩ rfl ?_ ?_
 ·simp
  exact Le.go [(32,32)] [] rfl rfl (by simp [he']) (by simp)
 refine zac _ rfl (fun _=>?_) fun h=>by cases h
 refine zaa ⟨44,[(4,.pt 32 0 0),(5,.vs 1 false []),(6,.vs 1 false []),(7,.I x)],[(32,some ⟨9,[tC g p acc f R],0⟩)],500⟩ rfl ?_ ?_
 ·simp [zar]
  exact LeH [(32,32)] []
 refine zag ?_
 exact⟨.inr rfl,zak.out [] [32] rfl (by simp) (by simp) (by simp <;> exact .refl _) (by simp)⟩
theorem zdS (hc:zai Tryz.prog zaM [eG g,eP p,eAcc acc f R] [] (.I 0) []) (hg:GrOk g) (hp:zaY g.size p) (hN:g.size<20) (ha:acc.length≤1000) (h:(zaw g s).2=0) :
  ∃ f',zcH (zaw g s).1 p (zav (accG (zaw g s).1 p)) f'∧zai Tryz.prog zbA [eT g p acc f R,eSt s] [] (.tup [eT (zaw g s).1 p (accG (zaw g s).1 p) f' (refG (zaw g s).1 p),ints (ze8 (accG (zaw g s).1 p) acc),ints (ze8 acc (accG (zaw g s).1 p)),.I 0]) []:=by
 obtain⟨f',hf',hnx⟩:=zli (acc:=acc) (f:=f) (R:=R) hg hp hN h
 refine⟨f',hf',?_⟩
 have hal:=zhM (zfd hg h).1 p
 generalize (zaw g s).1=g' at *
 generalize accG g' p=acc' at *
 generalize refG g' p=R' at *
 have hl1:=zg5 acc' acc (by omega) (by omega)
 have hl2:=zg5 acc acc' (by omega) (by omega)
 generalize ze8 acc' acc=gi at *
 generalize ze8 acc acc'=lo at *
 refine zfk.acalls (nbz rfl) (nbz rfl) (Nat.zero_le _) ?_
 show awp _ 0 _ _ ⟨44,[(0,eT g p acc f R),(1,eSt s)],[],16⟩
 refine zaa ⟨44,[(2,.pv (tC g p acc f R)),(3,.pv (stC s)),(4,.pt 32 0 0)],[(32,some ⟨9,[[.I 0,.nilS,.nilS,.nilS,.nilS,.I 0,.nilS,.nilS,.nilS]],0⟩)],100⟩ rfl ?_ ?_
 ·simp
  exact LeH [(32,32)] [16,24]
 refine zab ?_
 refine zaa ⟨44,[(2,.pv (tC g p acc f R)),(3,.pv (stC s)),(4,.pt 32 0 0),(19,.B false)],[(32,some ⟨9,[[.I 0,.nilS,.nilS,.nilS,.nilS,.I 0,.nilS,.nilS,.nilS]],0⟩)],200⟩ rfl ?_ ?_
 ·simp
  refine zaj hc (by simp) ?_
  simp
  exact LeH [(32,32)] []
 refine zac _ rfl (fun h=>by cases h) fun _=>?_
 refine zae ?_
 refine zaa ⟨44,[(2,.pv (tC g p acc f R)),(4,.pt 32 0 0),(8,.pv (tC g' p acc' f' R')),(9,.I 0)],[(32,some ⟨9,[[.I 0,.nilS,.nilS,.nilS,.nilS,.I 0,.nilS,.nilS,.nilS]],0⟩)],300⟩ rfl ?_ ?_
 ·simp
  refine zaj hnx (by simp) ?_
  simp [zar]
  exact LeH [(32,32)] [248]
 refine zab ?_
 refine zaa ⟨44,[(2,.pv (tC g p acc f R)),(4,.pt 32 0 0),(8,.pv (tC g' p acc' f' R')),(28,.B false)],[(32,some ⟨9,[[.I 0,.nilS,.nilS,.nilS,.nilS,.I 0,.nilS,.nilS,.nilS]],0⟩)],400⟩ rfl ?_ ?_
 ·simp
  exact LeH [(32,32)] []
 refine zac _ rfl (fun h=>by cases h) fun _=>?_
 refine zae ?_
 refine zaq ⟨44,[(4,.pt 32 0 0),(8,.pv (tC g' p acc' f' R')),(10,ints acc),(11,ints acc')],[(32,some ⟨9,[[.I 0,.nilS,.nilS,.nilS,.nilS,.I 0,.nilS,.nilS,.nilS]],0⟩)],500⟩ rfl ?_ ?_
 ·simp
  exact⟨rfl,LeH [(32,32)] []⟩
 refine zaq ⟨44,[(4,.pt 32 0 0),(5,ints gi),(6,ints lo),(7,.I 0)],[(32,some ⟨9,[tC g' p acc' f' R'],0⟩)],700⟩ rfl ?_ ?_
 ·simp
  refine zaj hl1 (by simp) ?_
  simp
  refine zaj hl2 (by simp) ?_
  simp [zar]
  exact⟨rfl,LeH [(32,32)] []⟩
 refine zag ?_
 exact⟨.inr rfl,zak.out [] [32] rfl (by simp) (by simp) (by simp <;> exact .refl _) (by simp)⟩
end
set_option maxRecDepth 100000 in
set_option maxHeartbeats 4000000 in
theorem zgu (acc fl:List Int) (R:List (Int × List Int)) (ha:acc.length≤1000) (hf:fl.length≤2000) (hR:R.length≤1000) (hs:∀ r∈R,r.2.length≤1000) :
  zai Tryz.prog zhm [eAcc acc fl R] [] (.agg [.rs 0 0 acc.length,.rs 1 0 fl.length,.rs 2 0 R.length]) [some ⟨1,zah acc,0⟩,some ⟨1,zah fl,0⟩,some ⟨2,zaG R,0⟩]:=by
 refine zpM.acalls (nbz rfl) (nbz rfl) (Nat.zero_le _) ?_
 show awp _ 0 _ _ ⟨39,[(0,eAcc acc fl R)],[],16⟩
 refine zaa ⟨39,[(1,.pv [ints acc,ints fl,.vs 2 false (zaG R)]),(2,.pt 24 0 0)],[(24,some ⟨3,[[.nilS,.nilS,.nilS]],0⟩)],100⟩ rfl ?_ ?_
 ·simp
  exact LeH [(24,24)] [16]
 refine zaq ⟨39,[(1,.pv [ints acc,ints fl,.vs 2 false (zaG R)]),(2,.pt 24 0 0),(3,.pt 40 0 0)],[(24,some ⟨3,[[.nilS,.nilS,.nilS]],0⟩),(40,some ⟨3,[[.rs 41 0 acc.length,.rs 42 0 fl.length,.nilS]],0⟩),(41,some ⟨1,zah acc,0⟩),(42,some ⟨1,zah fl,0⟩)],200⟩ rfl ?_ ?_
 ·simp [zar]
  exact⟨by omega,by omega,by omega,by omega,rfl,LeI [(24,24),(156,40),(116,41),(140,42)] []⟩
 refine zab ?_
 refine zaa ⟨39,[(1,.pv [ints acc,ints fl,.vs 2 false (zaG R)]),(2,.pt 24 0 0),(3,.pt 40 0 0),(4,.I 0)],[(24,some ⟨3,[[.nilS,.nilS,.nilS]],0⟩),(40,some ⟨3,[[.rs 41 0 acc.length,.rs 42 0 fl.length,.nilS]],0⟩),(41,some ⟨1,zah acc,0⟩),(42,some ⟨1,zah fl,0⟩)],300⟩ rfl ?_ ?_
 ·simp
  exact LeI [(24,24),(40,40),(41,41),(42,42)] []
 refine zaf ?_
 refine zao (ι:=Nat) (fun i=>⟨39,[(1,.pv [ints acc,ints fl,.vs 2 false (zaG R)]),(2,.pt 24 0 0),(3,.pt 40 0 0),(4,.I i)],[(24,some ⟨3,[[.nilS,.nilS,.nilS]],0⟩),(40,some ⟨3,[[.rs 41 0 acc.length,.rs 42 0 fl.length,.rs 43 0 i]],0⟩),(41,some ⟨1,zah acc,0⟩),(42,some ⟨1,zah fl,0⟩),(43,some ⟨2,zaG (tkL R i),0⟩)],300⟩) (fun i=>i≤R.length) (fun i=>R.length - i) 0 (Nat.zero_le _) (Le.lst [(24,24),(40,40),(41,41),(42,42)] [] [(43,2)] rfl (by simp) (by simp) (by simp) (by simp) (by simp) (by simp) (by simp) (by simp [Up]) (by simp [fcd,zuI]; exact⟨zaI.rfl' (by simp),zaI.row rfl (by omega) (by simp [UpL,Up,Wk.refl]),zaI.rfl' (by simp),zaI.rfl' (by simp)⟩)) ?_
 intro i hi
 have hTl:(tkL R i).length=i:=zvs hi
 refine zab ?_
 refine zaa ⟨39,[(1,.pv [ints acc,ints fl,.vs 2 false (zaG R)]),(2,.pt 24 0 0),(3,.pt 40 0 0),(4,.I i),(16,.B (decide (i<R.length)))],[(24,some ⟨3,[[.nilS,.nilS,.nilS]],0⟩),(40,some ⟨3,[[.rs 41 0 acc.length,.rs 42 0 fl.length,.rs 43 0 i]],0⟩),(41,some ⟨1,zah acc,0⟩),(42,some ⟨1,zah fl,0⟩),(43,some ⟨2,zaG (tkL R i),0⟩)],400⟩ rfl ?_ ?_
 ·simp
  exact LeI [(24,24),(40,40),(41,41),(42,42),(43,43)] []
 refine zac _ rfl (fun h5=>?_) fun h5=>?_
 ·rw [decide_eq_true_eq] at h5
  have hwi:IntKind.i64.wrap ((i:Int)+1)=((i+1:Nat):Int):=by rw [w64 (by omega) (by omega)]; omega
  obtain⟨r,hr⟩ : ∃ r,r=R[i]:=⟨_,rfl⟩
  have hrl:=hs _ (List.getElem_mem h5)
  have htk:=zuH h5
  rw [← hr] at hrl htk
  obtain⟨k,sd⟩:=r
  simp only at hrl
  obtain⟨T,hT⟩ : ∃ T,T=tkL R i:=⟨_,rfl⟩
  rw [← hT] at hTl htk ⊢
  have htT:∀ h:Int × List Int→List AV,List.take i (List.map h T)=List.map h T:=fun h=>List.take_of_length_le (by simp; omega)
  refine zae ?_
  refine zab ?_
  refine zaf ?_
  refine zbF rfl ?_
  simp [h5,← hr,htT,hTl,zar]
  refine⟨by omega,by omega,by omega,by omega,rfl,?_⟩
  refine zas rfl ?_
  simp
  exact⟨i+1,h5,by omega,Le.go [(24,24),(40,40),(41,41),(42,42),(536,43)] [512] rfl rfl (by simp [hwi]) (by simp [htk,fcd,zal])⟩
 rw [decide_eq_false_iff_not] at h5
 obtain rfl:i=R.length:=by omega
 rw [zu4]
 refine zan ?_
 refine hit ?_
 refine zaa ⟨39,[(2,.pt 24 0 0)],[(24,some ⟨3,[[.rs 41 0 acc.length,.rs 42 0 fl.length,.rs 43 0 R.length]],0⟩),(41,some ⟨1,zah acc,0⟩),(42,some ⟨1,zah fl,0⟩),(43,some ⟨2,zaG R,0⟩)],400⟩ rfl ?_ ?_
 ·simp [zar]
  exact LeI [(24,24),(41,41),(42,42),(43,43)] []
 refine zag ?_
 exact⟨.inr rfl,zak.out [41,42,43] [] rfl (by simp) (by simp) (by simp) (by simp [fcd])⟩
section
variable {P:Program} {np id:Nat} {h:Nat→Option Ent} {K:AV→List Nat→List (Nat × Option Ent)→Prop} {f:FuncId} {first capt args args':List AV} {res:AV}
theorem ztT {e e2 e3:Ent} (hc:zai P f args' [] res [some e,some e2,some e3]) (he:(first++args++capt).map (conv [] [] h 4)=args')
  (hk:K (conv (swp [] id) [] (fun _=>none) 4 res) [] [(id,some (zax (swp [] id) [] (fun _=>none) 4 e)),(id+1,some (zax (swp [] id) [] (fun _=>none) 4 e2)),(id+2,some (zax (swp [] id) [] (fun _=>none) 4 e3))]):aK P np id .call (.fn (.func f) first capt::args) h K :=
 ⟨[],[],true,args',[],res,[some e,some e2,some e3],by simp,by simp,by simp,by rw [List.zipIdx_nil,he]; exact zbM _,rfl,hc,by simp,.inl rfl,hk⟩
end
theorem zhH (p:Pol) (hs:p.seeds.length≤1000000) (ht:p.table.length≤1000000):zai Tryz.prog zds [eP p] [] (eP p) []:=by
 refine ziY.acalls (nbz rfl) (nbz rfl) (Nat.zero_le _) ?_
 show awp _ 0 _ _ ⟨12,[(0,eP p)],[],16⟩
 refine zaa ⟨12,[(1,.pv (pC p)),(2,.pt 24 0 0)],[(24,some ⟨3,[[.nilS,.nilS,.I 0]],0⟩)],100⟩ rfl ?_ ?_
 ·simp
  exact LeH [(24,24)] [16]
 refine zaq ⟨12,[(2,.pt 24 0 0)],[(24,some ⟨3,[pC p],0⟩)],300⟩ rfl ?_ ?_
 ·simp [zar]
  exact⟨by omega,by omega,by omega,by omega,rfl,Le.go [(24,24)] [116,140] rfl rfl (by simp) (by simp [fcd,zal])⟩
 refine zag ?_
 exact⟨.inr rfl,zak.out [] [24] rfl (by simp) (by simp) (by simp) (by simp)⟩
structure TLen (g:Gr) (p:Pol) (acc f:List Int) (R:List (Int × List Int)):Prop where
 e:g.edges.length≤1000000
 o:g.gone.length≤1000000
 s:p.seeds.length≤1000000
 t:p.table.length≤1000000
 a:acc.length≤1000
 f:f.length≤2000
 r:R.length≤1000
 d:∀ r∈R,r.2.length≤1000
section
variable {g:Gr} {p:Pol} {acc f:List Int} {R:List (Int × List Int)} {s:GStp} {e:Int}
theorem zch (h:TLen g p acc f R):zai Tryz.prog zdp [eT g p acc f R] [] (eT g p acc f R) []:=by
 have h1:=zc2 g (by have:=h.e; omega) (by have:=h.o; omega)
 have h2:=zhH p h.s h.t
 have h3:=zgu acc f R h.a h.f h.r h.d
 refine zkX.acalls (nbz rfl) (nbz rfl) (Nat.zero_le _) ?_
 show awp _ 0 _ _ ⟨13,[(0,eT g p acc f R)],[],16⟩
 refine zaa ⟨13,[(1,.pv (tC g p acc f R)),(2,.pt 24 0 0)],[(24,some ⟨9,[[.I 0,.nilS,.nilS,.nilS,.nilS,.I 0,.nilS,.nilS,.nilS]],0⟩)],100⟩ rfl ?_ ?_
 ·simp
  exact LeH [(24,24)] [16]
 refine zaq ⟨13,[(2,.pt 24 0 0)],[(24,some ⟨9,[tC g p acc f R],0⟩)],300⟩ rfl ?_ ?_
 ·simp
  refine zi9 h1 (by simp) ?_
  simp
  refine zaj h2 (by simp) ?_
  simp
  refine ztT h3 (by simp) ?_
  simp [zar]
  exact⟨rfl,Le.go [(24,24)] [116,117,164,165,166] rfl rfl (by simp) (by simp [fcd,zal])⟩
 refine zag ?_
 exact⟨.inr rfl,zak.out [] [24] rfl (by simp) (by simp) (by simp) (by simp)⟩
theorem zpN {f f':List Int} (he:g.edges.length≤1000000) (ho:g.gone.length≤1000000) (hs:p.seeds.length≤1000000) (ht:p.table.length≤1000000) (ha:acc.length≤1000000) (hR:R.length≤1000) (hd:∀ r∈R,r.2.length≤140737488355328) :
  zai Tryz.prog zgw [eT g p acc f R,eT g p acc f' R] [] (.B true) []:=by
 have h1:=znj g g (by omega) (by omega)
 rw [decide_eq_true (show EqG g g from ⟨rfl,rfl,rfl⟩)] at h1
 have h2:=zcD p.seeds p.seeds (by omega)
 rw [decide_eq_true rfl] at h2
 have h3:=zcD p.table p.table (by omega)
 rw [decide_eq_true rfl] at h3
 have h4:=zuF acc f acc f' R R (by omega) hR hR hd
 rw [decide_eq_true (show acc=acc∧R=R from ⟨rfl,rfl⟩)] at h4
 refine zoj.acalls (nbz rfl) (nbz rfl) (Nat.zero_le _) ?_
 show awp _ 0 _ _ ⟨44,[(0,eT g p acc f R),(1,eT g p acc f' R)],[],16⟩
 refine zaa ⟨44,[(2,.pv (tC g p acc f R)),(3,.pv (tC g p acc f' R))],[],100⟩ rfl ?_ ?_
 ·simp
  exact LeH [] [16,24]
 refine zaa ⟨44,[(4,.B true)],[],600⟩ rfl ?_ ?_
 ·simp
  refine zaj h1 (by simp) ?_
  simp
  refine zaj h2 (by simp) ?_
  simp
  refine zaj h3 (by simp) ?_
  simp
  refine zaj h4 (by simp) ?_
  simp
  exact LeH [] []
 refine zag ?_
 exact⟨.inr rfl,zak.one (by simp)⟩
theorem zdI {f:List Int} (hg:GrOk g) (hp:zaY g.size p) (hf:zcH g p (zav (accG g p)) f):TLen g p (accG g p) f (refG g p):=by
 have h1:=zgT hg hp
 have h2:=hg.edges_le
 have h3:=hg.gone_le
 have h4:=hp.2.2.2.1
 have h5:=zhM hg p
 have h6:=zq1 hg p
 have h8:=hg.1.2.1
 have h7:=zoM hg hp (fun x hx=>zj0 p x (zc3.1 hx).1) (by have:=hg.1.2.1; omega) (zbr _) hf
 exact⟨by omega,by omega,by omega,by omega,by omega,by omega,by omega,fun r hr=>by have:=zty hg p r hr; omega⟩
theorem zio (hg:GrOk g) (hp:zaY g.size p):∃ f,zcH g p (zav (accG g p)) f∧zai Tryz.prog zbR [eG g,eP p] [] (.tup [eT g p (accG g p) f (refG g p),.I 0]) []:=by
 obtain⟨⟨R,f⟩,⟨hR,hf⟩,hrun⟩:=zv4 g p hg hp (by have:=zgT hg hp; have:=hg.1.2.1; omega)
 have hR:=hR.eq
 simp only at hR hf hrun
 rw [hR] at hrun
 have hf:zcH g p (zav (accG g p)) f:=hf
 refine⟨f,hf,?_⟩
 have hcp:=zch (zdI hg hp hf)
 have hrun:zai Tryz.prog zef [eG g,eP p] [] (.tup [eAcc (accG g p) f (refG g p),.I 0]) []:=hrun
 generalize accG g p=acc at *
 generalize refG g p=R at *
 refine zgC.acalls (nbz rfl) (nbz rfl) (Nat.zero_le _) ?_
 show awp _ 0 _ _ ⟨23,[(0,eG g),(1,eP p)],[],16⟩
 refine zaa ⟨23,[(2,.pv (gC g)),(3,.pv (pC p)),(4,.pt 32 0 0)],[(32,some ⟨9,[[.I 0,.nilS,.nilS,.nilS,.nilS,.I 0,.nilS,.nilS,.nilS]],0⟩)],100⟩ rfl ?_ ?_
 ·simp
  exact LeH [(32,32)] [16,24]
 refine zaa ⟨23,[(2,.pv (gC g)),(3,.pv (pC p)),(4,.pt 32 0 0),(6,.pv [ints acc,ints f,.vs 2 false (zaG R)]),(7,.I 0)],[(32,some ⟨9,[[.I 0,.nilS,.nilS,.nilS,.nilS,.I 0,.nilS,.nilS,.nilS]],0⟩)],200⟩ rfl ?_ ?_
 ·simp
  refine zaj hrun (by simp) ?_
  simp
  exact LeH [(32,32)] [148]
 refine zab ?_
 refine zaa ⟨23,[(2,.pv (gC g)),(3,.pv (pC p)),(4,.pt 32 0 0),(6,.pv [ints acc,ints f,.vs 2 false (zaG R)]),(15,.B false)],[(32,some ⟨9,[[.I 0,.nilS,.nilS,.nilS,.nilS,.I 0,.nilS,.nilS,.nilS]],0⟩)],300⟩ rfl ?_ ?_
 ·simp
  exact LeH [(32,32)] []
 refine zac _ rfl (fun h=>by cases h) fun _=>?_
 refine zae ?_
 refine zaa ⟨23,[(4,.pt 32 0 0),(5,.I 0)],[(32,some ⟨9,[tC g p acc f R],0⟩)],500⟩ rfl ?_ ?_
 ·simp
  refine zaj hcp (by simp) ?_
  simp [zar]
  exact LeH [(32,32)] []
 refine zag ?_
 exact⟨.inr rfl,zak.out [] [32] rfl (by simp) (by simp) (by simp <;> exact .refl _) (by simp)⟩
theorem zkL (he:chkE g p≠0) (hl:g.edges.length≤140737488355328) (hl2:g.gone.length≤140737488355328) (hs:p.seeds.length≤140737488355328) (ht:p.table.length≤140737488355328) :
  zai Tryz.prog zbR [eG g,eP p] [] (.tup [eT zbd polZ [] [] [],.I (chkE g p)]) []:=by
 have hrun:=znh he hl hl2 hs ht
 obtain⟨e,hed⟩ : ∃ e,e=chkE g p:=⟨_,rfl⟩
 rw [← hed] at he hrun ⊢
 have he':(e != 0)=true:=by simp [he]
 refine zgC.acalls (nbz rfl) (nbz rfl) (Nat.zero_le _) ?_
 show awp _ 0 _ _ ⟨23,[(0,eG g),(1,eP p)],[],16⟩
 refine zaa ⟨23,[(2,.pv (gC g)),(3,.pv (pC p)),(4,.pt 32 0 0)],[(32,some ⟨9,[[.I 0,.nilS,.nilS,.nilS,.nilS,.I 0,.nilS,.nilS,.nilS]],0⟩)],100⟩ rfl ?_ ?_
 ·simp
  exact LeH [(32,32)] [16,24]
 refine zaa ⟨23,[(4,.pt 32 0 0),(7,.I e)],[(32,some ⟨9,[[.I 0,.nilS,.nilS,.nilS,.nilS,.I 0,.nilS,.nilS,.nilS]],0⟩)],200⟩ rfl ?_ ?_
 ·simp
  refine zaj hrun (by simp) ?_
  simp
  exact LeH [(32,32)] []
 refine zab ?_
 refine zaa ⟨23,[(4,.pt 32 0 0),(7,.I e),(15,.B true)],[(32,some ⟨9,[[.I 0,.nilS,.nilS,.nilS,.nilS,.I 0,.nilS,.nilS,.nilS]],0⟩)],300⟩ rfl ?_ ?_
 ·simp
  exact Le.go [(32,32)] [] rfl rfl (by simp [he']) (by simp)
 refine zac _ rfl (fun _=>?_) fun h=>by cases h
 refine zaa ⟨23,[(4,.pt 32 0 0),(5,.I e)],[(32,some ⟨9,[[.I 0,.nilS,.nilS,.nilS,.nilS,.I 0,.nilS,.nilS,.nilS]],0⟩)],400⟩ rfl ?_ ?_
 ·simp [zar]
  exact LeH [(32,32)] []
 refine zag ?_
 exact⟨.inr rfl,zak.out [] [32] rfl (by simp) (by simp) (by simp; exact wkT2 (wk9 (.refl _) (.nil _ _) (.nil _ _) (.nil _ _) (.nil _ _) (.refl _) (.nil _ _) (.nil _ _) (.nil _ _)) (.refl _)) (by simp)⟩
theorem zkA {a b:List Int} (hn:a.Nodup) (hr:∀ k∈a,0≤k∧k<64):ze8 a b=zav (a.filter fun x=>!decide (x∈b)):=by
 unfold ze8
 exact zjW (hn.sublist List.filter_sublist) fun k hk=>hr k (List.mem_filter.1 hk).1
theorem zmd {a b:List Int} (hn:a.Nodup) (hr:∀ k∈a,0≤k∧k<64) (ha:a.length≤1000) (hb:b.length≤1000000):zai Tryz.prog zdB [ints a,ints b] [] (ints (ze8 a b)) []:=by
 rw [zkA hn hr]
 have hj0:zav []=[]:=rfl
 refine zl8.acalls (nbz rfl) (nbz rfl) (Nat.le_refl _) ?_
 show awp _ 0 _ _ ⟨27,[(0,ints a),(1,ints b)],[],16⟩
 refine zaa ⟨27,[(0,ints a),(1,ints b)],[],60⟩ rfl ?_ ?_
 ·simp
  exact LeH [] []
 refine zaa ⟨27,[(0,ints a),(1,ints b),(5,.vs 1 false [])],[],80⟩ rfl ?_ ?_
 ·simp
  exact LeH [] []
 refine zab ?_
 refine zaa ⟨27,[(0,ints a),(1,ints b),(5,.vs 1 false []),(6,.I 0)],[],100⟩ rfl ?_ ?_
 ·simp
  exact LeH [] []
 refine zaf ?_
 refine zao (ι:=Nat) (fun i=>⟨27,[(0,ints a),(1,ints b),(5,ints (zav ((a.take i).filter fun x=>!decide (x∈b)))),(6,.I i)],[],200⟩) (fun i=>i≤a.length) (fun i=>a.length - i) 0 (Nat.zero_le _) (Le.go [] [] rfl rfl (by simp [hj0]; exact .refl _) (by simp)) ?_
 intro i hi
 obtain⟨J,hJ⟩ : ∃ J,J=zav ((a.take i).filter fun x=>!decide (x∈b)):=⟨_,rfl⟩
 have hJl:J.length≤64:=by rw [hJ]; exact zbr _
 rw [← hJ]
 refine zab ?_
 refine zaa ⟨27,[(0,ints a),(1,ints b),(5,ints J),(6,.I i),(10,.B (decide (i<a.length)))],[],300⟩ rfl ?_ ?_
 ·simp
  exact LeH [] []
 refine zac _ rfl (fun h5=>?_) fun h5=>?_
 ·rw [decide_eq_true_eq] at h5
  have hw1:IntKind.i64.wrap ((i:Int)+1)=(i:Int)+1:=w64 (by omega) (by omega)
  have hxr:=hr _ (List.getElem_mem h5)
  have hhas:=zme b a[i] (by omega)
  have hbc:b.contains a[i]=decide (a[i]∈b):=List.contains_eq_mem _ _
  rw [hbc] at hhas
  refine zae ?_
  refine zab ?_
  refine zaf ?_
  by_cases hin:a[i]∈b
  ·rw [decide_eq_true hin] at hhas
   have hJ':zav ((a.take (i+1)).filter fun x=>!decide (x∈b))=J:=by
    rw [hJ,List.take_succ_eq_append_getElem h5,List.filter_append]
    simp [hin]
   refine zaa ⟨27,[(0,ints a),(1,ints b),(5,ints J),(6,.I i),(19,.B false)],[],400⟩ rfl ?_ ?_
   ·simp [h5]
    refine zaj hhas (by simp) ?_
    simp
    exact LeH [] []
   refine zac _ rfl (fun h=>by cases h) fun _=>?_
   refine zae ?_
   refine zas rfl ?_
   simp
   exact⟨i+1,by omega,by omega,Le.go [] [] rfl rfl (by simp [hw1,hJ']) (by simp)⟩
  ·rw [decide_eq_false hin] at hhas
   have hput:=zpf J a[i] (by omega)
   have hJ':putL J a[i]=zav ((a.take (i+1)).filter fun x=>!decide (x∈b)):=by
    rw [hJ,zh9 hxr.1 hxr.2,List.take_succ_eq_append_getElem h5,List.filter_append]
    simp [hin]
   rw [hJ'] at hput
   obtain⟨J',hJ2⟩ : ∃ J',J'=zav ((a.take (i+1)).filter fun x=>!decide (x∈b)):=⟨_,rfl⟩
   rw [← hJ2] at hput
   refine zaa ⟨27,[(0,ints a),(1,ints b),(5,ints J),(6,.I i),(19,.B true)],[],400⟩ rfl ?_ ?_
   ·simp [h5]
    refine zaj hhas (by simp) ?_
    simp
    exact LeH [] []
   refine zac _ rfl (fun _=>?_) fun h=>by cases h
   refine zas rfl ?_
   simp [h5]
   refine za0 hput (by simp) ?_
   simp
   refine zas rfl ?_
   simp
   exact⟨i+1,by omega,by omega,Le.go [] [440] rfl rfl (by simp [hw1,← hJ2,fcd,zal]) (by simp)⟩
 rw [decide_eq_false_iff_not] at h5
 obtain rfl:i=a.length:=by omega
 rw [List.take_length] at hJ
 rw [← hJ]
 refine zan ?_
 refine hit ?_
 refine zaa ⟨27,[(4,ints J)],[],500⟩ rfl ?_ ?_
 ·simp
  exact LeH [] []
 refine zag ?_
 exact⟨.inr rfl,zak.one (by simp)⟩
theorem zfT (hT:TLen g p acc f R) (hc:zai Tryz.prog zaX [eG g,eP p,eAcc acc f R] [] (.I e) []) (he:e≠0):zai Tryz.prog zb9 [eT g p acc f R,eSt s] [] (.tup [eT g p acc f R,ints [],ints [],.I 1]) []:=by
 have he':(e != 0)=true:=by simp [he]
 have hcp:=zch hT
 refine zgm.acalls (nbz rfl) (nbz rfl) (Nat.zero_le _) ?_
 show awp _ 0 _ _ ⟨71,[(0,eT g p acc f R),(1,eSt s)],[],16⟩
 refine zaa ⟨71,[(2,.pt 16 0 0),(4,.pt 32 0 0)],[(16,some ⟨9,[tC g p acc f R],0⟩),(32,some ⟨9,[[.I 0,.nilS,.nilS,.nilS,.nilS,.I 0,.nilS,.nilS,.nilS]],0⟩)],100⟩ rfl ?_ ?_
 ·simp
  exact LeH [(16,16),(32,32)] [24]
 refine zaa ⟨71,[(2,.pv (tC g p acc f R)),(4,.pt 32 0 0)],[(32,some ⟨9,[[.I 0,.nilS,.nilS,.nilS,.nilS,.I 0,.nilS,.nilS,.nilS]],0⟩)],200⟩ rfl ?_ ?_
 ·simp
  refine zaj hcp (by simp) ?_
  simp [zar]
  exact LeH [(32,32)] [16]
 refine zab ?_
 refine zaa ⟨71,[(2,.pv (tC g p acc f R)),(4,.pt 32 0 0),(23,.B true)],[(32,some ⟨9,[[.I 0,.nilS,.nilS,.nilS,.nilS,.I 0,.nilS,.nilS,.nilS]],0⟩)],300⟩ rfl ?_ ?_
 ·simp
  refine zaj hc (by simp) ?_
  simp
  exact Le.go [(32,32)] [] rfl rfl (by simp [he']) (by simp)
 refine zac _ rfl (fun _=>?_) fun h=>by cases h
 refine zaa ⟨71,[(4,.pt 32 0 0),(5,.vs 1 false []),(6,.vs 1 false []),(7,.I 1)],[(32,some ⟨9,[tC g p acc f R],0⟩)],400⟩ rfl ?_ ?_
 ·simp [zar]
  exact LeH [(32,32)] []
 refine zag ?_
 exact⟨.inr rfl,zak.out [] [32] rfl (by simp) (by simp) (by simp <;> exact .refl _) (by simp)⟩
section
variable (hT:TLen g p acc f R) (hc:zai Tryz.prog zaX [eG g,eP p,eAcc acc f R] [] (.I 0) [])
include hT hc
theorem zfZ (h:(zaw g s).2≠0):zai Tryz.prog zb9 [eT g p acc f R,eSt s] [] (.tup [eT g p acc f R,ints [],ints [],.I (zaw g s).2]) []:=by
 have hcp:=zch hT
 obtain⟨go,e⟩:=s
 have hel:=hT.e
 have hgl:=hT.o
 have hwith:=zfx g e (by omega) (by omega)
 have hwout:=zfM g e.f e.t (by omega) (by omega)
 unfold zaw at h ⊢
 refine zgm.acalls (nbz rfl) (nbz rfl) (Nat.zero_le _) ?_
 show awp _ 0 _ _ ⟨71,[(0,eT g p acc f R),(1,eSt ⟨go,e⟩)],[],16⟩
 refine zaa ⟨71,[(2,.pt 16 0 0),(3,.pv (stC ⟨go,e⟩)),(4,.pt 32 0 0)],[(16,some ⟨9,[tC g p acc f R],0⟩),(32,some ⟨9,[[.I 0,.nilS,.nilS,.nilS,.nilS,.I 0,.nilS,.nilS,.nilS]],0⟩)],100⟩ rfl ?_ ?_
 ·simp
  exact LeH [(16,16),(32,32)] [24]
 refine zaa ⟨71,[(2,.pv (tC g p acc f R)),(3,.pv (stC ⟨go,e⟩)),(4,.pt 32 0 0)],[(32,some ⟨9,[[.I 0,.nilS,.nilS,.nilS,.nilS,.I 0,.nilS,.nilS,.nilS]],0⟩)],200⟩ rfl ?_ ?_
 ·simp
  refine zaj hcp (by simp) ?_
  simp [zar]
  exact LeH [(32,32)] [16]
 refine zab ?_
 refine zaa ⟨71,[(2,.pv (tC g p acc f R)),(3,.pv (stC ⟨go,e⟩)),(4,.pt 32 0 0),(23,.B false)],[(32,some ⟨9,[[.I 0,.nilS,.nilS,.nilS,.nilS,.I 0,.nilS,.nilS,.nilS]],0⟩)],300⟩ rfl ?_ ?_
 ·simp
  refine zaj hc (by simp) ?_
  simp
  exact LeH [(32,32)] []
 refine zac _ rfl (fun h=>by cases h) fun _=>?_
 refine zae ?_
 generalize zbv g e=r1 at *
 generalize zaU g e.f e.t=r2 at *
 obtain⟨g1,x1⟩:=r1
 obtain⟨g2,x2⟩:=r2
 refine zaa ⟨71,[(2,.pv (tC g p acc f R)),(3,.pv (stC ⟨go,e⟩)),(4,.pt 32 0 0),(8,.pt 40 0 0),(9,.I x1)],[(32,some ⟨9,[[.I 0,.nilS,.nilS,.nilS,.nilS,.I 0,.nilS,.nilS,.nilS]],0⟩),(40,some ⟨3,[gC g1],0⟩)],400⟩ rfl ?_ ?_
 ·simp
  refine zaj hwith (by simp) ?_
  simp [zar]
  exact LeH [(32,32),(364,40)] []
 refine zab ?_
 refine zaa ⟨71,[(2,.pv (tC g p acc f R)),(3,.pv (stC ⟨go,e⟩)),(4,.pt 32 0 0),(8,.pt 40 0 0),(9,.I x1),(34,.B go)],[(32,some ⟨9,[[.I 0,.nilS,.nilS,.nilS,.nilS,.I 0,.nilS,.nilS,.nilS]],0⟩),(40,some ⟨3,[gC g1],0⟩)],500⟩ rfl ?_ ?_
 ·simp
  exact LeH [(32,32),(40,40)] []
 refine zac _ rfl (fun hgo=>?_) fun hgo=>?_
 ·subst hgo
  have h':x2≠0:=by simpa using h
  have he':(x2 != 0)=true:=by simp [h']
  refine zas rfl ?_
  simp
  refine zaj hwout (by simp) ?_
  simp [zar]
  refine zab ?_
  refine zaa ⟨71,[(2,.pv (tC g p acc f R)),(4,.pt 32 0 0),(9,.I x2),(48,.B true)],[(32,some ⟨9,[[.I 0,.nilS,.nilS,.nilS,.nilS,.I 0,.nilS,.nilS,.nilS]],0⟩)],700⟩ rfl ?_ ?_
  ·simp
   exact Le.go [(32,32)] [] rfl rfl (by simp [he']) (by simp)
  refine zac _ rfl (fun _=>?_) fun h=>by cases h
  refine zaa ⟨71,[(4,.pt 32 0 0),(5,.vs 1 false []),(6,.vs 1 false []),(7,.I x2)],[(32,some ⟨9,[tC g p acc f R],0⟩)],800⟩ rfl ?_ ?_
  ·simp [zar]
   exact LeH [(32,32)] []
  refine zag ?_
  exact⟨.inr rfl,zak.out [] [32] rfl (by simp) (by simp) (by simp <;> exact .refl _) (by simp)⟩
 ·subst hgo
  have h':x1≠0:=by simpa using h
  have he':(x1 != 0)=true:=by simp [h']
  refine zae ?_
  refine zab ?_
  refine zaa ⟨71,[(2,.pv (tC g p acc f R)),(4,.pt 32 0 0),(9,.I x1),(48,.B true)],[(32,some ⟨9,[[.I 0,.nilS,.nilS,.nilS,.nilS,.I 0,.nilS,.nilS,.nilS]],0⟩)],700⟩ rfl ?_ ?_
  ·simp
   exact Le.go [(32,32)] [] rfl rfl (by simp [he']) (by simp)
  refine zac _ rfl (fun _=>?_) fun h=>by cases h
  refine zaa ⟨71,[(4,.pt 32 0 0),(5,.vs 1 false []),(6,.vs 1 false []),(7,.I x1)],[(32,some ⟨9,[tC g p acc f R],0⟩)],800⟩ rfl ?_ ?_
  ·simp [zar]
   exact LeH [(32,32)] []
  refine zag ?_
  exact⟨.inr rfl,zak.out [] [32] rfl (by simp) (by simp) (by simp <;> exact .refl _) (by simp)⟩
theorem zgy (hg:GrOk g) (hp:zaY g.size p) (hn:acc.Nodup) (hr:∀ k∈acc,0≤k∧k<64) (h:(zaw g s).2=0) :
  ∃ f',zcH (zaw g s).1 p (zav (accG (zaw g s).1 p)) f'∧zai Tryz.prog zb9 [eT g p acc f R,eSt s] [] (.tup [eT (zaw g s).1 p (accG (zaw g s).1 p) f' (refG (zaw g s).1 p),ints (ze8 (accG (zaw g s).1 p) acc),ints (ze8 acc (accG (zaw g s).1 p)),.I 0]) []:=by
 have hcp:=zch hT
 obtain⟨k1,k2,k3,k4⟩:=zfd hg h
 obtain⟨f',hf',hst⟩:=zio (p:=p) k1 (by rw [k2]; exact hp)
 refine⟨f',hf',?_⟩
 have hal:=zhM k1 p
 have han:(accG (zaw g s).1 p).Nodup:=(zbf _ _).sublist (zd7 _ _ rfl)
 have har:∀ k∈accG (zaw g s).1 p,0≤k∧k<64:=fun k hk=>by have h1:=zj0 p k hk; have h2:=k1.1.2.1; omega
 obtain⟨go,e⟩:=s
 have hel:=hT.e
 have hgl:=hT.o
 have ha:=hT.a
 have hwith:=zfx g e (by omega) (by omega)
 have hwout:=zfM g e.f e.t (by omega) (by omega)
 obtain⟨g',hg'⟩ : ∃ g',g'=(zaw g ⟨go,e⟩).1:=⟨_,rfl⟩
 rw [← hg'] at hst hal han har ⊢
 have hstep:(if go=true then zaU g e.f e.t else zbv g e)=(g',0):=by
  have:zaw g ⟨go,e⟩=(g',0):=Prod.ext hg'.symm h
  unfold zaw at this
  simpa using this
 clear hg' k1 k2 k3 k4 hf' h
 generalize accG g' p=acc' at *
 generalize refG g' p=R' at *
 have hl1:=zmd han har (b:=acc) (by omega) (by omega)
 have hl2:=zmd hn hr (b:=acc') (by omega) (by omega)
 generalize ze8 acc' acc=gi at *
 generalize ze8 acc acc'=lo at *
 refine zgm.acalls (nbz rfl) (nbz rfl) (Nat.zero_le _) ?_
 show awp _ 0 _ _ ⟨71,[(0,eT g p acc f R),(1,eSt ⟨go,e⟩)],[],16⟩
 refine zaa ⟨71,[(2,.pt 16 0 0),(3,.pv (stC ⟨go,e⟩)),(4,.pt 32 0 0)],[(16,some ⟨9,[tC g p acc f R],0⟩),(32,some ⟨9,[[.I 0,.nilS,.nilS,.nilS,.nilS,.I 0,.nilS,.nilS,.nilS]],0⟩)],100⟩ rfl ?_ ?_
 ·simp
  exact LeH [(16,16),(32,32)] [24]
 refine zaa ⟨71,[(2,.pv (tC g p acc f R)),(3,.pv (stC ⟨go,e⟩)),(4,.pt 32 0 0)],[(32,some ⟨9,[[.I 0,.nilS,.nilS,.nilS,.nilS,.I 0,.nilS,.nilS,.nilS]],0⟩)],200⟩ rfl ?_ ?_
 ·simp
  refine zaj hcp (by simp) ?_
  simp [zar]
  exact LeH [(32,32)] [16]
 refine zab ?_
 refine zaa ⟨71,[(2,.pv (tC g p acc f R)),(3,.pv (stC ⟨go,e⟩)),(4,.pt 32 0 0),(23,.B false)],[(32,some ⟨9,[[.I 0,.nilS,.nilS,.nilS,.nilS,.I 0,.nilS,.nilS,.nilS]],0⟩)],300⟩ rfl ?_ ?_
 ·simp
  refine zaj hc (by simp) ?_
  simp
  exact LeH [(32,32)] []
 refine zac _ rfl (fun h=>by cases h) fun _=>?_
 refine zae ?_
 generalize zbv g e=r1 at *
 generalize zaU g e.f e.t=r2 at *
 obtain⟨g1,x1⟩:=r1
 obtain⟨g2,x2⟩:=r2
 refine zaa ⟨71,[(2,.pv (tC g p acc f R)),(3,.pv (stC ⟨go,e⟩)),(4,.pt 32 0 0),(8,.pt 40 0 0),(9,.I x1)],[(32,some ⟨9,[[.I 0,.nilS,.nilS,.nilS,.nilS,.I 0,.nilS,.nilS,.nilS]],0⟩),(40,some ⟨3,[gC g1],0⟩)],400⟩ rfl ?_ ?_
 ·simp
  refine zaj hwith (by simp) ?_
  simp [zar]
  exact LeH [(32,32),(364,40)] []
 refine zab ?_
 refine zaa ⟨71,[(2,.pv (tC g p acc f R)),(3,.pv (stC ⟨go,e⟩)),(4,.pt 32 0 0),(8,.pt 40 0 0),(9,.I x1),(34,.B go)],[(32,some ⟨9,[[.I 0,.nilS,.nilS,.nilS,.nilS,.I 0,.nilS,.nilS,.nilS]],0⟩),(40,some ⟨3,[gC g1],0⟩)],500⟩ rfl ?_ ?_
 ·simp
  exact LeH [(32,32),(40,40)] []
 refine zac _ rfl (fun hgo=>?_) fun hgo=>?_
 ·subst hgo
  have hx:(g2,x2)=(g',0):=by simpa using hstep
  cases hx
  refine zas rfl ?_
  simp
  refine zaj hwout (by simp) ?_
  simp [zar]
  refine zab ?_
  refine zaa ⟨71,[(2,.pv (tC g p acc f R)),(4,.pt 32 0 0),(8,.pv (gC g')),(48,.B false)],[(32,some ⟨9,[[.I 0,.nilS,.nilS,.nilS,.nilS,.I 0,.nilS,.nilS,.nilS]],0⟩)],700⟩ rfl ?_ ?_
  ·simp
   exact LeH [(32,32)] [40]
  refine zac _ rfl (fun h=>by cases h) fun _=>?_
  refine zae ?_
  refine zaa ⟨71,[(2,.pv (tC g p acc f R)),(4,.pt 32 0 0),(10,.pv (tC g' p acc' f' R'))],[(32,some ⟨9,[[.I 0,.nilS,.nilS,.nilS,.nilS,.I 0,.nilS,.nilS,.nilS]],0⟩)],800⟩ rfl ?_ ?_
  ·simp
   refine zaj hst (by simp) ?_
   simp [zar]
   exact LeH [(32,32)] [756]
  refine zaq ⟨71,[(4,.pt 32 0 0),(10,.pv (tC g' p acc' f' R')),(12,ints acc),(13,ints acc')],[(32,some ⟨9,[[.I 0,.nilS,.nilS,.nilS,.nilS,.I 0,.nilS,.nilS,.nilS]],0⟩)],900⟩ rfl ?_ ?_
  ·simp
   exact⟨rfl,LeH [(32,32)] []⟩
  refine zaq ⟨71,[(4,.pt 32 0 0),(5,ints gi),(6,ints lo),(7,.I 0)],[(32,some ⟨9,[tC g' p acc' f' R'],0⟩)],1100⟩ rfl ?_ ?_
  ·simp
   refine zaj hl1 (by simp) ?_
   simp
   refine zaj hl2 (by simp) ?_
   simp [zar]
   exact⟨rfl,LeH [(32,32)] []⟩
  refine zag ?_
  exact⟨.inr rfl,zak.out [] [32] rfl (by simp) (by simp) (by simp <;> exact .refl _) (by simp)⟩
 ·subst hgo
  have hx:(g1,x1)=(g',0):=by simpa using hstep
  cases hx
  refine zae ?_
  refine zab ?_
  refine zaa ⟨71,[(2,.pv (tC g p acc f R)),(4,.pt 32 0 0),(8,.pv (gC g')),(48,.B false)],[(32,some ⟨9,[[.I 0,.nilS,.nilS,.nilS,.nilS,.I 0,.nilS,.nilS,.nilS]],0⟩)],700⟩ rfl ?_ ?_
  ·simp
   exact LeH [(32,32)] [40]
  refine zac _ rfl (fun h=>by cases h) fun _=>?_
  refine zae ?_
  refine zaa ⟨71,[(2,.pv (tC g p acc f R)),(4,.pt 32 0 0),(10,.pv (tC g' p acc' f' R'))],[(32,some ⟨9,[[.I 0,.nilS,.nilS,.nilS,.nilS,.I 0,.nilS,.nilS,.nilS]],0⟩)],800⟩ rfl ?_ ?_
  ·simp
   refine zaj hst (by simp) ?_
   simp [zar]
   exact LeH [(32,32)] [756]
  refine zaq ⟨71,[(4,.pt 32 0 0),(10,.pv (tC g' p acc' f' R')),(12,ints acc),(13,ints acc')],[(32,some ⟨9,[[.I 0,.nilS,.nilS,.nilS,.nilS,.I 0,.nilS,.nilS,.nilS]],0⟩)],900⟩ rfl ?_ ?_
  ·simp
   exact⟨rfl,LeH [(32,32)] []⟩
  refine zaq ⟨71,[(4,.pt 32 0 0),(5,ints gi),(6,ints lo),(7,.I 0)],[(32,some ⟨9,[tC g' p acc' f' R'],0⟩)],1100⟩ rfl ?_ ?_
  ·simp
   refine zaj hl1 (by simp) ?_
   simp
   refine zaj hl2 (by simp) ?_
   simp [zar]
   exact⟨rfl,LeH [(32,32)] []⟩
  refine zag ?_
  exact⟨.inr rfl,zak.out [] [32] rfl (by simp) (by simp) (by simp <;> exact .refl _) (by simp)⟩
end
end
end Go.Proofs.YthmaflecfppoiaaGreat
