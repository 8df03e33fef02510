/- Texts of this claim,merged. -/
import Derived.Test.YteiabadhhhckfaaGreatRh14
import Derived.Test.YteiabadhhhckfaaGreatRh12
import Derived.Test.YteiabadhhhckfaaGreatRh13
import Derived.Test.YteiabadhhhckfaaGreatRh10
import Derived.Test.YteiabadhhhckfaaGreatRh6
import Derived.Test.YteiabadhhhckfaaGreatRh9
set_option linter.unusedSimpArgs false
set_option linter.unusedVariables false
set_option linter.unusedSectionVars false
namespace Go.Proofs.YteiabadhhhckfaaGreat
open Go
theorem zpm : toAV (Value.agg #[Value.int IntKind.i64 0,Value.bool false]) = .agg [.sc (.int .i64 0),.sc (.bool false)]:=by simp [toAV,Value.oneCell']
theorem zu1 {a b : Int} : Plain (.tup [.I a,.I b]):=.tup _ fun i=>match i with
 | 0=>.sc _
 | 1=>.sc _
 | _ + 2=>.dead
structure zuD where
 j : Nat
 v : Int
def wayB (l : List Stp) (j : Nat) : List Stp:=(l.drop j).reverse
theorem zpB (l : List Stp) (j : Nat) : (wayB l j).length = l.length - j:=by simp [wayB]
theorem zrS {l : List Stp} {j : Nat} (h : j < l.length) : wayB l j = wayB l (j + 1) ++ [l[j]]:=by
 unfold wayB
 rw [List.drop_eq_getElem_cons h,List.reverse_cons]
theorem zsE (l : List Stp) : wayB l l.length = []:=by simp [wayB]
theorem zqE {N : Nat} {A : List Ed} {f D b : List Int} {l : List Stp} (hb : Bfs N A f D b) (hl : zk2 N A f b l) {j : Nat} (hj : j < l.length) : camF D b (stT A l[j]) = some (zqG l[j]):=by
 obtain ⟨q1,q2,q3,q4,q5,q6⟩:=hl.at_ j hj
 have hD : stT A l[j] ∈ D:=Decidable.byContradiction fun h=>ztl l[j] (by rw [← q6]; exact hb.out _ q4 h)
 unfold camF
 rw [if_pos hD,if_neg q3,q6,zpb]
set_option maxRecDepth 100000 in
set_option maxHeartbeats 8000000 in
theorem zuu (N : Nat) (A : List Ed) (f : List Int) (hn : zaX ⟨N,A⟩) (hf : zay N A f) :
  ∃ x : Bool × List Int,(if x.1 then zay N A x.2 ∧ valF A f + 1 ≤ valF A x.2 else x.2 = f ∧ ∀ f',zay N A f' → valF A f' ≤ valF A f) ∧ zai Tryz.prog zcs [eR N A (.rs 0 0 A.length)] [⟨1,zag f,0⟩] (.B x.1) [some ⟨1,zag x.2,0⟩]:=by
 refine zgR.acallsX (args:=[eR N A (.rs 0 0 A.length)]) (hs:=[⟨1,zag f,0⟩]) (fun x=>.B x.1) (fun x=>[some ⟨1,zag x.2,0⟩]) (fun x : Bool × List Int=>if x.1 then zay N A x.2 ∧ valF A f + 1 ≤ valF A x.2 else x.2 = f ∧ ∀ f',zay N A f' → valF A f' ≤ valF A f) (nbz rfl) (nbz rfl) (fun _=>by simp) ?_
 show awp _ 1 _ _ ⟨86,[(0,eR N A (.rs 0 0 A.length))],[(0,some ⟨1,zag f,0⟩)],16⟩
 have hno:=zd9 hn
 have hfl:=hf.fit.len
 have hfit:=zcP.1 hf.fit
 obtain ⟨⟨D,b,R⟩,⟨hb,hcl,hR⟩,hcall⟩:=zpt N A f hn hf.fit
 simp only at hb hcl hR hcall
 have hroom:=fun s hs=>zq9 N A f s hn hf.fit hs
 obtain ⟨hn0,hn1,hal,hav⟩:=hn
 simp only at hn0 hn1 hal hav
 have htake : ∀ g : Int → List AV,List.take A.length (List.map g f) = List.map g f:=fun g=>List.take_of_length_le (by simp; omega)
 have hfind:=hR.is.find
 have hsome:=zgG D b 1
 refine zab ⟨86,[(1,.pt 16 0 0)],[(0,some ⟨1,zag f,0⟩),(16,some ⟨4,[rC N A (.rs 0 0 A.length)],0⟩)],32⟩ rfl ?_ ?_
 ·simp
  exact LeI [(0,0),(16,16)] []
 refine zab ⟨86,[(1,.pt 16 0 0),(3,.mp 60)],[(0,some ⟨1,zag f,0⟩),(16,some ⟨4,[rC N A (.rs 0 0 A.length)],0⟩),(60,some ⟨0,R,0⟩)],100⟩ rfl ?_ ?_
 ·simp
  refine zjd [0] hcall (by simp [fcd,htake,hfl]) (.mp _) (hR.plain _ _) ?_
  simp
  exact Le.go [(0,0),(16,16),(40,60)] [] rfl rfl (by simp) (by simp [fcd,hR.conv'])
 refine zaa ?_
 have hgd : ∃ u v,(camF D b 1).getD (toAV (Value.agg #[Value.int IntKind.i64 0,Value.bool false])) = .agg [.sc u,.sc v]:=by
  cases hc : camF D b 1 with
  | none=>exact ⟨_,_,zpm⟩
  | some x =>
    obtain ⟨u,v,rfl⟩:=zf2 _ _ _ _ hc
    exact ⟨u,v,rfl⟩
 refine zab ⟨86,[(1,.pt 16 0 0),(3,.mp 60),(5,.B (decide ((1 : Int) ∈ D)))],[(0,some ⟨1,zag f,0⟩),(16,some ⟨4,[rC N A (.rs 0 0 A.length)],0⟩),(60,some ⟨0,R,0⟩)],200⟩ rfl ?_ ?_
 ·obtain ⟨u,v,huv⟩:=hgd
  simp [hfind,hsome,huv]
  exact Le.go [(0,0),(16,16),(60,60)] [] rfl rfl (by simp) (by simp [fcd,hR.conv'])
 refine zab ⟨86,[(1,.pt 16 0 0),(3,.mp 60),(22,.B (!decide ((1 : Int) ∈ D)))],[(0,some ⟨1,zag f,0⟩),(16,some ⟨4,[rC N A (.rs 0 0 A.length)],0⟩),(60,some ⟨0,R,0⟩)],300⟩ rfl ?_ ?_
 ·simp
  exact Le.go [(0,0),(16,16),(60,60)] [] rfl rfl (by simp) (by simp [fcd,hR.conv'])
 refine zac _ rfl (fun h5=>?_) fun h5=>?_
 ·have h1D : (1 : Int) ∉ D:=by simpa using h5
  refine zab ⟨86,[(2,.B false)],[(0,some ⟨1,zag f,0⟩)],400⟩ rfl ?_ ?_
  ·simp
   exact LeI [(0,0)] []
  refine zah ?_
  exact zhI.mk (.inr rfl) (false,f) ⟨rfl,(zge hno hf hb.mem0 h1D hcl).2⟩ (zam.k1 rfl (by simp) (by simp [fcd]))
 have h1D : (1 : Int) ∈ D:=by simpa using h5
 obtain ⟨l,hl⟩:=hb.chain h1D
 have hle:=zoN hl.way
 have hlr : ∀ s ∈ l,s.1 < f.length:=fun s hs=>by
  obtain ⟨i,hi,rfl⟩:=List.mem_iff_getElem.1 hs
  have:=(hl.at_ i hi).1
  omega
 have hl0 : 0 < l.length:=by
  cases hll : l with
  | nil=>rw [hll] at hle; cases hle
  | cons=>simp
 have hlA : l.length ≤ A.length:=by
  have:=za6 (a:=l.map fun s=>(s.1 : Int)) (b:=(List.range A.length).map fun i : Nat=>(i : Int)) (by
   have:=hl.nodup
   have e : (l.map fun s=>(s.1 : Int)) = (l.map (·.1)).map fun i : Nat=>(i : Int):=by simp
   rw [e]
   exact zdK (fun i j h=>by have h2 : (i : Int) = j:=h; omega) this) fun x hx=>by
   obtain ⟨s,hs,rfl⟩:=List.mem_map.1 hx
   exact List.mem_map.2 ⟨s.1,List.mem_range.2 (by have:=hlr s hs; omega),rfl⟩
  rw [List.length_map,List.length_map,List.length_range] at this
  exact this
 have hcam:=fun j (hj : j < l.length)=>zqE hb hl hj
 refine zad ?_
 refine zab ⟨86,[(1,.pt 16 0 0),(3,.mp 60),(6,.rs 61 0 0)],[(0,some ⟨1,zag f,0⟩),(16,some ⟨4,[rC N A (.rs 0 0 A.length)],0⟩),(60,some ⟨0,R,0⟩),(61,some ⟨2,[],0⟩)],400⟩ rfl ?_ ?_
 ·simp
  refine Le.lst [(0,0),(16,16),(60,60)] [] [(61,2)] rfl (by simp) (by simp) (by simp) (by simp) (by simp) (by simp) (by simp) (by simp [Up]) ?_
  simp [fcd,hR.conv']
  exact ⟨zaF.rfl' (Nat.zero_le _),zaF.rfl' (Nat.zero_le _),zaF.rfl' (Nat.zero_le _)⟩
 refine zab ⟨86,[(1,.pt 16 0 0),(3,.mp 60),(6,.rs 61 0 0),(7,.I 1048576)],[(0,some ⟨1,zag f,0⟩),(16,some ⟨4,[rC N A (.rs 0 0 A.length)],0⟩),(60,some ⟨0,R,0⟩),(61,some ⟨2,[],0⟩)],500⟩ rfl ?_ ?_
 ·simp
  exact Le.go [(0,0),(16,16),(60,60),(61,61)] [] rfl rfl (by simp) (by simp [fcd,hR.conv'])
 refine zaI (ι:=Int) (fun v=>⟨86,[(1,.pt 16 0 0),(6,.rs 61 0 l.length),(7,.I v)],[(0,some ⟨1,zag f,0⟩),(16,some ⟨4,[rC N A (.rs 0 0 A.length)],0⟩),(61,some ⟨2,(wayB l 0).map zbq,0⟩)],600⟩) (fun v=>1 ≤ v ∧ v ≤ 1048576 ∧ zmr A f l 0 v) ?_ fun v hv=>?_
 ·refine zab ⟨86,[(1,.pt 16 0 0),(3,.mp 60),(6,.rs 61 0 0),(7,.I 1048576),(8,.I 1)],[(0,some ⟨1,zag f,0⟩),(16,some ⟨4,[rC N A (.rs 0 0 A.length)],0⟩),(60,some ⟨0,R,0⟩),(61,some ⟨2,[],0⟩)],600⟩ rfl ?_ ?_
  ·simp
   exact Le.go [(0,0),(16,16),(60,60),(61,61)] [] rfl rfl (by simp) (by simp [fcd,hR.conv'])
  refine zaf ?_
  refine zap (ι:=zuD) (fun s=>⟨86,[(1,.pt 16 0 0),(3,.mp 60),(6,.rs 61 0 (l.length - s.j)),(7,.I s.v),(8,.I (endW A 0 l s.j))],[(0,some ⟨1,zag f,0⟩),(16,some ⟨4,[rC N A (.rs 0 0 A.length)],0⟩),(60,some ⟨0,R,0⟩),(61,some ⟨2,(wayB l s.j).map zbq,0⟩)],600⟩)
   (fun s=>s.j ≤ l.length ∧ 1 ≤ s.v ∧ s.v ≤ 1048576 ∧ zmr A f l s.j s.v) (fun s=>s.j) ⟨l.length,1048576⟩ ⟨Nat.le_refl _,by simp,by simp,by simp [zmr]⟩ (Le.go [(0,0),(16,16),(60,60),(61,61)] [] rfl rfl (by simp [hle]) (by simp [fcd,hR.conv',zsE])) ?_
  rintro ⟨j,v⟩ ⟨hj,hv1,hv2,hv3⟩
  simp only at hj hv1 hv2 hv3
  refine zaa ?_
  refine zab ⟨86,[(1,.pt 16 0 0),(3,.mp 60),(6,.rs 61 0 (l.length - j)),(7,.I v),(8,.I (endW A 0 l j)),(24,.B (!decide (endW A 0 l j = 0)))],[(0,some ⟨1,zag f,0⟩),(16,some ⟨4,[rC N A (.rs 0 0 A.length)],0⟩),(60,some ⟨0,R,0⟩),(61,some ⟨2,(wayB l j).map zbq,0⟩)],700⟩ rfl ?_ ?_
  ·simp
   exact Le.go [(0,0),(16,16),(60,60),(61,61)] [] rfl rfl (by simp <;> exact wkB (by rw [Bool.eq_iff_iff]; simp)) (by simp [fcd,hR.conv'])
  refine zac _ rfl (fun h13=>?_) fun h13=>?_
  ·simp at h13
   obtain ⟨i,rfl⟩ : ∃ i,j = i + 1:=by
    cases j with
    | zero=>exact absurd rfl h13
    | succ i=>exact ⟨i,rfl⟩
   have hi : i < l.length:=by omega
   obtain ⟨q1,q2,q3,q4,q5,q6⟩:=hl.at_ i hi
   have hfr:=hl.from_ i hi
   have hca:=hcam i hi
   have hws:=zrS hi
   have hwl:=zpB l (i + 1)
   obtain ⟨s,hs⟩ : ∃ s,s = l[i]:=⟨_,rfl⟩
   have hk : endW A 0 l (i + 1) = stT A s:=by
    show stT A (l.getD i (0,false)) = _
    rw [List.getD_eq_getElem?_getD,List.getElem?_eq_getElem hi,hs]
    rfl
   have hvn : ∀ v' : Int,v' ≤ v → v' ≤ zbc A f s → zmr A f l i v':=fun v' h1 h2 t ht=>by
    rw [List.drop_eq_getElem_cons hi,← hs] at ht
    rcases List.mem_cons.1 ht with rfl | ht
    ·exact h2
    ·exact Int.le_trans h1 (hv3 t ht)
   rw [← hs] at q1 q2 q3 q4 q5 q6 hfr hca hws
   have hrm:=hroom s q1
   have hrmb : zbc A f s ≤ 1048576:=by
    have h1:=hfit.2 s.1 q1
    have h2:=(hav _ (zdJ q1)).2.2.2.2.2.2.2.2
    unfold zbc
    split <;> omega
   rw [hk]
   obtain ⟨k,hkd⟩ : ∃ k,k = stT A s:=⟨_,rfl⟩
   obtain ⟨rm,hrd⟩ : ∃ rm,rm = zbc A f s:=⟨_,rfl⟩
   obtain ⟨W,hW⟩ : ∃ W,W = wayB l (i + 1):=⟨_,rfl⟩
   rw [← hkd] at q3 q4 q5 q6 hca hrm ⊢
   rw [← hrd] at q2 hrm hrmb hvn
   rw [← hW] at hws hwl
   have hAe:=znG q1
   have hlen : l.length - (i + 1) = W.length:=by omega
   rw [hlen,← hW]
   refine zad ?_
   refine zaf ?_
   refine zab ⟨86,[(1,.pt 16 0 0),(3,.mp 60),(6,.rs 61 0 W.length),(7,.I v),(9,.pv (zbq s))],[(0,some ⟨1,zag f,0⟩),(16,some ⟨4,[rC N A (.rs 0 0 A.length)],0⟩),(60,some ⟨0,R,0⟩),(61,some ⟨2,W.map zbq,0⟩)],800⟩ rfl ?_ ?_
   ·simp [hfind,hca,zqG]
    exact Le.go [(0,0),(16,16),(60,60),(61,61)] [724] rfl rfl (by simp) (by simp [fcd,hR.conv'])
   refine zab ⟨86,[(1,.pt 16 0 0),(3,.mp 60),(6,.rs 61 0 W.length),(7,.I v),(9,.pv (zbq s)),(10,.I rm)],[(0,some ⟨1,zag f,0⟩),(16,some ⟨4,[rC N A (.rs 0 0 A.length)],0⟩),(60,some ⟨0,R,0⟩),(61,some ⟨2,W.map zbq,0⟩)],900⟩ rfl ?_ ?_
   ·simp
    refine zg8 [0] hrm (by simp [fcd,htake,hfl]) zu1 ?_
    simp
    exact Le.go [(0,0),(16,16),(60,60),(61,61)] [] rfl rfl (by simp) (by simp [fcd,hR.conv'])
   refine zab ⟨86,[(1,.pt 16 0 0),(3,.mp 60),(6,.rs 62 0 (W.length + 1)),(7,.I (if rm < v then rm else v)),(9,.pv (zbq s))],[(0,some ⟨1,zag f,0⟩),(16,some ⟨4,[rC N A (.rs 0 0 A.length)],0⟩),(60,some ⟨0,R,0⟩),(62,some ⟨2,(W ++ [s]).map zbq,0⟩)],1000⟩ rfl ?_ ?_
   ·have hmw : ∀ g : Stp → List AV,List.take W.length (List.map g W) = List.map g W:=fun g=>List.take_of_length_le (by simp)
    simp [hmw]
    exact ⟨by omega,by omega,Le.go [(0,0),(16,16),(60,60),(924,62)] [] rfl rfl (by simp) (by simp [fcd,hR.conv'])⟩
   have hst : stF A s = if s.2 then (arcD A s.1).t else (arcD A s.1).f:=rfl
   have hqi : (s.1 : Int) < A.length:=by omega
   refine zab ⟨86,[(1,.pt 16 0 0),(3,.mp 60),(6,.rs 62 0 (W.length + 1)),(7,.I (if rm < v then rm else v)),(8,.I (arcD A s.1).f),(9,.pv (zbq s))],[(0,some ⟨1,zag f,0⟩),(16,some ⟨4,[rC N A (.rs 0 0 A.length)],0⟩),(60,some ⟨0,R,0⟩),(62,some ⟨2,(W ++ [s]).map zbq,0⟩)],1100⟩ rfl ?_ ?_
   ·have hAe' : A[s.1] = arcD A s.1:=by rw [List.getElem?_eq_getElem q1] at hAe; exact Option.some.inj hAe
    simp [q1,hAe']
    exact Le.go [(0,0),(16,16),(60,60),(62,62)] [] rfl rfl (by simp) (by simp [fcd,hR.conv'])
   refine zab ⟨86,[(1,.pt 16 0 0),(3,.mp 60),(6,.rs 62 0 (W.length + 1)),(7,.I (if rm < v then rm else v)),(8,.I (arcD A s.1).f),(9,.pv (zbq s)),(50,.B s.2)],[(0,some ⟨1,zag f,0⟩),(16,some ⟨4,[rC N A (.rs 0 0 A.length)],0⟩),(60,some ⟨0,R,0⟩),(62,some ⟨2,(W ++ [s]).map zbq,0⟩)],1200⟩ rfl ?_ ?_
   ·simp
    exact Le.go [(0,0),(16,16),(60,60),(62,62)] [] rfl rfl (by simp) (by simp [fcd,hR.conv'])
   have hwl2 : l.length - i = W.length + 1:=by omega
   have hinv : i ≤ l.length ∧ 1 ≤ (if rm < v then rm else v) ∧ (if rm < v then rm else v) ≤ 1048576 ∧ zmr A f l i (if rm < v then rm else v):=⟨by omega,by split <;> omega,by split <;> omega,hvn _ (by split <;> omega) (by split <;> omega)⟩
   refine zac _ rfl (fun h16=>?_) fun h16=>?_
   ·have hAe' : A[s.1] = arcD A s.1:=by rw [List.getElem?_eq_getElem q1] at hAe; exact Option.some.inj hAe
    rw [if_pos h16] at hst
    refine zau rfl ?_
    simp [q1,hAe']
    exact ⟨⟨i,if rm < v then rm else v⟩,hinv,Nat.lt_succ_self i,Le.go [(0,0),(16,16),(60,60),(62,61)] [] rfl rfl (by simp [hwl2,← hfr,hst]) (by simp [fcd,hR.conv',hws])⟩
   ·rw [if_neg (by simp [h16])] at hst
    refine zad ?_
    exact ⟨⟨i,if rm < v then rm else v⟩,hinv,Nat.lt_succ_self i,Le.go [(0,0),(16,16),(60,60),(62,61)] [] rfl rfl (by simp [hwl2,← hfr,hst]) (by simp [fcd,hR.conv',hws])⟩
  simp at h13
  obtain rfl : j = 0:=by
   cases j with
   | zero=>rfl
   | succ i =>
     have h2:=(hl.at_ i (by omega)).2.2.1
     refine absurd ?_ h2
     have h3 : endW A 0 l (i + 1) = stT A (l.getD i (0,false)):=rfl
     rw [h3,List.getD_eq_getElem?_getD,List.getElem?_eq_getElem (by omega)] at h13
     exact h13
  refine zan ?_
  refine hit ?_
  exact ⟨v,⟨hv1,hv2,hv3⟩,LeI [(0,0),(16,16),(61,61)] []⟩
 obtain ⟨hv1,hv2,hv3⟩:=hv
 have hv3' : ∀ s ∈ l,v ≤ zbc A f s:=fun s hs=>hv3 s (by simpa using hs)
 obtain ⟨hf2,hval⟩:=hl.push hno hf (by omega) hv3'
 have hWl:=zpB l 0
 obtain ⟨W,hW⟩ : ∃ W,W = wayB l 0:=⟨_,rfl⟩
 rw [← hW] at hWl ⊢
 have hWl : l.length = W.length:=by omega
 refine zaa ?_
 refine zab ⟨86,[(1,.pt 16 0 0),(7,.I v),(59,.vs 2 false (W.map zbq)),(60,.I W.length),(61,.I 0)],[(0,some ⟨1,zag f,0⟩),(16,some ⟨4,[rC N A (.rs 0 0 A.length)],0⟩)],700⟩ rfl ?_ ?_
 ·have hmw : ∀ g : Stp → List AV,List.take W.length (List.map g W) = List.map g W:=fun g=>List.take_of_length_le (by simp)
  simp
  exact Le.go [(0,0),(16,16)] [61] rfl rfl (by simp [hWl,hmw,fcd]) (by simp [fcd])
 refine zaf ?_
 refine zap (ι:=Nat) (fun i=>⟨86,[(1,.pt 16 0 0),(7,.I v),(59,.vs 2 false (W.map zbq)),(60,.I W.length),(61,.I i)],[(0,some ⟨1,zag (zdD v f l (l.length - i)),0⟩),(16,some ⟨4,[rC N A (.rs 0 0 A.length)],0⟩)],700⟩) (fun i=>i ≤ W.length) (fun i=>W.length - i) 0 (Nat.zero_le _) (Le.go [(0,0),(16,16)] [] rfl rfl (by simp) (by simp [fcd,zmV])) ?_
 intro i hi
 have hFl0 : (zdD v f l (l.length - i)).length = A.length:=by rw [zne,hfl]
 refine zab ⟨86,[(1,.pt 16 0 0),(7,.I v),(59,.vs 2 false (W.map zbq)),(60,.I W.length),(61,.I i),(62,.B (decide (i < W.length)))],[(0,some ⟨1,zag (zdD v f l (l.length - i)),0⟩),(16,some ⟨4,[rC N A (.rs 0 0 A.length)],0⟩)],800⟩ rfl ?_ ?_
 ·simp
  exact LeI [(0,0),(16,16)] []
 refine zaa ?_
 refine zac _ rfl (fun h20=>?_) fun h20=>?_
 ·simp at h20
  have hw1 : IntKind.i64.wrap ((i : Int) + 1) = (i : Int) + 1:=w64 (by omega) (by omega)
  obtain ⟨j,hj⟩ : ∃ j,l.length - i = j + 1:=⟨l.length - i - 1,by omega⟩
  have hjl : j < l.length:=by omega
  have hj2 : l.length - (i + 1) = j:=by omega
  have hWi : W[i] = l[j]:=by
   have : W[i]? = some l[j]:=by
    rw [hW]
    unfold wayB
    rw [List.drop_zero,List.getElem?_reverse (by omega),List.getElem?_eq_getElem (by omega)]
    congr 1
    congr 1
    omega
   rw [List.getElem?_eq_getElem h20] at this
   exact Option.some.inj this
  rw [hj] at hFl0 ⊢
  obtain ⟨q1,q2,q3,q4,q5,q6⟩:=hl.at_ j hjl
  have hstep:=zlr (v:=v) (f:=f) j hjl
  have hget:=znx (v:=v) hl.nodup hlr j hjl
  have hroomj:=hv3' _ (List.getElem_mem hjl)
  obtain ⟨s,hs⟩ : ∃ s,s = l[j]:=⟨_,rfl⟩
  rw [← hs] at q1 hstep hget hroomj hWi
  obtain ⟨F,hF⟩ : ∃ F,F = zdD v f l (j + 1):=⟨_,rfl⟩
  rw [← hF] at hFl0 hget hstep ⊢
  have hfa:=hfit.2 s.1 q1
  have heo:=(hav _ (zdJ q1)).2.2.2.2.2.2.2.2
  obtain ⟨w,hw⟩ : ∃ w,w = f.getD s.1 0:=⟨_,rfl⟩
  have haf : s.1 < F.length:=by omega
  have hg2 : F[s.1] = w:=by
   have : F[s.1]? = some w:=by rw [hw,← hget,List.getD_eq_getElem?_getD,List.getElem?_eq_getElem haf,Option.getD_some]
   rw [List.getElem?_eq_getElem haf] at this
   exact Option.some.inj this
  rw [← hw] at hfa
  have hset : zdD v f l j = F.set s.1 (w + if s.2 then -v else v):=by rw [hstep]; unfold zgT; rw [hget,← hw]
  have hro : zbc A f s = if s.2 then w else (arcD A s.1).v - w:=by unfold zbc; rw [← hw]
  refine zad ?_
  refine zaa ?_
  refine zaf ?_
  refine zab ⟨86,[(1,.pt 16 0 0),(7,.I v),(13,.pv (zbq s)),(59,.vs 2 false (W.map zbq)),(60,.I W.length),(61,.I i)],[(0,some ⟨1,zag F,0⟩),(16,some ⟨4,[rC N A (.rs 0 0 A.length)],0⟩)],900⟩ rfl ?_ ?_
  ·simp [h20,hWi]
   exact LeI [(0,0),(16,16)] [816]
  refine zab ⟨86,[(1,.pt 16 0 0),(7,.I v),(13,.pv (zbq s)),(59,.vs 2 false (W.map zbq)),(60,.I W.length),(61,.I i),(66,.B s.2)],[(0,some ⟨1,zag F,0⟩),(16,some ⟨4,[rC N A (.rs 0 0 A.length)],0⟩)],1000⟩ rfl ?_ ?_
  ·simp
   exact LeI [(0,0),(16,16)] []
  have hsA : (s.1 : Int) < A.length:=by omega
  refine zac _ rfl (fun h16=>?_) fun h16=>?_
  ·rw [if_pos h16] at hset hro
   have hw2 : IntKind.i64.wrap (w - v) = w + -v:=by rw [w64 (by omega) (by omega)]; omega
   refine zau rfl ?_
   simp [q1,haf,hg2,hw2,zaE]
   refine zau rfl ?_
   simp
   exact ⟨i + 1,by omega,by omega,Le.go [(0,0),(16,16)] [] rfl rfl (by simp [hw1]) (by simp [fcd,hj2,hset])⟩
  ·rw [if_neg (by simp [h16])] at hset hro
   have hw2 : IntKind.i64.wrap (w + v) = w + v:=w64 (by omega) (by omega)
   refine zau rfl ?_
   simp [q1,haf,hg2,hw2,zaE]
   refine zau rfl ?_
   simp
   exact ⟨i + 1,by omega,by omega,Le.go [(0,0),(16,16)] [] rfl rfl (by simp [hw1]) (by simp [fcd,hj2,hset])⟩
 simp at h20
 obtain rfl : i = W.length:=by omega
 rw [show l.length - W.length = 0 by omega]
 refine zan ?_
 refine hit ?_
 refine zab ⟨86,[(2,.B true)],[(0,some ⟨1,zag (zdD v f l 0),0⟩)],900⟩ rfl ?_ ?_
 ·simp
  exact LeI [(0,0)] []
 refine zah ?_
 exact zhI.mk (.inr rfl) (true,zdD v f l 0) ⟨hf2,by rw [hval]; omega⟩ (zam.k1 rfl (by simp) (by simp [fcd]))
theorem zam.k2n {rs : List (Nat × Option (Bool × Nat))} {st : St} {vs : List AV} {res : AV} {e0 e1 e : Ent} (i : Nat) (hi : 2 ≤ i) (h1 : zfh st rs = some vs) (hw : Wk (conv [(0,0),(1,1),(i,2)] [] st.hp 4 (resV vs)) res)
  (h0 : (st.hp 0).map (zaz [(0,0),(1,1),(i,2)] [] st.hp 4) = some e0) (h2 : (st.hp 1).map (zaz [(0,0),(1,1),(i,2)] [] st.hp 4) = some e1) (he : (st.hp i).map (zaz [(0,0),(1,1),(i,2)] [] st.hp 4) = some e) : zam rs 2 st res [some e0,some e1,some e]:=by
 have e2 : List.range 2 ++ [i] = [0,1,i]:=rfl
 refine ⟨vs,h1,[i],[],?_,by simpa using hi,by simp,?_,?_⟩
 ·rw [e2]
  simp
  omega
 ·rw [e2]
  exact hw
 ·rw [e2]
  show [_,_,_] = _
  have h0' : Option.map (zaz (([0,1,i] : List Nat).zipIdx) [] st.hp 4) (st.hp 0) = some e0:=h0
  have h2' : Option.map (zaz (([0,1,i] : List Nat).zipIdx) [] st.hp 4) (st.hp 1) = some e1:=h2
  have he' : Option.map (zaz (([0,1,i] : List Nat).zipIdx) [] st.hp 4) (st.hp i) = some e:=he
  simp only [List.map_cons,List.map_nil,h0',h2',he']
theorem zam.k2 {rs : List (Nat × Option (Bool × Nat))} {st : St} {vs : List AV} {res : AV} {e0 e1 : Ent} (h1 : zfh st rs = some vs) (hw : Wk (conv [(0,0),(1,1)] [] st.hp 4 (resV vs)) res)
  (h0 : (st.hp 0).map (zaz [(0,0),(1,1)] [] st.hp 4) = some e0) (h2 : (st.hp 1).map (zaz [(0,0),(1,1)] [] st.hp 4) = some e1) : zam rs 2 st res [some e0,some e1] :=
 ⟨vs,h1,[],[],by decide,by simp,by simp,hw,by
  show [_,_] = _
  have h0' : Option.map (zaz ((List.range 2 ++ [] : List Nat).zipIdx) [] st.hp 4) (st.hp 0) = some e0:=h0
  have h2' : Option.map (zaz ((List.range 2 ++ [] : List Nat).zipIdx) [] st.hp 4) (st.hp 1) = some e1:=h2
  simp only [h0',h2']⟩
set_option maxRecDepth 100000 in
theorem zlN {N : Nat} {D b : List Int} {R : List (List AV)} (hR : MapF R (camF D b)) (k : Int) : zai Tryz.prog zaJ [.I k,.pt 0 0 0] [⟨1,[[.mp 1]],0⟩,⟨0,R,0⟩] (.B (decide (k ∈ D))) [some ⟨1,[[.mp 1]],0⟩,some ⟨0,R,0⟩]:=by
 refine ziW.acalls (nbz rfl) (nbz rfl) (Nat.le_refl _) ?_
 show awp _ 2 _ _ ⟨13,[(0,.I k),(1,.pt 0 0 0)],[(0,some ⟨1,[[.mp 1]],0⟩),(1,some ⟨0,R,0⟩)],16⟩
 have hfind:=hR.is.find
 have hsome:=zgG D b k
 have hgd : ∃ u v,(camF D b k).getD (toAV (Value.agg #[Value.int IntKind.i64 0,Value.bool false])) = .agg [.sc u,.sc v]:=by
  cases hc : camF D b k with
  | none=>exact ⟨_,_,zpm⟩
  | some x =>
    obtain ⟨u,v,rfl⟩:=zf2 _ _ _ _ hc
    exact ⟨u,v,rfl⟩
 obtain ⟨u,v,huv⟩:=hgd
 refine rk (s:=?s1) [0,1] [0,1] rfl ?o1 ?q1
 case o1=>simp; rfl
 refine zab ⟨13,[(5,.B (decide (k ∈ D)))],[(0,some ⟨1,[[.mp 1]],0⟩),(1,some ⟨0,R,0⟩)],200⟩ rfl ?_ ?_
 ·simp [hfind,hsome,huv]
  exact Le.go [(0,0),(1,1)] [] rfl rfl (by simp) (by simp [hR.conv'])
 refine zab ⟨13,[(3,.B (decide (k ∈ D)))],[(0,some ⟨1,[[.mp 1]],0⟩),(1,some ⟨0,R,0⟩)],300⟩ rfl ?_ ?_
 ·simp
  exact Le.go [(0,0),(1,1)] [] rfl rfl (by simp) (by simp [hR.conv'])
 refine zah ?_
 exact ⟨.inr rfl,zam.k2 rfl (by simp) (by simp) (by simp [hR.conv'])⟩
set_option maxRecDepth 100000 in
set_option maxHeartbeats 1000000 in
theorem zrp {D b : List Int} {R : List (List AV)} (hR : MapF R (camF D b)) (N : Nat) (hN : N ≤ 1000000) :
  zai Tryz.prog zbV [.I N,.fn (.func zaJ) [] [.pt 0 0 0]] [⟨1,[[.mp 1]],0⟩,⟨0,R,0⟩] (.rs 2 0 (inD D N).length) [some ⟨1,[[.mp 1]],0⟩,some ⟨0,R,0⟩,some ⟨1,zag (inD D N),0⟩]:=by
 refine zix.acalls (nbz rfl) (nbz rfl) (by simp) ?_
 show awp _ 2 _ _ ⟨20,[(0,.I N),(1,.fn (.func zaJ) [] [.pt 0 0 0])],[(0,some ⟨1,[[.mp 1]],0⟩),(1,some ⟨0,R,0⟩)],16⟩
 refine zab ⟨20,[(0,.I N),(1,.fn (.func zaJ) [] [.pt 0 0 0])],[(0,some ⟨1,[[.mp 1]],0⟩),(1,some ⟨0,R,0⟩)],24⟩ rfl ?_ ?_
 ·simp
  exact Le.go [(0,0),(1,1)] [] rfl rfl (by simp) (by simp [hR.conv'])
 refine zab ⟨20,[(0,.I N),(1,.fn (.func zaJ) [] [.pt 0 0 0]),(5,.rs 50 0 0)],[(0,some ⟨1,[[.mp 1]],0⟩),(1,some ⟨0,R,0⟩),(50,some ⟨1,[],0⟩)],100⟩ rfl ?_ ?_
 ·simp
  refine Le.lst [(0,0),(1,1)] [] [(50,1)] rfl (by simp) (by simp) (by simp) (by simp) (by simp) (by simp) (by simp) (by simp [Up,conv]) ?_
  simp [hR.conv']
  exact ⟨zaF.rfl' (Nat.zero_le _),zaF.rfl' (Nat.zero_le _)⟩
 refine zaa ?_
 refine zab ⟨20,[(1,.fn (.func zaJ) [] [.pt 0 0 0]),(5,.rs 50 0 0),(7,.I N),(8,.I 0)],[(0,some ⟨1,[[.mp 1]],0⟩),(1,some ⟨0,R,0⟩),(50,some ⟨1,[],0⟩)],200⟩ rfl ?_ ?_
 ·simp
  exact Le.go [(0,0),(1,1),(50,50)] [] rfl rfl (by simp [conv]) (by simp [hR.conv'])
 refine zaf ?_
 refine zap (ι:=Nat) (fun k=>⟨20,[(1,.fn (.func zaJ) [] [.pt 0 0 0]),(5,.rs 50 0 (inD D k).length),(7,.I N),(8,.I k)],[(0,some ⟨1,[[.mp 1]],0⟩),(1,some ⟨0,R,0⟩),(50,some ⟨1,zag (inD D k),0⟩)],200⟩) (fun k=>k ≤ N) (fun k=>N - k) 0 (Nat.zero_le _) (Le.go [(0,0),(1,1),(50,50)] [] rfl rfl (by simp [conv,inD]) (by simp [hR.conv',inD])) ?_
 intro k hk
 have hwl:=zok D k
 refine zab ⟨20,[(1,.fn (.func zaJ) [] [.pt 0 0 0]),(5,.rs 50 0 (inD D k).length),(7,.I N),(8,.I k),(9,.B (decide (k < N)))],[(0,some ⟨1,[[.mp 1]],0⟩),(1,some ⟨0,R,0⟩),(50,some ⟨1,zag (inD D k),0⟩)],300⟩ rfl ?_ ?_
 ·simp
  exact Le.go [(0,0),(1,1),(50,50)] [] rfl rfl (by simp [conv]) (by simp [hR.conv',fcd])
 refine zaa ?_
 refine zac _ rfl (fun h=>?_) fun h=>?_
 ·simp at h
  have hw2 : IntKind.i64.wrap ((k : Int) + 1) = (k : Int) + 1:=w64 (by omega) (by omega)
  have hnext:=zlY D k
  refine zad ?_
  refine zaI (ι:=Unit) (fun _=>⟨20,[(1,.fn (.func zaJ) [] [.pt 0 0 0]),(5,.rs 50 0 (inD D (k + 1)).length),(7,.I N),(8,.I k)],[(0,some ⟨1,[[.mp 1]],0⟩),(1,some ⟨0,R,0⟩),(50,some ⟨1,zag (inD D (k + 1)),0⟩)],1000⟩) (fun _=>True) ?_ fun _ _=>?_
  ·rw [hnext]
   obtain ⟨W,hW⟩ : ∃ W,W = inD D k:=⟨_,rfl⟩
   rw [← hW] at hwl ⊢
   refine zaf ?_
   refine zab ⟨20,[(1,.fn (.func zaJ) [] [.pt 0 0 0]),(5,.rs 50 0 W.length),(6,.I k),(7,.I N),(8,.I k)],[(0,some ⟨1,[[.mp 1]],0⟩),(1,some ⟨0,R,0⟩),(50,some ⟨1,zag W,0⟩)],400⟩ rfl ?_ ?_
   ·simp
    exact Le.go [(0,0),(1,1),(50,50)] [] rfl rfl (by simp [conv]) (by simp [hR.conv',fcd])
   refine zab ⟨20,[(1,.fn (.func zaJ) [] [.pt 0 0 0]),(5,.rs 50 0 W.length),(6,.I k),(7,.I N),(8,.I k),(13,.B (decide ((k : Int) ∈ D)))],[(0,some ⟨1,[[.mp 1]],0⟩),(1,some ⟨0,R,0⟩),(50,some ⟨1,zag W,0⟩)],500⟩ rfl ?_ ?_
   ·simp
    refine zln (i:=0) (j:=1) (by decide) rfl rfl (by simp) (by simp [hR.conv']) (zlN (N:=N) hR k) (by simp) (by simp) ?_
    simp [hR.conv']
    exact Le.go [(0,0),(1,1),(50,50)] [] rfl rfl (by simp [conv]) (by simp [hR.conv',fcd])
   refine zac _ rfl (fun h5=>?_) fun h5=>?_
   ·rw [decide_eq_true_eq] at h5
    rw [if_pos h5]
    have hmw : ∀ g : Int → List AV,List.take W.length (List.map g W) = List.map g W:=fun g=>List.take_of_length_le (by simp)
    refine zau rfl ?_
    simp [hmw]
    exact ⟨by omega,by omega,Le.go [(0,0),(1,1),(524,50)] [] rfl rfl (by simp [conv]) (by simp [hR.conv',fcd])⟩
   ·rw [decide_eq_false_iff_not] at h5
    rw [if_neg h5,List.append_nil]
    refine zad ?_
    exact ⟨(),trivial,Le.go [(0,0),(1,1),(50,50)] [] rfl rfl (by simp [conv]) (by simp [hR.conv',fcd])⟩
  refine zau rfl ?_
  simp [hw2]
  exact ⟨k + 1,by omega,by omega,Le.go [(0,0),(1,1),(50,50)] [] rfl rfl (by simp [conv,hw2]) (by simp [hR.conv',fcd])⟩
 simp at h
 obtain rfl : k = N:=by omega
 refine zan ?_
 refine hit ?_
 refine zab ⟨20,[(4,.rs 50 0 (inD D k).length)],[(0,some ⟨1,[[.mp 1]],0⟩),(1,some ⟨0,R,0⟩),(50,some ⟨1,zag (inD D k),0⟩)],400⟩ rfl ?_ ?_
 ·simp
  exact Le.go [(0,0),(1,1),(50,50)] [] rfl rfl (by simp) (by simp [hR.conv',fcd])
 refine zah ?_
 exact ⟨.inr rfl,zam.k2n 50 (by omega) rfl (by simp) (by simp) (by simp [hR.conv']) (by simp [fcd])⟩
section
variable {N : Nat} {A : List Ed} {f : List Int}
theorem zr1 (hn : zdW N A) {s : Stp} (hs : s.1 < A.length) : 0 ≤ stT A s ∧ stT A s < N:=by
 have:=hn.arc _ (zdJ hs)
 unfold stT
 split <;> omega
theorem Bfs.grow (hn : zdW N A) : ∀ (n : Nat) (D b : List Int),Bfs N A f D b → N - D.length ≤ n → ∃ D' b',Bfs N A f D' b' ∧ zep A f D'
 | n,D,b,h,hl=>by
   by_cases hc : zep A f D
   ·exact ⟨D,b,h,hc⟩
   ·unfold zep at hc
    obtain ⟨s,hs⟩:=Classical.not_forall.1 hc
    obtain ⟨h1,hs⟩:=Classical.not_imp.1 hs
    obtain ⟨h2,hs⟩:=Classical.not_imp.1 hs
    obtain ⟨h3,h4⟩:=Classical.not_imp.1 hs
    have hr:=zr1 hn h1
    have hp:=h.push h1 h2 h3 h4 hr.1 hr.2
    have hf:=hp.few
    rw [List.length_append,List.length_singleton] at hf
    match n,hl with
    | 0,hl=>omega
    | n + 1,hl=>exact Bfs.grow hn n _ _ hp (by rw [List.length_append,List.length_singleton]; omega)
theorem zoT (hn : zdW N A) {D b : List Int} (hf1 : zay N A f) (hf2 : ∀ f',zay N A f' → valF A f' ≤ valF A f) (hb : Bfs N A f D b) : (1 : Int) ∉ D:=fun hm=>by
 obtain ⟨l,hl⟩:=hb.chain hm
 have h1:=hl.push hn hf1 (v:=1) (by omega) fun s hs=>by
  obtain ⟨i,hi,rfl⟩:=List.mem_iff_getElem.1 hs
  have:=(hl.at_ i hi).2.1
  omega
 have h2:=hf2 _ h1.1
 omega
theorem zrT (hn : zdW N A) {S : Int → Bool} (h0 : S 0 = true) (h1 : S 1 = false) : maxF N A ≤ capS S A:=by
 obtain ⟨f,hf,hv⟩:=zpk hn
 rw [← hv]
 exact zdM hn hf h0 h1
theorem zsF (hn : zdW N A) : ∃ X : Int → Bool,X 0 = true ∧ X 1 = false ∧ capS X A = maxF N A ∧ ∀ S : Int → Bool,S 0 = true → S 1 = false → capS S A = maxF N A → ∀ x,X x = true → S x = true:=by
 obtain ⟨f,hf,hm⟩:=ze3 hn
 obtain ⟨D,b,hb,hc⟩:=Bfs.grow hn N [0] _ (Bfs.start (f:=f) (by have:=hn.two; omega)) (by omega)
 have h1:=zoT hn hf hm hb
 have hmf:=zeK hf hm
 refine ⟨fun x=>decide (x ∈ D),by simpa using hb.mem0,by simpa using h1,?_,fun S s0 s1 hS x hx=>?_⟩
 ·rw [hmf]
  exact (zge hn hf hb.mem0 h1 hc).1.symm
 ·exact zk9 hn hf hb.tree s0 s1 (hS.trans hmf) x (by simpa using hx)
end
def ztL (g : Gr) (p : Pol) (S : Int → Bool) : Int:=capS S (netA g p [])
def ziJ (S : Int → Bool) (ks : List Int) : Int:=(ks.map fun k=>if S (2 + 2 * k) = true then 1 else 0).sum
variable {g : Gr} {p : Pol}
def ztq (g : Gr) (p : Pol) (k : Int) : Prop:=0 < (zaK g p).getD k.toNat 0
theorem zlg {S : Int → Bool} (h1 : S 1 = false) {ks : List Int} (hk : ∀ k ∈ ks,ztq g p k) : capS S (netA g p ks) = ztL g p S + ziJ S ks:=by
 have hf : ks.filter (fun x=>decide (0 < (zaK g p).getD x.toNat 0)) = ks:=List.filter_eq_self.2 fun x hx=>decide_eq_true (hk x hx)
 unfold ztL ziJ
 simp only [zmC,netA,za0,List.map_append,List.sum_append,List.map_map,hf]
 have e : ((fun e : Ed=>if S e.f = true ∧ S e.t = false then e.v else 0) ∘ fun x : Int=>(⟨2 + 2 * x,1,1⟩ : Ed)) = fun k=>if S (2 + 2 * k) = true then 1 else 0:=by
  funext k
  simp only [Function.comp,h1,and_true]
 rw [e]
 simp only [List.filter_nil,List.map_nil,List.sum_nil]
 omega
theorem zpD (S : Int → Bool) : ∀ ks : List Int,ziJ S ks ≤ ks.length
 | []=>Int.le_refl _
 | k :: ks=>by
   have ih:=zpD S ks
   unfold ziJ at ih ⊢
   simp only [List.map_cons,List.sum_cons,List.length_cons]
   split <;> omega
theorem znz (S : Int → Bool) (a b : List Int) : ziJ S (a ++ b) = ziJ S a + ziJ S b:=by simp [ziJ]
theorem zqM (S : Int → Bool) {a b : List Int} (h : a.Perm b) : ziJ S a = ziJ S b:=by
 unfold ziJ
 induction h with
 | nil=>rfl
 | cons x _ ih=>simp only [List.map_cons,List.sum_cons,ih]
 | swap x y l=>simp only [List.map_cons,List.sum_cons]; omega
 | trans _ _ ih1 ih2=>exact ih1.trans ih2
structure zca (g : Gr) (p : Pol) (ks : List Int) : Prop where
 rng : ∀ x ∈ ks,0 ≤ x ∧ x < g.size
 reach : ∀ x ∈ ks,ztq g p x
theorem zca.sub {a b : List Int} (h : zca g p b) (hs : ∀ x ∈ a,x ∈ b) : zca g p a:=⟨fun x hx=>h.rng x (hs x hx),fun x hx=>h.reach x (hs x hx)⟩
theorem zca.nil : zca g p []:=⟨fun _ h=>(List.not_mem_nil h).elim,fun _ h=>(List.not_mem_nil h).elim⟩
theorem zca.append {a b : List Int} (h : zca g p a) (h' : zca g p b) : zca g p (a ++ b) :=
 ⟨fun x hx=>(List.mem_append.1 hx).elim (h.rng x) (h'.rng x),fun x hx=>(List.mem_append.1 hx).elim (h.reach x) (h'.reach x)⟩
theorem zeh (hg : GrOk g) (hp : za8 g.size p) {ks : List Int} (hk : zca g p ks) : zas g p ks ↔ ∀ S : Int → Bool,S 0 = true → S 1 = false → (ks.length : Int) ≤ ztL g p S + ziJ S ks:=by
 have hn:=zh5 hg hp hk.rng
 unfold zas
 constructor
 ·intro h S h0 h1
  rw [← zlg h1 hk.reach,← h]
  exact zrT hn h0 h1
 ·intro h
  obtain ⟨X,h0,h1,hc,_⟩:=zsF hn
  have h2:=h X h0 h1
  rw [← zlg h1 hk.reach,hc] at h2
  have h3:=zhg (p:=p) hg hp hk.rng
  omega
theorem zas.perm (hg : GrOk g) (hp : za8 g.size p) {a b : List Int} (ha : zca g p a) (h : zas g p a) (hp' : a.Perm b) : zas g p b:=by
 have hb : zca g p b:=ha.sub fun x hx=>hp'.mem_iff.2 hx
 rw [zeh hg hp hb]
 rw [zeh hg hp ha] at h
 intro S h0 h1
 rw [← zqM S hp',← hp'.length_eq]
 exact h S h0 h1
theorem zas.left (hg : GrOk g) (hp : za8 g.size p) {a b : List Int} (hk : zca g p (a ++ b)) (h : zas g p (a ++ b)) : zas g p a:=by
 have ha : zca g p a:=hk.sub fun x hx=>List.mem_append_left _ hx
 rw [zeh hg hp ha]
 rw [zeh hg hp hk] at h
 intro S h0 h1
 have:=h S h0 h1
 rw [znz,List.length_append] at this
 have:=zpD S b
 omega
theorem zas.sublist (hg : GrOk g) (hp : za8 g.size p) {a b : List Int} (hk : zca g p b) (h : zas g p b) (hs : a.Sublist b) : zas g p a:=by
 obtain ⟨c,hc⟩ : ∃ c,(a ++ c).Perm b:=by
  induction hs with
  | slnil=>exact ⟨[],.refl _⟩
  | cons x hs ih =>
    obtain ⟨c,hc⟩:=ih (hk.sub fun y hy=>List.mem_cons_of_mem _ hy) (by
     have h2 : zas g p (_ ++ [x]):=h.perm hg hp hk (List.perm_append_comm (l₁:=[x]))
     exact h2.left hg hp (hk.sub fun y hy=>by simpa [or_comm] using hy))
    exact ⟨x :: c,List.perm_middle.trans (hc.cons x)⟩
  | cons_cons x hs ih =>
    obtain ⟨c,hc⟩:=ih (hk.sub fun y hy=>List.mem_cons_of_mem _ hy) (by
     have h2 : zas g p (_ ++ [x]):=h.perm hg hp hk (List.perm_append_comm (l₁:=[x]))
     exact h2.left hg hp (hk.sub fun y hy=>by simpa [or_comm] using hy))
    exact ⟨c,hc.cons x⟩
 exact (h.perm hg hp hk hc.symm).left hg hp (hk.sub fun x hx=>hc.mem_iff.1 hx)
theorem zas.nil (hg : GrOk g) (hp : za8 g.size p) : zas g p []:=by
 have h1:=zhg (p:=p) (ks:=[]) hg hp (by simp)
 have hn:=zh5 (p:=p) (ks:=[]) hg hp (by simp)
 have h2:=zss hn (zhn hn)
 have h3 : valF (netA g p []) ((netA g p []).map fun _=>0) = 0:=by
  unfold valF outF
  have : ∀ A : List Ed,sumF (fun e v=>if e.f = 0 then v else 0) A (A.map fun _=>0) = 0:=by
   intro A
   induction A with
   | nil=>rfl
   | cons e A ih=>simp only [List.map_cons,sumF,ih]; split <;> rfl
  exact this _
 unfold zas
 simp at h1 ⊢
 omega
theorem zam.k1n {rs : List (Nat × Option (Bool × Nat))} {st : St} {vs : List AV} {res : AV} {e0 e : Ent} (i : Nat) (hi : 1 ≤ i) (h1 : zfh st rs = some vs) (hw : Wk (conv [(0,0),(i,1)] [] st.hp 4 (resV vs)) res) (h0 : (st.hp 0).map (zaz [(0,0),(i,1)] [] st.hp 4) = some e0) (he : (st.hp i).map (zaz [(0,0),(i,1)] [] st.hp 4) = some e) : zam rs 1 st res [some e0,some e] :=
 ⟨vs,h1,[i],[],by simp [List.range,List.range.loop]; omega,by simpa using hi,by simp,by simpa [List.range,List.range.loop] using hw,by simpa [List.range,List.range.loop] using ⟨by simpa using h0,by simpa using he⟩⟩
@[simp] theorem zua {i : Nat} : cellsOf (.mp i) = some [.mp i]:=(rfl)
set_option maxRecDepth 100000 in
set_option maxHeartbeats 2000000 in
theorem zuv (N : Nat) (A : List Ed) (f0 : List Int) (hn : zaX ⟨N,A⟩) (hf0 : zay N A f0) :
  ∃ f : List Int,(zay N A f ∧ ∀ f',zay N A f' → valF A f' ≤ valF A f) ∧ zai Tryz.prog zii [eN ⟨N,A⟩,ints f0] [] (.rs 0 0 A.length) [some ⟨1,zag f,0⟩]:=by
 refine zqJ.acallsX (args:=[eN ⟨N,A⟩,ints f0]) (hs:=[]) (fun f=>.rs 0 0 A.length) (fun f=>[some ⟨1,zag f,0⟩]) (fun f : List Int=>zay N A f ∧ ∀ f',zay N A f' → valF A f' ≤ valF A f) (nbz rfl) (nbz rfl) (fun _=>by simp) ?_
 show awp _ 0 _ _ ⟨14,[(0,eN ⟨N,A⟩),(1,ints f0)],[],16⟩
 have hno:=zd9 hn
 have hfl:=hf0.fit.len
 have hopen:=fun (f : List Int)=>zst N A f A.length hn
 have hpush:=fun (f : List Int) (hf : zay N A f)=>zuu N A f hn hf
 have hal:=hn.2.2.1
 simp only at hal
 have hcl:=zm4 f0 (by omega)
 rw [hfl] at hcl
 have htake : ∀ g : Int → List AV,List.take A.length (List.map g f0) = List.map g f0:=fun g=>List.take_of_length_le (by simp; omega)
 refine rx (s:=?s1) [1,2] [] [16] rfl ?o1 ?q1
 case o1=>simp; rfl
 refine zar ⟨14,[(5,.pt 64 0 0)],[(48,some ⟨1,zag f0,0⟩),(64,some ⟨4,[rC N A (.rs 48 0 A.length)],0⟩)],80⟩ rfl ?_ ?_
 ·simp
  refine zaU hcl (by simp) ?_
  simp
  refine zbm (i:=48) rfl (by simp [fcd]) (hopen f0) (by simp) (by simp) ?_
  simp
  exact ⟨rfl,LeI [(48,48),(64,64)] []⟩
 refine zaa ?_
 refine zaf ?_
 refine zap (ι:=List Int) (fun f=>⟨14,[(5,.pt 64 0 0)],[(48,some ⟨1,zag f,0⟩),(64,some ⟨4,[rC N A (.rs 48 0 A.length)],0⟩)],80⟩) (fun f=>zay N A f) (fun f=>(capS (fun x=>decide (x = 0)) A - valF A f).toNat) f0 hf0 (LeI [(48,48),(64,64)] []) ?_
 intro f hf
 obtain ⟨⟨c,f'⟩,hx,hcall⟩:=hpush f hf
 simp only at hx hcall
 refine zaa ?_
 refine zab ⟨14,[(5,.pt 64 0 0),(11,.B c)],[(48,some ⟨1,zag f',0⟩),(64,some ⟨4,[rC N A (.rs 48 0 A.length)],0⟩)],100⟩ rfl ?_ ?_
 ·simp
  refine zbm (i:=48) rfl (by simp [fcd]) hcall (by simp) (by simp) ?_
  simp
  exact LeI [(48,48),(64,64)] []
 refine zac _ rfl (fun h4=>?_) fun h4=>?_
 ·have hc : c = true:=h4
  subst hc
  simp only [if_true] at hx
  have hbnd:=zdM (S:=fun x=>decide (x = 0)) hno hx.1 (by simp) (by simp)
  refine zad ?_
  refine zaf ?_
  refine zad ?_
  exact ⟨f',hx.1,by have:=hx.2; omega,LeI [(48,48),(64,64)] []⟩
 have hc : c = false:=h4
 subst hc
 simp only [Bool.false_eq_true,if_false] at hx
 obtain ⟨rfl,hm⟩:=hx
 refine zan ?_
 refine hit ?_
 refine zab ⟨14,[(4,.rs 48 0 A.length)],[(48,some ⟨1,zag f',0⟩)],200⟩ rfl ?_ ?_
 ·simp
  exact LeI [(48,48)] []
 refine zah ?_
 exact zhI.mk (.inr rfl) f' ⟨hf,hm⟩ (zam.out [48] [] rfl (by simp) (by simp) (by simp) (by simp [fcd]))
set_option maxRecDepth 100000 in
set_option maxHeartbeats 2000000 in
theorem zqk (N : Nat) (A : List Ed) (hn : zaX ⟨N,A⟩) :
  ∃ f : List Int,(zay N A f ∧ ∀ f',zay N A f' → valF A f' ≤ valF A f) ∧ zai Tryz.prog zjQ [eN ⟨N,A⟩] [] (.tup [.rs 0 0 A.length,.I 0]) [some ⟨1,zag f,0⟩]:=by
 have hno:=zd9 hn
 obtain ⟨f,hf,hg⟩:=zuv N A _ hn (zhn hno)
 refine ⟨f,hf,?_⟩
 have hchk:=zeM ⟨N,A⟩ (by have:=hn.2.2.1; simp only at this ⊢; omega)
 rw [if_pos hn] at hchk
 have hal:=hn.2.2.1
 simp only at hal
 have hfl:=hf.1.fit.len
 refine zsh.acalls (nbz rfl) (nbz rfl) (Nat.zero_le _) ?_
 show awp _ 0 _ _ ⟨16,[(0,eN ⟨N,A⟩)],[],16⟩
 refine rx (s:=?s1) [1] [] [16] rfl ?o1 ?q1
 case o1=>simp; rfl
 refine zaa ?_
 refine rx (s:=?s2) [1,4] [] [] rfl ?o2 ?q2
 case o2=>simp; refine zak hchk (by simp) ?_; simp; rfl
 refine rx (s:=?s3) [1,4,8] [] [] rfl ?o3 ?q3
 case o3=>simp; rfl
 refine zac _ rfl (fun h4=>by cases h4) fun h4=>?_
 refine zad ?_
 refine zar ⟨16,[(2,.rs 48 0 A.length),(3,.I 0)],[(48,some ⟨1,zag f,0⟩)],300⟩ rfl ?_ ?_
 ·simp
  refine ⟨by omega,by omega,?_⟩
  refine zjd [112] hg (by simp [List.map_const']) (.rs _ _ _) zrO ?_
  simp
  exact ⟨rfl,LeI [(120,48)] []⟩
 refine zah ?_
 exact ⟨.inr rfl,zam.out [48] [] rfl (by simp) (by simp) (by simp) (by simp [fcd])⟩
set_option maxRecDepth 100000 in
set_option maxHeartbeats 2000000 in
theorem zjs (N : Nat) (A : List Ed) (f : List Int) (hn : zaX ⟨N,A⟩) (hf : zay N A f) (hm : ∀ f',zay N A f' → valF A f' ≤ valF A f) :
  zai Tryz.prog zeX [eN ⟨N,A⟩,.rs 0 0 A.length] [⟨1,zag f,0⟩] (.rs 1 0 (zeE N A).length) [some ⟨1,zag f,0⟩,some ⟨1,zag (zeE N A),0⟩]:=by
 have hno:=zd9 hn
 obtain ⟨⟨D,b,R⟩,⟨hb,hcl,hR⟩,hcall⟩:=zpt N A f hn hf.fit
 simp only at hb hcl hR hcall
 have hopen:=zst N A f A.length hn
 have hnear : inD D N = zeE N A:=zlU hno hf hm hb.tree hb.mem0 (zoT hno hf hm hb) hcl
 have hwh:=zrp hR N (by have:=hn.2.1; simp only at this; omega)
 rw [hnear] at hwh
 have hfl:=hf.fit.len
 have htake : ∀ g : Int → List AV,List.take A.length (List.map g f) = List.map g f:=fun g=>List.take_of_length_le (by simp; omega)
 refine zmb.acalls (nbz rfl) (nbz rfl) (by simp) ?_
 show awp _ 1 _ _ ⟨14,[(0,eN ⟨N,A⟩),(1,.rs 0 0 A.length)],[(0,some ⟨1,zag f,0⟩)],16⟩
 refine zab ⟨14,[(1,.rs 0 0 A.length),(2,.pv (nC ⟨N,A⟩))],[(0,some ⟨1,zag f,0⟩)],32⟩ rfl ?_ ?_
 ·simp
  exact LeI [(0,0)] [16]
 refine zab ⟨14,[(2,.pv (nC ⟨N,A⟩)),(5,.pt 64 0 0)],[(0,some ⟨1,zag f,0⟩),(64,some ⟨1,[[.mp 56]],0⟩),(56,some ⟨0,R,0⟩)],100⟩ rfl ?_ ?_
 ·simp
  refine zbm (i:=0) rfl (by simp [fcd]) hopen (by simp) (by simp) ?_
  simp
  refine zjd [0] hcall (by simp [fcd,htake,hfl]) (.mp _) (hR.plain _ _) ?_
  simp
  exact Le.go [(0,0),(64,64),(56,56)] [] rfl rfl (by simp) (by simp [fcd,hR.conv'])
 refine zab ⟨14,[(4,.rs 57 0 (zeE N A).length)],[(0,some ⟨1,zag f,0⟩),(57,some ⟨1,zag (zeE N A),0⟩)],200⟩ rfl ?_ ?_
 ·simp
  refine zln (i:=64) (j:=56) (by decide) rfl rfl (by simp) (by simp [hR.conv']) hwh (by simp) (by simp [conv]) ?_
  simp
  exact LeI [(0,0),(124,57)] []
 refine zah ?_
 exact ⟨.inr rfl,zam.k1n 57 (by omega) rfl (by simp) (by simp [fcd]) (by simp [fcd])⟩
variable {g : Gr} {p : Pol}
theorem zpz : ∀ (b a : List Int),∃ l,accR g p (a ++ b) = accR g p a ++ l ∧ ∀ x ∈ l,x ∈ b
 | [],a=>⟨[],by simp,by simp⟩
 | x :: b,a=>by
   obtain ⟨l,hl,hm⟩:=zpz b (a ++ [x])
   have e : a ++ x :: b = a ++ [x] ++ b:=by simp
   rw [e,hl]
   rcases zni (g:=g) (p:=p) a x with h | h
   ·exact ⟨l,by rw [h],fun y hy=>List.mem_cons_of_mem _ (hm y hy)⟩
   ·refine ⟨[x] ++ l,by rw [h,List.append_assoc],fun y hy=>?_⟩
    rcases List.mem_append.1 hy with h | h
    ·rw [List.mem_singleton.1 h]; exact List.mem_cons_self
    ·exact List.mem_cons_of_mem _ (hm y h)
theorem zmf {o : List Int} (hn : o.Nodup) {i : Nat} (h : i < o.length) : o[i] ∈ accR g p o ↔ zas g p (zav (accR g p (o.take i) ++ [o[i]])):=by
 have hs : o.take (i + 1) = o.take i ++ [o[i]]:=List.take_succ_eq_append_getElem h
 obtain ⟨l,hl,hm⟩:=zpz (g:=g) (p:=p) (o.drop (i + 1)) (o.take (i + 1))
 rw [List.take_append_drop] at hl
 have hni : o[i] ∉ o.take i:=fun hx=>by
  obtain ⟨j,hj,e⟩:=List.mem_take_iff_getElem.1 hx
  have:=(List.getElem_inj hn).1 e
  omega
 have hnd : o[i] ∉ o.drop (i + 1):=fun hx=>by
  obtain ⟨j,hj,e⟩:=List.mem_drop_iff_getElem.1 hx
  have:=(List.getElem_inj hn).1 e
  omega
 constructor
 ·intro hx
  by_cases hc : zas g p (zav (accR g p (o.take i) ++ [o[i]]))
  ·exact hc
  ·rw [hl,hs,zfW hc] at hx
   rcases List.mem_append.1 hx with h1 | h1
   ·exact absurd (zdf h1) hni
   ·exact absurd (hm _ h1) hnd
 ·intro hc
  rw [hl,hs,zcp hc]
  exact List.mem_append_left _ (List.mem_append_right _ (List.mem_singleton.2 rfl))
theorem zpu {o : List Int} (hn : o.Nodup) : ∀ i,i ≤ o.length → befL o (accR g p o) i = accR g p (o.take i)
 | 0,_=>by simp [befL,zi4]
 | i + 1,h=>by
   have hi : i < o.length:=h
   rw [zr8 hi,zpu hn i (by omega),List.take_succ_eq_append_getElem hi]
   by_cases hc : zas g p (zav (accR g p (o.take i) ++ [o[i]]))
   ·rw [if_pos ((zmf hn hi).2 hc),zcp hc]
   ·rw [if_neg (fun h=>hc ((zmf hn hi).1 h)),zfW hc,List.append_nil]
theorem zkR {l : List Int} (h : l.Pairwise (· < ·)) : l.Nodup:=h.imp fun h=>by omega
theorem zm7 {a : List Int} (hn : a.Nodup) (hr : ∀ k ∈ a,0 ≤ k ∧ k < 64) : a.Perm (zav a):=by
 rw [← zlR hn hr]
 exact (zf7 a).symm
theorem zf5 {a : List Int} (hn : a.Nodup) (hr : ∀ k ∈ a,0 ≤ k ∧ k < 64) : (zav a).length = a.length:=(zm7 hn hr).length_eq.symm
structure AtO (g : Gr) (p : Pol) (key : Int) (before : List Int) : Prop where
 mem : key ∈ ordL (zal g p.lv) p.seeds
 bef : zfC (ordL (zal g p.lv) p.seeds) before key
 nodup : (before ++ [key]).Nodup
 range : ∀ k ∈ before ++ [key],0 ≤ k ∧ k < g.size
 serve : key ∈ accR g p (ordL (zal g p.lv) p.seeds) ↔ zas g p (zav (before ++ [key]))
theorem zoQ {o : List Int} (hn : o.Nodup) {i : Nat} (h : i < o.length) : zhC o o[i] = o.take i:=by
 unfold zhC
 rw [List.takeWhile_eq_take_findIdx_not]
 congr 1
 rw [List.findIdx_eq h]
 refine ⟨by simp,fun j hj=>?_⟩
 have : o[j] ≠ o[i]:=fun e=>by have:=(List.getElem_inj hn).1 e; omega
 simp [this]
theorem ForR.at_ {key : Int} {x : Expl} (h : ForR g p (ordL (zal g p.lv) p.seeds) key x) (hg : GrOk g) : x.key = key ∧ AtO g p key x.before ∧ ∃ i,∃ hi : i < (ordL (zal g p.lv) p.seeds).length,(ordL (zal g p.lv) p.seeds)[i] = key ∧ x.before = accR g p ((ordL (zal g p.lv) p.seeds).take i):=by
 have hn:=zbe (zal g p.lv) p.seeds
 have hr : ∀ k ∈ ordL (zal g p.lv) p.seeds,0 ≤ k ∧ k < g.size:=fun k hk=>by have h:=zbB hk; exact h
 obtain ⟨o,ho⟩ : ∃ o,o = ordL (zal g p.lv) p.seeds:=⟨_,rfl⟩
 rw [← ho] at h hn hr ⊢
 obtain ⟨i,hi,hk,hb⟩:=h.bef
 rw [zpu hn i (by omega)] at hb
 refine ⟨h.key_,?_,i,hi,hk,hb⟩
 have hsub : x.before.Sublist (zhC o key):=by
  rw [hb,← hk,zoQ hn hi]
  exact zeN _ _ rfl
 refine ⟨by rw [← ho,← hk]; exact List.getElem_mem hi,by rw [← ho]; exact hsub,zfC.nodup (order:=o) hsub hn,fun k hkm=>?_,?_⟩
 ·rcases List.mem_append.1 hkm with h1 | h1
  ·refine hr k ?_
   rw [hb] at h1
   exact List.mem_of_mem_take (zdf h1)
  ·rw [List.mem_singleton.1 h1,← hk]; exact hr _ (List.getElem_mem hi)
 ·rw [← ho,hb,← hk]
  exact zmf hn hi
theorem AtO.joined {key : Int} {before : List Int} (h : AtO g p key before) (hg : GrOk g) : (zav (before ++ [key])).Nodup ∧ (before ++ [key]).Perm (zav (before ++ [key])) ∧ (∀ x ∈ zav (before ++ [key]),0 ≤ x ∧ x < g.size):=by
 have h64:=hg.1.2.1
 have hr : ∀ k ∈ before ++ [key],0 ≤ k ∧ k < 64:=fun k hk=>⟨(h.range k hk).1,by have:=(h.range k hk).2; omega⟩
 exact ⟨zkR (zfa _),zm7 h.nodup hr,fun x hx=>h.range x (zdl.1 hx).1⟩
theorem zoX {key : Int} {before : List Int} {W : List (List Nat)} (hg : GrOk g) (hp : za8 g.size p) (ha : AtO g p key before) (hc : zas g p (zav (before ++ [key]))) (hW : ztm g p (before ++ [key]) W) :
  zjL g p.lv p.seeds (ordL (zal g p.lv) p.seeds) (zaK g p) (W.map (zcH (netA g p (zav (before ++ [key]))))) (before ++ [key]):=by
 obtain ⟨f,g',hgf,ht,hl,_⟩:=hW
 obtain ⟨j1,j2,j3⟩:=ha.joined hg
 refine znr hg hp j1 (fun x hx=>(j3 x hx).1) j2 hgf.ok.fit ht.ways (fun i _=>?_) ?_
 ·have h1:=ht.used i
  have h2:=ht.bal.nonneg i
  omega
 ·have : maxF (netN g) (netA g p (zav (before ++ [key]))) = (zav (before ++ [key])).length:=hc
  omega
theorem ForR.yes_serves {key : Int} {x : Expl} (h : ForR g p (ordL (zal g p.lv) p.seeds) key x) (hg : GrOk g) (hp : za8 g.size p) (hk : key ∈ accR g p (ordL (zal g p.lv) p.seeds)) :
  zjL g p.lv p.seeds (ordL (zal g p.lv) p.seeds) (zaK g p) x.paths (x.before ++ [key]):=by
 obtain ⟨_,ha,_⟩:=h.at_ hg
 obtain ⟨_,_,W,hW,hpa⟩:=h.yes hk
 rw [hpa]
 exact zoX hg hp ha (ha.serve.1 hk) hW
theorem ForR.no_proves {key : Int} {x : Expl} (h : ForR g p (ordL (zal g p.lv) p.seeds) key x) (hg : GrOk g) (hp : za8 g.size p) (hk : key ∉ accR g p (ordL (zal g p.lv) p.seeds)) :
  zcL ⟨2 + 2 * g.size,za0 g p (zaK g p) (zav (x.before ++ [key]))⟩ x.side x.before.length:=by
 obtain ⟨_,ha,i,hi,hik,hib⟩:=h.at_ hg
 obtain ⟨_,_,R,hR,hs⟩:=h.no hk
 obtain ⟨i',hi',hik',hn⟩:=hR.right _ hs
 simp only at hik' hn
 have hii : i' = i:=(List.getElem_inj (zbe (zal g p.lv) p.seeds)).1 (hik'.trans hik.symm)
 subst hii
 rw [← hib] at hn
 obtain ⟨j1,j2,j3⟩:=ha.joined hg
 have hfew:=zhg hg hp j3
 have hno : maxF (netN g) (netA g p (zav (x.before ++ [key]))) ≠ (zav (x.before ++ [key])).length:=hn.no
 have hlen:=j2.length_eq
 rw [List.length_append,List.length_singleton] at hlen
 have hcut:=hn.cut
 have hok:=hn.ok
 rw [ze8 hg] at hok
 exact ⟨hok,by rw [hcut]; omega⟩
theorem ForR.checked {key : Int} {x : Expl} (h : ForR g p (ordL (zal g p.lv) p.seeds) key x) (hg : GrOk g) (hp : za8 g.size p) : zrQ g p x = 0:=by
 rw [zqO hg.1.2.1]
 obtain ⟨hk,ha,_⟩:=h.at_ hg
 unfold zq3
 simp only
 rw [hk,if_neg (by simpa using ha.mem)]
 by_cases hacc : key ∈ accR g p (ordL (zal g p.lv) p.seeds)
 ·obtain ⟨h1,h2,_⟩:=h.yes hacc
  rw [if_neg (by rw [h1,h2]; simpa using ha.bef),if_pos h1,if_pos (h.yes_serves hg hp hacc)]
 ·obtain ⟨h1,h2,_⟩:=h.no hacc
  rw [if_neg (by rw [h1,h2]; simpa using ha.bef),if_neg (by rw [h1]; simp),if_pos (h.no_proves hg hp hacc)]
theorem zjR (l : List Int) (hl : l.length ≤ 1099511627776) : zai Tryz.prog zfd [ints l] [] (.rs 0 0 l.length) [some ⟨1,zag (srt l),0⟩]:=by
 refine zmH.acalls (nbz rfl) (nbz rfl) (Nat.zero_le _) ?_
 show awp _ 0 _ _ ⟨6,[(0,ints l)],[],16⟩
 have hs : zai Tryz.prog zbT [seqF l] [] (.rs 0 0 l.length) [some ⟨1,zag (srt l),0⟩]:=zr9 l hl
 refine rx (s:=?s1) [0] [] [] rfl ?o1 ?q1
 case o1=>simp; rfl
 refine zab ⟨6,[(2,.rs 50 0 l.length)],[(50,some ⟨1,zag (srt l),0⟩)],100⟩ rfl ?_ ?_
 ·simp
  refine zak (zro l) (by simp) ?_
  simp
  refine zaU hs (by simp [conv]) ?_
  simp
  exact LeI [(40,50)] []
 refine zah ?_
 exact ⟨.inr rfl,zam.out [50] [] rfl (by simp) (by simp) (by simp) (by simp [fcd])⟩
theorem zfR (g : Gr) (p : Pol) (hg : GrOk g) (hN : g.size < 20) (hs : p.seeds.length ≤ 1099511627776) : zai Tryz.prog zdG [eG g,eP p] [] (.rs 0 0 (ordL (zal g p.lv) p.seeds).length) [some ⟨1,zag (ordL (zal g p.lv) p.seeds),0⟩]:=by
 refine zmp.acalls (nbz rfl) (nbz rfl) (Nat.zero_le _) ?_
 show awp _ 0 _ _ ⟨12,[(0,eG g),(1,eP p)],[],16⟩
 have hel:=hg.edges_le
 have hgl:=hg.gone_le
 have hsz:=hg.1.2.1
 have hlev:=zev g p.lv (by omega) (by omega)
 have hord:=zhL (g:=zal g p.lv) (S:=p.seeds) (hg.level p.lv) hN hs
 obtain ⟨o,ho⟩ : ∃ o,o = ordL (zal g p.lv) p.seeds:=⟨_,rfl⟩
 rw [← ho] at hord ⊢
 refine rx (s:=?s1) [2,3] [] [16,24] rfl ?o1 ?q1
 case o1=>simp; rfl
 refine zar ⟨12,[(4,.rs 50 0 o.length)],[(50,some ⟨1,zag o,0⟩)],200⟩ rfl ?_ ?_
 ·simp
  refine zak hlev (by simp) ?_
  simp
  refine zaU hord (by simp) ?_
  simp
  exact ⟨rfl,LeI [(88,50)] []⟩
 refine zah ?_
 exact ⟨.inr rfl,zam.out [50] [] rfl (by simp) (by simp) (by simp) (by simp [fcd])⟩
theorem zgr (l : List Int) (x : Int) (hl : l.length ≤ 1000000) : zai Tryz.prog zec [ints l,.I x] [] (.rs 0 0 (l.length + 1)) [some ⟨1,zag (l ++ [x]),0⟩]:=by
 refine zn7.acalls (nbz rfl) (nbz rfl) (Nat.zero_le _) ?_
 show awp _ 0 _ _ ⟨14,[(0,ints l),(1,.I x)],[],16⟩
 refine rx (s:=?s1) [0,1] [] [] rfl ?o1 ?q1
 case o1=>simp; rfl
 refine zab ⟨14,[(4,.rs 50 0 (l.length + 1))],[(50,some ⟨1,zag (l ++ [x]),0⟩)],200⟩ rfl ?_ ?_
 ·have hsl : ∀ {id : Nat} {h : Nat → Option Ent} {K : AV → List Nat → List (Nat × Option Ent) → Prop},K (.vs 1 true (l.map fun n=>[AV.I n])) [] [] → aK Tryz.prog 0 id (.slc 1 false true true) [ints l,.I (l.length : Nat),.I (l.length : Nat)] h K:=fun hK=>by
   rw [zjO]
   refine ⟨0,l.length,l.length,l.length,by simp,Nat.zero_le _,rfl,by simp,by simp,by simp,Nat.le_refl _,fun _=>rfl,rfl,?_⟩
   rw [List.drop_zero,Nat.sub_zero,List.take_of_length_le (by simp)]
   exact hK
  simp
  refine hsl ?_
  simp
  exact ⟨by omega,by omega,LeI [(88,50)] []⟩
 refine zah ?_
 exact ⟨.inr rfl,zam.out [50] [] rfl (by simp) (by simp) (by simp) (by simp [fcd])⟩
theorem zbA (g : Gr) (p : Pol) (ks : List Int) (hg : GrOk g) (hp : za8 g.size p) (hk : ks.Nodup) (hr : ∀ k ∈ ks,0 ≤ k ∧ k < g.size) (hs : p.seeds.length ≤ 64) : zai Tryz.prog zbf [eG g,eP p,ints ks] [] (eN ⟨netN g,netA g p (zav ks)⟩) []:=by
 refine zjl.acalls (nbz rfl) (nbz rfl) (Nat.zero_le _) ?_
 show awp _ 0 _ _ ⟨18,[(0,eG g),(1,eP p),(2,ints ks)],[],16⟩
 have hsz:=hg.1.2.1
 have hr64 : ∀ k ∈ ks,0 ≤ k ∧ k < 64:=fun k h=>by have:=hr k h; omega
 have hlen:=zf5 hk hr64
 have hJl:=zbh ks
 have hsort:=zjR ks (by omega)
 rw [zlR hk hr64,← hlen] at hsort
 have hnet:=ziy g p (zav ks) hg hp (zbO hr) hs hJl
 rw [← ze8 hg,show za0 g p (zaK g p) (zav ks) = netA g p (zav ks) from rfl] at hnet
 obtain ⟨J,hJ⟩ : ∃ J,J = zav ks:=⟨_,rfl⟩
 obtain ⟨A,hA⟩ : ∃ A,A = netA g p (zav ks):=⟨_,rfl⟩
 rw [← hA] at hnet ⊢
 rw [← hJ] at hnet hsort
 refine rx (s:=?s1) [2,3,4,6] [32] [16,24] rfl ?o1 ?q1
 case o1=>simp; rfl
 refine zar ⟨18,[(6,.pt 32 0 0),(7,.pv (nC ⟨netN g,A⟩))],[(32,some ⟨2,[[.I 0,.nilS]],0⟩)],300⟩ rfl ?_ ?_
 ·simp
  refine zaU hsort (by simp) ?_
  simp
  refine zrz [64] (by simp) hnet (by simp [fcd,zaj]) ?_
  simp
  exact ⟨rfl,LeH [(32,32)] [104]⟩
 refine zab ⟨18,[(6,.pt 32 0 0)],[(32,some ⟨2,[nC ⟨netN g,A⟩],0⟩)],400⟩ rfl ?_ ?_
 ·simp [zaE]
  exact LeH [(32,32)] []
 refine zah ?_
 exact ⟨.inr rfl,zam.out [] [32] rfl (by simp) (by simp) (by simp) (by simp)⟩
def zuX (N : Nat) (A : List Ed) (f : List Int) : Prop:=zay N A f ∧ ∀ f',zay N A f' → valF A f' ≤ valF A f
theorem zgq (N : Nat) (A : List Ed) (k : Int) (hn : zaX ⟨N,A⟩) :
  ∃ f : List Int,zuX N A f ∧ zai Tryz.prog zb5 [eN ⟨N,A⟩,.I k] [] (.tup [.rs 0 0 A.length,.B (decide (valF A f = k))]) [some ⟨1,zag f,0⟩]:=by
 obtain ⟨f,hf,hmax⟩:=zqk N A hn
 refine ⟨f,hf,?_⟩
 have hfl:=hf.1.fit.len
 have hal:=hn.2.2.1
 simp only at hal
 have hval:=zhf (f:=f) hn (by omega)
 rw [if_pos hf.1] at hval
 have htake : ∀ g : Int → List AV,List.take A.length (List.map g f) = List.map g f:=fun g=>List.take_of_length_le (by simp; omega)
 refine zmB.acalls (nbz rfl) (nbz rfl) (Nat.zero_le _) ?_
 show awp _ 0 _ _ ⟨19,[(0,eN ⟨N,A⟩),(1,.I k)],[],16⟩
 refine rx (s:=?s1) [1,2] [] [16] rfl ?o1 ?q1
 case o1=>simp; rfl
 refine zab ⟨19,[(1,.I k),(2,.pv (nC ⟨N,A⟩)),(6,.rs 50 0 A.length)],[(50,some ⟨1,zag f,0⟩)],100⟩ rfl ?_ ?_
 ·simp
  refine zaU hmax (by simp) ?_
  simp
  exact LeI [(48,50)] []
 refine zab ⟨19,[(4,.rs 50 0 A.length),(5,.B (decide (valF A f = k)))],[(50,some ⟨1,zag f,0⟩)],200⟩ rfl ?_ ?_
 ·simp
  refine zg8 [50] hval (by simp [fcd,htake,hfl]) (.sc _) ?_
  simp
  exact Le.go [(50,50)] [] rfl rfl (by simp <;> exact wkB (by rw [Bool.eq_iff_iff]; simp)) (by simp [fcd])
 refine zah ?_
 exact ⟨.inr rfl,zam.out [50] [] rfl (by simp) (by simp) (by simp) (by simp [fcd])⟩
def tkL {α : Type} (l : List α) (i : Nat) : List α:=l.take i
theorem zpM {α : Type} (l : List α) : tkL l 0 = []:=rfl
theorem zl1 {α : Type} {l : List α} {i : Nat} (h : i < l.length) : tkL l (i + 1) = tkL l i ++ [l[i]]:=List.take_succ_eq_append_getElem h
theorem zh8 {α : Type} {l : List α} {i : Nat} (h : i ≤ l.length) : (tkL l i).length = i:=by unfold tkL; rw [List.length_take]; omega
theorem zsf {α : Type} (l : List α) : tkL l l.length = l:=List.take_length
theorem zlI (g : Gr) (p : Pol) : ∀ (n : Nat) (o : List Int),o.length = n → (refR g p o).length ≤ n
 | 0,o,h=>by
   obtain rfl:=List.eq_nil_of_length_eq_zero h
   exact Nat.le_refl _
 | n + 1,o,h=>by
   have hne : o ≠ []:=fun e=>by rw [e] at h; cases h
   rw [← List.dropLast_concat_getLast hne]
   have ih:=zlI g p n o.dropLast (by rw [List.length_dropLast,h]; rfl)
   by_cases hc : zas g p (zav (accR g p o.dropLast ++ [o.getLast hne]))
   ·rw [zfc hc]; omega
   ·rw [zh2 hc,List.length_append,List.length_singleton]; omega
theorem zob (N : Nat) (A : List Ed) : (zeE N A).length ≤ N:=by
 unfold zeE
 exact Nat.le_trans (List.length_filter_le ..) (by simp)
set_option maxRecDepth 100000 in
set_option maxHeartbeats 8000000 in
theorem zim (g : Gr) (p : Pol) (hg : GrOk g) (hp : za8 g.size p) (hs : p.seeds.length ≤ 64) (hN : g.size < 20) :
  ∃ f : List Int,zhF g p (zav (accR g p (ordL (zal g p.lv) p.seeds))) f ∧
    zai Tryz.prog zcr [eG g,eP p] [] (.tup [eAcc (accR g p (ordL (zal g p.lv) p.seeds)) f (refR g p (ordL (zal g p.lv) p.seeds)),.I 0]) []:=by
 have hsz:=hg.1.1
 have hsz2:=hg.1.2.1
 have hel:=hg.edges_le
 have hgl:=hg.gone_le
 have hchk:=zbD g p (by omega) (by omega) (by omega) (by have:=hp.2.2.2.1; omega)
 rw [if_pos hg,if_pos hp] at hchk
 have hord:=zfR g p hg hN (by omega)
 obtain ⟨o,ho⟩ : ∃ o,o = ordL (zal g p.lv) p.seeds:=⟨_,rfl⟩
 have hor : ∀ k ∈ o,0 ≤ k ∧ k < g.size:=fun k hk=>by rw [ho] at hk; have h:=zbB hk; exact h
 have hon : o.Nodup:=by rw [ho]; exact zbe _ _
 rw [← ho] at hord ⊢
 have hol : o.length ≤ 64:=by
  have:=za6 (b:=(List.range g.size.toNat).map fun i : Nat=>(i : Int)) hon fun x hx=>by
   have:=hor x hx
   exact List.mem_map.2 ⟨x.toNat,List.mem_range.2 (by omega),by omega⟩
  simp at this
  omega
 have h64 : ∀ a : List Int,(∀ x ∈ a,0 ≤ x ∧ x < g.size) → ∀ x ∈ a,0 ≤ x ∧ x < 64:=fun a h x hx=>by have:=h x hx; omega
 have hnv : ∀ a : List Int,(∀ x ∈ a,0 ≤ x ∧ x < g.size) → zaX ⟨netN g,netA g p (zav a)⟩:=fun a h=>zdC hg hp (zdr (zbO h)) hs (zbh a)
 have hserve : ∀ a : List Int,a.Nodup → (∀ x ∈ a,0 ≤ x ∧ x < g.size) → ∃ f,zhF g p (zav a) f ∧ zai Tryz.prog zb5 [eN ⟨netN g,netA g p (zav a)⟩,.I (a.length : Nat)] [] (.tup [.rs 0 0 (netA g p (zav a)).length,.B (@decide (zas g p (zav a)) (Classical.propDecidable _))]) [some ⟨1,zag f,0⟩]:=fun a h1 h2=>by
  obtain ⟨f,hf,hc⟩:=zgq _ _ (a.length : Nat) (hnv a h2)
  have hmf:=zeK hf.1 hf.2
  refine ⟨f,⟨hf.1,hf.2,hmf.symm⟩,?_⟩
  have hjl:=zf5 h1 (h64 a h2)
  have : decide (valF (netA g p (zav a)) f = (a.length : Nat)) = @decide (zas g p (zav a)) (Classical.propDecidable _):=by
   rw [decide_eq_decide]
   unfold zas
   rw [hmf,hjl]
  rw [this] at hc
  exact hc
 have haccn : ∀ i,(accR g p (o.take i)).Nodup:=fun i=>(hon.sublist ((zeN _ _ rfl).trans (List.take_sublist _ _)))
 have haccr : ∀ i,∀ x ∈ accR g p (o.take i),0 ≤ x ∧ x < g.size:=fun i x hx=>hor x (List.mem_of_mem_take (zdf hx))
 obtain ⟨f,hf,hlast⟩:=hserve (accR g p o) (by have:=haccn o.length; rwa [List.take_length] at this) (by have:=haccr o.length; rwa [List.take_length] at this)
 refine ⟨f,hf,?_⟩
 have hnl:=zbA g p (accR g p o) hg hp (by have:=haccn o.length; rwa [List.take_length] at this) (by have:=haccr o.length; rwa [List.take_length] at this) hs
 have hlf:=hf.ok.fit.len
 refine zjJ.acalls (nbz rfl) (nbz rfl) (Nat.zero_le _) ?_
 show awp _ 0 _ _ ⟨72,[(0,eG g),(1,eP p)],[],16⟩
 refine rx (s:=?s1) [2,3,4] [32] [16,24] rfl ?o1 ?q1
 case o1=>simp; rfl
 refine zaa ?_
 refine rx (s:=?s2) [2,3,4,6] [32] [] rfl ?o2 ?q2
 case o2=>simp; refine zak hchk (by simp) ?_; simp; rfl
 refine rx (s:=?s3) [2,3,4,18] [32] [] rfl ?o3 ?q3
 case o3=>simp; rfl
 refine zac _ rfl (fun h=>by cases h) fun _=>?_
 refine zad ?_
 refine zab ⟨72,[(2,.pv (gC g)),(3,.pv (pC p)),(4,.pt 32 0 0),(7,.pt 40 0 0)],[(32,some ⟨3,[[.nilS,.nilS,.nilS]],0⟩),(40,some ⟨3,[[.nilS,.nilS,.nilS]],0⟩)],200⟩ rfl ?_ ?_
 ·simp
  exact LeH [(32,32),(96,40)] []
 refine zaa ?_
 refine zab ⟨72,[(2,.pv (gC g)),(3,.pv (pC p)),(4,.pt 32 0 0),(7,.pt 40 0 0),(23,ints o),(24,.I o.length),(25,.I 0)],[(32,some ⟨3,[[.nilS,.nilS,.nilS]],0⟩),(40,some ⟨3,[[.nilS,.nilS,.nilS]],0⟩)],400⟩ rfl ?_ ?_
 ·simp
  refine zaU hord (by simp) ?_
  simp
  exact Le.go [(32,32),(40,40)] [216] rfl rfl (by simp [fcd,zaj]) (by simp)
 refine zaf ?_
 have hR0 : refR g p [] = []:=rfl
 refine zap (ι:=Nat) (fun i=>⟨72,[(2,.pv (gC g)),(3,.pv (pC p)),(4,.pt 32 0 0),(7,.pt 40 0 0),(23,ints o),(24,.I o.length),(25,.I i)],
   [(32,some ⟨3,[[.nilS,.nilS,.nilS]],0⟩),(40,some ⟨3,[[ints (accR g p (o.take i)),.nilS,.rs 42 0 (refR g p (o.take i)).length]],0⟩),(42,some ⟨2,zaq (refR g p (o.take i)),0⟩)],500⟩)
  (fun i=>i ≤ o.length) (fun i=>o.length - i) 0 (Nat.zero_le _)
  (Le.lst [(32,32),(40,40)] [] [(42,2)] rfl (by simp) (by simp) (by simp) (by simp) (by simp) (by simp) (by simp) (by simp [Up]) (by simp [zi4,hR0,fcd]; exact ⟨zaF.rfl' (by simp),zaF.row rfl (by omega) (by simp [UpL,Up,Wk.refl]; exact Wk.nil _ _)⟩)) ?_
 intro i hi
 have haN:=haccn i
 have haR:=haccr i
 have hal : (accR g p (o.take i)).length ≤ 64:=Nat.le_trans (zi3 _) (Nat.le_trans (List.length_take_le' i o) hol)
 have hRl:=zlI g p _ (o.take i) rfl
 have hRl2:=List.length_take_le' i o
 have hyes:=fun k=>zcp (g:=g) (p:=p) (o:=o.take i) (k:=k)
 have hno:=fun k=>zfW (g:=g) (p:=p) (o:=o.take i) (k:=k)
 have hryes:=fun k=>zfc (g:=g) (p:=p) (o:=o.take i) (k:=k)
 have hrno:=fun k=>zh2 (g:=g) (p:=p) (o:=o.take i) (k:=k)
 have hmem : ∀ x ∈ accR g p (o.take i),x ∈ o.take i:=fun x hx=>zdf hx
 obtain ⟨acc,hacc⟩ : ∃ acc,acc = accR g p (o.take i):=⟨_,rfl⟩
 obtain ⟨R,hR⟩ : ∃ R,R = refR g p (o.take i):=⟨_,rfl⟩
 rw [← hacc] at haN haR hal hmem hyes hno hryes hrno
 rw [← hR] at hRl hryes hrno
 rw [← hacc,← hR]
 refine zab ⟨72,[(2,.pv (gC g)),(3,.pv (pC p)),(4,.pt 32 0 0),(7,.pt 40 0 0),(23,ints o),(24,.I o.length),(25,.I i),(26,.B (decide (i < o.length)))],
   [(32,some ⟨3,[[.nilS,.nilS,.nilS]],0⟩),(40,some ⟨3,[[ints acc,.nilS,.rs 42 0 R.length]],0⟩),(42,some ⟨2,zaq R,0⟩)],600⟩ rfl ?_ ?_
 ·simp
  exact LeI [(32,32),(40,40),(42,42)] []
 refine zaa ?_
 refine zac _ rfl (fun h11=>?_) fun h11=>?_
 ·simp at h11
  have hw1 : IntKind.i64.wrap ((i : Int) + 1) = (i : Int) + 1:=w64 (by omega) (by omega)
  obtain ⟨k,hk⟩ : ∃ k,k = o[i]:=⟨_,rfl⟩
  have hkr:=hor _ (List.getElem_mem h11)
  rw [← hk] at hkr
  have hts : o.take (i + 1) = o.take i ++ [k]:=by rw [List.take_succ_eq_append_getElem h11,hk]
  have hkacc : k ∉ acc:=fun h=>by
   have h2:=hmem k h
   obtain ⟨j,hj,hjk⟩:=List.mem_iff_getElem.1 h2
   rw [List.getElem_take] at hjk
   rw [List.length_take] at hj
   have:=(List.pairwise_iff_getElem.1 hon) j i (by omega) h11 (by omega)
   exact this (hjk.trans hk)
  have hks : ∀ x ∈ acc ++ [k],0 ≤ x ∧ x < g.size:=fun x hx=>by
   rcases List.mem_append.1 hx with h | h
   ·exact haR x h
   ·rw [List.mem_singleton] at h; subst h; exact hkr
  have hkn : (acc ++ [k]).Nodup:=List.nodup_append.2 ⟨haN,by simp,fun a ha b hb=>by
   rw [List.mem_singleton] at hb
   subst hb
   rintro rfl
   exact hkacc ha⟩
  have hwith:=zgr acc k (by omega)
  have hnet:=zbA g p (acc ++ [k]) hg hp hkn hks hs
  obtain ⟨fl,hfl,hsv⟩:=hserve (acc ++ [k]) hkn hks
  have hreach:=zjs _ _ fl (hnv _ hks) hfl.ok hfl.most
  have hflen:=hfl.ok.fit.len
  have hnl2:=zob (netN g) (netA g p (zav (acc ++ [k])))
  have hyes:=hyes k
  have hno:=hno k
  have hryes:=hryes k
  have hrno:=hrno k
  rw [← hts] at hyes hno hryes hrno
  obtain ⟨A,hA⟩ : ∃ A,A = netA g p (zav (acc ++ [k])):=⟨_,rfl⟩
  obtain ⟨side,hside⟩ : ∃ side,side = zeE (netN g) A:=⟨_,rfl⟩
  rw [← hA] at hnet hsv hreach hflen hrno
  rw [← hside] at hreach hrno
  have htf : ∀ h : Int → List AV,List.take A.length (List.map h fl) = List.map h fl:=fun h=>List.take_of_length_le (by simp; omega)
  obtain ⟨W,hW⟩ : ∃ W,W = acc ++ [k]:=⟨_,rfl⟩
  have hWl : W.length = acc.length + 1:=by rw [hW]; simp
  rw [← hW] at hwith hnet hsv hyes hno hryes hrno
  rw [← hWl] at hwith
  refine zad ?_
  refine zaI (ι:=Unit) (fun _=>⟨72,[(2,.pv (gC g)),(3,.pv (pC p)),(4,.pt 32 0 0),(7,.pt 40 0 0),(23,ints o),(24,.I o.length),(25,.I i)],
   [(32,some ⟨3,[[.nilS,.nilS,.nilS]],0⟩),(40,some ⟨3,[[ints (accR g p (o.take (i + 1))),.nilS,.rs 42 0 (refR g p (o.take (i + 1))).length]],0⟩),(42,some ⟨2,zaq (refR g p (o.take (i + 1))),0⟩)],3000⟩) (fun _=>True) ?_ fun _ _=>?_
  ·refine zaf ?_
   refine zab ⟨72,[(2,.pv (gC g)),(3,.pv (pC p)),(4,.pt 32 0 0),(7,.pt 40 0 0),(9,.I k),(23,ints o),(24,.I o.length),(25,.I i)],
    [(32,some ⟨3,[[.nilS,.nilS,.nilS]],0⟩),(40,some ⟨3,[[ints acc,.nilS,.rs 42 0 R.length]],0⟩),(42,some ⟨2,zaq R,0⟩)],700⟩ rfl ?_ ?_
   ·simp [h11,← hk]
    exact LeI [(32,32),(40,40),(42,42)] []
   refine zab ⟨72,[(2,.pv (gC g)),(3,.pv (pC p)),(4,.pt 32 0 0),(7,.pt 40 0 0),(9,.I k),(10,ints W),(23,ints o),(24,.I o.length),(25,.I i)],
    [(32,some ⟨3,[[.nilS,.nilS,.nilS]],0⟩),(40,some ⟨3,[[ints acc,.nilS,.rs 42 0 R.length]],0⟩),(42,some ⟨2,zaq R,0⟩)],800⟩ rfl ?_ ?_
   ·simp
    refine zaU hwith (by simp) ?_
    simp
    exact Le.go [(32,32),(40,40),(42,42)] [724] rfl rfl (by simp [fcd,zaj]) (by simp [fcd])
   refine zab ⟨72,[(2,.pv (gC g)),(3,.pv (pC p)),(4,.pt 32 0 0),(7,.pt 40 0 0),(9,.I k),(10,ints W),(11,.pv (nC ⟨netN g,A⟩)),(23,ints o),(24,.I o.length),(25,.I i)],
    [(32,some ⟨3,[[.nilS,.nilS,.nilS]],0⟩),(40,some ⟨3,[[ints acc,.nilS,.rs 42 0 R.length]],0⟩),(42,some ⟨2,zaq R,0⟩)],900⟩ rfl ?_ ?_
   ·simp
    refine zak hnet (by simp) ?_
    simp
    exact LeI [(32,32),(40,40),(42,42)] [832]
   refine zab ⟨72,[(2,.pv (gC g)),(3,.pv (pC p)),(4,.pt 32 0 0),(7,.pt 40 0 0),(9,.I k),(10,ints W),(11,.pv (nC ⟨netN g,A⟩)),(12,.rs 43 0 A.length),(13,.B (@decide (zas g p (zav W)) (Classical.propDecidable _))),(23,ints o),(24,.I o.length),(25,.I i)],
    [(32,some ⟨3,[[.nilS,.nilS,.nilS]],0⟩),(40,some ⟨3,[[ints acc,.nilS,.rs 42 0 R.length]],0⟩),(42,some ⟨2,zaq R,0⟩),(43,some ⟨1,zag fl,0⟩)],1000⟩ rfl ?_ ?_
   ·simp
    refine zaU hsv (by simp) ?_
    simp
    exact LeI [(32,32),(40,40),(42,42),(924,43)] []
   refine zaa ?_
   refine zab ⟨72,[(2,.pv (gC g)),(3,.pv (pC p)),(4,.pt 32 0 0),(7,.pt 40 0 0),(9,.I k),(10,ints W),(11,.pv (nC ⟨netN g,A⟩)),(12,.rs 43 0 A.length),(44,.B (@decide (zas g p (zav W)) (Classical.propDecidable _))),(23,ints o),(24,.I o.length),(25,.I i)],
    [(32,some ⟨3,[[.nilS,.nilS,.nilS]],0⟩),(40,some ⟨3,[[ints acc,.nilS,.rs 42 0 R.length]],0⟩),(42,some ⟨2,zaq R,0⟩),(43,some ⟨1,zag fl,0⟩)],1100⟩ rfl ?_ ?_
   ·simp
    exact LeI [(32,32),(40,40),(42,42),(43,43)] []
   refine zac _ rfl (fun h15=>?_) fun h15=>?_
   ·have h15' : zas g p (zav W):=@of_decide_eq_true _ (Classical.propDecidable _) h15
    have hy:=hyes h15'
    have hry:=hryes h15'
    refine zab ⟨72,[(2,.pv (gC g)),(3,.pv (pC p)),(4,.pt 32 0 0),(7,.pt 40 0 0),(23,ints o),(24,.I o.length),(25,.I i)],
     [(32,some ⟨3,[[.nilS,.nilS,.nilS]],0⟩),(40,some ⟨3,[[ints W,.nilS,.rs 42 0 R.length]],0⟩),(42,some ⟨2,zaq R,0⟩)],1200⟩ rfl ?_ ?_
    ·simp [zaE]
     exact LeI [(32,32),(40,40),(42,42)] []
    refine zan ?_
    refine hit ?_
    exact ⟨(),trivial,Le.go [(32,32),(40,40),(42,42)] [] rfl rfl (by simp) (by simp [hy,hry,fcd])⟩
   ·have h15' : ¬ zas g p (zav W):=@of_decide_eq_false _ (Classical.propDecidable _) h15
    have hn':=hno h15'
    have hrn:=hrno h15'
    have htR : ∀ h : Int × List Int → List AV,List.take R.length (List.map h R) = List.map h R:=fun h=>List.take_of_length_le (by simp)
    refine zad ?_
    refine za4 rfl ?_
    simp
    refine zbm (i:=43) rfl (by simp [fcd]) hreach (by simp) (by simp) ?_
    simp [htR,zaE]
    exact ⟨by omega,by omega,rfl,Le.go [(32,32),(40,40),(1164,42)] [1140] rfl rfl (by simp) (by simp [hn',hrn,fcd,zaj])⟩
  refine zau rfl ?_
  simp [hw1]
  exact ⟨i + 1,by omega,by omega,Le.go [(32,32),(40,40),(42,42)] [] rfl rfl (by simp [hw1]) (by simp [fcd])⟩
 simp at h11
 obtain rfl : i = o.length:=by omega
 rw [List.take_length] at hacc hR
 rw [← hacc] at hlast hnl hlf
 have hl1 : ((acc.length : Nat) : Int) = acc.length:=rfl
 obtain ⟨A,hA⟩ : ∃ A,A = netA g p (zav acc):=⟨_,rfl⟩
 rw [← hA] at hnl hlast hlf
 have htf : ∀ h : Int → List AV,List.take A.length (List.map h f) = List.map h f:=fun h=>List.take_of_length_le (by simp; omega)
 refine zan ?_
 refine hit ?_
 refine zar ⟨72,[(4,.pt 32 0 0),(7,.pt 40 0 0)],
   [(32,some ⟨3,[[.nilS,.nilS,.nilS]],0⟩),(40,some ⟨3,[[ints acc,ints f,.vs 2 false (zaq R)]],0⟩)],1200⟩ rfl ?_ ?_
 ·simp
  refine zak hnl (by simp) ?_
  simp
  refine zaU hlast (by simp) ?_
  simp [zaE]
  exact ⟨rfl,Le.go [(32,32),(40,40)] [42,664] rfl rfl (by simp) (by simp [fcd,zaj,htf,hlf])⟩
 refine zab ⟨72,[(4,.pt 32 0 0),(5,.I 0)],[(32,some ⟨3,[[ints acc,ints f,.vs 2 false (zaq R)]],0⟩)],1400⟩ rfl ?_ ?_
 ·simp [zaE]
  exact LeI [(32,32)] []
 refine zah ?_
 rw [← hacc,← hR]
 exact ⟨.inr rfl,zam.out [] [32] rfl (by simp) (by simp) (by simp) (by simp)⟩
section
variable {P : Program} {np id : Nat} {h : Nat → Option Ent} {K : AV → List Nat → List (Nat × Option Ent) → Prop} {f : FuncId} {first capt args args' : List AV} {res : AV}
end
theorem zto (L : List Int) (hl : L.length ≤ 400) : ∃ (g : Gr) (b : Nat),(GrOk g ∧ 2 ≤ g.size ∧ g.size ≤ 9 ∧ b ≤ L.length) ∧ zai Tryz.prog zbM [.pt 0 0 0] [dice L 0] (eG g) [some (dice L b)] :=
 have h:=zot L 0 (Nat.zero_le _)
 ⟨_,_,⟨h.ok,h.lo,h.hi,h.at_⟩,zsx L 0 hl (Nat.zero_le _)⟩
variable {g : Gr} {p : Pol}
def zeR (g : Gr) (p : Pol) (ks : List Int) : Prop:=Rise ks 0 (g.size - 1) ∧ (∀ k ∈ ks,0 ≤ dist (zal g p.lv) p.seeds k) ∧ zas g p ks
theorem Rise.pair {l : List Int} {lo hi : Int} (h : Rise l lo hi) : l.Pairwise (· < ·):=by
 have hlt : ∀ (j i : Nat) (hj : j < l.length) (hij : i < j),l[i] < l[j]:=by
  intro j
  induction j with
  | zero=>intro i _ hij; omega
  | succ j ih =>
    intro i hj hij
    have h1:=(h (j + 1) hj).2.2 (by omega)
    simp only [Nat.add_sub_cancel] at h1
    rcases Nat.lt_or_ge i j with h2 | h2
    ·have:=ih i (by omega) h2
     omega
    ·have : i = j:=by omega
     subst this
     exact h1
 exact List.pairwise_iff_getElem.2 fun i j hi hj hij=>hlt j i hj hij
theorem zeB (acc f : List Int) (R : List (Int × List Int)) (k : Int) (hl : acc.length ≤ 140737488355328) : zai Tryz.prog zcJ [eAcc acc f R,.I k] [] (.B (decide (k ∈ acc))) []:=by
 refine zjU.acalls (nbz rfl) (nbz rfl) (Nat.zero_le _) ?_
 show awp _ 0 _ _ ⟨9,[(0,eAcc acc f R),(1,.I k)],[],16⟩
 refine zab ⟨9,[(1,.I k),(2,.pv [ints acc,ints f,.vs 2 false (zaq R)])],[],100⟩ rfl ?_ ?_
 ·simp
  exact LeH [] [16]
 refine zab ⟨9,[(4,.B (decide (k ∈ acc)))],[],200⟩ rfl ?_ ?_
 ·simp
  refine zak (zeJ acc k hl) (by simp) ?_
  simp
  exact LeH [] []
 refine zah ?_
 exact ⟨.inr rfl,zam.one (by simp)⟩
theorem zgP (C : List Int) (k : Int) (h0 : 0 ≤ k) (h1 : k < C.length) : zai Tryz.prog zb8 [.I k,.pv [ints C]] [] (.B (decide (C.getD k.toNat 0 = 0))) []:=by
 refine zhX.acalls (nbz rfl) (nbz rfl) (Nat.zero_le _) ?_
 show awp _ 0 _ _ ⟨9,[(0,.I k),(1,.pv [ints C])],[],16⟩
 have hk : k.toNat < C.length:=by omega
 have hget : C[k.toNat]? = some (C.getD k.toNat 0):=by rw [List.getD_eq_getElem?_getD,List.getElem?_eq_getElem hk,Option.getD_some]
 obtain ⟨v,hv⟩ : ∃ v,v = C.getD k.toNat 0:=⟨_,rfl⟩
 rw [← hv] at hget ⊢
 refine rx (s:=?s1) [0,1] [] [] rfl ?o1 ?q1
 case o1=>simp; rfl
 refine zab ⟨9,[(3,.B (decide (v = 0)))],[],200⟩ rfl ?_ ?_
 ·have hv' : C[k.toNat] = v:=by rw [List.getElem?_eq_getElem hk] at hget; exact Option.some.inj hget
  simp [hget,hk,h0,hv']
  exact Le.go [] [] rfl rfl (by simp <;> exact wkB (by rw [Bool.eq_iff_iff]; simp)) (by simp)
 refine zah ?_
 exact ⟨.inr rfl,zam.one (by simp)⟩
set_option maxRecDepth 100000 in
set_option maxHeartbeats 1000000 in
open Classical in
theorem zfp (g : Gr) (p : Pol) (ks : List Int) (hg : GrOk g) (hp : za8 g.size p) (hs : p.seeds.length ≤ 64) (hl : ks.length ≤ 1099511627776) :
  zai Tryz.prog zdc [eG g,eP p,ints ks] [] (.B (decide (zeR g p ks))) []:=by
 refine zkK.acalls (nbz rfl) (nbz rfl) (Nat.le_refl _) ?_
 show awp _ 0 _ _ ⟨39,[(0,eG g),(1,eP p),(2,ints ks)],[],16⟩
 have hsz:=hg.1.1
 have hsz2:=hg.1.2.1
 have hel:=hg.edges_le
 have hgl:=hg.gone_le
 have hchk:=zbD g p (by omega) (by omega) (by omega) (by have:=hp.2.2.2.1; omega)
 rw [if_pos hg,if_pos hp] at hchk
 have hris:=zcK ks 0 (g.size - 1) (by omega)
 have hall:=zfQ g p hg (by omega)
 have hcl : (zaK g p).length = g.size.toNat:=zbC
 have hcr:=fun (k : Int) (h0 : 0 ≤ k)=>zgh (g:=g) hp h0
 have hcn:=ziw (g:=g) hp
 obtain ⟨C,hC⟩ : ∃ C,C = zaK g p:=⟨_,rfl⟩
 rw [← hC] at hall hcl hcr hcn
 rw [← hcl] at hall
 have hw : IntKind.i64.wrap (g.size - 1) = g.size - 1:=w64 (by omega) (by omega)
 refine zab ⟨39,[(2,ints ks),(3,.pv (gC g)),(4,.pv (pC p))],[],100⟩ rfl ?_ ?_
 ·simp
  exact LeH [] [16,24]
 refine zaa ?_
 refine zab ⟨39,[(2,ints ks),(3,.pv (gC g)),(4,.pv (pC p)),(21,.B (decide (¬ Rise ks 0 (g.size - 1))))],[],300⟩ rfl ?_ ?_
 ·simp
  refine zak hchk (by simp) ?_
  simp [hw]
  refine zak hris (by simp) ?_
  simp
  exact LeH [] []
 refine zac _ rfl (fun h3=>?_) fun h3=>?_
 ·rw [decide_eq_true_eq] at h3
  have hno : ¬ zeR g p ks:=fun h=>h3 h.1
  rw [decide_eq_false hno]
  refine rx (s:=?s4) [6] [] [] rfl ?o4 ?q4
  case o4=>simp; rfl
  refine zah ?_
  exact ⟨.inr rfl,zam.one (by simp)⟩
 rw [decide_eq_false_iff_not,Decidable.not_not] at h3
 have hr:=zdr h3
 have hkn:=h3.nodup.1
 have hkl : ks.length ≤ 64:=by
  have:=za6 (a:=ks) (b:=(List.range 64).map Int.ofNat) hkn fun x hx=>by
   have:=hr x hx
   exact List.mem_map.2 ⟨x.toNat,List.mem_range.2 (by omega),by simp; omega⟩
  simpa using this
 have hcf:=zfj zb8 [.pv [ints C]] (fun k=>decide (C.getD k.toNat 0 = 0)) ks hl (fun ρ sn h k=>by simp) fun e he=>zgP C e (hr e he).1 (by have:=hr e he; omega)
 have hany : (ks.any fun k=>decide (C.getD k.toNat 0 = 0)) = true ↔ ¬ ∀ k ∈ ks,0 ≤ dist (zal g p.lv) p.seeds k:=by
  rw [List.any_eq_true]
  constructor
  ·rintro ⟨k,hk,h⟩ hall
   have h1:=(hcr k (hr k hk).1).2 ⟨(hr k hk).2,hall k hk⟩
   have h2 : C.getD k.toNat 0 = 0:=by simpa using h
   omega
  ·intro h
   obtain ⟨k,hk⟩:=Classical.not_forall.1 h
   obtain ⟨h1,h2⟩:=Classical.not_imp.1 hk
   refine ⟨k,h1,?_⟩
   have h4 : ¬ 0 < C.getD k.toNat 0:=fun h5=>h2 ((hcr k (hr k h1).1).1 h5).2
   have h5 : 0 ≤ C.getD k.toNat 0:=by
    rw [List.getD_eq_getElem?_getD]
    cases hh : C[k.toNat]? with
    | none=>simp
    | some v=>exact hcn v (List.mem_of_getElem? hh)
   simp only [decide_eq_true_eq]
   omega
 obtain ⟨b,hb⟩ : ∃ b,b = ks.any fun k=>decide (C.getD k.toNat 0 = 0):=⟨_,rfl⟩
 rw [← hb] at hcf hany
 refine zad ?_
 refine zab ⟨39,[(2,ints ks),(3,.pv (gC g)),(4,.pv (pC p)),(7,.pv [ints C])],[],400⟩ rfl ?_ ?_
 ·simp
  refine zaU hall (by simp) ?_
  simp
  exact Le.go [] [316,324] rfl rfl (by simp [fcd,zaj]) (by simp)
 refine zaa ?_
 refine zab ⟨39,[(2,ints ks),(3,.pv (gC g)),(4,.pv (pC p)),(27,.B b)],[],500⟩ rfl ?_ ?_
 ·simp
  refine zak hcf (by simp) ?_
  simp
  exact LeH [] []
 refine zac _ rfl (fun h7=>?_) fun h7=>?_
 ·have hno : ¬ zeR g p ks:=fun h=>hany.1 h7 h.2.1
  rw [decide_eq_false hno]
  refine rx (s:=?s8) [6] [] [] rfl ?o8 ?q8
  case o8=>simp; rfl
  refine zah ?_
  exact ⟨.inr rfl,zam.one (by simp)⟩
 have h7' : ∀ k ∈ ks,0 ≤ dist (zal g p.lv) p.seeds k:=Decidable.byContradiction fun h=>by
  have:=hany.2 h
  rw [show b = false from h7] at this
  cases this
 have hks : zav ks = ks:=zhQ (zfa ks) h3.pair fun x=>by
  rw [zdl]
  exact ⟨fun h=>h.1,fun h=>⟨h,by have:=hr x h; omega⟩⟩
 have hnet:=zbA g p ks hg hp hkn hr hs
 rw [hks] at hnet
 have hnv:=zdC hg hp hr hs hkl
 obtain ⟨fl,hfl,hsv⟩:=zgq _ _ (ks.length : Nat) hnv
 have hcs : decide (valF (netA g p ks) fl = (ks.length : Nat)) = decide (zeR g p ks):=by
  rw [decide_eq_decide]
  have hmf:=zeK hfl.1 hfl.2
  unfold zeR zas
  rw [hmf]
  exact ⟨fun h=>⟨h3,h7',h⟩,fun h=>h.2.2⟩
 rw [hcs] at hsv
 obtain ⟨A,hA⟩ : ∃ A,A = netA g p ks:=⟨_,rfl⟩
 rw [← hA] at hnet hsv
 refine zad ?_
 refine zab ⟨39,[(9,.B (decide (zeR g p ks)))],[],700⟩ rfl ?_ ?_
 ·simp
  refine zak hnet (by simp) ?_
  simp
  refine zaU hsv (by simp) ?_
  simp
  exact LeH [] []
 refine zab ⟨39,[(6,.B (decide (zeR g p ks)))],[],800⟩ rfl ?_ ?_
 ·simp
  exact LeH [] []
 refine zah ?_
 exact ⟨.inr rfl,zam.one (by simp)⟩
def zaV : List Int → List Int → List Int → Bool
 | [],a,r=>a.isEmpty && r.isEmpty
 | x :: o,a,r=>if a.head? = some x then zaV o a.tail r else if r.head? = some x then zaV o a r.tail else false
def zbE : Nat → List Int → List Int → List Int → List Nat
 | _,[],_,_=>[]
 | c,x :: o,a,r=>if a.head? = some x then zbE (c + 1) o a.tail r else if r.head? = some x then c :: zbE c o a r.tail else []
theorem zfK : ∀ {o a r : List Int},zaV o a r = true → a.Sublist o ∧ r.Sublist o
 | [],a,r,h=>by
   simp [zaV] at h
   rw [h.1,h.2]
   exact ⟨List.nil_sublist _,List.nil_sublist _⟩
 | x :: o,a,r,h=>by
   simp only [zaV] at h
   split at h
   ·rename_i h1
    obtain ⟨h2,h3⟩:=zfK h
    cases a with
    | nil=>cases h1
    | cons y a =>
      have : y = x:=by simpa using h1
      subst this
      exact ⟨h2.cons_cons _,h3.cons _⟩
   ·split at h
    ·rename_i h1
     obtain ⟨h2,h3⟩:=zfK h
     cases r with
     | nil=>cases h1
     | cons y r =>
       have : y = x:=by simpa using h1
       subst this
       exact ⟨h2.cons _,h3.cons_cons _⟩
    ·cases h
theorem zjp : ∀ {o a r : List Int},zaV o a r = true → ∀ x ∈ o,x ∈ a ∨ x ∈ r
 | [],a,r,_,x,hx=>by simp at hx
 | x :: o,a,r,h,y,hy=>by
   simp only [zaV] at h
   split at h
   ·rename_i h1
    cases a with
    | nil=>cases h1
    | cons z a =>
      have : z = x:=by simpa using h1
      subst this
      rcases List.mem_cons.1 hy with rfl | hy
      ·exact .inl (by simp)
      ·rcases zjp h y hy with h2 | h2
       ·exact .inl (List.mem_cons_of_mem _ h2)
       ·exact .inr h2
   ·split at h
    ·rename_i h1
     cases r with
     | nil=>cases h1
     | cons z r =>
       have : z = x:=by simpa using h1
       subst this
       rcases List.mem_cons.1 hy with rfl | hy
       ·exact .inr (by simp)
       ·rcases zjp h y hy with h2 | h2
        ·exact .inl h2
        ·exact .inr (List.mem_cons_of_mem _ h2)
    ·cases h
theorem zjh : ∀ {o a r : List Int},zaV o a r = true → o.length = a.length + r.length
 | [],a,r,h=>by
   simp [zaV] at h
   rw [h.1,h.2]
   rfl
 | x :: o,a,r,h=>by
   simp only [zaV] at h
   split at h
   ·rename_i h1
    cases a with
    | nil=>cases h1
    | cons z a =>
      have:=zjh h
      simp at this ⊢
      omega
   ·split at h
    ·rename_i h1
     cases r with
     | nil=>cases h1
     | cons z r =>
       have:=zjh h
       simp at this ⊢
       omega
    ·cases h
theorem zgf : ∀ {o a r : List Int} {c : Nat},zaV o a r = true → (zbE c o a r).length = r.length
 | [],a,r,c,h=>by
   simp [zaV] at h
   rw [h.2]
   rfl
 | x :: o,a,r,c,h=>by
   simp only [zaV] at h
   simp only [zbE]
   split at h
   ·rename_i h1
    rw [if_pos h1]
    exact zgf h
   ·rename_i h1
    rw [if_neg h1]
    split at h
    ·rename_i h2
     rw [if_pos h2,List.length_cons,zgf h]
     cases r with
     | nil=>cases h2
     | cons y r=>rfl
    ·cases h
theorem zhl : ∀ {o a r : List Int} {c m : Nat},m ∈ zbE c o a r → c ≤ m ∧ m ≤ c + a.length
 | [],a,r,c,m,h=>by simp [zbE] at h
 | x :: o,a,r,c,m,h=>by
   simp only [zbE] at h
   split at h
   ·rename_i h1
    have:=zhl h
    cases a with
    | nil=>cases h1
    | cons y a=>simp at this ⊢; omega
   ·split at h
    ·rcases List.mem_cons.1 h with rfl | h
     ·omega
     ·exact zhl h
    ·simp at h
theorem zkk : ∀ {o a r : List Int} {k : Int},zaV o a r = true → k ∉ o → zaV (o ++ [k]) (a ++ [k]) r = true
 | [],a,r,k,h,_=>by
   simp [zaV] at h
   rw [h.1,h.2]
   simp [zaV]
 | x :: o,a,r,k,h,hk=>by
   have hkx : k ≠ x:=fun e=>hk (by simp [e])
   have hko : k ∉ o:=fun e=>hk (List.mem_cons_of_mem _ e)
   simp only [zaV] at h
   simp only [List.cons_append,zaV]
   split at h
   ·rename_i h1
    cases a with
    | nil=>cases h1
    | cons y a =>
      have : y = x:=by simpa using h1
      subst this
      simpa using zkk h hko
   ·rename_i h1
    split at h
    ·rename_i h2
     have h3 : (a ++ [k]).head? ≠ some x:=by
      cases a with
      | nil=>simpa using hkx
      | cons y a=>simpa using h1
     rw [if_neg h3,if_pos h2]
     exact zkk h hko
    ·cases h
theorem zji : ∀ {o a r : List Int} {k : Int},zaV o a r = true → k ∉ o → zaV (o ++ [k]) a (r ++ [k]) = true
 | [],a,r,k,h,_=>by
   simp [zaV] at h
   rw [h.1,h.2]
   simp [zaV]
 | x :: o,a,r,k,h,hk=>by
   have hkx : k ≠ x:=fun e=>hk (by simp [e])
   have hko : k ∉ o:=fun e=>hk (List.mem_cons_of_mem _ e)
   simp only [zaV] at h
   simp only [List.cons_append,zaV]
   split at h
   ·rename_i h1
    rw [if_pos h1]
    exact zji h hko
   ·rename_i h1
    rw [if_neg h1]
    split at h
    ·rename_i h2
     cases r with
     | nil=>cases h2
     | cons y r =>
       have : y = x:=by simpa using h2
       subst this
       simpa using zji h hko
    ·cases h
def zfM (g : Gr) (p : Pol) (b : List Int) (r : Int × List Int) : Prop:=zcL ⟨netN g,netA g p (zav (b ++ [r.1]))⟩ r.2 b.length
def zcV (g : Gr) (p : Pol) : List Int → List Int → List Int → List (Int × List Int) → Prop
 | _,[],_,_=>True
 | b,x :: o,a,R=>if a.head? = some x then zcV g p (b ++ [x]) o a.tail R else match R with
   | []=>True
   | r :: R=>zfM g p b r ∧ zcV g p b o a R
def zaM (R : List (Int × List Int)) : List Int:=R.map (·.1)
theorem zjW {g : Gr} {p : Pol} : ∀ {o b a : List Int} {R : List (Int × List Int)},zaV o a (zaM R) = true →
  (zcV g p b o a R ↔ ∀ i (h : i < R.length),zfM g p (b ++ a.take ((zbE b.length o a (zaM R)).getD i 0 - b.length)) R[i])
 | [],b,a,R,h=>by
   simp [zaV,zaM] at h
   obtain ⟨_,rfl⟩:=h
   simp [zcV]
 | x :: o,b,a,R,h=>by
   simp only [zaV] at h
   simp only [zcV,zbE]
   split at h
   ·rename_i h1
    rw [if_pos h1,if_pos h1]
    have ih:=zjW (g:=g) (p:=p) (b:=b ++ [x]) h
    rw [List.length_append,List.length_singleton] at ih
    rw [ih]
    cases a with
    | nil=>cases h1
    | cons y a =>
      have : y = x:=by simpa using h1
      subst this
      simp only [List.tail_cons] at h ih ⊢
      have key : ∀ i (hi : i < R.length),b ++ [y] ++ a.take ((zbE (b.length + 1) o a (zaM R)).getD i 0 - (b.length + 1)) = b ++ (y :: a).take ((zbE (b.length + 1) o a (zaM R)).getD i 0 - b.length):=fun i hi=>by
       have hl : i < (zbE (b.length + 1) o a (zaM R)).length:=by
        rw [zgf h,zaM,List.length_map]
        exact hi
       have hm:=zhl (List.getElem_mem hl)
       have e : (zbE (b.length + 1) o a (zaM R)).getD i 0 = (zbE (b.length + 1) o a (zaM R))[i]:=by rw [List.getD_eq_getElem?_getD,List.getElem?_eq_getElem hl,Option.getD_some]
       rw [e]
       obtain ⟨q,hq⟩ : ∃ q,(zbE (b.length + 1) o a (zaM R))[i] = b.length + 1 + q:=⟨_,(Nat.add_sub_cancel' hm.1).symm⟩
       rw [hq,show b.length + 1 + q - (b.length + 1) = q by omega,show b.length + 1 + q - b.length = q + 1 by omega,List.take_succ_cons,List.append_assoc]
       rfl
      constructor
      ·intro h2 i hi
       rw [← key i hi]
       exact h2 i hi
      ·intro h2 i hi
       have:=h2 i hi
       rw [← key i hi] at this
       exact this
   ·rename_i h1
    rw [if_neg h1,if_neg h1]
    split at h
    ·rename_i h2
     cases R with
     | nil=>cases h2
     | cons r R =>
       rw [if_pos h2]
       have ih:=zjW (g:=g) (p:=p) (b:=b) (R:=R) h
       simp only
       rw [ih]
       constructor
       ·rintro ⟨h3,h4⟩ i hi
        cases i with
        | zero=>simpa using h3
        | succ i=>exact h4 i (by simpa using hi)
       ·intro h3
        refine ⟨by
         have h4:=h3 0 (Nat.zero_lt_succ _)
         simp only [List.getD_cons_zero,Nat.sub_self,List.take_zero,List.append_nil] at h4
         exact h4,fun i hi=>h3 (i + 1) (by simpa using hi)⟩
    ·cases h
open Classical in
noncomputable def zhr (g : Gr) (p : Pol) (acc flow : List Int) (R : List (Int × List Int)) : Int :=
 if zaV (ordL (zal g p.lv) p.seeds) acc (zaM R) = true then
  if zay (netN g) (netA g p (zav acc)) flow ∧ valF (netA g p (zav acc)) flow = acc.length then
   if zcV g p [] (ordL (zal g p.lv) p.seeds) acc R then 0 else 18
  else 17
 else 1
theorem zqV {N : Nat} {A : List Ed} (hn : zaX ⟨N,A⟩) : zch ⟨N,A⟩ (zeE N A) ∧ cutV A (zeE N A) = maxF N A:=by
 have hno:=zd9 hn
 obtain ⟨f,hf,hm⟩:=ze3 hno
 obtain ⟨D,b,hb,hc⟩:=Bfs.grow hno N [0] _ (Bfs.start (f:=f) (by have:=hno.two; omega)) (by omega)
 have h1:=zoT hno hf hm hb
 have hmf:=zeK hf hm
 have he : inD D N = zeE N A:=zlU hno hf hm hb.tree hb.mem0 h1 hc
 have hgr:=(zge hno hf hb.mem0 h1 hc).1
 have hmD : ∀ x,x ∈ inD D N ↔ x ∈ D:=fun x=>by
  rw [zmu]
  exact ⟨fun h=>h.2,fun h=>⟨hb.rng x h,h⟩⟩
 rw [← he]
 refine ⟨⟨hn,zef (zpX D N) fun k hk=>by have:=(zmu.1 hk).1; simp only; omega,(hmD 0).2 hb.mem0,fun h=>h1 ((hmD 1).1 h)⟩,?_⟩
 rw [zjG,hmf,hgr]
 congr 1
 funext x
 exact decide_eq_decide.2 (hmD x)
section
variable {g : Gr} {p : Pol}
theorem zjX : ∀ {o b a : List Int} {R : List (Int × List Int)} {k : Int},zaV o a (zaM R) = true → k ∉ o → zcV g p b o a R → zcV g p b (o ++ [k]) (a ++ [k]) R
 | [],b,a,R,k,h,_,_=>by
   simp [zaV,zaM] at h
   obtain ⟨rfl,rfl⟩:=h
   simp [zcV]
 | x :: o,b,a,R,k,h,hk,hc=>by
   have hkx : k ≠ x:=fun e=>hk (by simp [e])
   have hko : k ∉ o:=fun e=>hk (List.mem_cons_of_mem _ e)
   simp only [zaV] at h
   simp only [zcV] at hc
   simp only [List.cons_append,zcV]
   split at h
   ·rename_i h1
    rw [if_pos h1] at hc
    cases a with
    | nil=>cases h1
    | cons y a =>
      have : y = x:=by simpa using h1
      subst this
      simpa using zjX h hko hc
   ·rename_i h1
    rw [if_neg h1] at hc
    have h3 : (a ++ [k]).head? ≠ some x:=by
     cases a with
     | nil=>simpa using hkx
     | cons y a=>simpa using h1
    rw [if_neg h3]
    split at h
    ·cases R with
     | nil=>trivial
     | cons r R=>exact ⟨hc.1,zjX h hko hc.2⟩
    ·cases h
theorem zj0 : ∀ {o b a : List Int} {R : List (Int × List Int)} {r : Int × List Int},zaV o a (zaM R) = true → r.1 ∉ o → zfM g p (b ++ a) r → zcV g p b o a R → zcV g p b (o ++ [r.1]) a (R ++ [r])
 | [],b,a,R,r,h,_,hr,_=>by
   simp [zaV,zaM] at h
   obtain ⟨rfl,rfl⟩:=h
   rw [List.append_nil] at hr
   simp [zcV,hr]
 | x :: o,b,a,R,r,h,hk,hr,hc=>by
   have hko : r.1 ∉ o:=fun e=>hk (List.mem_cons_of_mem _ e)
   simp only [zaV] at h
   simp only [zcV] at hc
   simp only [List.cons_append,zcV]
   split at h
   ·rename_i h1
    rw [if_pos h1] at hc
    rw [if_pos h1]
    cases a with
    | nil=>cases h1
    | cons y a =>
      have : y = x:=by simpa using h1
      subst this
      exact zj0 h hko (by simpa using hr) hc
   ·rename_i h1
    rw [if_neg h1] at hc
    rw [if_neg h1]
    split at h
    ·rename_i h2
     cases R with
     | nil=>cases h2
     | cons q R=>exact ⟨hc.1,zj0 h hko hr hc.2⟩
    ·cases h
theorem zqd (hg : GrOk g) (hp : za8 g.size p) {a : List Int} (h : ∀ x ∈ a,x ∈ ordL (zal g p.lv) p.seeds) : zca g p a:=by
 refine ⟨fun x hx=>?_,fun x hx=>?_⟩
 ·have h2:=zbB (h x hx)
  exact h2
 ·have h2:=(zl0 (hg.level p.lv)).1 (h x hx)
  exact (zgh hp h2.1.1).2 ⟨h2.1.2,h2.2⟩
theorem zca.join {a : List Int} (h : zca g p a) : zca g p (zav a):=h.sub fun _ hx=>(zdl.1 hx).1
theorem zrA (hg : GrOk g) (hp : za8 g.size p) (hs : p.seeds.length ≤ 64) : ∀ (n : Nat) (o : List Int),o.length = n → o.Nodup → zca g p o →
  zas g p (zav (accR g p o)) ∧ zaV o (accR g p o) (zaM (refR g p o)) = true ∧ zcV g p [] o (accR g p o) (refR g p o)
 | 0,o,h,_,_=>by
   obtain rfl:=List.eq_nil_of_length_eq_zero h
   exact ⟨zas.nil hg hp,rfl,trivial⟩
 | n + 1,o,h,hon,hok=>by
   have hne : o ≠ []:=fun e=>by rw [e] at h; cases h
   obtain ⟨q,hq⟩ : ∃ q,q = o.dropLast:=⟨_,rfl⟩
   obtain ⟨k,hk⟩ : ∃ k,k = o.getLast hne:=⟨_,rfl⟩
   have ho : o = q ++ [k]:=by rw [hq,hk]; exact (List.dropLast_concat_getLast hne).symm
   have hql : q.length = n:=by rw [hq,List.length_dropLast,h]; rfl
   rw [ho] at hon hok ⊢
   have hqn : q.Nodup:=(List.nodup_append.1 hon).1
   have hkq : k ∉ q:=fun hm=>(List.nodup_append.1 hon).2.2 k hm k (by simp) rfl
   have hqok : zca g p q:=hok.sub fun x hx=>List.mem_append_left _ hx
   obtain ⟨ih1,ih2,ih3⟩:=zrA hg hp hs n q hql hqn hqok
   by_cases hc : zas g p (zav (accR g p q ++ [k]))
   ·rw [zcp hc,zfc hc]
    exact ⟨hc,zkk ih2 hkq,zjX ih2 hkq ih3⟩
   ·rw [zfW hc,zh2 hc]
    have hsz2:=hg.1.2.1
    have hrng : ∀ x ∈ accR g p q ++ [k],0 ≤ x ∧ x < g.size:=fun x hx=>hok.rng x (by
     rcases List.mem_append.1 hx with h2 | h2
     ·exact List.mem_append_left _ (zdf h2)
     ·exact List.mem_append_right _ h2)
    have hnd : (accR g p q ++ [k]).Nodup:=List.nodup_append.2 ⟨hqn.sublist (zeN _ _ rfl),by simp,fun a ha b hb=>by
     rw [List.mem_singleton] at hb
     subst hb
     rintro rfl
     exact hkq (zdf ha)⟩
    have hjl:=zf5 hnd fun x hx=>by have:=hrng x hx; omega
    have hnv:=zdC hg hp (zdr (zbO hrng)) hs (zbh (accR g p q ++ [k]))
    have hside:=zqV hnv
    have hfew:=zhg (p:=p) (ks:=zav (accR g p q ++ [k])) hg hp (zdr (zbO hrng))
    have hcut : zfM g p (accR g p q) (k,zeE (netN g) (netA g p (zav (accR g p q ++ [k])))):=by
     refine ⟨hside.1,?_⟩
     simp only
     rw [hside.2]
     have : maxF (netN g) (netA g p (zav (accR g p q ++ [k]))) ≠ (zav (accR g p q ++ [k])).length:=hc
     rw [hjl,List.length_append,List.length_singleton] at this hfew
     omega
    refine ⟨ih1,?_,?_⟩
    ·have:=zji (r:=zaM (refR g p q)) ih2 hkq
     simpa [zaM] using this
    ·exact zj0 (r:=(k,zeE (netN g) (netA g p (zav (accR g p q ++ [k]))))) ih2 hkq (by rw [List.nil_append]; exact hcut) ih3
theorem zla (hg : GrOk g) (hp : za8 g.size p) : zca g p (ordL (zal g p.lv) p.seeds):=zqd hg hp fun _ h=>h
theorem ziq (hg : GrOk g) (hp : za8 g.size p) (hs : p.seeds.length ≤ 64) {f : List Int} (hf : zhF g p (zav (accR g p (ordL (zal g p.lv) p.seeds))) f) :
  zhr g p (accR g p (ordL (zal g p.lv) p.seeds)) f (refR g p (ordL (zal g p.lv) p.seeds)) = 0:=by
 have hon:=zbe (zal g p.lv) p.seeds
 obtain ⟨h1,h2,h3⟩:=zrA hg hp hs _ _ rfl hon (zla hg hp)
 have hsz2:=hg.1.2.1
 have hjl:=zf5 (hon.sublist (zeN (g:=g) (p:=p) _ _ rfl)) fun x hx=>by
  have:=(zla hg hp).rng x (zdf hx)
  omega
 unfold zhr
 rw [if_pos h2,if_pos ⟨hf.ok,by rw [hf.val,← hjl]; exact h1⟩,if_pos h3]
end
def gF : Gr:=⟨3,[⟨0,1,1⟩,⟨0,2,1⟩],[]⟩
def pF : Pol:=⟨[0],[2,1],1⟩
theorem zkP : GrOk gF:=by
 refine ⟨⟨by decide +revert,by decide +revert,by decide +revert,fun i h=>by simp [gF] at h⟩,fun i h=>?_⟩
 have : i = 0 ∨ i = 1:=by simp [gF] at h; omega
 rcases this with rfl | rfl
 ·exact ⟨by unfold Fits; simp [gF],by decide +revert,by decide +revert,fun h=>by cases h⟩
 ·exact ⟨by unfold Fits; simp [gF],by decide +revert,by decide +revert,fun h=>by decide +revert⟩
theorem zlK : za8 gF.size pF:=by
 refine ⟨by decide +revert,fun i h=>?_,by decide +revert,by decide +revert,by decide +revert,by decide +revert,fun i h=>?_⟩
 ·obtain rfl : i = 0:=by simp [pF] at h; omega
  exact ⟨by decide +revert,by decide +revert,fun h=>by cases h⟩
 ·have : i = 0 ∨ i = 1:=by simp [pF] at h; omega
  rcases this with rfl | rfl
  ·exact ⟨by decide +revert,by decide +revert,fun h=>by cases h⟩
  ·exact ⟨by decide +revert,by decide +revert,fun h=>by decide +revert⟩
theorem zpC : ordL (zal gF pF.lv) pF.seeds = [0,1,2]:=by decide
theorem zrB : ∀ {ks : List Int},(∀ x ∈ ks,x = 0 ∨ x = 1 ∨ x = 2) → ∀ x ∈ ks,0 ≤ x ∧ x < gF.size:=fun h x hx=>by
 have : gF.size = 3:=rfl
 rcases h x hx with rfl | rfl | rfl <;> omega
theorem zq7 {ks f : List Int} {A : List Ed} (hk : ∀ x ∈ ks,x = 0 ∨ x = 1 ∨ x = 2) (hA : netA gF pF ks = A) (hf : zay 8 A f) (hv : valF A f = ks.length) : zas gF pF ks:=by
 have hr:=zrB hk
 have h1:=zhg (p:=pF) zkP zlK hr
 have h2:=zss (zh5 zkP zlK hr) (f:=f) (by rw [hA]; exact hf)
 rw [hA,hv] at h2
 rw [hA] at h1
 unfold zas
 rw [hA]
 have h3 : netN gF = 8:=rfl
 rw [h3] at h1 h2 ⊢
 omega
theorem ztK {N : Nat} {A : List Ed} {f : List Int} (h : (decide (f.length = A.length) && ((List.range A.length).all fun i=>decide (0 ≤ f.getD i 0 ∧ f.getD i 0 ≤ (arcD A i).v)) && ((List.range N).all fun x=>decide (x < 2 ∨ exF A f x = 0))) = true) : zay N A f:=by
 simp only [Bool.and_eq_true,decide_eq_true_eq,List.all_eq_true,List.mem_range] at h
 exact zcx.2 ⟨h.1.1,fun i hi=>h.1.2 i hi,fun x h1 h2=>(h.2 x h2).resolve_left (by omega)⟩
theorem ztO : zas gF pF [0]:=zq7 (f:=[1,0,0,0,1,0,0]) (by simp) rfl (ztK (by decide)) (by decide)
theorem zrd : zas gF pF [0,1]:=zq7 (f:=[2,1,0,0,1,1,1,0]) (by simp) rfl (ztK (by decide)) (by decide)
theorem zuW : zas gF pF [0,2]:=zq7 (f:=[2,1,0,0,1,1,0,1]) (by simp) rfl (ztK (by decide)) (by decide)
theorem zmN : ¬ zas gF pF [0,1,2]:=fun h=>by
 have h1:=zrT (zh5 zkP zlK (zrB (ks:=[0,1,2]) (by simp))) (S:=fun x=>decide (x = 0)) (by decide) (by decide)
 have h2 : maxF (netN gF) (netA gF pF [0,1,2]) = 3:=h
 rw [h2] at h1
 revert h1
 decide
theorem zuN : accR gF pF [0,1,2] = [0,1]:=by
 have h0 : accR gF pF [0] = [0]:=zcp (o:=[]) (k:=0) ztO
 have h1 : accR gF pF [0,1] = [0,1]:=by
  have h:=zcp (g:=gF) (p:=pF) (o:=[0]) (k:=1) (by rw [h0]; exact zrd)
  rw [h0] at h
  exact h
 have h:=zfW (g:=gF) (p:=pF) (o:=[0,1]) (k:=2) (by rw [h1]; exact zmN)
 rw [h1] at h
 exact h
theorem zuU : ∃ side,refR gF pF [0,1,2] = [(2,side)]:=by
 have h0 : accR gF pF [0] = [0]:=zcp (o:=[]) (k:=0) ztO
 have h1 : accR gF pF [0,1] = [0,1]:=by
  have h:=zcp (g:=gF) (p:=pF) (o:=[0]) (k:=1) (by rw [h0]; exact zrd)
  rw [h0] at h
  exact h
 have r0 : refR gF pF [0] = []:=zfc (o:=[]) (k:=0) ztO
 have r1 : refR gF pF [0,1] = []:=by
  have h:=zfc (g:=gF) (p:=pF) (o:=[0]) (k:=1) (by rw [h0]; exact zrd)
  rw [r0] at h
  exact h
 have h:=zh2 (g:=gF) (p:=pF) (o:=[0,1]) (k:=2) (by rw [h1]; exact zmN)
 rw [r1] at h
 exact ⟨_,h⟩
variable {g : Gr} {p : Pol}
theorem h64 (hg : GrOk g) {a : List Int} (h : ∀ x ∈ a,0 ≤ x ∧ x < g.size) : ∀ x ∈ a,0 ≤ x ∧ x < 64:=fun x hx=>by
 have:=h x hx
 have:=hg.1.2.1
 omega
variable {g : Gr} {p : Pol}
variable {g : Gr} {p : Pol}
theorem ForR.uniq {key : Int} {x y : Expl} (hg : GrOk g) (hx : ForR g p (ordL (zal g p.lv) p.seeds) key x) (hy : ForR g p (ordL (zal g p.lv) p.seeds) key y) :
  x.key = y.key ∧ x.acc = y.acc ∧ x.before = y.before ∧ x.side = y.side ∧ x.paths.length = y.paths.length:=by
 obtain ⟨hx1,hx2,i,hi,hik,hib⟩:=hx.at_ hg
 obtain ⟨hy1,hy2,j,hj,hjk,hjb⟩:=hy.at_ hg
 have hij : i = j:=(List.getElem_inj (zbe (zal g p.lv) p.seeds)).1 (hik.trans hjk.symm)
 subst hij
 have hb : x.before = y.before:=hib.trans hjb.symm
 refine ⟨hx1.trans hy1.symm,?_⟩
 by_cases hacc : key ∈ accR g p (ordL (zal g p.lv) p.seeds)
 ·obtain ⟨x1,x2,W,⟨f,g',_,_,hl,_⟩,x3⟩:=hx.yes hacc
  obtain ⟨y1,y2,V,⟨f',g'',_,_,hl',_⟩,y3⟩:=hy.yes hacc
  refine ⟨x1.trans y1.symm,hb,x2.trans y2.symm,?_⟩
  rw [x3,y3,List.length_map,List.length_map]
  rw [hb] at hl
  omega
 ·obtain ⟨x1,x2,R,hR,hs⟩:=hx.no hacc
  obtain ⟨y1,y2,R',hR',hs'⟩:=hy.no hacc
  refine ⟨x1.trans y1.symm,hb,?_,by rw [x2,y2]⟩
  obtain ⟨a,ha,hak,hn⟩:=hR.right _ hs
  obtain ⟨b,hb',hbk,hn'⟩:=hR'.right _ hs'
  simp only at hak hbk hn hn'
  have h1 : a = i:=(List.getElem_inj (zbe (zal g p.lv) p.seeds)).1 (hak.trans hik.symm)
  have h2 : b = i:=(List.getElem_inj (zbe (zal g p.lv) p.seeds)).1 (hbk.trans hik.symm)
  subst h1
  subst h2
  rw [hn.eq,hn'.eq]
def g1 : Gr:=⟨1,[],[]⟩
def p1 : Pol:=⟨[0],[2],1⟩
section
variable {P : Program} {np id : Nat} {h : Nat → Option Ent} {K : AV → List Nat → List (Nat × Option Ent) → Prop} {f : FuncId} {first capt args args' : List AV} {res : AV}
end
end Go.Proofs.YteiabadhhhckfaaGreat
