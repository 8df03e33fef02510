/- Texts of this claim,merged. -/
import Derived.Test.YthmaflecfppoiaaGreatRn14
import Derived.Test.YthmaflecfppoiaaGreatRn12
import Derived.Test.YthmaflecfppoiaaGreatRn13
import Derived.Test.YthmaflecfppoiaaGreatRn11
import Derived.Test.YthmaflecfppoiaaGreatRn6
import Derived.Test.YthmaflecfppoiaaGreatRn9
set_option linter.unusedSimpArgs false
set_option linter.unusedVariables false
set_option linter.unusedSectionVars false
namespace Go.Proofs.YthmaflecfppoiaaGreat
open Go
theorem zqL : toAV (Value.agg #[Value.int IntKind.i64 0,Value.bool false]) = .agg [.sc (.int .i64 0),.sc (.bool false)]:=by simp [toAV,Value.oneCell']
theorem zvU {a b : Int} : Plain (.tup [.I a,.I b]):=.tup _ fun i=>match i with
 | 0=>.sc _
 | 1=>.sc _
 | _ + 2=>.dead
structure zwE where
 j : Nat
 v : Int
def wayB (l : List Stp) (j : Nat) : List Stp:=(l.drop j).reverse
theorem zqM (l : List Stp) (j : Nat) : (wayB l j).length = l.length - j:=by simp [wayB]
theorem zso {l : List Stp} {j : Nat} (h : j < l.length) : wayB l j = wayB l (j + 1) ++ [l[j]]:=by
 unfold wayB
 rw [List.drop_eq_getElem_cons h,List.reverse_cons]
theorem zuH (l : List Stp) : wayB l l.length = []:=by simp [wayB]
theorem zrw {N : Nat} {A : List Ed} {f D b : List Int} {l : List Stp} (hb : Bfs N A f D b) (hl : zlY N A f b l) {j : Nat} (hj : j < l.length) : camF D b (stT A l[j]) = some (zsl l[j]):=by
 obtain ⟨q1,q2,q3,q4,q5,q6⟩:=hl.at_ j hj
 have hD : stT A l[j] ∈ D:=Decidable.byContradiction fun h=>zuM l[j] (by rw [← q6]; exact hb.out _ q4 h)
 unfold camF
 rw [if_pos hD,if_neg q3,q6,zpY]
set_option maxRecDepth 100000 in
set_option maxHeartbeats 8000000 in
theorem zwb (N : Nat) (A : List Ed) (f : List Int) (hn : za3 ⟨N,A⟩) (hf : zaA N A f) :
  ∃ x : Bool × List Int,(if x.1 then zaA N A x.2 ∧ valF A f + 1 ≤ valF A x.2 else x.2 = f ∧ ∀ f',zaA N A f' → valF A f' ≤ valF A f) ∧ zai Tryz.prog zcz [eR N A (.rs 0 0 A.length)] [⟨1,zah f,0⟩] (.B x.1) [some ⟨1,zah x.2,0⟩]:=by
 refine zhh.acallsX (args:=[eR N A (.rs 0 0 A.length)]) (hs:=[⟨1,zah f,0⟩]) (fun x=>.B x.1) (fun x=>[some ⟨1,zah x.2,0⟩]) (fun x : Bool × List Int=>if x.1 then zaA N A x.2 ∧ valF A f + 1 ≤ valF A x.2 else x.2 = f ∧ ∀ f',zaA N A f' → valF A f' ≤ valF A f) (nbz rfl) (nbz rfl) (fun _=>by simp) ?_
 show awp _ 1 _ _ ⟨86,[(0,eR N A (.rs 0 0 A.length))],[(0,some ⟨1,zah f,0⟩)],16⟩
 have hno:=zeN hn
 have hfl:=hf.fit.len
 have hfit:=zc1.1 hf.fit
 obtain ⟨⟨D,b,R⟩,⟨hb,hcl,hR⟩,hcall⟩:=zrh N A f hn hf.fit
 simp only at hb hcl hR hcall
 have hroom:=fun s hs=>zto N A f s hn hf.fit hs
 obtain ⟨hn0,hn1,hal,hav⟩:=hn
 simp only at hn0 hn1 hal hav
 have htake : ∀ g : Int → List AV,List.take A.length (List.map g f) = List.map g f:=fun g=>List.take_of_length_le (by simp; omega)
 have hfind:=hR.is.find
 have hsome:=zho D b 1
 refine zaa ⟨86,[(1,.pt 16 0 0)],[(0,some ⟨1,zah f,0⟩),(16,some ⟨4,[rC N A (.rs 0 0 A.length)],0⟩)],32⟩ rfl ?_ ?_
 ·simp
  exact LeI [(0,0),(16,16)] []
 refine zaa ⟨86,[(1,.pt 16 0 0),(3,.mp 60)],[(0,some ⟨1,zah f,0⟩),(16,some ⟨4,[rC N A (.rs 0 0 A.length)],0⟩),(60,some ⟨0,R,0⟩)],100⟩ rfl ?_ ?_
 ·simp
  refine ziO [0] hcall (by simp [fcd,htake,hfl]) (.mp _) (hR.plain _ _) ?_
  simp
  exact Le.go [(0,0),(16,16),(40,60)] [] rfl rfl (by simp) (by simp [fcd,hR.conv'])
 refine zab ?_
 have hgd : ∃ u v,(camF D b 1).getD (toAV (Value.agg #[Value.int IntKind.i64 0,Value.bool false])) = .agg [.sc u,.sc v]:=by
  cases hc : camF D b 1 with
  | none=>exact ⟨_,_,zqL⟩
  | some x =>
    obtain ⟨u,v,rfl⟩:=zf6 _ _ _ _ hc
    exact ⟨u,v,rfl⟩
 refine zaa ⟨86,[(1,.pt 16 0 0),(3,.mp 60),(5,.B (decide ((1 : Int) ∈ D)))],[(0,some ⟨1,zah f,0⟩),(16,some ⟨4,[rC N A (.rs 0 0 A.length)],0⟩),(60,some ⟨0,R,0⟩)],200⟩ rfl ?_ ?_
 ·obtain ⟨u,v,huv⟩:=hgd
  simp [hfind,hsome,huv]
  exact Le.go [(0,0),(16,16),(60,60)] [] rfl rfl (by simp) (by simp [fcd,hR.conv'])
 refine zaa ⟨86,[(1,.pt 16 0 0),(3,.mp 60),(22,.B (!decide ((1 : Int) ∈ D)))],[(0,some ⟨1,zah f,0⟩),(16,some ⟨4,[rC N A (.rs 0 0 A.length)],0⟩),(60,some ⟨0,R,0⟩)],300⟩ rfl ?_ ?_
 ·simp
  exact Le.go [(0,0),(16,16),(60,60)] [] rfl rfl (by simp) (by simp [fcd,hR.conv'])
 refine zac _ rfl (fun h5=>?_) fun h5=>?_
 ·have h1D : (1 : Int) ∉ D:=by simpa using h5
  refine zaa ⟨86,[(2,.B false)],[(0,some ⟨1,zah f,0⟩)],400⟩ rfl ?_ ?_
  ·simp
   exact LeI [(0,0)] []
  refine zag ?_
  exact zfU.mk (.inr rfl) (false,f) ⟨rfl,(zgG hno hf hb.mem0 h1D hcl).2⟩ (zak.k1 rfl (by simp) (by simp [fcd]))
 have h1D : (1 : Int) ∈ D:=by simpa using h5
 obtain ⟨l,hl⟩:=hb.chain h1D
 have hle:=zpZ hl.way
 have hlr : ∀ s ∈ l,s.1 < f.length:=fun s hs=>by
  obtain ⟨i,hi,rfl⟩:=List.mem_iff_getElem.1 hs
  have:=(hl.at_ i hi).1
  omega
 have hl0 : 0 < l.length:=by
  cases hll : l with
  | nil=>rw [hll] at hle; cases hle
  | cons=>simp
 have hlA : l.length ≤ A.length:=by
  have:=zbC (a:=l.map fun s=>(s.1 : Int)) (b:=(List.range A.length).map fun i : Nat=>(i : Int)) (by
   have:=hl.nodup
   have e : (l.map fun s=>(s.1 : Int)) = (l.map (·.1)).map fun i : Nat=>(i : Int):=by simp
   rw [e]
   exact zec (fun i j h=>by have h2 : (i : Int) = j:=h; omega) this) fun x hx=>by
   obtain ⟨s,hs,rfl⟩:=List.mem_map.1 hx
   exact List.mem_map.2 ⟨s.1,List.mem_range.2 (by have:=hlr s hs; omega),rfl⟩
  rw [List.length_map,List.length_map,List.length_range] at this
  exact this
 have hcam:=fun j (hj : j < l.length)=>zrw hb hl hj
 refine zae ?_
 refine zaa ⟨86,[(1,.pt 16 0 0),(3,.mp 60),(6,.rs 61 0 0)],[(0,some ⟨1,zah f,0⟩),(16,some ⟨4,[rC N A (.rs 0 0 A.length)],0⟩),(60,some ⟨0,R,0⟩),(61,some ⟨2,[],0⟩)],400⟩ rfl ?_ ?_
 ·simp
  refine Le.lst [(0,0),(16,16),(60,60)] [] [(61,2)] rfl (by simp) (by simp) (by simp) (by simp) (by simp) (by simp) (by simp) (by simp [Up]) ?_
  simp [fcd,hR.conv']
  exact ⟨zaH.rfl' (Nat.zero_le _),zaH.rfl' (Nat.zero_le _),zaH.rfl' (Nat.zero_le _)⟩
 refine zaa ⟨86,[(1,.pt 16 0 0),(3,.mp 60),(6,.rs 61 0 0),(7,.I 1048576)],[(0,some ⟨1,zah f,0⟩),(16,some ⟨4,[rC N A (.rs 0 0 A.length)],0⟩),(60,some ⟨0,R,0⟩),(61,some ⟨2,[],0⟩)],500⟩ rfl ?_ ?_
 ·simp
  exact Le.go [(0,0),(16,16),(60,60),(61,61)] [] rfl rfl (by simp) (by simp [fcd,hR.conv'])
 refine zaL (ι:=Int) (fun v=>⟨86,[(1,.pt 16 0 0),(6,.rs 61 0 l.length),(7,.I v)],[(0,some ⟨1,zah f,0⟩),(16,some ⟨4,[rC N A (.rs 0 0 A.length)],0⟩),(61,some ⟨2,(wayB l 0).map zbA,0⟩)],600⟩) (fun v=>1 ≤ v ∧ v ≤ 1048576 ∧ zmQ A f l 0 v) ?_ fun v hv=>?_
 ·refine zaa ⟨86,[(1,.pt 16 0 0),(3,.mp 60),(6,.rs 61 0 0),(7,.I 1048576),(8,.I 1)],[(0,some ⟨1,zah f,0⟩),(16,some ⟨4,[rC N A (.rs 0 0 A.length)],0⟩),(60,some ⟨0,R,0⟩),(61,some ⟨2,[],0⟩)],600⟩ rfl ?_ ?_
  ·simp
   exact Le.go [(0,0),(16,16),(60,60),(61,61)] [] rfl rfl (by simp) (by simp [fcd,hR.conv'])
  refine zaf ?_
  refine zao (ι:=zwE) (fun s=>⟨86,[(1,.pt 16 0 0),(3,.mp 60),(6,.rs 61 0 (l.length - s.j)),(7,.I s.v),(8,.I (endW A 0 l s.j))],[(0,some ⟨1,zah f,0⟩),(16,some ⟨4,[rC N A (.rs 0 0 A.length)],0⟩),(60,some ⟨0,R,0⟩),(61,some ⟨2,(wayB l s.j).map zbA,0⟩)],600⟩)
   (fun s=>s.j ≤ l.length ∧ 1 ≤ s.v ∧ s.v ≤ 1048576 ∧ zmQ A f l s.j s.v) (fun s=>s.j) ⟨l.length,1048576⟩ ⟨Nat.le_refl _,by simp,by simp,by simp [zmQ]⟩ (Le.go [(0,0),(16,16),(60,60),(61,61)] [] rfl rfl (by simp [hle]) (by simp [fcd,hR.conv',zuH])) ?_
  rintro ⟨j,v⟩ ⟨hj,hv1,hv2,hv3⟩
  simp only at hj hv1 hv2 hv3
  refine zab ?_
  refine zaa ⟨86,[(1,.pt 16 0 0),(3,.mp 60),(6,.rs 61 0 (l.length - j)),(7,.I v),(8,.I (endW A 0 l j)),(24,.B (!decide (endW A 0 l j = 0)))],[(0,some ⟨1,zah f,0⟩),(16,some ⟨4,[rC N A (.rs 0 0 A.length)],0⟩),(60,some ⟨0,R,0⟩),(61,some ⟨2,(wayB l j).map zbA,0⟩)],700⟩ rfl ?_ ?_
  ·simp
   exact Le.go [(0,0),(16,16),(60,60),(61,61)] [] rfl rfl (by simp <;> exact wkB (by rw [Bool.eq_iff_iff]; simp)) (by simp [fcd,hR.conv'])
  refine zac _ rfl (fun h13=>?_) fun h13=>?_
  ·simp at h13
   obtain ⟨i,rfl⟩ : ∃ i,j = i + 1:=by
    cases j with
    | zero=>exact absurd rfl h13
    | succ i=>exact ⟨i,rfl⟩
   have hi : i < l.length:=by omega
   obtain ⟨q1,q2,q3,q4,q5,q6⟩:=hl.at_ i hi
   have hfr:=hl.from_ i hi
   have hca:=hcam i hi
   have hws:=zso hi
   have hwl:=zqM l (i + 1)
   obtain ⟨s,hs⟩ : ∃ s,s = l[i]:=⟨_,rfl⟩
   have hk : endW A 0 l (i + 1) = stT A s:=by
    show stT A (l.getD i (0,false)) = _
    rw [List.getD_eq_getElem?_getD,List.getElem?_eq_getElem hi,hs]
    rfl
   have hvn : ∀ v' : Int,v' ≤ v → v' ≤ zbn A f s → zmQ A f l i v':=fun v' h1 h2 t ht=>by
    rw [List.drop_eq_getElem_cons hi,← hs] at ht
    rcases List.mem_cons.1 ht with rfl | ht
    ·exact h2
    ·exact Int.le_trans h1 (hv3 t ht)
   rw [← hs] at q1 q2 q3 q4 q5 q6 hfr hca hws
   have hrm:=hroom s q1
   have hrmb : zbn A f s ≤ 1048576:=by
    have h1:=hfit.2 s.1 q1
    have h2:=(hav _ (zd3 q1)).2.2.2.2.2.2.2.2
    unfold zbn
    split <;> omega
   rw [hk]
   obtain ⟨k,hkd⟩ : ∃ k,k = stT A s:=⟨_,rfl⟩
   obtain ⟨rm,hrd⟩ : ∃ rm,rm = zbn A f s:=⟨_,rfl⟩
   obtain ⟨W,hW⟩ : ∃ W,W = wayB l (i + 1):=⟨_,rfl⟩
   rw [← hkd] at q3 q4 q5 q6 hca hrm ⊢
   rw [← hrd] at q2 hrm hrmb hvn
   rw [← hW] at hws hwl
   have hAe:=zom q1
   have hlen : l.length - (i + 1) = W.length:=by omega
   rw [hlen,← hW]
   refine zae ?_
   refine zaf ?_
   refine zaa ⟨86,[(1,.pt 16 0 0),(3,.mp 60),(6,.rs 61 0 W.length),(7,.I v),(9,.pv (zbA s))],[(0,some ⟨1,zah f,0⟩),(16,some ⟨4,[rC N A (.rs 0 0 A.length)],0⟩),(60,some ⟨0,R,0⟩),(61,some ⟨2,W.map zbA,0⟩)],800⟩ rfl ?_ ?_
   ·simp [hfind,hca,zsl]
    exact Le.go [(0,0),(16,16),(60,60),(61,61)] [724] rfl rfl (by simp) (by simp [fcd,hR.conv'])
   refine zaa ⟨86,[(1,.pt 16 0 0),(3,.mp 60),(6,.rs 61 0 W.length),(7,.I v),(9,.pv (zbA s)),(10,.I rm)],[(0,some ⟨1,zah f,0⟩),(16,some ⟨4,[rC N A (.rs 0 0 A.length)],0⟩),(60,some ⟨0,R,0⟩),(61,some ⟨2,W.map zbA,0⟩)],900⟩ rfl ?_ ?_
   ·simp
    refine zj6 [0] hrm (by simp [fcd,htake,hfl]) zvU ?_
    simp
    exact Le.go [(0,0),(16,16),(60,60),(61,61)] [] rfl rfl (by simp) (by simp [fcd,hR.conv'])
   refine zaa ⟨86,[(1,.pt 16 0 0),(3,.mp 60),(6,.rs 62 0 (W.length + 1)),(7,.I (if rm < v then rm else v)),(9,.pv (zbA s))],[(0,some ⟨1,zah f,0⟩),(16,some ⟨4,[rC N A (.rs 0 0 A.length)],0⟩),(60,some ⟨0,R,0⟩),(62,some ⟨2,(W ++ [s]).map zbA,0⟩)],1000⟩ rfl ?_ ?_
   ·have hmw : ∀ g : Stp → List AV,List.take W.length (List.map g W) = List.map g W:=fun g=>List.take_of_length_le (by simp)
    simp [hmw]
    exact ⟨by omega,by omega,Le.go [(0,0),(16,16),(60,60),(924,62)] [] rfl rfl (by simp) (by simp [fcd,hR.conv'])⟩
   have hst : stF A s = if s.2 then (arcD A s.1).t else (arcD A s.1).f:=rfl
   have hqi : (s.1 : Int) < A.length:=by omega
   refine zaa ⟨86,[(1,.pt 16 0 0),(3,.mp 60),(6,.rs 62 0 (W.length + 1)),(7,.I (if rm < v then rm else v)),(8,.I (arcD A s.1).f),(9,.pv (zbA s))],[(0,some ⟨1,zah f,0⟩),(16,some ⟨4,[rC N A (.rs 0 0 A.length)],0⟩),(60,some ⟨0,R,0⟩),(62,some ⟨2,(W ++ [s]).map zbA,0⟩)],1100⟩ rfl ?_ ?_
   ·have hAe' : A[s.1] = arcD A s.1:=by rw [List.getElem?_eq_getElem q1] at hAe; exact Option.some.inj hAe
    simp [q1,hAe']
    exact Le.go [(0,0),(16,16),(60,60),(62,62)] [] rfl rfl (by simp) (by simp [fcd,hR.conv'])
   refine zaa ⟨86,[(1,.pt 16 0 0),(3,.mp 60),(6,.rs 62 0 (W.length + 1)),(7,.I (if rm < v then rm else v)),(8,.I (arcD A s.1).f),(9,.pv (zbA s)),(50,.B s.2)],[(0,some ⟨1,zah f,0⟩),(16,some ⟨4,[rC N A (.rs 0 0 A.length)],0⟩),(60,some ⟨0,R,0⟩),(62,some ⟨2,(W ++ [s]).map zbA,0⟩)],1200⟩ rfl ?_ ?_
   ·simp
    exact Le.go [(0,0),(16,16),(60,60),(62,62)] [] rfl rfl (by simp) (by simp [fcd,hR.conv'])
   have hwl2 : l.length - i = W.length + 1:=by omega
   have hinv : i ≤ l.length ∧ 1 ≤ (if rm < v then rm else v) ∧ (if rm < v then rm else v) ≤ 1048576 ∧ zmQ A f l i (if rm < v then rm else v):=⟨by omega,by split <;> omega,by split <;> omega,hvn _ (by split <;> omega) (by split <;> omega)⟩
   refine zac _ rfl (fun h16=>?_) fun h16=>?_
   ·have hAe' : A[s.1] = arcD A s.1:=by rw [List.getElem?_eq_getElem q1] at hAe; exact Option.some.inj hAe
    rw [if_pos h16] at hst
    refine zar rfl ?_
    simp [q1,hAe']
    exact ⟨⟨i,if rm < v then rm else v⟩,hinv,Nat.lt_succ_self i,Le.go [(0,0),(16,16),(60,60),(62,61)] [] rfl rfl (by simp [hwl2,← hfr,hst]) (by simp [fcd,hR.conv',hws])⟩
   ·rw [if_neg (by simp [h16])] at hst
    refine zae ?_
    exact ⟨⟨i,if rm < v then rm else v⟩,hinv,Nat.lt_succ_self i,Le.go [(0,0),(16,16),(60,60),(62,61)] [] rfl rfl (by simp [hwl2,← hfr,hst]) (by simp [fcd,hR.conv',hws])⟩
  simp at h13
  obtain rfl : j = 0:=by
   cases j with
   | zero=>rfl
   | succ i =>
     have h2:=(hl.at_ i (by omega)).2.2.1
     refine absurd ?_ h2
     have h3 : endW A 0 l (i + 1) = stT A (l.getD i (0,false)):=rfl
     rw [h3,List.getD_eq_getElem?_getD,List.getElem?_eq_getElem (by omega)] at h13
     exact h13
  refine zam ?_
  refine hit ?_
  exact ⟨v,⟨hv1,hv2,hv3⟩,LeI [(0,0),(16,16),(61,61)] []⟩
 obtain ⟨hv1,hv2,hv3⟩:=hv
 have hv3' : ∀ s ∈ l,v ≤ zbn A f s:=fun s hs=>hv3 s (by simpa using hs)
 obtain ⟨hf2,hval⟩:=hl.push hno hf (by omega) hv3'
 have hWl:=zqM l 0
 obtain ⟨W,hW⟩ : ∃ W,W = wayB l 0:=⟨_,rfl⟩
 rw [← hW] at hWl ⊢
 have hWl : l.length = W.length:=by omega
 refine zab ?_
 refine zaa ⟨86,[(1,.pt 16 0 0),(7,.I v),(59,.vs 2 false (W.map zbA)),(60,.I W.length),(61,.I 0)],[(0,some ⟨1,zah f,0⟩),(16,some ⟨4,[rC N A (.rs 0 0 A.length)],0⟩)],700⟩ rfl ?_ ?_
 ·have hmw : ∀ g : Stp → List AV,List.take W.length (List.map g W) = List.map g W:=fun g=>List.take_of_length_le (by simp)
  simp
  exact Le.go [(0,0),(16,16)] [61] rfl rfl (by simp [hWl,hmw,fcd]) (by simp [fcd])
 refine zaf ?_
 refine zao (ι:=Nat) (fun i=>⟨86,[(1,.pt 16 0 0),(7,.I v),(59,.vs 2 false (W.map zbA)),(60,.I W.length),(61,.I i)],[(0,some ⟨1,zah (zd0 v f l (l.length - i)),0⟩),(16,some ⟨4,[rC N A (.rs 0 0 A.length)],0⟩)],700⟩) (fun i=>i ≤ W.length) (fun i=>W.length - i) 0 (Nat.zero_le _) (Le.go [(0,0),(16,16)] [] rfl rfl (by simp) (by simp [fcd,znL])) ?_
 intro i hi
 have hFl0 : (zd0 v f l (l.length - i)).length = A.length:=by rw [zoc,hfl]
 refine zaa ⟨86,[(1,.pt 16 0 0),(7,.I v),(59,.vs 2 false (W.map zbA)),(60,.I W.length),(61,.I i),(62,.B (decide (i < W.length)))],[(0,some ⟨1,zah (zd0 v f l (l.length - i)),0⟩),(16,some ⟨4,[rC N A (.rs 0 0 A.length)],0⟩)],800⟩ rfl ?_ ?_
 ·simp
  exact LeI [(0,0),(16,16)] []
 refine zab ?_
 refine zac _ rfl (fun h20=>?_) fun h20=>?_
 ·simp at h20
  have hw1 : IntKind.i64.wrap ((i : Int) + 1) = (i : Int) + 1:=w64 (by omega) (by omega)
  obtain ⟨j,hj⟩ : ∃ j,l.length - i = j + 1:=⟨l.length - i - 1,by omega⟩
  have hjl : j < l.length:=by omega
  have hj2 : l.length - (i + 1) = j:=by omega
  have hWi : W[i] = l[j]:=by
   have : W[i]? = some l[j]:=by
    rw [hW]
    unfold wayB
    rw [List.drop_zero,List.getElem?_reverse (by omega),List.getElem?_eq_getElem (by omega)]
    congr 1
    congr 1
    omega
   rw [List.getElem?_eq_getElem h20] at this
   exact Option.some.inj this
  rw [hj] at hFl0 ⊢
  obtain ⟨q1,q2,q3,q4,q5,q6⟩:=hl.at_ j hjl
  have hstep:=zlX (v:=v) (f:=f) j hjl
  have hget:=znV (v:=v) hl.nodup hlr j hjl
  have hroomj:=hv3' _ (List.getElem_mem hjl)
  obtain ⟨s,hs⟩ : ∃ s,s = l[j]:=⟨_,rfl⟩
  rw [← hs] at q1 hstep hget hroomj hWi
  obtain ⟨F,hF⟩ : ∃ F,F = zd0 v f l (j + 1):=⟨_,rfl⟩
  rw [← hF] at hFl0 hget hstep ⊢
  have hfa:=hfit.2 s.1 q1
  have heo:=(hav _ (zd3 q1)).2.2.2.2.2.2.2.2
  obtain ⟨w,hw⟩ : ∃ w,w = f.getD s.1 0:=⟨_,rfl⟩
  have haf : s.1 < F.length:=by omega
  have hg2 : F[s.1] = w:=by
   have : F[s.1]? = some w:=by rw [hw,← hget,List.getD_eq_getElem?_getD,List.getElem?_eq_getElem haf,Option.getD_some]
   rw [List.getElem?_eq_getElem haf] at this
   exact Option.some.inj this
  rw [← hw] at hfa
  have hset : zd0 v f l j = F.set s.1 (w + if s.2 then -v else v):=by rw [hstep]; unfold zht; rw [hget,← hw]
  have hro : zbn A f s = if s.2 then w else (arcD A s.1).v - w:=by unfold zbn; rw [← hw]
  refine zae ?_
  refine zab ?_
  refine zaf ?_
  refine zaa ⟨86,[(1,.pt 16 0 0),(7,.I v),(13,.pv (zbA s)),(59,.vs 2 false (W.map zbA)),(60,.I W.length),(61,.I i)],[(0,some ⟨1,zah F,0⟩),(16,some ⟨4,[rC N A (.rs 0 0 A.length)],0⟩)],900⟩ rfl ?_ ?_
  ·simp [h20,hWi]
   exact LeI [(0,0),(16,16)] [816]
  refine zaa ⟨86,[(1,.pt 16 0 0),(7,.I v),(13,.pv (zbA s)),(59,.vs 2 false (W.map zbA)),(60,.I W.length),(61,.I i),(66,.B s.2)],[(0,some ⟨1,zah F,0⟩),(16,some ⟨4,[rC N A (.rs 0 0 A.length)],0⟩)],1000⟩ rfl ?_ ?_
  ·simp
   exact LeI [(0,0),(16,16)] []
  have hsA : (s.1 : Int) < A.length:=by omega
  refine zac _ rfl (fun h16=>?_) fun h16=>?_
  ·rw [if_pos h16] at hset hro
   have hw2 : IntKind.i64.wrap (w - v) = w + -v:=by rw [w64 (by omega) (by omega)]; omega
   refine zar rfl ?_
   simp [q1,haf,hg2,hw2,zau]
   refine zar rfl ?_
   simp
   exact ⟨i + 1,by omega,by omega,Le.go [(0,0),(16,16)] [] rfl rfl (by simp [hw1]) (by simp [fcd,hj2,hset])⟩
  ·rw [if_neg (by simp [h16])] at hset hro
   have hw2 : IntKind.i64.wrap (w + v) = w + v:=w64 (by omega) (by omega)
   refine zar rfl ?_
   simp [q1,haf,hg2,hw2,zau]
   refine zar rfl ?_
   simp
   exact ⟨i + 1,by omega,by omega,Le.go [(0,0),(16,16)] [] rfl rfl (by simp [hw1]) (by simp [fcd,hj2,hset])⟩
 simp at h20
 obtain rfl : i = W.length:=by omega
 rw [show l.length - W.length = 0 by omega]
 refine zam ?_
 refine hit ?_
 refine zaa ⟨86,[(2,.B true)],[(0,some ⟨1,zah (zd0 v f l 0),0⟩)],900⟩ rfl ?_ ?_
 ·simp
  exact LeI [(0,0)] []
 refine zag ?_
 exact zfU.mk (.inr rfl) (true,zd0 v f l 0) ⟨hf2,by rw [hval]; omega⟩ (zak.k1 rfl (by simp) (by simp [fcd]))
theorem zak.k2n {rs : List (Nat × Option (Bool × Nat))} {st : St} {vs : List AV} {res : AV} {e0 e1 e : Ent} (i : Nat) (hi : 2 ≤ i) (h1 : zfN st rs = some vs) (hw : Wk (conv [(0,0),(1,1),(i,2)] [] st.hp 4 (resV vs)) res)
  (h0 : (st.hp 0).map (zaz [(0,0),(1,1),(i,2)] [] st.hp 4) = some e0) (h2 : (st.hp 1).map (zaz [(0,0),(1,1),(i,2)] [] st.hp 4) = some e1) (he : (st.hp i).map (zaz [(0,0),(1,1),(i,2)] [] st.hp 4) = some e) : zak rs 2 st res [some e0,some e1,some e]:=by
 have e2 : List.range 2 ++ [i] = [0,1,i]:=rfl
 refine ⟨vs,h1,[i],[],?_,by simpa using hi,by simp,?_,?_⟩
 ·rw [e2]
  simp
  omega
 ·rw [e2]
  exact hw
 ·rw [e2]
  show [_,_,_] = _
  have h0' : Option.map (zaz (([0,1,i] : List Nat).zipIdx) [] st.hp 4) (st.hp 0) = some e0:=h0
  have h2' : Option.map (zaz (([0,1,i] : List Nat).zipIdx) [] st.hp 4) (st.hp 1) = some e1:=h2
  have he' : Option.map (zaz (([0,1,i] : List Nat).zipIdx) [] st.hp 4) (st.hp i) = some e:=he
  simp only [List.map_cons,List.map_nil,h0',h2',he']
theorem zak.k2 {rs : List (Nat × Option (Bool × Nat))} {st : St} {vs : List AV} {res : AV} {e0 e1 : Ent} (h1 : zfN st rs = some vs) (hw : Wk (conv [(0,0),(1,1)] [] st.hp 4 (resV vs)) res)
  (h0 : (st.hp 0).map (zaz [(0,0),(1,1)] [] st.hp 4) = some e0) (h2 : (st.hp 1).map (zaz [(0,0),(1,1)] [] st.hp 4) = some e1) : zak rs 2 st res [some e0,some e1] :=
 ⟨vs,h1,[],[],by decide,by simp,by simp,hw,by
  show [_,_] = _
  have h0' : Option.map (zaz ((List.range 2 ++ [] : List Nat).zipIdx) [] st.hp 4) (st.hp 0) = some e0:=h0
  have h2' : Option.map (zaz ((List.range 2 ++ [] : List Nat).zipIdx) [] st.hp 4) (st.hp 1) = some e1:=h2
  simp only [h0',h2']⟩
set_option maxRecDepth 100000 in
theorem zmE {N : Nat} {D b : List Int} {R : List (List AV)} (hR : MapF R (camF D b)) (k : Int) : zai Tryz.prog zaK [.I k,.pt 0 0 0] [⟨1,[[.mp 1]],0⟩,⟨0,R,0⟩] (.B (decide (k ∈ D))) [some ⟨1,[[.mp 1]],0⟩,some ⟨0,R,0⟩]:=by
 refine zjt.acalls (nbz rfl) (nbz rfl) (Nat.le_refl _) ?_
 show awp _ 2 _ _ ⟨13,[(0,.I k),(1,.pt 0 0 0)],[(0,some ⟨1,[[.mp 1]],0⟩),(1,some ⟨0,R,0⟩)],16⟩
 have hfind:=hR.is.find
 have hsome:=zho D b k
 have hgd : ∃ u v,(camF D b k).getD (toAV (Value.agg #[Value.int IntKind.i64 0,Value.bool false])) = .agg [.sc u,.sc v]:=by
  cases hc : camF D b k with
  | none=>exact ⟨_,_,zqL⟩
  | some x =>
    obtain ⟨u,v,rfl⟩:=zf6 _ _ _ _ hc
    exact ⟨u,v,rfl⟩
 obtain ⟨u,v,huv⟩:=hgd
 refine rk (s:=?s1) [0,1] [0,1] rfl ?o1 ?q1
 case o1=>simp; rfl
 refine zaa ⟨13,[(5,.B (decide (k ∈ D)))],[(0,some ⟨1,[[.mp 1]],0⟩),(1,some ⟨0,R,0⟩)],200⟩ rfl ?_ ?_
 ·simp [hfind,hsome,huv]
  exact Le.go [(0,0),(1,1)] [] rfl rfl (by simp) (by simp [hR.conv'])
 refine zaa ⟨13,[(3,.B (decide (k ∈ D)))],[(0,some ⟨1,[[.mp 1]],0⟩),(1,some ⟨0,R,0⟩)],300⟩ rfl ?_ ?_
 ·simp
  exact Le.go [(0,0),(1,1)] [] rfl rfl (by simp) (by simp [hR.conv'])
 refine zag ?_
 exact ⟨.inr rfl,zak.k2 rfl (by simp) (by simp) (by simp [hR.conv'])⟩
set_option maxRecDepth 100000 in
set_option maxHeartbeats 1000000 in
theorem ztb {D b : List Int} {R : List (List AV)} (hR : MapF R (camF D b)) (N : Nat) (hN : N ≤ 1000000) :
  zai Tryz.prog zb9 [.I N,.fn (.func zaK) [] [.pt 0 0 0]] [⟨1,[[.mp 1]],0⟩,⟨0,R,0⟩] (.rs 2 0 (inD D N).length) [some ⟨1,[[.mp 1]],0⟩,some ⟨0,R,0⟩,some ⟨1,zah (inD D N),0⟩]:=by
 refine zjd.acalls (nbz rfl) (nbz rfl) (by simp) ?_
 show awp _ 2 _ _ ⟨20,[(0,.I N),(1,.fn (.func zaK) [] [.pt 0 0 0])],[(0,some ⟨1,[[.mp 1]],0⟩),(1,some ⟨0,R,0⟩)],16⟩
 refine zaa ⟨20,[(0,.I N),(1,.fn (.func zaK) [] [.pt 0 0 0])],[(0,some ⟨1,[[.mp 1]],0⟩),(1,some ⟨0,R,0⟩)],24⟩ rfl ?_ ?_
 ·simp
  exact Le.go [(0,0),(1,1)] [] rfl rfl (by simp) (by simp [hR.conv'])
 refine zaa ⟨20,[(0,.I N),(1,.fn (.func zaK) [] [.pt 0 0 0]),(5,.rs 50 0 0)],[(0,some ⟨1,[[.mp 1]],0⟩),(1,some ⟨0,R,0⟩),(50,some ⟨1,[],0⟩)],100⟩ rfl ?_ ?_
 ·simp
  refine Le.lst [(0,0),(1,1)] [] [(50,1)] rfl (by simp) (by simp) (by simp) (by simp) (by simp) (by simp) (by simp) (by simp [Up,conv]) ?_
  simp [hR.conv']
  exact ⟨zaH.rfl' (Nat.zero_le _),zaH.rfl' (Nat.zero_le _)⟩
 refine zab ?_
 refine zaa ⟨20,[(1,.fn (.func zaK) [] [.pt 0 0 0]),(5,.rs 50 0 0),(7,.I N),(8,.I 0)],[(0,some ⟨1,[[.mp 1]],0⟩),(1,some ⟨0,R,0⟩),(50,some ⟨1,[],0⟩)],200⟩ rfl ?_ ?_
 ·simp
  exact Le.go [(0,0),(1,1),(50,50)] [] rfl rfl (by simp [conv]) (by simp [hR.conv'])
 refine zaf ?_
 refine zao (ι:=Nat) (fun k=>⟨20,[(1,.fn (.func zaK) [] [.pt 0 0 0]),(5,.rs 50 0 (inD D k).length),(7,.I N),(8,.I k)],[(0,some ⟨1,[[.mp 1]],0⟩),(1,some ⟨0,R,0⟩),(50,some ⟨1,zah (inD D k),0⟩)],200⟩) (fun k=>k ≤ N) (fun k=>N - k) 0 (Nat.zero_le _) (Le.go [(0,0),(1,1),(50,50)] [] rfl rfl (by simp [conv,inD]) (by simp [hR.conv',inD])) ?_
 intro k hk
 have hwl:=zqB D k
 refine zaa ⟨20,[(1,.fn (.func zaK) [] [.pt 0 0 0]),(5,.rs 50 0 (inD D k).length),(7,.I N),(8,.I k),(9,.B (decide (k < N)))],[(0,some ⟨1,[[.mp 1]],0⟩),(1,some ⟨0,R,0⟩),(50,some ⟨1,zah (inD D k),0⟩)],300⟩ rfl ?_ ?_
 ·simp
  exact Le.go [(0,0),(1,1),(50,50)] [] rfl rfl (by simp [conv]) (by simp [hR.conv',fcd])
 refine zab ?_
 refine zac _ rfl (fun h=>?_) fun h=>?_
 ·simp at h
  have hw2 : IntKind.i64.wrap ((k : Int) + 1) = (k : Int) + 1:=w64 (by omega) (by omega)
  have hnext:=zng D k
  refine zae ?_
  refine zaL (ι:=Unit) (fun _=>⟨20,[(1,.fn (.func zaK) [] [.pt 0 0 0]),(5,.rs 50 0 (inD D (k + 1)).length),(7,.I N),(8,.I k)],[(0,some ⟨1,[[.mp 1]],0⟩),(1,some ⟨0,R,0⟩),(50,some ⟨1,zah (inD D (k + 1)),0⟩)],1000⟩) (fun _=>True) ?_ fun _ _=>?_
  ·rw [hnext]
   obtain ⟨W,hW⟩ : ∃ W,W = inD D k:=⟨_,rfl⟩
   rw [← hW] at hwl ⊢
   refine zaf ?_
   refine zaa ⟨20,[(1,.fn (.func zaK) [] [.pt 0 0 0]),(5,.rs 50 0 W.length),(6,.I k),(7,.I N),(8,.I k)],[(0,some ⟨1,[[.mp 1]],0⟩),(1,some ⟨0,R,0⟩),(50,some ⟨1,zah W,0⟩)],400⟩ rfl ?_ ?_
   ·simp
    exact Le.go [(0,0),(1,1),(50,50)] [] rfl rfl (by simp [conv]) (by simp [hR.conv',fcd])
   refine zaa ⟨20,[(1,.fn (.func zaK) [] [.pt 0 0 0]),(5,.rs 50 0 W.length),(6,.I k),(7,.I N),(8,.I k),(13,.B (decide ((k : Int) ∈ D)))],[(0,some ⟨1,[[.mp 1]],0⟩),(1,some ⟨0,R,0⟩),(50,some ⟨1,zah W,0⟩)],500⟩ rfl ?_ ?_
   ·simp
    refine zl6 (i:=0) (j:=1) (by decide) rfl rfl (by simp) (by simp [hR.conv']) (zmE (N:=N) hR k) (by simp) (by simp) ?_
    simp [hR.conv']
    exact Le.go [(0,0),(1,1),(50,50)] [] rfl rfl (by simp [conv]) (by simp [hR.conv',fcd])
   refine zac _ rfl (fun h5=>?_) fun h5=>?_
   ·rw [decide_eq_true_eq] at h5
    rw [if_pos h5]
    have hmw : ∀ g : Int → List AV,List.take W.length (List.map g W) = List.map g W:=fun g=>List.take_of_length_le (by simp)
    refine zar rfl ?_
    simp [hmw]
    exact ⟨by omega,by omega,Le.go [(0,0),(1,1),(524,50)] [] rfl rfl (by simp [conv]) (by simp [hR.conv',fcd])⟩
   ·rw [decide_eq_false_iff_not] at h5
    rw [if_neg h5,List.append_nil]
    refine zae ?_
    exact ⟨(),trivial,Le.go [(0,0),(1,1),(50,50)] [] rfl rfl (by simp [conv]) (by simp [hR.conv',fcd])⟩
  refine zar rfl ?_
  simp [hw2]
  exact ⟨k + 1,by omega,by omega,Le.go [(0,0),(1,1),(50,50)] [] rfl rfl (by simp [conv,hw2]) (by simp [hR.conv',fcd])⟩
 simp at h
 obtain rfl : k = N:=by omega
 refine zam ?_
 refine hit ?_
 refine zaa ⟨20,[(4,.rs 50 0 (inD D k).length)],[(0,some ⟨1,[[.mp 1]],0⟩),(1,some ⟨0,R,0⟩),(50,some ⟨1,zah (inD D k),0⟩)],400⟩ rfl ?_ ?_
 ·simp
  exact Le.go [(0,0),(1,1),(50,50)] [] rfl rfl (by simp) (by simp [hR.conv',fcd])
 refine zag ?_
 exact ⟨.inr rfl,zak.k2n 50 (by omega) rfl (by simp) (by simp) (by simp [hR.conv']) (by simp [fcd])⟩
section
variable {N : Nat} {A : List Ed} {f : List Int}
theorem ztD (hn : zeg N A) {s : Stp} (hs : s.1 < A.length) : 0 ≤ stT A s ∧ stT A s < N:=by
 have:=hn.arc _ (zd3 hs)
 unfold stT
 split <;> omega
theorem Bfs.grow (hn : zeg N A) : ∀ (n : Nat) (D b : List Int),Bfs N A f D b → N - D.length ≤ n → ∃ D' b',Bfs N A f D' b' ∧ ze2 A f D'
 | n,D,b,h,hl=>by
   by_cases hc : ze2 A f D
   ·exact ⟨D,b,h,hc⟩
   ·unfold ze2 at hc
    obtain ⟨s,hs⟩:=Classical.not_forall.1 hc
    obtain ⟨h1,hs⟩:=Classical.not_imp.1 hs
    obtain ⟨h2,hs⟩:=Classical.not_imp.1 hs
    obtain ⟨h3,h4⟩:=Classical.not_imp.1 hs
    have hr:=ztD hn h1
    have hp:=h.push h1 h2 h3 h4 hr.1 hr.2
    have hf:=hp.few
    rw [List.length_append,List.length_singleton] at hf
    match n,hl with
    | 0,hl=>omega
    | n + 1,hl=>exact Bfs.grow hn n _ _ hp (by rw [List.length_append,List.length_singleton]; omega)
theorem zqd (hn : zeg N A) {D b : List Int} (hf1 : zaA N A f) (hf2 : ∀ f',zaA N A f' → valF A f' ≤ valF A f) (hb : Bfs N A f D b) : (1 : Int) ∉ D:=fun hm=>by
 obtain ⟨l,hl⟩:=hb.chain hm
 have h1:=hl.push hn hf1 (v:=1) (by omega) fun s hs=>by
  obtain ⟨i,hi,rfl⟩:=List.mem_iff_getElem.1 hs
  have:=(hl.at_ i hi).2.1
  omega
 have h2:=hf2 _ h1.1
 omega
theorem zu4 (hn : zeg N A) {S : Int → Bool} (h0 : S 0 = true) (h1 : S 1 = false) : maxF N A ≤ capS S A:=by
 obtain ⟨f,hf,hv⟩:=zrg hn
 rw [← hv]
 exact zea hn hf h0 h1
theorem zuv (hn : zeg N A) : ∃ X : Int → Bool,X 0 = true ∧ X 1 = false ∧ capS X A = maxF N A ∧ ∀ S : Int → Bool,S 0 = true → S 1 = false → capS S A = maxF N A → ∀ x,X x = true → S x = true:=by
 obtain ⟨f,hf,hm⟩:=zff hn
 obtain ⟨D,b,hb,hc⟩:=Bfs.grow hn N [0] _ (Bfs.start (f:=f) (by have:=hn.two; omega)) (by omega)
 have h1:=zqd hn hf hm hb
 have hmf:=zgu hf hm
 refine ⟨fun x=>decide (x ∈ D),by simpa using hb.mem0,by simpa using h1,?_,fun S s0 s1 hS x hx=>?_⟩
 ·rw [hmf]
  exact (zgG hn hf hb.mem0 h1 hc).1.symm
 ·exact zl5 hn hf hb.tree s0 s1 (hS.trans hmf) x (by simpa using hx)
end
def zvk (g : Gr) (p : Pol) (S : Int → Bool) : Int:=capS S (netA g p [])
def zjz (S : Int → Bool) (ks : List Int) : Int:=(ks.map fun k=>if S (2 + 2 * k) = true then 1 else 0).sum
variable {g : Gr} {p : Pol}
def zuT (g : Gr) (p : Pol) (k : Int) : Prop:=0 < (zaN g p).getD k.toNat 0
theorem zmn {S : Int → Bool} (h1 : S 1 = false) {ks : List Int} (hk : ∀ k ∈ ks,zuT g p k) : capS S (netA g p ks) = zvk g p S + zjz S ks:=by
 have hf : ks.filter (fun x=>decide (0 < (zaN g p).getD x.toNat 0)) = ks:=List.filter_eq_self.2 fun x hx=>decide_eq_true (hk x hx)
 unfold zvk zjz
 simp only [znl,netA,za8,List.map_append,List.sum_append,List.map_map,hf]
 have e : ((fun e : Ed=>if S e.f = true ∧ S e.t = false then e.v else 0) ∘ fun x : Int=>(⟨2 + 2 * x,1,1⟩ : Ed)) = fun k=>if S (2 + 2 * k) = true then 1 else 0:=by
  funext k
  simp only [Function.comp,h1,and_true]
 rw [e]
 simp only [List.filter_nil,List.map_nil,List.sum_nil]
 omega
theorem zqP (S : Int → Bool) : ∀ ks : List Int,zjz S ks ≤ ks.length
 | []=>Int.le_refl _
 | k :: ks=>by
   have ih:=zqP S ks
   unfold zjz at ih ⊢
   simp only [List.map_cons,List.sum_cons,List.length_cons]
   split <;> omega
theorem zop (S : Int → Bool) (a b : List Int) : zjz S (a ++ b) = zjz S a + zjz S b:=by simp [zjz]
theorem zrD (S : Int → Bool) {a b : List Int} (h : a.Perm b) : zjz S a = zjz S b:=by
 unfold zjz
 induction h with
 | nil=>rfl
 | cons x _ ih=>simp only [List.map_cons,List.sum_cons,ih]
 | swap x y l=>simp only [List.map_cons,List.sum_cons]; omega
 | trans _ _ ih1 ih2=>exact ih1.trans ih2
structure zcj (g : Gr) (p : Pol) (ks : List Int) : Prop where
 rng : ∀ x ∈ ks,0 ≤ x ∧ x < g.size
 reach : ∀ x ∈ ks,zuT g p x
theorem zcj.sub {a b : List Int} (h : zcj g p b) (hs : ∀ x ∈ a,x ∈ b) : zcj g p a:=⟨fun x hx=>h.rng x (hs x hx),fun x hx=>h.reach x (hs x hx)⟩
theorem zcj.nil : zcj g p []:=⟨fun _ h=>(List.not_mem_nil h).elim,fun _ h=>(List.not_mem_nil h).elim⟩
theorem zcj.append {a b : List Int} (h : zcj g p a) (h' : zcj g p b) : zcj g p (a ++ b) :=
 ⟨fun x hx=>(List.mem_append.1 hx).elim (h.rng x) (h'.rng x),fun x hx=>(List.mem_append.1 hx).elim (h.reach x) (h'.reach x)⟩
theorem zeG (hg : GrOk g) (hp : za0 g.size p) {ks : List Int} (hk : zcj g p ks) : zat g p ks ↔ ∀ S : Int → Bool,S 0 = true → S 1 = false → (ks.length : Int) ≤ zvk g p S + zjz S ks:=by
 have hn:=zkj hg hp hk.rng
 unfold zat
 constructor
 ·intro h S h0 h1
  rw [← zmn h1 hk.reach,← h]
  exact zu4 hn h0 h1
 ·intro h
  obtain ⟨X,h0,h1,hc,_⟩:=zuv hn
  have h2:=h X h0 h1
  rw [← zmn h1 hk.reach,hc] at h2
  have h3:=zh8 (p:=p) hg hp hk.rng
  omega
theorem zat.perm (hg : GrOk g) (hp : za0 g.size p) {a b : List Int} (ha : zcj g p a) (h : zat g p a) (hp' : a.Perm b) : zat g p b:=by
 have hb : zcj g p b:=ha.sub fun x hx=>hp'.mem_iff.2 hx
 rw [zeG hg hp hb]
 rw [zeG hg hp ha] at h
 intro S h0 h1
 rw [← zrD S hp',← hp'.length_eq]
 exact h S h0 h1
theorem zat.left (hg : GrOk g) (hp : za0 g.size p) {a b : List Int} (hk : zcj g p (a ++ b)) (h : zat g p (a ++ b)) : zat g p a:=by
 have ha : zcj g p a:=hk.sub fun x hx=>List.mem_append_left _ hx
 rw [zeG hg hp ha]
 rw [zeG hg hp hk] at h
 intro S h0 h1
 have:=h S h0 h1
 rw [zop,List.length_append] at this
 have:=zqP S b
 omega
theorem zat.sublist (hg : GrOk g) (hp : za0 g.size p) {a b : List Int} (hk : zcj g p b) (h : zat g p b) (hs : a.Sublist b) : zat g p a:=by
 obtain ⟨c,hc⟩ : ∃ c,(a ++ c).Perm b:=by
  induction hs with
  | slnil=>exact ⟨[],.refl _⟩
  | cons x hs ih =>
    obtain ⟨c,hc⟩:=ih (hk.sub fun y hy=>List.mem_cons_of_mem _ hy) (by
     have h2 : zat g p (_ ++ [x]):=h.perm hg hp hk (List.perm_append_comm (l₁:=[x]))
     exact h2.left hg hp (hk.sub fun y hy=>by simpa [or_comm] using hy))
    exact ⟨x :: c,List.perm_middle.trans (hc.cons x)⟩
  | cons_cons x hs ih =>
    obtain ⟨c,hc⟩:=ih (hk.sub fun y hy=>List.mem_cons_of_mem _ hy) (by
     have h2 : zat g p (_ ++ [x]):=h.perm hg hp hk (List.perm_append_comm (l₁:=[x]))
     exact h2.left hg hp (hk.sub fun y hy=>by simpa [or_comm] using hy))
    exact ⟨c,hc.cons x⟩
 exact (h.perm hg hp hk hc.symm).left hg hp (hk.sub fun x hx=>hc.mem_iff.1 hx)
theorem zat.nil (hg : GrOk g) (hp : za0 g.size p) : zat g p []:=by
 have h1:=zh8 (p:=p) (ks:=[]) hg hp (by simp)
 have hn:=zkj (p:=p) (ks:=[]) hg hp (by simp)
 have h2:=zsE hn (zhU hn)
 have h3 : valF (netA g p []) ((netA g p []).map fun _=>0) = 0:=by
  unfold valF outF
  have : ∀ A : List Ed,sumF (fun e v=>if e.f = 0 then v else 0) A (A.map fun _=>0) = 0:=by
   intro A
   induction A with
   | nil=>rfl
   | cons e A ih=>simp only [List.map_cons,sumF,ih]; split <;> rfl
  exact this _
 unfold zat
 simp at h1 ⊢
 omega
theorem zak.k1n {rs : List (Nat × Option (Bool × Nat))} {st : St} {vs : List AV} {res : AV} {e0 e : Ent} (i : Nat) (hi : 1 ≤ i) (h1 : zfN st rs = some vs) (hw : Wk (conv [(0,0),(i,1)] [] st.hp 4 (resV vs)) res) (h0 : (st.hp 0).map (zaz [(0,0),(i,1)] [] st.hp 4) = some e0) (he : (st.hp i).map (zaz [(0,0),(i,1)] [] st.hp 4) = some e) : zak rs 1 st res [some e0,some e] :=
 ⟨vs,h1,[i],[],by simp [List.range,List.range.loop]; omega,by simpa using hi,by simp,by simpa [List.range,List.range.loop] using hw,by simpa [List.range,List.range.loop] using ⟨by simpa using h0,by simpa using he⟩⟩
@[simp] theorem zvM {i : Nat} : cellsOf (.mp i) = some [.mp i]:=(rfl)
set_option maxRecDepth 100000 in
set_option maxHeartbeats 2000000 in
theorem zwF (N : Nat) (A : List Ed) (f0 : List Int) (hn : za3 ⟨N,A⟩) (hf0 : zaA N A f0) :
  ∃ f : List Int,(zaA N A f ∧ ∀ f',zaA N A f' → valF A f' ≤ valF A f) ∧ zai Tryz.prog ziE [eN ⟨N,A⟩,ints f0] [] (.rs 0 0 A.length) [some ⟨1,zah f,0⟩]:=by
 refine zr3.acallsX (args:=[eN ⟨N,A⟩,ints f0]) (hs:=[]) (fun f=>.rs 0 0 A.length) (fun f=>[some ⟨1,zah f,0⟩]) (fun f : List Int=>zaA N A f ∧ ∀ f',zaA N A f' → valF A f' ≤ valF A f) (nbz rfl) (nbz rfl) (fun _=>by simp) ?_
 show awp _ 0 _ _ ⟨14,[(0,eN ⟨N,A⟩),(1,ints f0)],[],16⟩
 have hno:=zeN hn
 have hfl:=hf0.fit.len
 have hopen:=fun (f : List Int)=>ztM N A f A.length hn
 have hpush:=fun (f : List Int) (hf : zaA N A f)=>zwb N A f hn hf
 have hal:=hn.2.2.1
 simp only at hal
 have hcl:=zgw f0 (by omega)
 rw [hfl] at hcl
 have htake : ∀ g : Int → List AV,List.take A.length (List.map g f0) = List.map g f0:=fun g=>List.take_of_length_le (by simp; omega)
 refine rx (s:=?s1) [1,2] [] [16] rfl ?o1 ?q1
 case o1=>simp; rfl
 refine zan ⟨14,[(5,.pt 64 0 0)],[(48,some ⟨1,zah f0,0⟩),(64,some ⟨4,[rC N A (.rs 48 0 A.length)],0⟩)],80⟩ rfl ?_ ?_
 ·simp
  refine zaW hcl (by simp) ?_
  simp
  refine zbf (i:=48) rfl (by simp [fcd]) (hopen f0) (by simp) (by simp) ?_
  simp
  exact ⟨rfl,LeI [(48,48),(64,64)] []⟩
 refine zab ?_
 refine zaf ?_
 refine zao (ι:=List Int) (fun f=>⟨14,[(5,.pt 64 0 0)],[(48,some ⟨1,zah f,0⟩),(64,some ⟨4,[rC N A (.rs 48 0 A.length)],0⟩)],80⟩) (fun f=>zaA N A f) (fun f=>(capS (fun x=>decide (x = 0)) A - valF A f).toNat) f0 hf0 (LeI [(48,48),(64,64)] []) ?_
 intro f hf
 obtain ⟨⟨c,f'⟩,hx,hcall⟩:=hpush f hf
 simp only at hx hcall
 refine zab ?_
 refine zaa ⟨14,[(5,.pt 64 0 0),(11,.B c)],[(48,some ⟨1,zah f',0⟩),(64,some ⟨4,[rC N A (.rs 48 0 A.length)],0⟩)],100⟩ rfl ?_ ?_
 ·simp
  refine zbf (i:=48) rfl (by simp [fcd]) hcall (by simp) (by simp) ?_
  simp
  exact LeI [(48,48),(64,64)] []
 refine zac _ rfl (fun h4=>?_) fun h4=>?_
 ·have hc : c = true:=h4
  subst hc
  simp only [if_true] at hx
  have hbnd:=zea (S:=fun x=>decide (x = 0)) hno hx.1 (by simp) (by simp)
  refine zae ?_
  refine zaf ?_
  refine zae ?_
  exact ⟨f',hx.1,by have:=hx.2; omega,LeI [(48,48),(64,64)] []⟩
 have hc : c = false:=h4
 subst hc
 simp only [Bool.false_eq_true,if_false] at hx
 obtain ⟨rfl,hm⟩:=hx
 refine zam ?_
 refine hit ?_
 refine zaa ⟨14,[(4,.rs 48 0 A.length)],[(48,some ⟨1,zah f',0⟩)],200⟩ rfl ?_ ?_
 ·simp
  exact LeI [(48,48)] []
 refine zag ?_
 exact zfU.mk (.inr rfl) f' ⟨hf,hm⟩ (zak.out [48] [] rfl (by simp) (by simp) (by simp) (by simp [fcd]))
set_option maxRecDepth 100000 in
set_option maxHeartbeats 2000000 in
theorem zrs (N : Nat) (A : List Ed) (hn : za3 ⟨N,A⟩) :
  ∃ f : List Int,(zaA N A f ∧ ∀ f',zaA N A f' → valF A f' ≤ valF A f) ∧ zai Tryz.prog zkB [eN ⟨N,A⟩] [] (.tup [.rs 0 0 A.length,.I 0]) [some ⟨1,zah f,0⟩]:=by
 have hno:=zeN hn
 obtain ⟨f,hf,hg⟩:=zwF N A _ hn (zhU hno)
 refine ⟨f,hf,?_⟩
 have hchk:=zfs ⟨N,A⟩ (by have:=hn.2.2.1; simp only at this ⊢; omega)
 rw [if_pos hn] at hchk
 have hal:=hn.2.2.1
 simp only at hal
 have hfl:=hf.1.fit.len
 refine ztt.acalls (nbz rfl) (nbz rfl) (Nat.zero_le _) ?_
 show awp _ 0 _ _ ⟨16,[(0,eN ⟨N,A⟩)],[],16⟩
 refine rx (s:=?s1) [1] [] [16] rfl ?o1 ?q1
 case o1=>simp; rfl
 refine zab ?_
 refine rx (s:=?s2) [1,4] [] [] rfl ?o2 ?q2
 case o2=>simp; refine zaj hchk (by simp) ?_; simp; rfl
 refine rx (s:=?s3) [1,4,8] [] [] rfl ?o3 ?q3
 case o3=>simp; rfl
 refine zac _ rfl (fun h4=>by cases h4) fun h4=>?_
 refine zae ?_
 refine zan ⟨16,[(2,.rs 48 0 A.length),(3,.I 0)],[(48,some ⟨1,zah f,0⟩)],300⟩ rfl ?_ ?_
 ·simp
  refine ⟨by omega,by omega,?_⟩
  refine ziO [112] hg (by simp [List.map_const']) (.rs _ _ _) zqH ?_
  simp
  exact ⟨rfl,LeI [(120,48)] []⟩
 refine zag ?_
 exact ⟨.inr rfl,zak.out [48] [] rfl (by simp) (by simp) (by simp) (by simp [fcd])⟩
set_option maxRecDepth 100000 in
set_option maxHeartbeats 2000000 in
theorem zk7 (N : Nat) (A : List Ed) (f : List Int) (hn : za3 ⟨N,A⟩) (hf : zaA N A f) (hm : ∀ f',zaA N A f' → valF A f' ≤ valF A f) :
  zai Tryz.prog zfA [eN ⟨N,A⟩,.rs 0 0 A.length] [⟨1,zah f,0⟩] (.rs 1 0 (zfe N A).length) [some ⟨1,zah f,0⟩,some ⟨1,zah (zfe N A),0⟩]:=by
 have hno:=zeN hn
 obtain ⟨⟨D,b,R⟩,⟨hb,hcl,hR⟩,hcall⟩:=zrh N A f hn hf.fit
 simp only at hb hcl hR hcall
 have hopen:=ztM N A f A.length hn
 have hnear : inD D N = zfe N A:=znh hno hf hm hb.tree hb.mem0 (zqd hno hf hm hb) hcl
 have hwh:=ztb hR N (by have:=hn.2.1; simp only at this; omega)
 rw [hnear] at hwh
 have hfl:=hf.fit.len
 have htake : ∀ g : Int → List AV,List.take A.length (List.map g f) = List.map g f:=fun g=>List.take_of_length_le (by simp; omega)
 refine znF.acalls (nbz rfl) (nbz rfl) (by simp) ?_
 show awp _ 1 _ _ ⟨14,[(0,eN ⟨N,A⟩),(1,.rs 0 0 A.length)],[(0,some ⟨1,zah f,0⟩)],16⟩
 refine zaa ⟨14,[(1,.rs 0 0 A.length),(2,.pv (nC ⟨N,A⟩))],[(0,some ⟨1,zah f,0⟩)],32⟩ rfl ?_ ?_
 ·simp
  exact LeI [(0,0)] [16]
 refine zaa ⟨14,[(2,.pv (nC ⟨N,A⟩)),(5,.pt 64 0 0)],[(0,some ⟨1,zah f,0⟩),(64,some ⟨1,[[.mp 56]],0⟩),(56,some ⟨0,R,0⟩)],100⟩ rfl ?_ ?_
 ·simp
  refine zbf (i:=0) rfl (by simp [fcd]) hopen (by simp) (by simp) ?_
  simp
  refine ziO [0] hcall (by simp [fcd,htake,hfl]) (.mp _) (hR.plain _ _) ?_
  simp
  exact Le.go [(0,0),(64,64),(56,56)] [] rfl rfl (by simp) (by simp [fcd,hR.conv'])
 refine zaa ⟨14,[(4,.rs 57 0 (zfe N A).length)],[(0,some ⟨1,zah f,0⟩),(57,some ⟨1,zah (zfe N A),0⟩)],200⟩ rfl ?_ ?_
 ·simp
  refine zl6 (i:=64) (j:=56) (by decide) rfl rfl (by simp) (by simp [hR.conv']) hwh (by simp) (by simp [conv]) ?_
  simp
  exact LeI [(0,0),(124,57)] []
 refine zag ?_
 exact ⟨.inr rfl,zak.k1n 57 (by omega) rfl (by simp) (by simp [fcd]) (by simp [fcd])⟩
variable {g : Gr} {p : Pol}
theorem zq9 : ∀ (b a : List Int),∃ l,accR g p (a ++ b) = accR g p a ++ l ∧ ∀ x ∈ l,x ∈ b
 | [],a=>⟨[],by simp,by simp⟩
 | x :: b,a=>by
   obtain ⟨l,hl,hm⟩:=zq9 b (a ++ [x])
   have e : a ++ x :: b = a ++ [x] ++ b:=by simp
   rw [e,hl]
   rcases zpe (g:=g) (p:=p) a x with h | h
   ·exact ⟨l,by rw [h],fun y hy=>List.mem_cons_of_mem _ (hm y hy)⟩
   ·refine ⟨[x] ++ l,by rw [h,List.append_assoc],fun y hy=>?_⟩
    rcases List.mem_append.1 hy with h | h
    ·rw [List.mem_singleton.1 h]; exact List.mem_cons_self
    ·exact List.mem_cons_of_mem _ (hm y h)
theorem znc {o : List Int} (hn : o.Nodup) {i : Nat} (h : i < o.length) : o[i] ∈ accR g p o ↔ zat g p (zaw (accR g p (o.take i) ++ [o[i]])):=by
 have hs : o.take (i + 1) = o.take i ++ [o[i]]:=List.take_succ_eq_append_getElem h
 obtain ⟨l,hl,hm⟩:=zq9 (g:=g) (p:=p) (o.drop (i + 1)) (o.take (i + 1))
 rw [List.take_append_drop] at hl
 have hni : o[i] ∉ o.take i:=fun hx=>by
  obtain ⟨j,hj,e⟩:=List.mem_take_iff_getElem.1 hx
  have:=(List.getElem_inj hn).1 e
  omega
 have hnd : o[i] ∉ o.drop (i + 1):=fun hx=>by
  obtain ⟨j,hj,e⟩:=List.mem_drop_iff_getElem.1 hx
  have:=(List.getElem_inj hn).1 e
  omega
 constructor
 ·intro hx
  by_cases hc : zat g p (zaw (accR g p (o.take i) ++ [o[i]]))
  ·exact hc
  ·rw [hl,hs,zg8 hc] at hx
   rcases List.mem_append.1 hx with h1 | h1
   ·exact absurd (zd6 h1) hni
   ·exact absurd (hm _ h1) hnd
 ·intro hc
  rw [hl,hs,zbP hc]
  exact List.mem_append_left _ (List.mem_append_right _ (List.mem_singleton.2 rfl))
theorem zqJ {o : List Int} (hn : o.Nodup) : ∀ i,i ≤ o.length → befL o (accR g p o) i = accR g p (o.take i)
 | 0,_=>by simp [befL,zjM]
 | i + 1,h=>by
   have hi : i < o.length:=h
   rw [zsL hi,zqJ hn i (by omega),List.take_succ_eq_append_getElem hi]
   by_cases hc : zat g p (zaw (accR g p (o.take i) ++ [o[i]]))
   ·rw [if_pos ((znc hn hi).2 hc),zbP hc]
   ·rw [if_neg (fun h=>hc ((znc hn hi).1 h)),zg8 hc,List.append_nil]
theorem zls {l : List Int} (h : l.Pairwise (· < ·)) : l.Nodup:=h.imp fun h=>by omega
theorem zn0 {a : List Int} (hn : a.Nodup) (hr : ∀ k ∈ a,0 ≤ k ∧ k < 64) : a.Perm (zaw a):=by
 rw [← zjR hn hr]
 exact (zgO a).symm
theorem zgJ {a : List Int} (hn : a.Nodup) (hr : ∀ k ∈ a,0 ≤ k ∧ k < 64) : (zaw a).length = a.length:=(zn0 hn hr).length_eq.symm
structure AtO (g : Gr) (p : Pol) (key : Int) (before : List Int) : Prop where
 mem : key ∈ ordL (zal g p.lv) p.seeds
 bef : zgs (ordL (zal g p.lv) p.seeds) before key
 nodup : (before ++ [key]).Nodup
 range : ∀ k ∈ before ++ [key],0 ≤ k ∧ k < g.size
 serve : key ∈ accR g p (ordL (zal g p.lv) p.seeds) ↔ zat g p (zaw (before ++ [key]))
theorem zpt {o : List Int} (hn : o.Nodup) {i : Nat} (h : i < o.length) : zid o o[i] = o.take i:=by
 unfold zid
 rw [List.takeWhile_eq_take_findIdx_not]
 congr 1
 rw [List.findIdx_eq h]
 refine ⟨by simp,fun j hj=>?_⟩
 have : o[j] ≠ o[i]:=fun e=>by have:=(List.getElem_inj hn).1 e; omega
 simp [this]
theorem ForR.at_ {key : Int} {x : Expl} (h : ForR g p (ordL (zal g p.lv) p.seeds) key x) (hg : GrOk g) : x.key = key ∧ AtO g p key x.before ∧ ∃ i,∃ hi : i < (ordL (zal g p.lv) p.seeds).length,(ordL (zal g p.lv) p.seeds)[i] = key ∧ x.before = accR g p ((ordL (zal g p.lv) p.seeds).take i):=by
 have hn:=zbj (zal g p.lv) p.seeds
 have hr : ∀ k ∈ ordL (zal g p.lv) p.seeds,0 ≤ k ∧ k < g.size:=fun k hk=>by have h:=zcg hk; exact h
 obtain ⟨o,ho⟩ : ∃ o,o = ordL (zal g p.lv) p.seeds:=⟨_,rfl⟩
 rw [← ho] at h hn hr ⊢
 obtain ⟨i,hi,hk,hb⟩:=h.bef
 rw [zqJ hn i (by omega)] at hb
 refine ⟨h.key_,?_,i,hi,hk,hb⟩
 have hsub : x.before.Sublist (zid o key):=by
  rw [hb,← hk,zpt hn hi]
  exact zd7 _ _ rfl
 refine ⟨by rw [← ho,← hk]; exact List.getElem_mem hi,by rw [← ho]; exact hsub,zgs.nodup (order:=o) hsub hn,fun k hkm=>?_,?_⟩
 ·rcases List.mem_append.1 hkm with h1 | h1
  ·refine hr k ?_
   rw [hb] at h1
   exact List.mem_of_mem_take (zd6 h1)
  ·rw [List.mem_singleton.1 h1,← hk]; exact hr _ (List.getElem_mem hi)
 ·rw [← ho,hb,← hk]
  exact znc hn hi
theorem AtO.joined {key : Int} {before : List Int} (h : AtO g p key before) (hg : GrOk g) : (zaw (before ++ [key])).Nodup ∧ (before ++ [key]).Perm (zaw (before ++ [key])) ∧ (∀ x ∈ zaw (before ++ [key]),0 ≤ x ∧ x < g.size):=by
 have h64:=hg.1.2.1
 have hr : ∀ k ∈ before ++ [key],0 ≤ k ∧ k < 64:=fun k hk=>⟨(h.range k hk).1,by have:=(h.range k hk).2; omega⟩
 exact ⟨zls (zgE _),zn0 h.nodup hr,fun x hx=>h.range x (zdF.1 hx).1⟩
theorem zpM {key : Int} {before : List Int} {W : List (List Nat)} (hg : GrOk g) (hp : za0 g.size p) (ha : AtO g p key before) (hc : zat g p (zaw (before ++ [key]))) (hW : zuL g p (before ++ [key]) W) :
  zku g p.lv p.seeds (ordL (zal g p.lv) p.seeds) (zaN g p) (W.map (zcN (netA g p (zaw (before ++ [key]))))) (before ++ [key]):=by
 obtain ⟨f,g',hgf,ht,hl,_⟩:=hW
 obtain ⟨j1,j2,j3⟩:=ha.joined hg
 refine zn3 hg hp j1 (fun x hx=>(j3 x hx).1) j2 hgf.ok.fit ht.ways (fun i _=>?_) ?_
 ·have h1:=ht.used i
  have h2:=ht.bal.nonneg i
  omega
 ·have : maxF (netN g) (netA g p (zaw (before ++ [key]))) = (zaw (before ++ [key])).length:=hc
  omega
theorem ForR.yes_serves {key : Int} {x : Expl} (h : ForR g p (ordL (zal g p.lv) p.seeds) key x) (hg : GrOk g) (hp : za0 g.size p) (hk : key ∈ accR g p (ordL (zal g p.lv) p.seeds)) :
  zku g p.lv p.seeds (ordL (zal g p.lv) p.seeds) (zaN g p) x.paths (x.before ++ [key]):=by
 obtain ⟨_,ha,_⟩:=h.at_ hg
 obtain ⟨_,_,W,hW,hpa⟩:=h.yes hk
 rw [hpa]
 exact zpM hg hp ha (ha.serve.1 hk) hW
theorem ForR.no_proves {key : Int} {x : Expl} (h : ForR g p (ordL (zal g p.lv) p.seeds) key x) (hg : GrOk g) (hp : za0 g.size p) (hk : key ∉ accR g p (ordL (zal g p.lv) p.seeds)) :
  zcV ⟨2 + 2 * g.size,za8 g p (zaN g p) (zaw (x.before ++ [key]))⟩ x.side x.before.length:=by
 obtain ⟨_,ha,i,hi,hik,hib⟩:=h.at_ hg
 obtain ⟨_,_,R,hR,hs⟩:=h.no hk
 obtain ⟨i',hi',hik',hn⟩:=hR.right _ hs
 simp only at hik' hn
 have hii : i' = i:=(List.getElem_inj (zbj (zal g p.lv) p.seeds)).1 (hik'.trans hik.symm)
 subst hii
 rw [← hib] at hn
 obtain ⟨j1,j2,j3⟩:=ha.joined hg
 have hfew:=zh8 hg hp j3
 have hno : maxF (netN g) (netA g p (zaw (x.before ++ [key]))) ≠ (zaw (x.before ++ [key])).length:=hn.no
 have hlen:=j2.length_eq
 rw [List.length_append,List.length_singleton] at hlen
 have hcut:=hn.cut
 have hok:=hn.ok
 rw [zfv hg] at hok
 exact ⟨hok,by rw [hcut]; omega⟩
theorem ForR.checked {key : Int} {x : Expl} (h : ForR g p (ordL (zal g p.lv) p.seeds) key x) (hg : GrOk g) (hp : za0 g.size p) : zsM g p x = 0:=by
 rw [zrW hg.1.2.1]
 obtain ⟨hk,ha,_⟩:=h.at_ hg
 unfold zsw
 simp only
 rw [hk,if_neg (by simpa using ha.mem)]
 by_cases hacc : key ∈ accR g p (ordL (zal g p.lv) p.seeds)
 ·obtain ⟨h1,h2,_⟩:=h.yes hacc
  rw [if_neg (by rw [h1,h2]; simpa using ha.bef),if_pos h1,if_pos (h.yes_serves hg hp hacc)]
 ·obtain ⟨h1,h2,_⟩:=h.no hacc
  rw [if_neg (by rw [h1,h2]; simpa using ha.bef),if_neg (by rw [h1]; simp),if_pos (h.no_proves hg hp hacc)]
theorem zgf (l : List Int) (hl : l.length ≤ 1099511627776) : zai Tryz.prog zd9 [ints l] [] (.rs 0 0 l.length) [some ⟨1,zah (srt l),0⟩]:=by
 refine zm9.acalls (nbz rfl) (nbz rfl) (Nat.zero_le _) ?_
 show awp _ 0 _ _ ⟨6,[(0,ints l)],[],16⟩
 have hs : zai Tryz.prog zb3 [seqF l] [] (.rs 0 0 l.length) [some ⟨1,zah (srt l),0⟩]:=ztq l hl
 refine rx (s:=?s1) [0] [] [] rfl ?o1 ?q1
 case o1=>simp; rfl
 refine zaa ⟨6,[(2,.rs 50 0 l.length)],[(50,some ⟨1,zah (srt l),0⟩)],100⟩ rfl ?_ ?_
 ·simp
  refine zaj (zs2 l) (by simp) ?_
  simp
  refine zaW hs (by simp [conv]) ?_
  simp
  exact LeI [(40,50)] []
 refine zag ?_
 exact ⟨.inr rfl,zak.out [50] [] rfl (by simp) (by simp) (by simp) (by simp [fcd])⟩
theorem zgk (g : Gr) (p : Pol) (hg : GrOk g) (hN : g.size < 20) (hs : p.seeds.length ≤ 1099511627776) : zai Tryz.prog zdV [eG g,eP p] [] (.rs 0 0 (ordL (zal g p.lv) p.seeds).length) [some ⟨1,zah (ordL (zal g p.lv) p.seeds),0⟩]:=by
 refine znn.acalls (nbz rfl) (nbz rfl) (Nat.zero_le _) ?_
 show awp _ 0 _ _ ⟨12,[(0,eG g),(1,eP p)],[],16⟩
 have hel:=hg.edges_le
 have hgl:=hg.gone_le
 have hsz:=hg.1.2.1
 have hlev:=zdr g p.lv (by omega) (by omega)
 have hord:=zin (g:=zal g p.lv) (S:=p.seeds) (hg.level p.lv) hN hs
 obtain ⟨o,ho⟩ : ∃ o,o = ordL (zal g p.lv) p.seeds:=⟨_,rfl⟩
 rw [← ho] at hord ⊢
 refine rx (s:=?s1) [2,3] [] [16,24] rfl ?o1 ?q1
 case o1=>simp; rfl
 refine zan ⟨12,[(4,.rs 50 0 o.length)],[(50,some ⟨1,zah o,0⟩)],200⟩ rfl ?_ ?_
 ·simp
  refine zaj hlev (by simp) ?_
  simp
  refine zaW hord (by simp) ?_
  simp
  exact ⟨rfl,LeI [(88,50)] []⟩
 refine zag ?_
 exact ⟨.inr rfl,zak.out [50] [] rfl (by simp) (by simp) (by simp) (by simp [fcd])⟩
theorem zg4 (l : List Int) (x : Int) (hl : l.length ≤ 1000000) : zai Tryz.prog zeI [ints l,.I x] [] (.rs 0 0 (l.length + 1)) [some ⟨1,zah (l ++ [x]),0⟩]:=by
 refine zog.acalls (nbz rfl) (nbz rfl) (Nat.zero_le _) ?_
 show awp _ 0 _ _ ⟨14,[(0,ints l),(1,.I x)],[],16⟩
 refine rx (s:=?s1) [0,1] [] [] rfl ?o1 ?q1
 case o1=>simp; rfl
 refine zaa ⟨14,[(4,.rs 50 0 (l.length + 1))],[(50,some ⟨1,zah (l ++ [x]),0⟩)],200⟩ rfl ?_ ?_
 ·have hsl : ∀ {id : Nat} {h : Nat → Option Ent} {K : AV → List Nat → List (Nat × Option Ent) → Prop},K (.vs 1 true (l.map fun n=>[AV.I n])) [] [] → aK Tryz.prog 0 id (.slc 1 false true true) [ints l,.I (l.length : Nat),.I (l.length : Nat)] h K:=fun hK=>by
   rw [zkd]
   refine ⟨0,l.length,l.length,l.length,by simp,Nat.zero_le _,rfl,by simp,by simp,by simp,Nat.le_refl _,fun _=>rfl,rfl,?_⟩
   rw [List.drop_zero,Nat.sub_zero,List.take_of_length_le (by simp)]
   exact hK
  simp
  refine hsl ?_
  simp
  exact ⟨by omega,by omega,LeI [(88,50)] []⟩
 refine zag ?_
 exact ⟨.inr rfl,zak.out [50] [] rfl (by simp) (by simp) (by simp) (by simp [fcd])⟩
theorem zce (g : Gr) (p : Pol) (ks : List Int) (hg : GrOk g) (hp : za0 g.size p) (hk : ks.Nodup) (hr : ∀ k ∈ ks,0 ≤ k ∧ k < g.size) (hs : p.seeds.length ≤ 64) : zai Tryz.prog zbL [eG g,eP p,ints ks] [] (eN ⟨netN g,netA g p (zaw ks)⟩) []:=by
 refine zkG.acalls (nbz rfl) (nbz rfl) (Nat.zero_le _) ?_
 show awp _ 0 _ _ ⟨18,[(0,eG g),(1,eP p),(2,ints ks)],[],16⟩
 have hsz:=hg.1.2.1
 have hr64 : ∀ k ∈ ks,0 ≤ k ∧ k < 64:=fun k h=>by have:=hr k h; omega
 have hlen:=zgJ hk hr64
 have hJl:=zbm ks
 have hsort:=zgf ks (by omega)
 rw [zjR hk hr64,← hlen] at hsort
 have hnet:=zju g p (zaw ks) hg hp (zc4 hr) hs hJl
 rw [← zfv hg,show za8 g p (zaN g p) (zaw ks) = netA g p (zaw ks) from rfl] at hnet
 obtain ⟨J,hJ⟩ : ∃ J,J = zaw ks:=⟨_,rfl⟩
 obtain ⟨A,hA⟩ : ∃ A,A = netA g p (zaw ks):=⟨_,rfl⟩
 rw [← hA] at hnet ⊢
 rw [← hJ] at hnet hsort
 refine rx (s:=?s1) [2,3,4,6] [32] [16,24] rfl ?o1 ?q1
 case o1=>simp; rfl
 refine zan ⟨18,[(6,.pt 32 0 0),(7,.pv (nC ⟨netN g,A⟩))],[(32,some ⟨2,[[.I 0,.nilS]],0⟩)],300⟩ rfl ?_ ?_
 ·simp
  refine zaW hsort (by simp) ?_
  simp
  refine zpb [64] (by simp) hnet (by simp [fcd,zap]) ?_
  simp
  exact ⟨rfl,LeH [(32,32)] [104]⟩
 refine zaa ⟨18,[(6,.pt 32 0 0)],[(32,some ⟨2,[nC ⟨netN g,A⟩],0⟩)],400⟩ rfl ?_ ?_
 ·simp [zau]
  exact LeH [(32,32)] []
 refine zag ?_
 exact ⟨.inr rfl,zak.out [] [32] rfl (by simp) (by simp) (by simp) (by simp)⟩
def zwd (N : Nat) (A : List Ed) (f : List Int) : Prop:=zaA N A f ∧ ∀ f',zaA N A f' → valF A f' ≤ valF A f
theorem zlR (N : Nat) (A : List Ed) (k : Int) (hn : za3 ⟨N,A⟩) :
  ∃ f : List Int,zwd N A f ∧ zai Tryz.prog zcT [eN ⟨N,A⟩,.I k] [] (.tup [.rs 0 0 A.length,.B (decide (valF A f = k))]) [some ⟨1,zah f,0⟩]:=by
 obtain ⟨f,hf,hmax⟩:=zrs N A hn
 refine ⟨f,hf,?_⟩
 have hfl:=hf.1.fit.len
 have hal:=hn.2.2.1
 simp only at hal
 have hval:=zh0 (f:=f) hn (by omega)
 rw [if_pos hf.1] at hval
 have htake : ∀ g : Int → List AV,List.take A.length (List.map g f) = List.map g f:=fun g=>List.take_of_length_le (by simp; omega)
 refine znr.acalls (nbz rfl) (nbz rfl) (Nat.zero_le _) ?_
 show awp _ 0 _ _ ⟨19,[(0,eN ⟨N,A⟩),(1,.I k)],[],16⟩
 refine rx (s:=?s1) [1,2] [] [16] rfl ?o1 ?q1
 case o1=>simp; rfl
 refine zaa ⟨19,[(1,.I k),(2,.pv (nC ⟨N,A⟩)),(6,.rs 50 0 A.length)],[(50,some ⟨1,zah f,0⟩)],100⟩ rfl ?_ ?_
 ·simp
  refine zaW hmax (by simp) ?_
  simp
  exact LeI [(48,50)] []
 refine zaa ⟨19,[(4,.rs 50 0 A.length),(5,.B (decide (valF A f = k)))],[(50,some ⟨1,zah f,0⟩)],200⟩ rfl ?_ ?_
 ·simp
  refine zj6 [50] hval (by simp [fcd,htake,hfl]) (.sc _) ?_
  simp
  exact Le.go [(50,50)] [] rfl rfl (by simp <;> exact wkB (by rw [Bool.eq_iff_iff]; simp)) (by simp [fcd])
 refine zag ?_
 exact ⟨.inr rfl,zak.out [50] [] rfl (by simp) (by simp) (by simp) (by simp [fcd])⟩
def tkL {α : Type} (l : List α) (i : Nat) : List α:=l.take i
theorem zum {α : Type} (l : List α) : tkL l 0 = []:=rfl
theorem zuI {α : Type} {l : List α} {i : Nat} (h : i < l.length) : tkL l (i + 1) = tkL l i ++ [l[i]]:=List.take_succ_eq_append_getElem h
theorem zvx {α : Type} {l : List α} {i : Nat} (h : i ≤ l.length) : (tkL l i).length = i:=by unfold tkL; rw [List.length_take]; omega
theorem zvh {α : Type} (l : List α) : tkL l l.length = l:=List.take_length
theorem znB (g : Gr) (p : Pol) : ∀ (n : Nat) (o : List Int),o.length = n → (refR g p o).length ≤ n
 | 0,o,h=>by
   obtain rfl:=List.eq_nil_of_length_eq_zero h
   exact Nat.le_refl _
 | n + 1,o,h=>by
   have hne : o ≠ []:=fun e=>by rw [e] at h; cases h
   rw [← List.dropLast_concat_getLast hne]
   have ih:=znB g p n o.dropLast (by rw [List.length_dropLast,h]; rfl)
   by_cases hc : zat g p (zaw (accR g p o.dropLast ++ [o.getLast hne]))
   ·rw [zhG hc]; omega
   ·rw [zkP hc,List.length_append,List.length_singleton]; omega
theorem zo1 (N : Nat) (A : List Ed) : (zfe N A).length ≤ N:=by
 unfold zfe
 exact Nat.le_trans (List.length_filter_le ..) (by simp)
set_option maxRecDepth 100000 in
set_option maxHeartbeats 8000000 in
theorem zoW (g : Gr) (p : Pol) (hg : GrOk g) (hp : za0 g.size p) (hs : p.seeds.length ≤ 64) (hN : g.size < 20) :
  ∃ f : List Int,zcW g p (zaw (accR g p (ordL (zal g p.lv) p.seeds))) f ∧
    zai Tryz.prog zfH [eG g,eP p] [] (.tup [eAcc (accR g p (ordL (zal g p.lv) p.seeds)) f (refR g p (ordL (zal g p.lv) p.seeds)),.I 0]) []:=by
 have hsz:=hg.1.1
 have hsz2:=hg.1.2.1
 have hel:=hg.edges_le
 have hgl:=hg.gone_le
 have hchk:=zdl g p (by omega) (by omega) (by omega) (by have:=hp.2.2.2.1; omega)
 rw [if_pos hg,if_pos hp] at hchk
 have hord:=zgk g p hg hN (by omega)
 obtain ⟨o,ho⟩ : ∃ o,o = ordL (zal g p.lv) p.seeds:=⟨_,rfl⟩
 have hor : ∀ k ∈ o,0 ≤ k ∧ k < g.size:=fun k hk=>by rw [ho] at hk; have h:=zcg hk; exact h
 have hon : o.Nodup:=by rw [ho]; exact zbj _ _
 rw [← ho] at hord ⊢
 have hol : o.length ≤ 64:=by
  have:=zbC (b:=(List.range g.size.toNat).map fun i : Nat=>(i : Int)) hon fun x hx=>by
   have:=hor x hx
   exact List.mem_map.2 ⟨x.toNat,List.mem_range.2 (by omega),by omega⟩
  simp at this
  omega
 have h64 : ∀ a : List Int,(∀ x ∈ a,0 ≤ x ∧ x < g.size) → ∀ x ∈ a,0 ≤ x ∧ x < 64:=fun a h x hx=>by have:=h x hx; omega
 have hnv : ∀ a : List Int,(∀ x ∈ a,0 ≤ x ∧ x < g.size) → za3 ⟨netN g,netA g p (zaw a)⟩:=fun a h=>zfl hg hp (zgx (zc4 h)) hs (zbm a)
 have hserve : ∀ a : List Int,a.Nodup → (∀ x ∈ a,0 ≤ x ∧ x < g.size) → ∃ f,zcW g p (zaw a) f ∧ zai Tryz.prog zcT [eN ⟨netN g,netA g p (zaw a)⟩,.I (a.length : Nat)] [] (.tup [.rs 0 0 (netA g p (zaw a)).length,.B (@decide (zat g p (zaw a)) (Classical.propDecidable _))]) [some ⟨1,zah f,0⟩]:=fun a h1 h2=>by
  obtain ⟨f,hf,hc⟩:=zlR _ _ (a.length : Nat) (hnv a h2)
  have hmf:=zgu hf.1 hf.2
  refine ⟨f,⟨hf.1,hf.2,hmf.symm⟩,?_⟩
  have hjl:=zgJ h1 (h64 a h2)
  have : decide (valF (netA g p (zaw a)) f = (a.length : Nat)) = @decide (zat g p (zaw a)) (Classical.propDecidable _):=by
   rw [decide_eq_decide]
   unfold zat
   rw [hmf,hjl]
  rw [this] at hc
  exact hc
 have haccn : ∀ i,(accR g p (o.take i)).Nodup:=fun i=>(hon.sublist ((zd7 _ _ rfl).trans (List.take_sublist _ _)))
 have haccr : ∀ i,∀ x ∈ accR g p (o.take i),0 ≤ x ∧ x < g.size:=fun i x hx=>hor x (List.mem_of_mem_take (zd6 hx))
 obtain ⟨f,hf,hlast⟩:=hserve (accR g p o) (by have:=haccn o.length; rwa [List.take_length] at this) (by have:=haccr o.length; rwa [List.take_length] at this)
 refine ⟨f,hf,?_⟩
 have hnl:=zce g p (accR g p o) hg hp (by have:=haccn o.length; rwa [List.take_length] at this) (by have:=haccr o.length; rwa [List.take_length] at this) hs
 have hlf:=hf.ok.fit.len
 refine zqh.acalls (nbz rfl) (nbz rfl) (Nat.zero_le _) ?_
 show awp _ 0 _ _ ⟨72,[(0,eG g),(1,eP p)],[],16⟩
 refine rx (s:=?s1) [2,3,4] [32] [16,24] rfl ?o1 ?q1
 case o1=>simp; rfl
 refine zab ?_
 refine rx (s:=?s2) [2,3,4,6] [32] [] rfl ?o2 ?q2
 case o2=>simp; refine zaj hchk (by simp) ?_; simp; rfl
 refine rx (s:=?s3) [2,3,4,18] [32] [] rfl ?o3 ?q3
 case o3=>simp; rfl
 refine zac _ rfl (fun h=>by cases h) fun _=>?_
 refine zae ?_
 refine zaa ⟨72,[(2,.pv (gC g)),(3,.pv (pC p)),(4,.pt 32 0 0),(7,.pt 40 0 0)],[(32,some ⟨3,[[.nilS,.nilS,.nilS]],0⟩),(40,some ⟨3,[[.nilS,.nilS,.nilS]],0⟩)],200⟩ rfl ?_ ?_
 ·simp
  exact LeH [(32,32),(96,40)] []
 refine zab ?_
 refine zaa ⟨72,[(2,.pv (gC g)),(3,.pv (pC p)),(4,.pt 32 0 0),(7,.pt 40 0 0),(23,ints o),(24,.I o.length),(25,.I 0)],[(32,some ⟨3,[[.nilS,.nilS,.nilS]],0⟩),(40,some ⟨3,[[.nilS,.nilS,.nilS]],0⟩)],400⟩ rfl ?_ ?_
 ·simp
  refine zaW hord (by simp) ?_
  simp
  exact Le.go [(32,32),(40,40)] [216] rfl rfl (by simp [fcd,zap]) (by simp)
 refine zaf ?_
 have hR0 : refR g p [] = []:=rfl
 refine zao (ι:=Nat) (fun i=>⟨72,[(2,.pv (gC g)),(3,.pv (pC p)),(4,.pt 32 0 0),(7,.pt 40 0 0),(23,ints o),(24,.I o.length),(25,.I i)],
   [(32,some ⟨3,[[.nilS,.nilS,.nilS]],0⟩),(40,some ⟨3,[[ints (accR g p (o.take i)),.nilS,.rs 42 0 (refR g p (o.take i)).length]],0⟩),(42,some ⟨2,zaJ (refR g p (o.take i)),0⟩)],500⟩)
  (fun i=>i ≤ o.length) (fun i=>o.length - i) 0 (Nat.zero_le _)
  (Le.lst [(32,32),(40,40)] [] [(42,2)] rfl (by simp) (by simp) (by simp) (by simp) (by simp) (by simp) (by simp) (by simp [Up]) (by simp [zjM,hR0,fcd]; exact ⟨zaH.rfl' (by simp),zaH.row rfl (by omega) (by simp [UpL,Up,Wk.refl]; exact Wk.nil _ _)⟩)) ?_
 intro i hi
 have haN:=haccn i
 have haR:=haccr i
 have hal : (accR g p (o.take i)).length ≤ 64:=Nat.le_trans (zny _) (Nat.le_trans (List.length_take_le' i o) hol)
 have hRl:=znB g p _ (o.take i) rfl
 have hRl2:=List.length_take_le' i o
 have hyes:=fun k=>zbP (g:=g) (p:=p) (o:=o.take i) (k:=k)
 have hno:=fun k=>zg8 (g:=g) (p:=p) (o:=o.take i) (k:=k)
 have hryes:=fun k=>zhG (g:=g) (p:=p) (o:=o.take i) (k:=k)
 have hrno:=fun k=>zkP (g:=g) (p:=p) (o:=o.take i) (k:=k)
 have hmem : ∀ x ∈ accR g p (o.take i),x ∈ o.take i:=fun x hx=>zd6 hx
 obtain ⟨acc,hacc⟩ : ∃ acc,acc = accR g p (o.take i):=⟨_,rfl⟩
 obtain ⟨R,hR⟩ : ∃ R,R = refR g p (o.take i):=⟨_,rfl⟩
 rw [← hacc] at haN haR hal hmem hyes hno hryes hrno
 rw [← hR] at hRl hryes hrno
 rw [← hacc,← hR]
 refine zaa ⟨72,[(2,.pv (gC g)),(3,.pv (pC p)),(4,.pt 32 0 0),(7,.pt 40 0 0),(23,ints o),(24,.I o.length),(25,.I i),(26,.B (decide (i < o.length)))],
   [(32,some ⟨3,[[.nilS,.nilS,.nilS]],0⟩),(40,some ⟨3,[[ints acc,.nilS,.rs 42 0 R.length]],0⟩),(42,some ⟨2,zaJ R,0⟩)],600⟩ rfl ?_ ?_
 ·simp
  exact LeI [(32,32),(40,40),(42,42)] []
 refine zab ?_
 refine zac _ rfl (fun h11=>?_) fun h11=>?_
 ·simp at h11
  have hw1 : IntKind.i64.wrap ((i : Int) + 1) = (i : Int) + 1:=w64 (by omega) (by omega)
  obtain ⟨k,hk⟩ : ∃ k,k = o[i]:=⟨_,rfl⟩
  have hkr:=hor _ (List.getElem_mem h11)
  rw [← hk] at hkr
  have hts : o.take (i + 1) = o.take i ++ [k]:=by rw [List.take_succ_eq_append_getElem h11,hk]
  have hkacc : k ∉ acc:=fun h=>by
   have h2:=hmem k h
   obtain ⟨j,hj,hjk⟩:=List.mem_iff_getElem.1 h2
   rw [List.getElem_take] at hjk
   rw [List.length_take] at hj
   have:=(List.pairwise_iff_getElem.1 hon) j i (by omega) h11 (by omega)
   exact this (hjk.trans hk)
  have hks : ∀ x ∈ acc ++ [k],0 ≤ x ∧ x < g.size:=fun x hx=>by
   rcases List.mem_append.1 hx with h | h
   ·exact haR x h
   ·rw [List.mem_singleton] at h; subst h; exact hkr
  have hkn : (acc ++ [k]).Nodup:=List.nodup_append.2 ⟨haN,by simp,fun a ha b hb=>by
   rw [List.mem_singleton] at hb
   subst hb
   rintro rfl
   exact hkacc ha⟩
  have hwith:=zg4 acc k (by omega)
  have hnet:=zce g p (acc ++ [k]) hg hp hkn hks hs
  obtain ⟨fl,hfl,hsv⟩:=hserve (acc ++ [k]) hkn hks
  have hreach:=zk7 _ _ fl (hnv _ hks) hfl.ok hfl.most
  have hflen:=hfl.ok.fit.len
  have hnl2:=zo1 (netN g) (netA g p (zaw (acc ++ [k])))
  have hyes:=hyes k
  have hno:=hno k
  have hryes:=hryes k
  have hrno:=hrno k
  rw [← hts] at hyes hno hryes hrno
  obtain ⟨A,hA⟩ : ∃ A,A = netA g p (zaw (acc ++ [k])):=⟨_,rfl⟩
  obtain ⟨side,hside⟩ : ∃ side,side = zfe (netN g) A:=⟨_,rfl⟩
  rw [← hA] at hnet hsv hreach hflen hrno
  rw [← hside] at hreach hrno
  have htf : ∀ h : Int → List AV,List.take A.length (List.map h fl) = List.map h fl:=fun h=>List.take_of_length_le (by simp; omega)
  obtain ⟨W,hW⟩ : ∃ W,W = acc ++ [k]:=⟨_,rfl⟩
  have hWl : W.length = acc.length + 1:=by rw [hW]; simp
  rw [← hW] at hwith hnet hsv hyes hno hryes hrno
  rw [← hWl] at hwith
  refine zae ?_
  refine zaL (ι:=Unit) (fun _=>⟨72,[(2,.pv (gC g)),(3,.pv (pC p)),(4,.pt 32 0 0),(7,.pt 40 0 0),(23,ints o),(24,.I o.length),(25,.I i)],
   [(32,some ⟨3,[[.nilS,.nilS,.nilS]],0⟩),(40,some ⟨3,[[ints (accR g p (o.take (i + 1))),.nilS,.rs 42 0 (refR g p (o.take (i + 1))).length]],0⟩),(42,some ⟨2,zaJ (refR g p (o.take (i + 1))),0⟩)],3000⟩) (fun _=>True) ?_ fun _ _=>?_
  ·refine zaf ?_
   refine zaa ⟨72,[(2,.pv (gC g)),(3,.pv (pC p)),(4,.pt 32 0 0),(7,.pt 40 0 0),(9,.I k),(23,ints o),(24,.I o.length),(25,.I i)],
    [(32,some ⟨3,[[.nilS,.nilS,.nilS]],0⟩),(40,some ⟨3,[[ints acc,.nilS,.rs 42 0 R.length]],0⟩),(42,some ⟨2,zaJ R,0⟩)],700⟩ rfl ?_ ?_
   ·simp [h11,← hk]
    exact LeI [(32,32),(40,40),(42,42)] []
   refine zaa ⟨72,[(2,.pv (gC g)),(3,.pv (pC p)),(4,.pt 32 0 0),(7,.pt 40 0 0),(9,.I k),(10,ints W),(23,ints o),(24,.I o.length),(25,.I i)],
    [(32,some ⟨3,[[.nilS,.nilS,.nilS]],0⟩),(40,some ⟨3,[[ints acc,.nilS,.rs 42 0 R.length]],0⟩),(42,some ⟨2,zaJ R,0⟩)],800⟩ rfl ?_ ?_
   ·simp
    refine zaW hwith (by simp) ?_
    simp
    exact Le.go [(32,32),(40,40),(42,42)] [724] rfl rfl (by simp [fcd,zap]) (by simp [fcd])
   refine zaa ⟨72,[(2,.pv (gC g)),(3,.pv (pC p)),(4,.pt 32 0 0),(7,.pt 40 0 0),(9,.I k),(10,ints W),(11,.pv (nC ⟨netN g,A⟩)),(23,ints o),(24,.I o.length),(25,.I i)],
    [(32,some ⟨3,[[.nilS,.nilS,.nilS]],0⟩),(40,some ⟨3,[[ints acc,.nilS,.rs 42 0 R.length]],0⟩),(42,some ⟨2,zaJ R,0⟩)],900⟩ rfl ?_ ?_
   ·simp
    refine zaj hnet (by simp) ?_
    simp
    exact LeI [(32,32),(40,40),(42,42)] [832]
   refine zaa ⟨72,[(2,.pv (gC g)),(3,.pv (pC p)),(4,.pt 32 0 0),(7,.pt 40 0 0),(9,.I k),(10,ints W),(11,.pv (nC ⟨netN g,A⟩)),(12,.rs 43 0 A.length),(13,.B (@decide (zat g p (zaw W)) (Classical.propDecidable _))),(23,ints o),(24,.I o.length),(25,.I i)],
    [(32,some ⟨3,[[.nilS,.nilS,.nilS]],0⟩),(40,some ⟨3,[[ints acc,.nilS,.rs 42 0 R.length]],0⟩),(42,some ⟨2,zaJ R,0⟩),(43,some ⟨1,zah fl,0⟩)],1000⟩ rfl ?_ ?_
   ·simp
    refine zaW hsv (by simp) ?_
    simp
    exact LeI [(32,32),(40,40),(42,42),(924,43)] []
   refine zab ?_
   refine zaa ⟨72,[(2,.pv (gC g)),(3,.pv (pC p)),(4,.pt 32 0 0),(7,.pt 40 0 0),(9,.I k),(10,ints W),(11,.pv (nC ⟨netN g,A⟩)),(12,.rs 43 0 A.length),(44,.B (@decide (zat g p (zaw W)) (Classical.propDecidable _))),(23,ints o),(24,.I o.length),(25,.I i)],
    [(32,some ⟨3,[[.nilS,.nilS,.nilS]],0⟩),(40,some ⟨3,[[ints acc,.nilS,.rs 42 0 R.length]],0⟩),(42,some ⟨2,zaJ R,0⟩),(43,some ⟨1,zah fl,0⟩)],1100⟩ rfl ?_ ?_
   ·simp
    exact LeI [(32,32),(40,40),(42,42),(43,43)] []
   refine zac _ rfl (fun h15=>?_) fun h15=>?_
   ·have h15' : zat g p (zaw W):=@of_decide_eq_true _ (Classical.propDecidable _) h15
    have hy:=hyes h15'
    have hry:=hryes h15'
    refine zaa ⟨72,[(2,.pv (gC g)),(3,.pv (pC p)),(4,.pt 32 0 0),(7,.pt 40 0 0),(23,ints o),(24,.I o.length),(25,.I i)],
     [(32,some ⟨3,[[.nilS,.nilS,.nilS]],0⟩),(40,some ⟨3,[[ints W,.nilS,.rs 42 0 R.length]],0⟩),(42,some ⟨2,zaJ R,0⟩)],1200⟩ rfl ?_ ?_
    ·simp [zau]
     exact LeI [(32,32),(40,40),(42,42)] []
    refine zam ?_
    refine hit ?_
    exact ⟨(),trivial,Le.go [(32,32),(40,40),(42,42)] [] rfl rfl (by simp) (by simp [hy,hry,fcd])⟩
   ·have h15' : ¬ zat g p (zaw W):=@of_decide_eq_false _ (Classical.propDecidable _) h15
    have hn':=hno h15'
    have hrn:=hrno h15'
    have htR : ∀ h : Int × List Int → List AV,List.take R.length (List.map h R) = List.map h R:=fun h=>List.take_of_length_le (by simp)
    refine zae ?_
    refine zbx rfl ?_
    simp
    refine zbf (i:=43) rfl (by simp [fcd]) hreach (by simp) (by simp) ?_
    simp [htR,zau]
    exact ⟨by omega,by omega,rfl,Le.go [(32,32),(40,40),(1164,42)] [1140] rfl rfl (by simp) (by simp [hn',hrn,fcd,zap])⟩
  refine zar rfl ?_
  simp [hw1]
  exact ⟨i + 1,by omega,by omega,Le.go [(32,32),(40,40),(42,42)] [] rfl rfl (by simp [hw1]) (by simp [fcd])⟩
 simp at h11
 obtain rfl : i = o.length:=by omega
 rw [List.take_length] at hacc hR
 rw [← hacc] at hlast hnl hlf
 have hl1 : ((acc.length : Nat) : Int) = acc.length:=rfl
 obtain ⟨A,hA⟩ : ∃ A,A = netA g p (zaw acc):=⟨_,rfl⟩
 rw [← hA] at hnl hlast hlf
 have htf : ∀ h : Int → List AV,List.take A.length (List.map h f) = List.map h f:=fun h=>List.take_of_length_le (by simp; omega)
 refine zam ?_
 refine hit ?_
 refine zan ⟨72,[(4,.pt 32 0 0),(7,.pt 40 0 0)],
   [(32,some ⟨3,[[.nilS,.nilS,.nilS]],0⟩),(40,some ⟨3,[[ints acc,ints f,.vs 2 false (zaJ R)]],0⟩)],1200⟩ rfl ?_ ?_
 ·simp
  refine zaj hnl (by simp) ?_
  simp
  refine zaW hlast (by simp) ?_
  simp [zau]
  exact ⟨rfl,Le.go [(32,32),(40,40)] [42,664] rfl rfl (by simp) (by simp [fcd,zap,htf,hlf])⟩
 refine zaa ⟨72,[(4,.pt 32 0 0),(5,.I 0)],[(32,some ⟨3,[[ints acc,ints f,.vs 2 false (zaJ R)]],0⟩)],1400⟩ rfl ?_ ?_
 ·simp [zau]
  exact LeI [(32,32)] []
 refine zag ?_
 rw [← hacc,← hR]
 exact ⟨.inr rfl,zak.out [] [32] rfl (by simp) (by simp) (by simp) (by simp)⟩
section
variable {P : Program} {np id : Nat} {h : Nat → Option Ent} {K : AV → List Nat → List (Nat × Option Ent) → Prop} {f : FuncId} {first capt args args' : List AV} {res : AV}
end
theorem zww (L : List Int) (hl : L.length ≤ 400) : ∃ (g : Gr) (b : Nat),(GrOk g ∧ 2 ≤ g.size ∧ g.size ≤ 9 ∧ b ≤ L.length) ∧ zai Tryz.prog zcx [.pt 0 0 0] [dice L 0] (eG g) [some (dice L b)] :=
 have h:=zqp L 0 (Nat.zero_le _)
 ⟨_,_,⟨h.ok,h.lo,h.hi,h.at_⟩,zuh L 0 hl (Nat.zero_le _)⟩
variable {g : Gr} {p : Pol}
theorem Rise.pair {l : List Int} {lo hi : Int} (h : Rise l lo hi) : l.Pairwise (· < ·):=by
 have hlt : ∀ (j i : Nat) (hj : j < l.length) (hij : i < j),l[i] < l[j]:=by
  intro j
  induction j with
  | zero=>intro i _ hij; omega
  | succ j ih =>
    intro i hj hij
    have h1:=(h (j + 1) hj).2.2 (by omega)
    simp only [Nat.add_sub_cancel] at h1
    rcases Nat.lt_or_ge i j with h2 | h2
    ·have:=ih i (by omega) h2
     omega
    ·have : i = j:=by omega
     subst this
     exact h1
 exact List.pairwise_iff_getElem.2 fun i j hi hj hij=>hlt j i hj hij
def za1 : List Int → List Int → List Int → Bool
 | [],a,r=>a.isEmpty && r.isEmpty
 | x :: o,a,r=>if a.head? = some x then za1 o a.tail r else if r.head? = some x then za1 o a r.tail else false
def zbM : Nat → List Int → List Int → List Int → List Nat
 | _,[],_,_=>[]
 | c,x :: o,a,r=>if a.head? = some x then zbM (c + 1) o a.tail r else if r.head? = some x then c :: zbM c o a r.tail else []
theorem zf5 : ∀ {o a r : List Int},za1 o a r = true → a.Sublist o ∧ r.Sublist o
 | [],a,r,h=>by
   simp [za1] at h
   rw [h.1,h.2]
   exact ⟨List.nil_sublist _,List.nil_sublist _⟩
 | x :: o,a,r,h=>by
   simp only [za1] at h
   split at h
   ·rename_i h1
    obtain ⟨h2,h3⟩:=zf5 h
    cases a with
    | nil=>cases h1
    | cons y a =>
      have : y = x:=by simpa using h1
      subst this
      exact ⟨h2.cons_cons _,h3.cons _⟩
   ·split at h
    ·rename_i h1
     obtain ⟨h2,h3⟩:=zf5 h
     cases r with
     | nil=>cases h1
     | cons y r =>
       have : y = x:=by simpa using h1
       subst this
       exact ⟨h2.cons _,h3.cons_cons _⟩
    ·cases h
theorem zk6 : ∀ {o a r : List Int},za1 o a r = true → ∀ x ∈ o,x ∈ a ∨ x ∈ r
 | [],a,r,_,x,hx=>by simp at hx
 | x :: o,a,r,h,y,hy=>by
   simp only [za1] at h
   split at h
   ·rename_i h1
    cases a with
    | nil=>cases h1
    | cons z a =>
      have : z = x:=by simpa using h1
      subst this
      rcases List.mem_cons.1 hy with rfl | hy
      ·exact .inl (by simp)
      ·rcases zk6 h y hy with h2 | h2
       ·exact .inl (List.mem_cons_of_mem _ h2)
       ·exact .inr h2
   ·split at h
    ·rename_i h1
     cases r with
     | nil=>cases h1
     | cons z r =>
       have : z = x:=by simpa using h1
       subst this
       rcases List.mem_cons.1 hy with rfl | hy
       ·exact .inr (by simp)
       ·rcases zk6 h y hy with h2 | h2
        ·exact .inl h2
        ·exact .inr (List.mem_cons_of_mem _ h2)
    ·cases h
theorem zjV : ∀ {o a r : List Int},za1 o a r = true → o.length = a.length + r.length
 | [],a,r,h=>by
   simp [za1] at h
   rw [h.1,h.2]
   rfl
 | x :: o,a,r,h=>by
   simp only [za1] at h
   split at h
   ·rename_i h1
    cases a with
    | nil=>cases h1
    | cons z a =>
      have:=zjV h
      simp at this ⊢
      omega
   ·split at h
    ·rename_i h1
     cases r with
     | nil=>cases h1
     | cons z r =>
       have:=zjV h
       simp at this ⊢
       omega
    ·cases h
theorem zgF : ∀ {o a r : List Int} {c : Nat},za1 o a r = true → (zbM c o a r).length = r.length
 | [],a,r,c,h=>by
   simp [za1] at h
   rw [h.2]
   rfl
 | x :: o,a,r,c,h=>by
   simp only [za1] at h
   simp only [zbM]
   split at h
   ·rename_i h1
    rw [if_pos h1]
    exact zgF h
   ·rename_i h1
    rw [if_neg h1]
    split at h
    ·rename_i h2
     rw [if_pos h2,List.length_cons,zgF h]
     cases r with
     | nil=>cases h2
     | cons y r=>rfl
    ·cases h
theorem zhJ : ∀ {o a r : List Int} {c m : Nat},m ∈ zbM c o a r → c ≤ m ∧ m ≤ c + a.length
 | [],a,r,c,m,h=>by simp [zbM] at h
 | x :: o,a,r,c,m,h=>by
   simp only [zbM] at h
   split at h
   ·rename_i h1
    have:=zhJ h
    cases a with
    | nil=>cases h1
    | cons y a=>simp at this ⊢; omega
   ·split at h
    ·rcases List.mem_cons.1 h with rfl | h
     ·omega
     ·exact zhJ h
    ·simp at h
theorem zk9 : ∀ {o a r : List Int} {k : Int},za1 o a r = true → k ∉ o → za1 (o ++ [k]) (a ++ [k]) r = true
 | [],a,r,k,h,_=>by
   simp [za1] at h
   rw [h.1,h.2]
   simp [za1]
 | x :: o,a,r,k,h,hk=>by
   have hkx : k ≠ x:=fun e=>hk (by simp [e])
   have hko : k ∉ o:=fun e=>hk (List.mem_cons_of_mem _ e)
   simp only [za1] at h
   simp only [List.cons_append,za1]
   split at h
   ·rename_i h1
    cases a with
    | nil=>cases h1
    | cons y a =>
      have : y = x:=by simpa using h1
      subst this
      simpa using zk9 h hko
   ·rename_i h1
    split at h
    ·rename_i h2
     have h3 : (a ++ [k]).head? ≠ some x:=by
      cases a with
      | nil=>simpa using hkx
      | cons y a=>simpa using h1
     rw [if_neg h3,if_pos h2]
     exact zk9 h hko
    ·cases h
theorem zkn : ∀ {o a r : List Int} {k : Int},za1 o a r = true → k ∉ o → za1 (o ++ [k]) a (r ++ [k]) = true
 | [],a,r,k,h,_=>by
   simp [za1] at h
   rw [h.1,h.2]
   simp [za1]
 | x :: o,a,r,k,h,hk=>by
   have hkx : k ≠ x:=fun e=>hk (by simp [e])
   have hko : k ∉ o:=fun e=>hk (List.mem_cons_of_mem _ e)
   simp only [za1] at h
   simp only [List.cons_append,za1]
   split at h
   ·rename_i h1
    rw [if_pos h1]
    exact zkn h hko
   ·rename_i h1
    rw [if_neg h1]
    split at h
    ·rename_i h2
     cases r with
     | nil=>cases h2
     | cons y r =>
       have : y = x:=by simpa using h2
       subst this
       simpa using zkn h hko
    ·cases h
def zgi (g : Gr) (p : Pol) (b : List Int) (r : Int × List Int) : Prop:=zcV ⟨netN g,netA g p (zaw (b ++ [r.1]))⟩ r.2 b.length
def zda (g : Gr) (p : Pol) : List Int → List Int → List Int → List (Int × List Int) → Prop
 | _,[],_,_=>True
 | b,x :: o,a,R=>if a.head? = some x then zda g p (b ++ [x]) o a.tail R else match R with
   | []=>True
   | r :: R=>zgi g p b r ∧ zda g p b o a R
def zaT (R : List (Int × List Int)) : List Int:=R.map (·.1)
theorem zkt {g : Gr} {p : Pol} : ∀ {o b a : List Int} {R : List (Int × List Int)},za1 o a (zaT R) = true →
  (zda g p b o a R ↔ ∀ i (h : i < R.length),zgi g p (b ++ a.take ((zbM b.length o a (zaT R)).getD i 0 - b.length)) R[i])
 | [],b,a,R,h=>by
   simp [za1,zaT] at h
   obtain ⟨_,rfl⟩:=h
   simp [zda]
 | x :: o,b,a,R,h=>by
   simp only [za1] at h
   simp only [zda,zbM]
   split at h
   ·rename_i h1
    rw [if_pos h1,if_pos h1]
    have ih:=zkt (g:=g) (p:=p) (b:=b ++ [x]) h
    rw [List.length_append,List.length_singleton] at ih
    rw [ih]
    cases a with
    | nil=>cases h1
    | cons y a =>
      have : y = x:=by simpa using h1
      subst this
      simp only [List.tail_cons] at h ih ⊢
      have key : ∀ i (hi : i < R.length),b ++ [y] ++ a.take ((zbM (b.length + 1) o a (zaT R)).getD i 0 - (b.length + 1)) = b ++ (y :: a).take ((zbM (b.length + 1) o a (zaT R)).getD i 0 - b.length):=fun i hi=>by
       have hl : i < (zbM (b.length + 1) o a (zaT R)).length:=by
        rw [zgF h,zaT,List.length_map]
        exact hi
       have hm:=zhJ (List.getElem_mem hl)
       have e : (zbM (b.length + 1) o a (zaT R)).getD i 0 = (zbM (b.length + 1) o a (zaT R))[i]:=by rw [List.getD_eq_getElem?_getD,List.getElem?_eq_getElem hl,Option.getD_some]
       rw [e]
       obtain ⟨q,hq⟩ : ∃ q,(zbM (b.length + 1) o a (zaT R))[i] = b.length + 1 + q:=⟨_,(Nat.add_sub_cancel' hm.1).symm⟩
       rw [hq,show b.length + 1 + q - (b.length + 1) = q by omega,show b.length + 1 + q - b.length = q + 1 by omega,List.take_succ_cons,List.append_assoc]
       rfl
      constructor
      ·intro h2 i hi
       rw [← key i hi]
       exact h2 i hi
      ·intro h2 i hi
       have:=h2 i hi
       rw [← key i hi] at this
       exact this
   ·rename_i h1
    rw [if_neg h1,if_neg h1]
    split at h
    ·rename_i h2
     cases R with
     | nil=>cases h2
     | cons r R =>
       rw [if_pos h2]
       have ih:=zkt (g:=g) (p:=p) (b:=b) (R:=R) h
       simp only
       rw [ih]
       constructor
       ·rintro ⟨h3,h4⟩ i hi
        cases i with
        | zero=>simpa using h3
        | succ i=>exact h4 i (by simpa using hi)
       ·intro h3
        refine ⟨by
         have h4:=h3 0 (Nat.zero_lt_succ _)
         simp only [List.getD_cons_zero,Nat.sub_self,List.take_zero,List.append_nil] at h4
         exact h4,fun i hi=>h3 (i + 1) (by simpa using hi)⟩
    ·cases h
open Classical in
noncomputable def zia (g : Gr) (p : Pol) (acc flow : List Int) (R : List (Int × List Int)) : Int :=
 if za1 (ordL (zal g p.lv) p.seeds) acc (zaT R) = true then
  if zaA (netN g) (netA g p (zaw acc)) flow ∧ valF (netA g p (zaw acc)) flow = acc.length then
   if zda g p [] (ordL (zal g p.lv) p.seeds) acc R then 0 else 18
  else 17
 else 1
theorem zrk {N : Nat} {A : List Ed} (hn : za3 ⟨N,A⟩) : zcp ⟨N,A⟩ (zfe N A) ∧ cutV A (zfe N A) = maxF N A:=by
 have hno:=zeN hn
 obtain ⟨f,hf,hm⟩:=zff hno
 obtain ⟨D,b,hb,hc⟩:=Bfs.grow hno N [0] _ (Bfs.start (f:=f) (by have:=hno.two; omega)) (by omega)
 have h1:=zqd hno hf hm hb
 have hmf:=zgu hf hm
 have he : inD D N = zfe N A:=znh hno hf hm hb.tree hb.mem0 h1 hc
 have hgr:=(zgG hno hf hb.mem0 h1 hc).1
 have hmD : ∀ x,x ∈ inD D N ↔ x ∈ D:=fun x=>by
  rw [znG]
  exact ⟨fun h=>h.2,fun h=>⟨hb.rng x h,h⟩⟩
 rw [← he]
 refine ⟨⟨hn,zgd (zq3 D N) fun k hk=>by have:=(znG.1 hk).1; simp only; omega,(hmD 0).2 hb.mem0,fun h=>h1 ((hmD 1).1 h)⟩,?_⟩
 rw [zj7,hmf,hgr]
 congr 1
 funext x
 exact decide_eq_decide.2 (hmD x)
section
variable {g : Gr} {p : Pol}
theorem zks : ∀ {o b a : List Int} {R : List (Int × List Int)} {k : Int},za1 o a (zaT R) = true → k ∉ o → zda g p b o a R → zda g p b (o ++ [k]) (a ++ [k]) R
 | [],b,a,R,k,h,_,_=>by
   simp [za1,zaT] at h
   obtain ⟨rfl,rfl⟩:=h
   simp [zda]
 | x :: o,b,a,R,k,h,hk,hc=>by
   have hkx : k ≠ x:=fun e=>hk (by simp [e])
   have hko : k ∉ o:=fun e=>hk (List.mem_cons_of_mem _ e)
   simp only [za1] at h
   simp only [zda] at hc
   simp only [List.cons_append,zda]
   split at h
   ·rename_i h1
    rw [if_pos h1] at hc
    cases a with
    | nil=>cases h1
    | cons y a =>
      have : y = x:=by simpa using h1
      subst this
      simpa using zks h hko hc
   ·rename_i h1
    rw [if_neg h1] at hc
    have h3 : (a ++ [k]).head? ≠ some x:=by
     cases a with
     | nil=>simpa using hkx
     | cons y a=>simpa using h1
    rw [if_neg h3]
    split at h
    ·cases R with
     | nil=>trivial
     | cons r R=>exact ⟨hc.1,zks h hko hc.2⟩
    ·cases h
theorem zlb : ∀ {o b a : List Int} {R : List (Int × List Int)} {r : Int × List Int},za1 o a (zaT R) = true → r.1 ∉ o → zgi g p (b ++ a) r → zda g p b o a R → zda g p b (o ++ [r.1]) a (R ++ [r])
 | [],b,a,R,r,h,_,hr,_=>by
   simp [za1,zaT] at h
   obtain ⟨rfl,rfl⟩:=h
   rw [List.append_nil] at hr
   simp [zda,hr]
 | x :: o,b,a,R,r,h,hk,hr,hc=>by
   have hko : r.1 ∉ o:=fun e=>hk (List.mem_cons_of_mem _ e)
   simp only [za1] at h
   simp only [zda] at hc
   simp only [List.cons_append,zda]
   split at h
   ·rename_i h1
    rw [if_pos h1] at hc
    rw [if_pos h1]
    cases a with
    | nil=>cases h1
    | cons y a =>
      have : y = x:=by simpa using h1
      subst this
      exact zlb h hko (by simpa using hr) hc
   ·rename_i h1
    rw [if_neg h1] at hc
    rw [if_neg h1]
    split at h
    ·rename_i h2
     cases R with
     | nil=>cases h2
     | cons q R=>exact ⟨hc.1,zlb h hko hr hc.2⟩
    ·cases h
theorem zrr (hg : GrOk g) (hp : za0 g.size p) {a : List Int} (h : ∀ x ∈ a,x ∈ ordL (zal g p.lv) p.seeds) : zcj g p a:=by
 refine ⟨fun x hx=>?_,fun x hx=>?_⟩
 ·have h2:=zcg (h x hx)
  exact h2
 ·have h2:=(zmH (hg.level p.lv)).1 (h x hx)
  exact (ziR hp h2.1.1).2 ⟨h2.1.2,h2.2⟩
theorem zcj.join {a : List Int} (h : zcj g p a) : zcj g p (zaw a):=h.sub fun _ hx=>(zdF.1 hx).1
theorem zsV (hg : GrOk g) (hp : za0 g.size p) (hs : p.seeds.length ≤ 64) : ∀ (n : Nat) (o : List Int),o.length = n → o.Nodup → zcj g p o →
  zat g p (zaw (accR g p o)) ∧ za1 o (accR g p o) (zaT (refR g p o)) = true ∧ zda g p [] o (accR g p o) (refR g p o)
 | 0,o,h,_,_=>by
   obtain rfl:=List.eq_nil_of_length_eq_zero h
   exact ⟨zat.nil hg hp,rfl,trivial⟩
 | n + 1,o,h,hon,hok=>by
   have hne : o ≠ []:=fun e=>by rw [e] at h; cases h
   obtain ⟨q,hq⟩ : ∃ q,q = o.dropLast:=⟨_,rfl⟩
   obtain ⟨k,hk⟩ : ∃ k,k = o.getLast hne:=⟨_,rfl⟩
   have ho : o = q ++ [k]:=by rw [hq,hk]; exact (List.dropLast_concat_getLast hne).symm
   have hql : q.length = n:=by rw [hq,List.length_dropLast,h]; rfl
   rw [ho] at hon hok ⊢
   have hqn : q.Nodup:=(List.nodup_append.1 hon).1
   have hkq : k ∉ q:=fun hm=>(List.nodup_append.1 hon).2.2 k hm k (by simp) rfl
   have hqok : zcj g p q:=hok.sub fun x hx=>List.mem_append_left _ hx
   obtain ⟨ih1,ih2,ih3⟩:=zsV hg hp hs n q hql hqn hqok
   by_cases hc : zat g p (zaw (accR g p q ++ [k]))
   ·rw [zbP hc,zhG hc]
    exact ⟨hc,zk9 ih2 hkq,zks ih2 hkq ih3⟩
   ·rw [zg8 hc,zkP hc]
    have hsz2:=hg.1.2.1
    have hrng : ∀ x ∈ accR g p q ++ [k],0 ≤ x ∧ x < g.size:=fun x hx=>hok.rng x (by
     rcases List.mem_append.1 hx with h2 | h2
     ·exact List.mem_append_left _ (zd6 h2)
     ·exact List.mem_append_right _ h2)
    have hnd : (accR g p q ++ [k]).Nodup:=List.nodup_append.2 ⟨hqn.sublist (zd7 _ _ rfl),by simp,fun a ha b hb=>by
     rw [List.mem_singleton] at hb
     subst hb
     rintro rfl
     exact hkq (zd6 ha)⟩
    have hjl:=zgJ hnd fun x hx=>by have:=hrng x hx; omega
    have hnv:=zfl hg hp (zgx (zc4 hrng)) hs (zbm (accR g p q ++ [k]))
    have hside:=zrk hnv
    have hfew:=zh8 (p:=p) (ks:=zaw (accR g p q ++ [k])) hg hp (zgx (zc4 hrng))
    have hcut : zgi g p (accR g p q) (k,zfe (netN g) (netA g p (zaw (accR g p q ++ [k])))):=by
     refine ⟨hside.1,?_⟩
     simp only
     rw [hside.2]
     have : maxF (netN g) (netA g p (zaw (accR g p q ++ [k]))) ≠ (zaw (accR g p q ++ [k])).length:=hc
     rw [hjl,List.length_append,List.length_singleton] at this hfew
     omega
    refine ⟨ih1,?_,?_⟩
    ·have:=zkn (r:=zaT (refR g p q)) ih2 hkq
     simpa [zaT] using this
    ·exact zlb (r:=(k,zfe (netN g) (netA g p (zaw (accR g p q ++ [k]))))) ih2 hkq (by rw [List.nil_append]; exact hcut) ih3
theorem zl7 (hg : GrOk g) (hp : za0 g.size p) : zcj g p (ordL (zal g p.lv) p.seeds):=zrr hg hp fun _ h=>h
theorem zoI (hg : GrOk g) (hp : za0 g.size p) (hs : p.seeds.length ≤ 64) {f : List Int} (hf : zcW g p (zaw (accR g p (ordL (zal g p.lv) p.seeds))) f) :
  zia g p (accR g p (ordL (zal g p.lv) p.seeds)) f (refR g p (ordL (zal g p.lv) p.seeds)) = 0:=by
 have hon:=zbj (zal g p.lv) p.seeds
 obtain ⟨h1,h2,h3⟩:=zsV hg hp hs _ _ rfl hon (zl7 hg hp)
 have hsz2:=hg.1.2.1
 have hjl:=zgJ (hon.sublist (zd7 (g:=g) (p:=p) _ _ rfl)) fun x hx=>by
  have:=(zl7 hg hp).rng x (zd6 hx)
  omega
 unfold zia
 rw [if_pos h2,if_pos ⟨hf.ok,by rw [hf.val,← hjl]; exact h1⟩,if_pos h3]
end
def gF : Gr:=⟨3,[⟨0,1,1⟩,⟨0,2,1⟩],[]⟩
theorem zmB : GrOk gF:=by
 refine ⟨⟨by decide +revert,by decide +revert,by decide +revert,fun i h=>by simp [gF] at h⟩,fun i h=>?_⟩
 have : i = 0 ∨ i = 1:=by simp [gF] at h; omega
 rcases this with rfl | rfl
 ·exact ⟨by unfold Fits; simp [gF],by decide +revert,by decide +revert,fun h=>by cases h⟩
 ·exact ⟨by unfold Fits; simp [gF],by decide +revert,by decide +revert,fun h=>by decide +revert⟩
theorem zqz {N : Nat} {A : List Ed} {f : List Int} (h : (decide (f.length = A.length) && ((List.range A.length).all fun i=>decide (0 ≤ f.getD i 0 ∧ f.getD i 0 ≤ (arcD A i).v)) && ((List.range N).all fun x=>decide (x < 2 ∨ exF A f x = 0))) = true) : zaA N A f:=by
 simp only [Bool.and_eq_true,decide_eq_true_eq,List.all_eq_true,List.mem_range] at h
 exact zcK.2 ⟨h.1.1,fun i hi=>h.1.2 i hi,fun x h1 h2=>(h.2 x h2).resolve_left (by omega)⟩
variable {g : Gr} {p : Pol}
theorem h64 (hg : GrOk g) {a : List Int} (h : ∀ x ∈ a,0 ≤ x ∧ x < g.size) : ∀ x ∈ a,0 ≤ x ∧ x < 64:=fun x hx=>by
 have:=h x hx
 have:=hg.1.2.1
 omega
variable {g : Gr} {p : Pol}
variable {g : Gr} {p : Pol}
theorem ForR.uniq {key : Int} {x y : Expl} (hg : GrOk g) (hx : ForR g p (ordL (zal g p.lv) p.seeds) key x) (hy : ForR g p (ordL (zal g p.lv) p.seeds) key y) :
  x.key = y.key ∧ x.acc = y.acc ∧ x.before = y.before ∧ x.side = y.side ∧ x.paths.length = y.paths.length:=by
 obtain ⟨hx1,hx2,i,hi,hik,hib⟩:=hx.at_ hg
 obtain ⟨hy1,hy2,j,hj,hjk,hjb⟩:=hy.at_ hg
 have hij : i = j:=(List.getElem_inj (zbj (zal g p.lv) p.seeds)).1 (hik.trans hjk.symm)
 subst hij
 have hb : x.before = y.before:=hib.trans hjb.symm
 refine ⟨hx1.trans hy1.symm,?_⟩
 by_cases hacc : key ∈ accR g p (ordL (zal g p.lv) p.seeds)
 ·obtain ⟨x1,x2,W,⟨f,g',_,_,hl,_⟩,x3⟩:=hx.yes hacc
  obtain ⟨y1,y2,V,⟨f',g'',_,_,hl',_⟩,y3⟩:=hy.yes hacc
  refine ⟨x1.trans y1.symm,hb,x2.trans y2.symm,?_⟩
  rw [x3,y3,List.length_map,List.length_map]
  rw [hb] at hl
  omega
 ·obtain ⟨x1,x2,R,hR,hs⟩:=hx.no hacc
  obtain ⟨y1,y2,R',hR',hs'⟩:=hy.no hacc
  refine ⟨x1.trans y1.symm,hb,?_,by rw [x2,y2]⟩
  obtain ⟨a,ha,hak,hn⟩:=hR.right _ hs
  obtain ⟨b,hb',hbk,hn'⟩:=hR'.right _ hs'
  simp only at hak hbk hn hn'
  have h1 : a = i:=(List.getElem_inj (zbj (zal g p.lv) p.seeds)).1 (hak.trans hik.symm)
  have h2 : b = i:=(List.getElem_inj (zbj (zal g p.lv) p.seeds)).1 (hbk.trans hik.symm)
  subst h1
  subst h2
  rw [hn.eq,hn'.eq]
def g1 : Gr:=⟨1,[],[]⟩
def p1 : Pol:=⟨[0],[2],1⟩
section
variable {P : Program} {np id : Nat} {h : Nat → Option Ent} {K : AV → List Nat → List (Nat × Option Ent) → Prop} {f : FuncId} {first capt args args' : List AV} {res : AV}
end
variable {g : Gr} {p : Pol}
theorem zeU {l : List Int} {i : Nat} (h : i < l.length) : (l.drop i).head? = some l[i]:=by rw [List.head?_drop,List.getElem?_eq_getElem h]
theorem zct {l : List Int} {i : Nat} (h : ¬ i < l.length) : (l.drop i).head? = none:=by rw [List.head?_drop,List.getElem?_eq_none (by omega)]
structure PtSt where
 n : Nat
 i : Nat
 k : Nat
 L : List Int
set_option maxRecDepth 100000 in
set_option maxHeartbeats 4000000 in
theorem zj0 (o acc f : List Int) (R : List (Int × List Int)) (hol : o.length ≤ 100) (ha : acc.length ≤ 1000) (hR : R.length ≤ 1000) :
  ∃ L : List Int,(za1 o acc (zaT R) = true → L = (zbM 0 o acc (zaT R)).map fun (n : Nat)=>(n : Int)) ∧ zai Tryz.prog ze8 [ints o,eAcc acc f R] [] (.tup [ints L,.B (za1 o acc (zaT R))]) []:=by
 refine zlw.acallsX (args:=[ints o,eAcc acc f R]) (hs:=[]) (fun L=>.tup [ints L,.B (za1 o acc (zaT R))]) (fun _=>[]) (fun L : List Int=>za1 o acc (zaT R) = true → L = (zbM 0 o acc (zaT R)).map fun (n : Nat)=>(n : Int)) (nbz rfl) (nbz rfl) (fun _=>Nat.le_refl _) ?_
 show awp _ 0 _ _ ⟨70,[(0,ints o),(1,eAcc acc f R)],[],16⟩
 have hkl : (zaT R).length = R.length:=by simp [zaT]
 obtain ⟨b,hb⟩ : ∃ b,b = za1 o acc (zaT R):=⟨_,rfl⟩
 rw [← hb]
 refine zaa ⟨70,[(0,ints o),(3,.pv [ints acc,ints f,.vs 2 false (zaJ R)])],[],40⟩ rfl ?_ ?_
 ·simp
  exact LeH [] [16]
 refine zaa ⟨70,[(0,ints o),(3,.pv [ints acc,ints f,.vs 2 false (zaJ R)]),(6,.rs 50 0 0)],[(50,some ⟨1,[],0⟩)],100⟩ rfl ?_ ?_
 ·simp
  exact Le.lst [] [] [(50,1)] rfl (by simp) (by simp) (by simp) (by simp) (by simp) (by simp) (by simp) (by simp [Up]) (by simp)
 refine zaa ⟨70,[(0,ints o),(3,.pv [ints acc,ints f,.vs 2 false (zaJ R)]),(6,.rs 50 0 0),(7,.I 0),(8,.I 0)],[(50,some ⟨1,[],0⟩)],200⟩ rfl ?_ ?_
 ·simp
  exact LeH [(50,50)] []
 refine zab ?_
 refine zaa ⟨70,[(3,.pv [ints acc,ints f,.vs 2 false (zaJ R)]),(6,.rs 50 0 0),(7,.I 0),(8,.I 0),(11,ints o),(12,.I o.length),(13,.I 0)],[(50,some ⟨1,[],0⟩)],300⟩ rfl ?_ ?_
 ·simp
  exact LeH [(50,50)] []
 refine zaf ?_
 refine zao (ι:=PtSt) (fun s=>⟨70,[(3,.pv [ints acc,ints f,.vs 2 false (zaJ R)]),(6,.rs 50 0 s.L.length),(7,.I s.i),(8,.I s.k),(11,ints o),(12,.I o.length),(13,.I s.n)],[(50,some ⟨1,zah s.L,0⟩)],300⟩)
  (fun s=>s.n ≤ o.length ∧ s.i ≤ acc.length ∧ s.k ≤ R.length ∧ s.L.length ≤ s.n ∧ b = za1 (o.drop s.n) (acc.drop s.i) ((zaT R).drop s.k) ∧ s.L ++ (zbM s.i (o.drop s.n) (acc.drop s.i) ((zaT R).drop s.k)).map (fun (n : Nat)=>(n : Int)) = (zbM 0 o acc (zaT R)).map (fun (n : Nat)=>(n : Int)))
  (fun s=>o.length - s.n) ⟨0,0,0,[]⟩ ⟨Nat.zero_le _,Nat.zero_le _,Nat.zero_le _,Nat.le_refl _,by simpa using hb,by simp⟩ (LeH [(50,50)] []) ?_
 rintro ⟨n,i,k,L⟩ ⟨hn,hi,hk,hL,hp,hah⟩
 simp only at hn hi hk hL hp hah
 refine zaa ⟨70,[(3,.pv [ints acc,ints f,.vs 2 false (zaJ R)]),(6,.rs 50 0 L.length),(7,.I i),(8,.I k),(11,ints o),(12,.I o.length),(13,.I n),(14,.B (decide (n < o.length)))],[(50,some ⟨1,zah L,0⟩)],400⟩ rfl ?_ ?_
 ·simp
  exact LeI [(50,50)] []
 refine zab ?_
 refine zac _ rfl (fun h6=>?_) fun h6=>?_
 ·simp at h6
  have hw1 : IntKind.i64.wrap ((n : Int) + 1) = (n : Int) + 1:=w64 (by omega) (by omega)
  have hw2 : IntKind.i64.wrap ((i : Int) + 1) = (i : Int) + 1:=w64 (by omega) (by omega)
  have hw3 : IntKind.i64.wrap ((k : Int) + 1) = (k : Int) + 1:=w64 (by omega) (by omega)
  obtain ⟨x,hx⟩ : ∃ x,x = o[n]:=⟨_,rfl⟩
  have hod : o.drop n = x :: o.drop (n + 1):=by rw [List.drop_eq_getElem_cons h6,hx]
  rw [hod] at hp hah
  simp only [za1,zbM,List.tail_drop] at hp hah
  refine zae ?_
  refine zab ?_
  refine zaf ?_
  refine zaa ⟨70,[(3,.pv [ints acc,ints f,.vs 2 false (zaJ R)]),(6,.rs 50 0 L.length),(7,.I i),(8,.I k),(10,.I x),(11,ints o),(12,.I o.length),(13,.I n)],[(50,some ⟨1,zah L,0⟩)],500⟩ rfl ?_ ?_
  ·simp [h6,← hx]
   exact LeI [(50,50)] []
  refine zaf ?_
  refine zaa ⟨70,[(3,.pv [ints acc,ints f,.vs 2 false (zaJ R)]),(6,.rs 50 0 L.length),(7,.I i),(8,.I k),(10,.I x),(11,ints o),(12,.I o.length),(13,.I n),(17,.B (decide ((acc.drop i).head? = some x)))],[(50,some ⟨1,zah L,0⟩)],700⟩ rfl ?_ ?_
  ·by_cases hia : i < acc.length
   ·have hh:=zeU hia
    simp [hia]
    exact Le.go [(50,50)] [] rfl rfl (by simp <;> exact wkB (by rw [Bool.eq_iff_iff]; simp [hia])) (by simp [fcd])
   ·have hh:=zct hia
    have hai : acc.length ≤ i:=by omega
    simp [hia]
    exact Le.go [(50,50)] [] rfl rfl (by simp [hia]) (by simp [fcd])
  refine zac _ rfl (fun h9=>?_) fun h9=>?_
  ·rw [decide_eq_true_eq] at h9
   rw [if_pos h9] at hp hah
   have hia : i < acc.length:=Decidable.byContradiction fun h=>by rw [zct h] at h9; cases h9
   refine zar rfl ?_
   simp
   refine zar rfl ?_
   simp
   exact ⟨⟨n + 1,i + 1,k,L⟩,⟨by simp only; omega,by simp only; omega,hk,by simp only; omega,hp,hah⟩,by simp only; omega,Le.go [(50,50)] [] rfl rfl (by simp [hw1,hw2]) (by simp [fcd])⟩
  rw [decide_eq_false_iff_not] at h9
  rw [if_neg h9] at hp hah
  refine zaa ⟨70,[(3,.pv [ints acc,ints f,.vs 2 false (zaJ R)]),(6,.rs 50 0 L.length),(7,.I i),(8,.I k),(11,ints o),(12,.I o.length),(13,.I n),(34,.B (decide (((zaT R).drop k).head? = some x)))],[(50,some ⟨1,zah L,0⟩)],900⟩ rfl ?_ ?_
  ·by_cases hkR : k < R.length
   ·have hh : ((zaT R).drop k).head? = some R[k].1:=by rw [List.head?_drop,zaT,List.getElem?_map,List.getElem?_eq_getElem hkR]; rfl
    have hh2 : (zaT R)[k]? = some R[k].1:=by rw [← List.head?_drop]; exact hh
    simp [hkR]
    exact Le.go [(50,50)] [] rfl rfl (by simp [hh2] <;> exact wkB (by rw [Bool.eq_iff_iff]; simp)) (by simp [fcd])
   ·have hh : ((zaT R).drop k).head? = none:=by rw [List.head?_drop,List.getElem?_eq_none (by omega)]
    have hh2 : (zaT R)[k]? = none:=by rw [← List.head?_drop]; exact hh
    simp [hkR]
    exact Le.go [(50,50)] [] rfl rfl (by simp [hh2,hkR]) (by simp [fcd])
  refine zac _ rfl (fun h11=>?_) fun h11=>?_
  ·rw [decide_eq_true_eq] at h11
   rw [if_pos h11] at hp hah
   have hkR : k < R.length:=Decidable.byContradiction fun h=>by rw [List.head?_drop,List.getElem?_eq_none (by omega)] at h11; cases h11
   refine zaa ⟨70,[(3,.pv [ints acc,ints f,.vs 2 false (zaJ R)]),(6,.rs 50 0 L.length),(7,.I i),(8,.I (k + 1 : Nat)),(11,ints o),(12,.I o.length),(13,.I n)],[(50,some ⟨1,zah L,0⟩)],1000⟩ rfl ?_ ?_
   ·simp
    exact Le.go [(50,50)] [] rfl rfl (by simp [hw3]) (by simp [fcd])
   have htL : ∀ h : Int → List AV,List.take L.length (List.map h L) = List.map h L:=fun h=>List.take_of_length_le (by simp)
   refine zar rfl ?_
   simp [htL]
   refine ⟨by omega,by omega,?_⟩
   refine zar rfl ?_
   simp
   exact ⟨⟨n + 1,i,k + 1,L ++ [(i : Int)]⟩,⟨by simp only; omega,hi,hkR,by simp; omega,hp,by simpa using hah⟩,by simp only; omega,Le.go [(1024,50)] [] rfl rfl (by simp [hw1]) (by simp [fcd])⟩
  rw [decide_eq_false_iff_not] at h11
  rw [if_neg h11] at hp
  subst hp
  refine zaa ⟨70,[(4,ints []),(5,.B false)],[],1000⟩ rfl ?_ ?_
  ·simp
   exact Le.go [] [] rfl rfl (by simp; exact Wk.nil _ _) (by simp)
  refine zag ?_
  exact zfU.mk (.inr rfl) [] (fun h=>by cases h) (zak.out [] [] rfl (by simp) (by simp) (by simp; exact .refl _) (by simp))
 simp at h6
 obtain rfl : n = o.length:=by omega
 rw [List.drop_length] at hp hah
 have hp2 : b = (decide (i = acc.length) && decide (k = R.length)):=by
  rw [hp]
  simp only [za1]
  rw [Bool.eq_iff_iff]
  simp [List.isEmpty_iff]
  omega
 refine zam ?_
 refine hit ?_
 have htL : ∀ h : Int → List AV,List.take L.length (List.map h L) = List.map h L:=fun h=>List.take_of_length_le (by simp)
 refine zan ⟨70,[(4,ints L),(5,.B b)],[],1000⟩ rfl ?_ ?_
 ·by_cases hia : i = acc.length
  ·simp [hia]
   exact ⟨rfl,Le.go [] [50] rfl rfl (by simp [hp2,hia,fcd,htL] <;> exact wkB (by rw [Bool.eq_iff_iff]; simp; omega)) (by simp)⟩
  ·have hia2 : ¬ (i : Int) = acc.length:=by omega
   have hia3 : ((i : Int) == (acc.length : Int)) = false:=by simpa using hia2
   simp [hia3]
   exact ⟨rfl,Le.go [] [50] rfl rfl (by simp [hp2,hia,fcd,htL]) (by simp)⟩
 refine zag ?_
 exact zfU.mk (.inr rfl) L (fun _=>by simpa [zbM] using hah) (zak.out [] [] rfl (by simp) (by simp) (by simp) (by simp))
end Go.Proofs.YthmaflecfppoiaaGreat
