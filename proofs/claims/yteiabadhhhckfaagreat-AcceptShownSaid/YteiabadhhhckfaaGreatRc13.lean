/- Texts of this claim,merged. -/
import Derived.Test.YteiabadhhhckfaaGreatRc12
import Derived.Test.YteiabadhhhckfaaGreatRc11
set_option linter.unusedSimpArgs false
set_option linter.unusedVariables false
set_option linter.unusedSectionVars false
namespace Go.Proofs.YteiabadhhhckfaaGreat
open Go
theorem zn7 : toAV (Value.agg #[Value.int IntKind.i64 0,Value.bool false]) = .agg [.sc (.int .i64 0),.sc (.bool false)]:=by simp [toAV,Value.oneCell']
theorem ztI {a b : Int} : Plain (.tup [.I a,.I b]):=.tup _ fun i=>match i with
 | 0=>.sc _
 | 1=>.sc _
 | _ + 2=>.dead
structure ztY where
 j : Nat
 v : Int
def wayB (l : List Stp) (j : Nat) : List Stp:=(l.drop j).reverse
theorem zoH (l : List Stp) (j : Nat) : (wayB l j).length = l.length - j:=by simp [wayB]
theorem zqX {l : List Stp} {j : Nat} (h : j < l.length) : wayB l j = wayB l (j + 1) ++ [l[j]]:=by
 unfold wayB
 rw [List.drop_eq_getElem_cons h,List.reverse_cons]
theorem zrG (l : List Stp) : wayB l l.length = []:=by simp [wayB]
theorem zoR {N : Nat} {A : List Ed} {f D b : List Int} {l : List Stp} (hb : Bfs N A f D b) (hl : zku N A f b l) {j : Nat} (hj : j < l.length) : camF D b (stT A l[j]) = some (zo3 l[j]):=by
 obtain ⟨q1,q2,q3,q4,q5,q6⟩:=hl.at_ j hj
 have hD : stT A l[j] ∈ D:=Decidable.byContradiction fun h=>zsa l[j] (by rw [← q6]; exact hb.out _ q4 h)
 unfold camF
 rw [if_pos hD,if_neg q3,q6,znh]
set_option maxRecDepth 100000 in
set_option maxHeartbeats 8000000 in
theorem zti (N : Nat) (A : List Ed) (f : List Int) (hn : za4 ⟨N,A⟩) (hf : zaB N A f) :
  ∃ x : Bool × List Int,(if x.1 then zaB N A x.2 ∧ valF A f + 1 ≤ valF A x.2 else x.2 = f ∧ ∀ f',zaB N A f' → valF A f' ≤ valF A f) ∧ zaj Tryz.prog zch [eR N A (.rs 0 0 A.length)] [⟨1,zah f,0⟩] (.B x.1) [some ⟨1,zah x.2,0⟩]:=by
 refine zgl.acallsX (args:=[eR N A (.rs 0 0 A.length)]) (hs:=[⟨1,zah f,0⟩]) (fun x=>.B x.1) (fun x=>[some ⟨1,zah x.2,0⟩]) (fun x : Bool × List Int=>if x.1 then zaB N A x.2 ∧ valF A f + 1 ≤ valF A x.2 else x.2 = f ∧ ∀ f',zaB N A f' → valF A f' ≤ valF A f) (Nat.le_of_ble_eq_true rfl) (Nat.le_of_ble_eq_true rfl) (fun _=>by simp) ?_
 show awp _ 1 _ _ ⟨86,[(0,eR N A (.rs 0 0 A.length))],[(0,some ⟨1,zah f,0⟩)],16⟩
 have hno:=zfC hn
 have hfl:=hf.fit.len
 have hfit:=zc2.1 hf.fit
 obtain ⟨⟨D,b,R⟩,⟨hb,hcl,hR⟩,hcall⟩:=zox N A f hn hf.fit
 simp only at hb hcl hR hcall
 have hroom:=fun s hs=>zrh N A f s hn hf.fit hs
 obtain ⟨hn0,hn1,hal,hav⟩:=hn
 simp only at hn0 hn1 hal hav
 have htake : ∀ g : Int → List AV,List.take A.length (List.map g f) = List.map g f:=fun g=>List.take_of_length_le (by simp; omega)
 have hfind:=hR.is.find
 have hsome:=zf9 D b 1
 refine zab ⟨86,[(1,.pt 16 0 0)],[(0,some ⟨1,zah f,0⟩),(16,some ⟨4,[rC N A (.rs 0 0 A.length)],0⟩)],32⟩ rfl ?_ ?_
 ·simp
  exact Le.go [(0,0),(16,16)] [] rfl rfl (by simp) (by simp [fcd])
 refine zab ⟨86,[(1,.pt 16 0 0),(3,.mp 60)],[(0,some ⟨1,zah f,0⟩),(16,some ⟨4,[rC N A (.rs 0 0 A.length)],0⟩),(60,some ⟨0,R,0⟩)],100⟩ rfl ?_ ?_
 ·simp
  refine znA [0] hcall (by simp [fcd,htake,hfl]) (.mp _) (hR.plain _ _) ?_
  simp
  exact Le.go [(0,0),(16,16),(40,60)] [] rfl rfl (by simp) (by simp [fcd,hR.conv'])
 refine zaa ?_
 have hgd : ∃ u v,(camF D b 1).getD (toAV (Value.agg #[Value.int IntKind.i64 0,Value.bool false])) = .agg [.sc u,.sc v]:=by
  cases hc : camF D b 1 with
  | none=>exact ⟨_,_,zn7⟩
  | some x =>
    obtain ⟨u,v,rfl⟩:=ze5 _ _ _ _ hc
    exact ⟨u,v,rfl⟩
 refine zab ⟨86,[(1,.pt 16 0 0),(3,.mp 60),(5,.B (decide ((1 : Int) ∈ D)))],[(0,some ⟨1,zah f,0⟩),(16,some ⟨4,[rC N A (.rs 0 0 A.length)],0⟩),(60,some ⟨0,R,0⟩)],200⟩ rfl ?_ ?_
 ·obtain ⟨u,v,huv⟩:=hgd
  simp [hfind,hsome,huv]
  exact Le.go [(0,0),(16,16),(60,60)] [] rfl rfl (by simp) (by simp [fcd,hR.conv'])
 refine zab ⟨86,[(1,.pt 16 0 0),(3,.mp 60),(22,.B (!decide ((1 : Int) ∈ D)))],[(0,some ⟨1,zah f,0⟩),(16,some ⟨4,[rC N A (.rs 0 0 A.length)],0⟩),(60,some ⟨0,R,0⟩)],300⟩ rfl ?_ ?_
 ·simp
  exact Le.go [(0,0),(16,16),(60,60)] [] rfl rfl (by simp) (by simp [fcd,hR.conv'])
 refine zad _ rfl (fun h5=>?_) fun h5=>?_
 ·have h1D : (1 : Int) ∉ D:=by simpa using h5
  refine zab ⟨86,[(2,.B false)],[(0,some ⟨1,zah f,0⟩)],400⟩ rfl ?_ ?_
  ·simp
   exact Le.go [(0,0)] [] rfl rfl (by simp) (by simp [fcd])
  refine zag ?_
  exact zjM.mk (.inr rfl) (false,f) ⟨rfl,(zii hno hf hb.mem0 h1D hcl).2⟩ (zam.k1 rfl (by simp) (by simp [fcd]))
 have h1D : (1 : Int) ∈ D:=by simpa using h5
 obtain ⟨l,hl⟩:=hb.chain h1D
 have hle:=zpJ hl.way
 have hlr : ∀ s ∈ l,s.1 < f.length:=fun s hs=>by
  obtain ⟨i,hi,rfl⟩:=List.mem_iff_getElem.1 hs
  have:=(hl.at_ i hi).1
  omega
 have hl0 : 0 < l.length:=by
  cases hll : l with
  | nil=>rw [hll] at hle; cases hle
  | cons=>simp
 have hlA : l.length ≤ A.length:=by
  have:=zbk (a:=l.map fun s=>(s.1 : Int)) (b:=(List.range A.length).map fun i : Nat=>(i : Int)) (by
   have:=hl.nodup
   have e : (l.map fun s=>(s.1 : Int)) = (l.map (·.1)).map fun i : Nat=>(i : Int):=by simp
   rw [e]
   exact zdp (fun i j h=>by have h2 : (i : Int) = j:=h; omega) this) fun x hx=>by
   obtain ⟨s,hs,rfl⟩:=List.mem_map.1 hx
   exact List.mem_map.2 ⟨s.1,List.mem_range.2 (by have:=hlr s hs; omega),rfl⟩
  rw [List.length_map,List.length_map,List.length_range] at this
  exact this
 have hcam:=fun j (hj : j < l.length)=>zoR hb hl hj
 refine zae ?_
 refine zab ⟨86,[(1,.pt 16 0 0),(3,.mp 60),(6,.rs 61 0 0)],[(0,some ⟨1,zah f,0⟩),(16,some ⟨4,[rC N A (.rs 0 0 A.length)],0⟩),(60,some ⟨0,R,0⟩),(61,some ⟨2,[],0⟩)],400⟩ rfl ?_ ?_
 ·simp
  refine Le.lst [(0,0),(16,16),(60,60)] [] [(61,2)] rfl (by simp) (by simp) (by simp) (by simp) (by simp) (by simp) (by simp) (by simp [Up]) ?_
  simp [fcd,hR.conv']
  exact ⟨zaG.rfl' (Nat.zero_le _),zaG.rfl' (Nat.zero_le _),zaG.rfl' (Nat.zero_le _)⟩
 refine zab ⟨86,[(1,.pt 16 0 0),(3,.mp 60),(6,.rs 61 0 0),(7,.I 1048576)],[(0,some ⟨1,zah f,0⟩),(16,some ⟨4,[rC N A (.rs 0 0 A.length)],0⟩),(60,some ⟨0,R,0⟩),(61,some ⟨2,[],0⟩)],500⟩ rfl ?_ ?_
 ·simp
  exact Le.go [(0,0),(16,16),(60,60),(61,61)] [] rfl rfl (by simp) (by simp [fcd,hR.conv'])
 refine zaI (ι:=Int) (fun v=>⟨86,[(1,.pt 16 0 0),(6,.rs 61 0 l.length),(7,.I v)],[(0,some ⟨1,zah f,0⟩),(16,some ⟨4,[rC N A (.rs 0 0 A.length)],0⟩),(61,some ⟨2,(wayB l 0).map zbm,0⟩)],600⟩) (fun v=>1 ≤ v ∧ v ≤ 1048576 ∧ zrk A f l 0 v) ?_ fun v hv=>?_
 ·refine zab ⟨86,[(1,.pt 16 0 0),(3,.mp 60),(6,.rs 61 0 0),(7,.I 1048576),(8,.I 1)],[(0,some ⟨1,zah f,0⟩),(16,some ⟨4,[rC N A (.rs 0 0 A.length)],0⟩),(60,some ⟨0,R,0⟩),(61,some ⟨2,[],0⟩)],600⟩ rfl ?_ ?_
  ·simp
   exact Le.go [(0,0),(16,16),(60,60),(61,61)] [] rfl rfl (by simp) (by simp [fcd,hR.conv'])
  refine zaf ?_
  refine zao (ι:=ztY) (fun s=>⟨86,[(1,.pt 16 0 0),(3,.mp 60),(6,.rs 61 0 (l.length - s.j)),(7,.I s.v),(8,.I (endW A 0 l s.j))],[(0,some ⟨1,zah f,0⟩),(16,some ⟨4,[rC N A (.rs 0 0 A.length)],0⟩),(60,some ⟨0,R,0⟩),(61,some ⟨2,(wayB l s.j).map zbm,0⟩)],600⟩)
   (fun s=>s.j ≤ l.length ∧ 1 ≤ s.v ∧ s.v ≤ 1048576 ∧ zrk A f l s.j s.v) (fun s=>s.j) ⟨l.length,1048576⟩ ⟨Nat.le_refl _,by simp,by simp,by simp [zrk]⟩ (Le.go [(0,0),(16,16),(60,60),(61,61)] [] rfl rfl (by simp [hle]) (by simp [fcd,hR.conv',zrG])) ?_
  rintro ⟨j,v⟩ ⟨hj,hv1,hv2,hv3⟩
  simp only at hj hv1 hv2 hv3
  refine zaa ?_
  refine zab ⟨86,[(1,.pt 16 0 0),(3,.mp 60),(6,.rs 61 0 (l.length - j)),(7,.I v),(8,.I (endW A 0 l j)),(24,.B (!decide (endW A 0 l j = 0)))],[(0,some ⟨1,zah f,0⟩),(16,some ⟨4,[rC N A (.rs 0 0 A.length)],0⟩),(60,some ⟨0,R,0⟩),(61,some ⟨2,(wayB l j).map zbm,0⟩)],700⟩ rfl ?_ ?_
  ·simp
   exact Le.go [(0,0),(16,16),(60,60),(61,61)] [] rfl rfl (by simp <;> exact wkB (by rw [Bool.eq_iff_iff]; simp)) (by simp [fcd,hR.conv'])
  refine zad _ rfl (fun h13=>?_) fun h13=>?_
  ·simp at h13
   obtain ⟨i,rfl⟩ : ∃ i,j = i + 1:=by
    cases j with
    | zero=>exact absurd rfl h13
    | succ i=>exact ⟨i,rfl⟩
   have hi : i < l.length:=by omega
   obtain ⟨q1,q2,q3,q4,q5,q6⟩:=hl.at_ i hi
   have hfr:=hl.from_ i hi
   have hca:=hcam i hi
   have hws:=zqX hi
   have hwl:=zoH l (i + 1)
   obtain ⟨s,hs⟩ : ∃ s,s = l[i]:=⟨_,rfl⟩
   have hk : endW A 0 l (i + 1) = stT A s:=by
    show stT A (l.getD i (0,false)) = _
    rw [List.getD_eq_getElem?_getD,List.getElem?_eq_getElem hi,hs]
    rfl
   have hvn : ∀ v' : Int,v' ≤ v → v' ≤ zbM A f s → zrk A f l i v':=fun v' h1 h2 t ht=>by
    rw [List.drop_eq_getElem_cons hi,← hs] at ht
    rcases List.mem_cons.1 ht with rfl | ht
    ·exact h2
    ·exact Int.le_trans h1 (hv3 t ht)
   rw [← hs] at q1 q2 q3 q4 q5 q6 hfr hca hws
   have hrm:=hroom s q1
   have hrmb : zbM A f s ≤ 1048576:=by
    have h1:=hfit.2 s.1 q1
    have h2:=(hav _ (zer q1)).2.2.2.2.2.2.2.2
    unfold zbM
    split <;> omega
   rw [hk]
   obtain ⟨k,hkd⟩ : ∃ k,k = stT A s:=⟨_,rfl⟩
   obtain ⟨rm,hrd⟩ : ∃ rm,rm = zbM A f s:=⟨_,rfl⟩
   obtain ⟨W,hW⟩ : ∃ W,W = wayB l (i + 1):=⟨_,rfl⟩
   rw [← hkd] at q3 q4 q5 q6 hca hrm ⊢
   rw [← hrd] at q2 hrm hrmb hvn
   rw [← hW] at hws hwl
   have hAe:=zl5 q1
   have hlen : l.length - (i + 1) = W.length:=by omega
   rw [hlen,← hW]
   refine zae ?_
   refine zaf ?_
   refine zab ⟨86,[(1,.pt 16 0 0),(3,.mp 60),(6,.rs 61 0 W.length),(7,.I v),(9,.pv (zbm s))],[(0,some ⟨1,zah f,0⟩),(16,some ⟨4,[rC N A (.rs 0 0 A.length)],0⟩),(60,some ⟨0,R,0⟩),(61,some ⟨2,W.map zbm,0⟩)],800⟩ rfl ?_ ?_
   ·simp [hfind,hca,zo3]
    exact Le.go [(0,0),(16,16),(60,60),(61,61)] [724] rfl rfl (by simp) (by simp [fcd,hR.conv'])
   refine zab ⟨86,[(1,.pt 16 0 0),(3,.mp 60),(6,.rs 61 0 W.length),(7,.I v),(9,.pv (zbm s)),(10,.I rm)],[(0,some ⟨1,zah f,0⟩),(16,some ⟨4,[rC N A (.rs 0 0 A.length)],0⟩),(60,some ⟨0,R,0⟩),(61,some ⟨2,W.map zbm,0⟩)],900⟩ rfl ?_ ?_
   ·simp
    refine zhO [0] hrm (by simp [fcd,htake,hfl]) ztI ?_
    simp
    exact Le.go [(0,0),(16,16),(60,60),(61,61)] [] rfl rfl (by simp) (by simp [fcd,hR.conv'])
   refine zab ⟨86,[(1,.pt 16 0 0),(3,.mp 60),(6,.rs 62 0 (W.length + 1)),(7,.I (if rm < v then rm else v)),(9,.pv (zbm s))],[(0,some ⟨1,zah f,0⟩),(16,some ⟨4,[rC N A (.rs 0 0 A.length)],0⟩),(60,some ⟨0,R,0⟩),(62,some ⟨2,(W ++ [s]).map zbm,0⟩)],1000⟩ rfl ?_ ?_
   ·have hmw : ∀ g : Stp → List AV,List.take W.length (List.map g W) = List.map g W:=fun g=>List.take_of_length_le (by simp)
    simp [hmw]
    exact ⟨by omega,by omega,Le.go [(0,0),(16,16),(60,60),(924,62)] [] rfl rfl (by simp) (by simp [fcd,hR.conv'])⟩
   have hst : stF A s = if s.2 then (arcD A s.1).t else (arcD A s.1).f:=rfl
   have hqi : (s.1 : Int) < A.length:=by omega
   refine zab ⟨86,[(1,.pt 16 0 0),(3,.mp 60),(6,.rs 62 0 (W.length + 1)),(7,.I (if rm < v then rm else v)),(8,.I (arcD A s.1).f),(9,.pv (zbm s))],[(0,some ⟨1,zah f,0⟩),(16,some ⟨4,[rC N A (.rs 0 0 A.length)],0⟩),(60,some ⟨0,R,0⟩),(62,some ⟨2,(W ++ [s]).map zbm,0⟩)],1100⟩ rfl ?_ ?_
   ·have hAe' : A[s.1] = arcD A s.1:=by rw [List.getElem?_eq_getElem q1] at hAe; exact Option.some.inj hAe
    simp [q1,hAe']
    exact Le.go [(0,0),(16,16),(60,60),(62,62)] [] rfl rfl (by simp) (by simp [fcd,hR.conv'])
   refine zab ⟨86,[(1,.pt 16 0 0),(3,.mp 60),(6,.rs 62 0 (W.length + 1)),(7,.I (if rm < v then rm else v)),(8,.I (arcD A s.1).f),(9,.pv (zbm s)),(50,.B s.2)],[(0,some ⟨1,zah f,0⟩),(16,some ⟨4,[rC N A (.rs 0 0 A.length)],0⟩),(60,some ⟨0,R,0⟩),(62,some ⟨2,(W ++ [s]).map zbm,0⟩)],1200⟩ rfl ?_ ?_
   ·simp
    exact Le.go [(0,0),(16,16),(60,60),(62,62)] [] rfl rfl (by simp) (by simp [fcd,hR.conv'])
   have hwl2 : l.length - i = W.length + 1:=by omega
   have hinv : i ≤ l.length ∧ 1 ≤ (if rm < v then rm else v) ∧ (if rm < v then rm else v) ≤ 1048576 ∧ zrk A f l i (if rm < v then rm else v):=⟨by omega,by split <;> omega,by split <;> omega,hvn _ (by split <;> omega) (by split <;> omega)⟩
   refine zad _ rfl (fun h16=>?_) fun h16=>?_
   ·have hAe' : A[s.1] = arcD A s.1:=by rw [List.getElem?_eq_getElem q1] at hAe; exact Option.some.inj hAe
    rw [if_pos h16] at hst
    refine zav rfl ?_
    simp [q1,hAe']
    exact ⟨⟨i,if rm < v then rm else v⟩,hinv,Nat.lt_succ_self i,Le.go [(0,0),(16,16),(60,60),(62,61)] [] rfl rfl (by simp [hwl2,← hfr,hst]) (by simp [fcd,hR.conv',hws])⟩
   ·rw [if_neg (by simp [h16])] at hst
    refine zae ?_
    exact ⟨⟨i,if rm < v then rm else v⟩,hinv,Nat.lt_succ_self i,Le.go [(0,0),(16,16),(60,60),(62,61)] [] rfl rfl (by simp [hwl2,← hfr,hst]) (by simp [fcd,hR.conv',hws])⟩
  simp at h13
  obtain rfl : j = 0:=by
   cases j with
   | zero=>rfl
   | succ i =>
     have h2:=(hl.at_ i (by omega)).2.2.1
     refine absurd ?_ h2
     have h3 : endW A 0 l (i + 1) = stT A (l.getD i (0,false)):=rfl
     rw [h3,List.getD_eq_getElem?_getD,List.getElem?_eq_getElem (by omega)] at h13
     exact h13
  refine zan ?_
  refine hit ?_
  exact ⟨v,⟨hv1,hv2,hv3⟩,Le.go [(0,0),(16,16),(61,61)] [] rfl rfl (by simp) (by simp [fcd])⟩
 obtain ⟨hv1,hv2,hv3⟩:=hv
 have hv3' : ∀ s ∈ l,v ≤ zbM A f s:=fun s hs=>hv3 s (by simpa using hs)
 obtain ⟨hf2,hval⟩:=hl.push hno hf (by omega) hv3'
 have hWl:=zoH l 0
 obtain ⟨W,hW⟩ : ∃ W,W = wayB l 0:=⟨_,rfl⟩
 rw [← hW] at hWl ⊢
 have hWl : l.length = W.length:=by omega
 refine zaa ?_
 refine zab ⟨86,[(1,.pt 16 0 0),(7,.I v),(59,.vs 2 false (W.map zbm)),(60,.I W.length),(61,.I 0)],[(0,some ⟨1,zah f,0⟩),(16,some ⟨4,[rC N A (.rs 0 0 A.length)],0⟩)],700⟩ rfl ?_ ?_
 ·have hmw : ∀ g : Stp → List AV,List.take W.length (List.map g W) = List.map g W:=fun g=>List.take_of_length_le (by simp)
  simp
  exact Le.go [(0,0),(16,16)] [61] rfl rfl (by simp [hWl,hmw,fcd]) (by simp [fcd])
 refine zaf ?_
 refine zao (ι:=Nat) (fun i=>⟨86,[(1,.pt 16 0 0),(7,.I v),(59,.vs 2 false (W.map zbm)),(60,.I W.length),(61,.I i)],[(0,some ⟨1,zah (ze0 v f l (l.length - i)),0⟩),(16,some ⟨4,[rC N A (.rs 0 0 A.length)],0⟩)],700⟩) (fun i=>i ≤ W.length) (fun i=>W.length - i) 0 (Nat.zero_le _) (Le.go [(0,0),(16,16)] [] rfl rfl (by simp) (by simp [fcd,zqV])) ?_
 intro i hi
 have hFl0 : (ze0 v f l (l.length - i)).length = A.length:=by rw [zqW,hfl]
 refine zab ⟨86,[(1,.pt 16 0 0),(7,.I v),(59,.vs 2 false (W.map zbm)),(60,.I W.length),(61,.I i),(62,.B (decide (i < W.length)))],[(0,some ⟨1,zah (ze0 v f l (l.length - i)),0⟩),(16,some ⟨4,[rC N A (.rs 0 0 A.length)],0⟩)],800⟩ rfl ?_ ?_
 ·simp
  exact Le.go [(0,0),(16,16)] [] rfl rfl (by simp) (by simp [fcd])
 refine zaa ?_
 refine zad _ rfl (fun h20=>?_) fun h20=>?_
 ·simp at h20
  have hw1 : IntKind.i64.wrap ((i : Int) + 1) = (i : Int) + 1:=w64 (by omega) (by omega)
  obtain ⟨j,hj⟩ : ∃ j,l.length - i = j + 1:=⟨l.length - i - 1,by omega⟩
  have hjl : j < l.length:=by omega
  have hj2 : l.length - (i + 1) = j:=by omega
  have hWi : W[i] = l[j]:=by
   have : W[i]? = some l[j]:=by
    rw [hW]
    unfold wayB
    rw [List.drop_zero,List.getElem?_reverse (by omega),List.getElem?_eq_getElem (by omega)]
    congr 1
    congr 1
    omega
   rw [List.getElem?_eq_getElem h20] at this
   exact Option.some.inj this
  rw [hj] at hFl0 ⊢
  obtain ⟨q1,q2,q3,q4,q5,q6⟩:=hl.at_ j hjl
  have hstep:=zpv (v:=v) (f:=f) j hjl
  have hget:=zq6 (v:=v) hl.nodup hlr j hjl
  have hroomj:=hv3' _ (List.getElem_mem hjl)
  obtain ⟨s,hs⟩ : ∃ s,s = l[j]:=⟨_,rfl⟩
  rw [← hs] at q1 hstep hget hroomj hWi
  obtain ⟨F,hF⟩ : ∃ F,F = ze0 v f l (j + 1):=⟨_,rfl⟩
  rw [← hF] at hFl0 hget hstep ⊢
  have hfa:=hfit.2 s.1 q1
  have heo:=(hav _ (zer q1)).2.2.2.2.2.2.2.2
  obtain ⟨w,hw⟩ : ∃ w,w = f.getD s.1 0:=⟨_,rfl⟩
  have haf : s.1 < F.length:=by omega
  have hg2 : F[s.1] = w:=by
   have : F[s.1]? = some w:=by rw [hw,← hget,List.getD_eq_getElem?_getD,List.getElem?_eq_getElem haf,Option.getD_some]
   rw [List.getElem?_eq_getElem haf] at this
   exact Option.some.inj this
  rw [← hw] at hfa
  have hset : ze0 v f l j = F.set s.1 (w + if s.2 then -v else v):=by rw [hstep]; unfold zgI; rw [hget,← hw]
  have hro : zbM A f s = if s.2 then w else (arcD A s.1).v - w:=by unfold zbM; rw [← hw]
  refine zae ?_
  refine zaa ?_
  refine zaf ?_
  refine zab ⟨86,[(1,.pt 16 0 0),(7,.I v),(13,.pv (zbm s)),(59,.vs 2 false (W.map zbm)),(60,.I W.length),(61,.I i)],[(0,some ⟨1,zah F,0⟩),(16,some ⟨4,[rC N A (.rs 0 0 A.length)],0⟩)],900⟩ rfl ?_ ?_
  ·simp [h20,hWi]
   exact Le.go [(0,0),(16,16)] [816] rfl rfl (by simp) (by simp [fcd])
  refine zab ⟨86,[(1,.pt 16 0 0),(7,.I v),(13,.pv (zbm s)),(59,.vs 2 false (W.map zbm)),(60,.I W.length),(61,.I i),(66,.B s.2)],[(0,some ⟨1,zah F,0⟩),(16,some ⟨4,[rC N A (.rs 0 0 A.length)],0⟩)],1000⟩ rfl ?_ ?_
  ·simp
   exact Le.go [(0,0),(16,16)] [] rfl rfl (by simp) (by simp [fcd])
  have hsA : (s.1 : Int) < A.length:=by omega
  refine zad _ rfl (fun h16=>?_) fun h16=>?_
  ·rw [if_pos h16] at hset hro
   have hw2 : IntKind.i64.wrap (w - v) = w + -v:=by rw [w64 (by omega) (by omega)]; omega
   refine zav rfl ?_
   simp [q1,haf,hg2,hw2,za7]
   refine zav rfl ?_
   simp
   exact ⟨i + 1,by omega,by omega,Le.go [(0,0),(16,16)] [] rfl rfl (by simp [hw1]) (by simp [fcd,hj2,hset])⟩
  ·rw [if_neg (by simp [h16])] at hset hro
   have hw2 : IntKind.i64.wrap (w + v) = w + v:=w64 (by omega) (by omega)
   refine zav rfl ?_
   simp [q1,haf,hg2,hw2,za7]
   refine zav rfl ?_
   simp
   exact ⟨i + 1,by omega,by omega,Le.go [(0,0),(16,16)] [] rfl rfl (by simp [hw1]) (by simp [fcd,hj2,hset])⟩
 simp at h20
 obtain rfl : i = W.length:=by omega
 rw [show l.length - W.length = 0 by omega]
 refine zan ?_
 refine hit ?_
 refine zab ⟨86,[(2,.B true)],[(0,some ⟨1,zah (ze0 v f l 0),0⟩)],900⟩ rfl ?_ ?_
 ·simp
  exact Le.go [(0,0)] [] rfl rfl (by simp) (by simp [fcd])
 refine zag ?_
 exact zjM.mk (.inr rfl) (true,ze0 v f l 0) ⟨hf2,by rw [hval]; omega⟩ (zam.k1 rfl (by simp) (by simp [fcd]))
open Classical in
theorem zhJ (n : Net) (side : List Int) (hl : n.arcs.length ≤ 1099511627776) (hs : side.length ≤ 140737488355328) : zaj Tryz.prog zfB [eN n,ints side] [] (.B (decide (zcn n side))) []:=by
 refine zpa.acalls (Nat.le_of_ble_eq_true rfl) (Nat.le_of_ble_eq_true rfl) (Nat.le_refl _) ?_
 show awp _ 0 _ _ ⟨24,[(0,eN n),(1,ints side)],[],16⟩
 refine rx (s:=?s1) [1,2] [] [16] rfl ?o1 ?q1
 case o1=>simp; rfl
 refine zab ⟨24,[(4,.B (decide (zcn n side)))],[],300⟩ rfl ?_ ?_
 ·have hc:=zez n hl
  by_cases hn : za4 n
  ·rw [if_pos hn] at hc
   have hw : IntKind.i64.wrap (n.nodes - 1) = n.nodes - 1:=w64 (by have:=hn.1; omega) (by have:=hn.2.1; omega)
   simp
   refine zal hc (by simp) ?_
   simp [hw]
   refine zal (zbP side 0 (n.nodes - 1) hs) (by simp) ?_
   simp
   refine zcD (fun hb=>?_) (fun hb=>?_) <;> (try rw [hb]) <;> (try simp at hb) <;> simp [hb]
   ·refine zal (zcM side 0 hs) (by simp) ?_
    simp
    refine zcD (fun hb2=>?_) (fun hb2=>?_) <;> (try rw [hb2]) <;> (try simp at hb2) <;> simp [hb2]
    ·refine zal (zcM side 1 hs) (by simp) ?_
     simp
     exact Le.snap [] rfl rfl (by simp [zcn,hn,hb,hb2])
    ·exact Le.snap [] rfl rfl (by simp [zcn,hn,hb,hb2])
   ·exact Le.snap [] rfl rfl (by simp [zcn,hn,hb])
  ·rw [if_neg hn] at hc
   simp
   refine zal hc (by simp) ?_
   simp
   exact Le.snap [] rfl rfl (by simp [zcn,hn])
 refine zag ?_
 exact ⟨.inr rfl,zam.one (by simp)⟩
open Classical in
theorem zfU (n : Net) (side : List Int) (hl : n.arcs.length ≤ 1099511627776) (hs : side.length ≤ 140737488355328) : zaj Tryz.prog zdW [eN n,ints side] [] (.B (decide (zcn n side))) []:=by
 refine zl4.acalls (Nat.le_of_ble_eq_true rfl) (Nat.le_of_ble_eq_true rfl) (Nat.le_refl _) ?_
 show awp _ 0 _ _ ⟨23,[(0,eN n),(1,ints side)],[],16⟩
 refine rx (s:=?s1) [1,2] [] [16] rfl ?o1 ?q1
 case o1=>simp; rfl
 refine zab ⟨23,[(4,.B (decide (zcn n side)))],[],300⟩ rfl ?_ ?_
 ·have hc:=zfZ n hl
  by_cases hn : za4 n
  ·rw [if_pos hn] at hc
   simp
   refine zal hc (by simp) ?_
   simp
   refine zal (zdU side n.nodes hs) (by simp) ?_
   simp
   refine zcD (fun hb=>?_) (fun hb=>?_) <;> (try rw [hb]) <;> (try simp at hb) <;> simp [hb]
   ·refine zal (zf2 side 0 hs) (by simp) ?_
    simp
    refine zcD (fun hb2=>?_) (fun hb2=>?_) <;> (try rw [hb2]) <;> (try simp at hb2) <;> simp [hb2]
    ·refine zal (zf2 side 1 hs) (by simp) ?_
     simp
     exact Le.snap [] rfl rfl (by simp [zcn,hn,hb,hb2])
    ·exact Le.snap [] rfl rfl (by simp [zcn,hn,hb,hb2])
   ·exact Le.snap [] rfl rfl (by simp [zcn,hn,hb])
  ·rw [if_neg hn] at hc
   simp
   refine zal hc (by simp) ?_
   simp
   exact Le.snap [] rfl rfl (by simp [zcn,hn])
 refine zag ?_
 exact ⟨.inr rfl,zam.one (by simp)⟩
open Classical in
theorem zhb (n : Net) (side : List Int) (hl : n.arcs.length ≤ 1099511627776) (hs : side.length ≤ 140737488355328) : zaj Tryz.prog zdy [eN n,ints side] [] (.I (if zcn n side then cutV n.arcs side else 0)) []:=by
 refine ziE.acalls (Nat.le_of_ble_eq_true rfl) (Nat.le_of_ble_eq_true rfl) (Nat.le_refl _) ?_
 show awp _ 0 _ _ ⟨46,[(0,eN n),(1,ints side)],[],16⟩
 refine rx (s:=?s1) [1,2] [] [16] rfl ?o1 ?q1
 case o1=>simp; rfl
 refine zaa ?_
 refine rx (s:=?s2) [1,2,10] [] [] rfl ?o2 ?q2
 case o2=>simp; refine zal (zfU n side hl hs) (by simp) ?_; simp; rfl
 refine zad _ rfl (fun h3=>?_) fun h3=>?_
 ·simp at h3
  refine rx (s:=?s4) [4] [] [] rfl ?o4 ?q4
  case o4=>simp; rfl
  refine zag ?_
  exact ⟨.inr rfl,zam.one (by simp [h3])⟩
 simp at h3
 have hb1:=h3.1.2.2.1
 refine zae ?_
 refine rx (s:=?s5) [1,2,5] [] [] rfl ?o5 ?q5
 case o5=>simp; rfl
 refine zaa ?_
 refine rx (s:=?s6) [1,2,5,6] [] [] rfl ?o6 ?q6
 case o6=>simp; rfl
 refine zaf ?_
 refine zao (ι:=Nat) (fun i=>⟨46,[(1,ints side),(2,.pv (nC n)),(5,.I (cutV (n.arcs.take i) side)),(6,.I i)],[],80⟩) (fun i=>i ≤ n.arcs.length) (fun i=>n.arcs.length - i) 0 (by simp) (Le.go [] [] rfl rfl (by simp [cutV]) (by simp)) ?_
 intro i hi
 have hcb:=zhr (n:=n.nodes) (side:=side) (arcs:=n.arcs.take i) fun a ha=>h3.1.2.2.2 a (List.mem_of_mem_take ha)
 have htl:=List.length_take_le' i n.arcs
 refine zaa ?_
 refine rx (s:=?s7) [1,2,5,6,15] [] [] rfl ?o7 ?q7
 case o7=>simp; rfl
 refine zad _ rfl (fun h7=>?_) fun h7=>?_
 ·simp at h7
  have hw : IntKind.i64.wrap ((i : Int) + 1) = (i : Int) + 1:=w64 (by omega) (by omega)
  have hcs:=zl3 n.arcs side i h7
  have hav:=h3.1.2.2.2 _ (List.getElem_mem h7)
  have hwv : IntKind.i64.wrap (cutV (n.arcs.take i) side + n.arcs[i].v) = cutV (n.arcs.take i) side + n.arcs[i].v:=w64 (by have:=hav.2.2.2.2.2.2.2.1; omega) (by have:=hav.2.2.2.2.2.2.2.2; omega)
  refine zae ?_
  refine zaI (ι:=Unit) (fun _=>⟨46,[(1,ints side),(2,.pv (nC n)),(5,.I (cutV (n.arcs.take (i + 1)) side)),(6,.I i)],[],400⟩) (fun _=>True) ?_ fun _ _=>?_
  ·refine zaf ?_
   refine zab ⟨46,[(1,ints side),(2,.pv (nC n)),(5,.I (cutV (n.arcs.take i) side)),(6,.I i),(36,.B (decide (n.arcs[i].f ∈ side ∧ n.arcs[i].t ∉ side)))],[],300⟩ rfl ?_ ?_
   ·simp [h7]
    refine zal (zf2 side n.arcs[i].f hs) (by simp) ?_
    simp
    refine zcD (fun hb=>?_) (fun hb=>?_) <;> (try rw [hb]) <;> (try simp at hb) <;> simp [hb,h7]
    ·refine zal (zf2 side n.arcs[i].t hs) (by simp) ?_
     simp
     exact Le.snap [] rfl rfl (by simp [hb])
    ·exact Le.snap [] rfl rfl (by simp [hb])
   refine zad _ rfl (fun h8=>?_) fun h8=>?_
   ·rw [decide_eq_true_eq] at h8
    rw [if_pos h8] at hcs
    refine zac (s:=?s9) rfl ?o9 ?q9
    case o9=>simp [h7]; rfl
    exact ⟨(),trivial,Le.go [] [] rfl rfl (by simp [hcs,hwv]) (by simp)⟩
   ·rw [decide_eq_false_iff_not] at h8
    rw [if_neg h8] at hcs
    refine zae ?_
    exact ⟨(),trivial,Le.go [] [] rfl rfl (by simp [hcs]) (by simp)⟩
  refine zac (s:=?s10) rfl ?o10 ?q10
  case o10=>simp; rfl
  exact ⟨i + 1,by omega,by omega,Le.go [] [] rfl rfl (by simp [hw]) (by simp)⟩
 simp at h7
 obtain rfl : i = n.arcs.length:=by omega
 refine zan ?_
 refine hit ?_
 refine rx (s:=?s11) [4] [] [] rfl ?o11 ?q11
 case o11=>simp; rfl
 refine zag ?_
 exact ⟨.inr rfl,zam.one (by simp [h3])⟩
def zdd (N : Nat) (s : List Int) : List (List AV):=(List.range N).map fun (k : Nat)=>[AV.B (decide ((k : Int) ∈ s))]
theorem zfr (N : Nat) (s : List Int) : (zdd N s).length = N:=by simp [zdd]
theorem zpM (N : Nat) : zdd N [] = List.replicate N [AV.B false]:=by
 unfold zdd
 simp [List.map_const']
theorem zpC {N k : Nat} (hk : k < N) (s : List Int) : (zdd N s)[k]? = some [AV.B (decide ((k : Int) ∈ s))]:=by simp [zdd,hk]
@[simp] theorem zt8 {N k : Nat} {s : List Int} (h : k < (zdd N s).length) : (zdd N s)[k] = [AV.B (decide ((k : Int) ∈ s))]:=by simp [zdd]
theorem zpP {N k : Nat} (s : List Int) : (zdd N s).set k [AV.B true] = zdd N (s ++ [(k : Int)]):=by
 apply List.ext_getElem?
 intro i
 rw [List.getElem?_set]
 by_cases h : k = i
 ·subst h
  rw [if_pos rfl]
  by_cases hk : k < N
  ·rw [if_pos (by rw [zfr]; exact hk),zpC hk]
   simp
  ·rw [if_neg (by rw [zfr]; exact hk)]
   simp [zdd,hk]
 ·rw [if_neg h]
  unfold zdd
  simp only [List.getElem?_map]
  by_cases hi : i < N
  ·simp [hi,show ¬ ((i : Int) = k) by omega]
  ·simp [hi]
@[simp] theorem zs0 {ρ : List (Nat × Nat)} {sn : List Nat} {h : Nat → Option Ent} {N : Nat} {s : List Int} : (zdd N s).map (·.map (conv ρ sn h 4)) = zdd N s:=by
 unfold zdd
 rw [List.map_map]
 rfl
set_option maxRecDepth 100000 in
open Classical in
theorem ziF (n : Net) (side : List Int) (hl : n.arcs.length ≤ 1099511627776) (hs : side.length ≤ 140737488355328) : zaj Tryz.prog zeu [eN n,ints side] [] (.I (if zcn n side then cutV n.arcs side else 0)) []:=by
 refine zln.acalls (Nat.le_of_ble_eq_true rfl) (Nat.le_of_ble_eq_true rfl) (Nat.le_refl _) ?_
 show awp _ 0 _ _ ⟨54,[(0,eN n),(1,ints side)],[],16⟩
 refine rx (s:=?s1) [1,2] [] [16] rfl ?o1 ?q1
 case o1=>simp; rfl
 refine zaa ?_
 refine rx (s:=?s2) [1,2,14] [] [] rfl ?o2 ?q2
 case o2=>simp; refine zal (zhJ n side hl hs) (by simp) ?_; simp; rfl
 refine zad _ rfl (fun h3=>?_) fun h3=>?_
 ·simp at h3
  refine rx (s:=?s4) [4] [] [] rfl ?o4 ?q4
  case o4=>simp; rfl
  refine zag ?_
  exact ⟨.inr rfl,zam.one (by simp [h3])⟩
 simp at h3
 have hb1:=h3.1.2.2.1
 have hn2:=h3.1.1
 have hn3:=h3.1.2.1
 obtain ⟨N,hN,hN3⟩ : ∃ N : Nat,n.nodes = N ∧ N ≤ 130:=⟨n.nodes.toNat,by omega,by omega⟩
 have hside : ∀ k ∈ side,∃ j : Nat,k = j ∧ j < N:=fun k hk=>by
  obtain ⟨i,hi,rfl⟩:=List.getElem_of_mem hk
  have:=(h3.2.1 i hi)
  exact ⟨side[i].toNat,by omega,by omega⟩
 refine zae ?_
 refine zab ⟨54,[(1,ints side),(2,.pv (nC n)),(5,.rs 80 0 N)],[(80,some ⟨1,zdd N [],0⟩)],96⟩ rfl ?_ ?_
 ·rw [zpM]
  simp [hN]
  refine ⟨by omega,?_⟩
  exact Le.keep rfl (Nat.le_refl _) (by simp [hN]) (by simp [hN])
 refine zaa ?_
 refine rk (s:=?s5) [1,2,5,18,19,20] [80] rfl ?o5 ?q5
 case o5=>simp; rfl
 refine zaf ?_
 refine zao (ι:=Nat) (fun i=>⟨54,[(1,ints side),(2,.pv (nC n)),(5,.rs 80 0 N),(18,ints side),(19,.I side.length),(20,.I i)],[(80,some ⟨1,zdd N (side.take i),0⟩)],120⟩) (fun i=>i ≤ side.length) (fun i=>side.length - i) 0 (by simp) (Le.keep rfl (Nat.le_refl _) (by simp) (by simp)) ?_
 intro i hi
 refine rk (s:=?s6) [1,2,5,18,19,20,21] [80] rfl ?o6 ?q6
 case o6=>simp; rfl
 refine zaa ?_
 refine zad _ rfl (fun h7=>?_) fun h7=>?_
 ·simp at h7
  have hw : IntKind.i64.wrap ((i : Int) + 1) = (i : Int) + 1:=w64 (by omega) (by omega)
  obtain ⟨j,hj,hjN⟩:=hside _ (List.getElem_mem h7)
  have hset : (zdd N (side.take i)).set j [AV.sc (.bool true)] = zdd N (side.take (i + 1)):=by
   rw [List.take_succ_eq_append_getElem h7,hj]
   exact zpP _
  refine zae ?_
  refine zaa ?_
  refine zaf ?_
  refine rk (s:=?s8) [1,2,5,7,18,19,20] [80] rfl ?o8 ?q8
  case o8=>simp [h7,hj]; rfl
  refine zac (s:=?s9) rfl ?o9 ?q9
  case o9=>simp [hjN,zfr,hset]; rfl
  refine zac (s:=?s10) rfl ?o10 ?q10
  case o10=>simp [hw]; rfl
  exact ⟨i + 1,by omega,by omega,Le.go [(80,80)] [] rfl rfl (by simp) (by simp)⟩
 simp at h7
 obtain rfl : i = side.length:=by omega
 rw [List.take_of_length_le (Nat.le_refl _)]
 refine zan ?_
 refine hit ?_
 refine rk (s:=?s11) [1,2,5,8] [80] rfl ?o11 ?q11
 case o11=>simp; rfl
 refine zaa ?_
 refine rk (s:=?s12) [5,8,29,30,31] [80] rfl ?o12 ?q12
 case o12=>simp; rfl
 refine zaf ?_
 refine zao (ι:=Nat) (fun i=>⟨54,[(5,.rs 80 0 N),(8,.I (cutV (n.arcs.take i) side)),(29,eEs n.arcs),(30,.I n.arcs.length),(31,.I i)],[(80,some ⟨1,zdd N side,0⟩)],168⟩) (fun i=>i ≤ n.arcs.length) (fun i=>n.arcs.length - i) 0 (by simp) (Le.go [(80,80)] [] rfl rfl (by simp [cutV]) (by simp)) ?_
 intro i hi
 have hcb:=zhr (n:=n.nodes) (side:=side) (arcs:=n.arcs.take i) fun a ha=>h3.1.2.2.2 a (List.mem_of_mem_take ha)
 have htl:=List.length_take_le' i n.arcs
 refine rk (s:=?s13) [5,8,29,30,31,32] [80] rfl ?o13 ?q13
 case o13=>simp; rfl
 refine zaa ?_
 refine zad _ rfl (fun h7=>?_) fun h7=>?_
 ·simp at h7
  have hw : IntKind.i64.wrap ((i : Int) + 1) = (i : Int) + 1:=w64 (by omega) (by omega)
  have hcs:=zl3 n.arcs side i h7
  have hav:=h3.1.2.2.2 _ (List.getElem_mem h7)
  have hwv : IntKind.i64.wrap (cutV (n.arcs.take i) side + n.arcs[i].v) = cutV (n.arcs.take i) side + n.arcs[i].v:=w64 (by have:=hav.2.2.2.2.2.2.2.1; omega) (by have:=hav.2.2.2.2.2.2.2.2; omega)
  obtain ⟨x,hx⟩ : ∃ x,x = n.arcs[i]:=⟨_,rfl⟩
  rw [← hx] at hcs hav hwv
  obtain ⟨f,hf,hfN⟩ : ∃ f : Nat,x.f = f ∧ f < N:=⟨x.f.toNat,by have:=hav.1; omega,by have:=hav.1; have:=hav.2.1; omega⟩
  obtain ⟨u,hu,huN⟩ : ∃ u : Nat,x.t = u ∧ u < N:=⟨x.t.toNat,by have:=hav.2.2.1; omega,by have:=hav.2.2.1; have:=hav.2.2.2.1; omega⟩
  refine zae ?_
  refine zaI (ι:=Unit) (fun _=>⟨54,[(5,.rs 80 0 N),(8,.I (cutV (n.arcs.take (i + 1)) side)),(29,eEs n.arcs),(30,.I n.arcs.length),(31,.I i)],[(80,some ⟨1,zdd N side,0⟩)],400⟩) (fun _=>True) ?_ fun _ _=>?_
  ·refine zaf ?_
   refine zab ⟨54,[(5,.rs 80 0 N),(8,.I (cutV (n.arcs.take i) side)),(10,.pv (eC x)),(29,eEs n.arcs),(30,.I n.arcs.length),(31,.I i)],[(80,some ⟨1,zdd N side,0⟩)],208⟩ rfl ?_ ?_
   ·simp [h7,← hx]
    exact Le.go [(80,80)] [192] rfl rfl (by simp) (by simp)
   refine zab ⟨54,[(5,.rs 80 0 N),(8,.I (cutV (n.arcs.take i) side)),(10,.pv (eC x)),(29,eEs n.arcs),(30,.I n.arcs.length),(31,.I i),(47,.B (decide ((f : Int) ∈ side ∧ (u : Int) ∉ side)))],[(80,some ⟨1,zdd N side,0⟩)],312⟩ rfl ?_ ?_
   ·simp [hf,hu,hfN,huN,zfr]
    refine zcD (fun hb=>?_) (fun hb=>?_) <;> (try rw [hb]) <;> (try simp at hb) <;> simp [hb,hu,huN,zfr]
    ·exact Le.go [(80,80)] [] rfl rfl (by simp [hb]) (by simp)
    ·exact Le.go [(80,80)] [] rfl rfl (by simp [hb]) (by simp)
   rw [← hf,← hu]
   refine zad _ rfl (fun h8=>?_) fun h8=>?_
   ·rw [decide_eq_true_eq] at h8
    rw [if_pos h8] at hcs
    refine zac (s:=?s14) rfl ?o14 ?q14
    case o14=>simp; rfl
    exact ⟨(),trivial,Le.go [(80,80)] [] rfl rfl (by simp [hcs,hwv]) (by simp)⟩
   ·rw [decide_eq_false_iff_not] at h8
    rw [if_neg h8] at hcs
    refine zae ?_
    exact ⟨(),trivial,Le.go [(80,80)] [] rfl rfl (by simp [hcs]) (by simp)⟩
  refine zac (s:=?s15) rfl ?o15 ?q15
  case o15=>simp; rfl
  exact ⟨i + 1,by omega,by omega,Le.go [(80,80)] [] rfl rfl (by simp [hw]) (by simp)⟩
 simp at h7
 obtain rfl : i = n.arcs.length:=by omega
 refine zan ?_
 refine hit ?_
 refine rk (s:=?s16) [4] [] rfl ?o16 ?q16
 case o16=>simp; rfl
 refine zag ?_
 exact ⟨.inr rfl,zam.one (by simp [h3])⟩
open Classical in
theorem zk1 (n : Net) (side : List Int) (most : Int) (hl : n.arcs.length ≤ 1099511627776) (hs : side.length ≤ 140737488355328) : zaj Tryz.prog zgj [eN n,ints side,.I most] [] (.B (decide (zev n side most))) []:=by
 refine znR.acalls (Nat.le_of_ble_eq_true rfl) (Nat.le_of_ble_eq_true rfl) (Nat.le_refl _) ?_
 show awp _ 0 _ _ ⟨17,[(0,eN n),(1,ints side),(2,.I most)],[],16⟩
 refine rx (s:=?s1) [1,2,3] [] [16] rfl ?o1 ?q1
 case o1=>simp; rfl
 refine zab ⟨17,[(6,.B (decide (zev n side most)))],[],300⟩ rfl ?_ ?_
 ·have hc:=ziF n side hl hs
  simp
  refine zal (zhJ n side hl hs) (by simp) ?_
  simp
  by_cases hv : zcn n side
  ·rw [if_pos hv] at hc
   simp [hv]
   refine zal hc (by simp) ?_
   simp
   exact Le.snap [] rfl rfl (by simp [zev,hv])
  ·simp [hv]
   exact Le.snap [] rfl rfl (by simp [zev,hv])
 refine zag ?_
 exact ⟨.inr rfl,zam.one (by simp)⟩
section
variable {P : Program} {np id : Nat} {h : Nat → Option Ent} {K : AV → List Nat → List (Nat × Option Ent) → Prop} {f : FuncId} {first capt args args' : List AV} {res : AV}
theorem zj9 {i j : Nat} {e1 e2 e1' e2' : Ent} {hs' : List (Option Ent)} (hij : i ≠ j) (h1 : h i = some e1) (h2 : h j = some e2) (he1 : zax [(i,0),(j,1)] [] h 4 e1 = e1') (he2 : zax [(i,0),(j,1)] [] h 4 e2 = e2')
  (hc : zaj P f args' [e1',e2'] res hs') (h8 : hs'.length ≤ 10) (he : (first ++ args ++ capt).map (conv [(i,0),(j,1)] [] h 4) = args')
  (hk : K (conv (swp [i,j] id) [] (fun _=>none) 4 res) [i,j] (hs'.zipIdx.map fun (e,k)=>((i :: j :: (List.range 8).map (id + ·)).getD k 0,e.map (zax (swp [i,j] id) [] (fun _=>none) 4)))) : aK P np id .call (.fn (.func f) first capt :: args) h K :=
 ⟨[i,j],[],true,args',[e1',e2'],res,hs',by simp [hij],by simp,by simp,by rw [show [i,j].zipIdx = [(i,0),(j,1)] from rfl,he]; exact zb1 _,by
  rw [show [i,j].zipIdx = [(i,0),(j,1)] from rfl]
  simp only [List.map_cons,List.map_nil,h1,h2,Option.map_some,he1,he2],hc,by simpa using h8,.inl rfl,by simpa [swp] using hk⟩
end
theorem zbI (k : Int) (h : 0 ≤ k) (h2 : k ≤ 1000000) : zaj Tryz.prog zbz [.I k] [] (.I (2 + 2 * k)) []:=by
 refine zmc.acalls (Nat.le_of_ble_eq_true rfl) (Nat.le_of_ble_eq_true rfl) (Nat.le_refl _) ?_
 show awp _ 0 _ _ ⟨6,[(0,.I k)],[],16⟩
 have hw1 : IntKind.i64.wrap (2 * k) = 2 * k:=w64 (by omega) (by omega)
 have hw2 : IntKind.i64.wrap (2 + 2 * k) = 2 + 2 * k:=w64 (by omega) (by omega)
 refine rx (s:=?s1) [0] [] [] rfl ?o1 ?q1
 case o1=>simp; rfl
 refine rx (s:=?s2) [2] [] [] rfl ?o2 ?q2
 case o2=>simp [hw1,hw2]; rfl
 refine zag ?_
 exact ⟨.inr rfl,zam.one (by simp)⟩
theorem zgt (k : Int) (h : 0 ≤ k) (h2 : k ≤ 1000000) : zaj Tryz.prog zeM [.I k] [] (.I (3 + 2 * k)) []:=by
 refine znr.acalls (Nat.le_of_ble_eq_true rfl) (Nat.le_of_ble_eq_true rfl) (Nat.le_refl _) ?_
 show awp _ 0 _ _ ⟨_,[(0,.I k)],[],16⟩
 have hw2 : IntKind.i64.wrap (2 + 2 * k + 1) = 3 + 2 * k:=by rw [w64 (by omega) (by omega)]; omega
 refine rx (s:=?s1) [0] [] [] rfl ?o1 ?q1
 case o1=>simp; rfl
 refine rx (s:=?s2) [2] [] [] rfl ?o2 ?q2
 case o2=>simp; refine zal (zbI k h h2) (by simp) ?_; simp [hw2]; rfl
 refine zag ?_
 exact ⟨.inr rfl,zam.one (by simp)⟩
theorem zcV (k : Int) (h : 0 ≤ k) (h2 : k ≤ 1000000) : zaj Tryz.prog zcs [.I k] [] (.I (2 + 2 * k)) []:=by
 refine zmn.acalls (Nat.le_of_ble_eq_true rfl) (Nat.le_of_ble_eq_true rfl) (Nat.le_refl _) ?_
 show awp _ 0 _ _ ⟨_,[(0,.I k)],[],16⟩
 have hw1 : IntKind.i64.wrap (2 * k) = 2 * k:=w64 (by omega) (by omega)
 have hw2 : IntKind.i64.wrap (2 + 2 * k) = 2 + 2 * k:=w64 (by omega) (by omega)
 refine rx (s:=?s1) [0] [] [] rfl ?o1 ?q1
 case o1=>simp; rfl
 refine rx (s:=?s2) [2] [] [] rfl ?o2 ?q2
 case o2=>simp [hw1,hw2]; rfl
 refine zag ?_
 exact ⟨.inr rfl,zam.one (by simp)⟩
theorem zg3 (k : Int) (h : 0 ≤ k) (h2 : k ≤ 1000000) : zaj Tryz.prog zes [.I k] [] (.I (3 + 2 * k)) []:=by
 refine zm4.acalls (Nat.le_of_ble_eq_true rfl) (Nat.le_of_ble_eq_true rfl) (Nat.le_refl _) ?_
 show awp _ 0 _ _ ⟨_,[(0,.I k)],[],16⟩
 have hw1 : IntKind.i64.wrap (2 * k) = 2 * k:=w64 (by omega) (by omega)
 have hw2 : IntKind.i64.wrap (3 + 2 * k) = 3 + 2 * k:=w64 (by omega) (by omega)
 refine rx (s:=?s1) [0] [] [] rfl ?o1 ?q1
 case o1=>simp; rfl
 refine rx (s:=?s2) [2] [] [] rfl ?o2 ?q2
 case o2=>simp [hw1,hw2]; rfl
 refine zag ?_
 exact ⟨.inr rfl,zam.one (by simp)⟩
abbrev outV (N : Int) (B n : Nat) : Ent:=⟨2,[[.I N,.rs B 0 n]],0⟩
theorem zn4 (N f t v : Int) (L : List Ed) (n : Nat) (hL : L.length = n) (hn : n ≤ 1000000) : zaj Tryz.prog zaF [.I f,.I t,.I v,.pt 0 0 0] [outV N 1 n,⟨3,zaU L,0⟩] (.tup []) [some (outV N 2 (n + 1)),none,some ⟨3,zaU (L ++ [⟨f,t,v⟩]),0⟩]:=by
 refine zhE.acalls (Nat.le_of_ble_eq_true rfl) (Nat.le_of_ble_eq_true rfl) (Nat.le_of_ble_eq_true rfl) ?_
 show awp _ 2 _ _ ⟨16,[(0,.I f),(1,.I t),(2,.I v),(3,.pt 0 0 0)],[(0,some (outV N 1 n)),(1,some ⟨3,zaU L,0⟩)],16⟩
 have htl : ∀ f : Ed → List AV,List.take n (List.map f L) = List.map f L:=fun f=>List.take_of_length_le (by simp [hL])
 refine zac (s:=?s1) rfl ?o1 ?q1
 case o1=>simp [hL,htl]; refine ⟨by omega,by omega,?_⟩; rfl
 refine ⟨.inl rfl,⟨[],rfl,[72],[],by simp [List.range,List.range.loop],by simp,by simp,by simp,?_⟩⟩
 simp [List.range,List.range.loop]
theorem zgO {φ : Ed → Int → Int} : ∀ {A : List Ed} {f : List Int} (i : Nat) (h1 : i < A.length) (h2 : i < f.length),sumF φ (A.take (i + 1)) (f.take (i + 1)) = sumF φ (A.take i) (f.take i) + φ A[i] f[i]
 | e :: A,v :: f,0,_,_=>by simp [sumF]
 | e :: A,v :: f,i + 1,h1,h2=>by
   have:=zgO (φ:=φ) (A:=A) (f:=f) i (by simpa using h1) (by simpa using h2)
   simp only [List.take_succ_cons,sumF,this,List.getElem_cons_succ]
   omega
def netG (A : List Ed) (f : List Int) (i : Nat) (x : Int) : Int:=inF (A.take i) (f.take i) x - outF (A.take i) (f.take i) x
variable {N : Nat} {A : List Ed} {f : List Int}
theorem zjb (x : Int) : netG A f 0 x = 0:=by simp [netG,inF,outF,sumF]
theorem zjv {i : Nat} (h1 : i < A.length) (h2 : i < f.length) (x : Int) : netG A f (i + 1) x = netG A f i x + (if A[i].t = x then f[i] else 0) - if A[i].f = x then f[i] else 0:=by
 unfold netG inF outF
 rw [zgO i h1 h2,zgO i h1 h2]
 omega
theorem zol (hl : f.length = A.length) (x : Int) : netG A f A.length x = - exF A f x:=by
 unfold netG exF
 rw [List.take_of_length_le (Nat.le_refl _),List.take_of_length_le (by omega)]
 omega
theorem zhx (hl : f.length = A.length) (hb : ∀ j (h : j < f.length),0 ≤ f[j] ∧ f[j] ≤ 1048576) (x : Int) : ∀ i,i ≤ A.length → -(1048576 * (i : Int)) ≤ netG A f i x ∧ netG A f i x ≤ 1048576 * (i : Int)
 | 0,_=>by rw [zjb]; omega
 | i + 1,h=>by
   have ih:=zhx hl hb x i (by omega)
   have h2:=hb i (by omega)
   rw [zjv (by omega) (by omega)]
   split <;> split <;> omega
theorem zmS {i : Nat} (h1 : i < A.length) (h2 : i < f.length) (x : Int) : outF (A.take (i + 1)) (f.take (i + 1)) x = outF (A.take i) (f.take i) x + if A[i].f = x then f[i] else 0:=by
 unfold outF
 rw [zgO i h1 h2]
theorem zkh (hl : f.length = A.length) (hb : ∀ j (h : j < f.length),0 ≤ f[j] ∧ f[j] ≤ 1048576) (x : Int) : ∀ i,i ≤ A.length → 0 ≤ outF (A.take i) (f.take i) x ∧ outF (A.take i) (f.take i) x ≤ 1048576 * (i : Int)
 | 0,_=>by simp [outF,sumF]
 | i + 1,h=>by
   have ih:=zkh hl hb x i (by omega)
   have h2:=hb i (by omega)
   rw [zmS (by omega) (by omega)]
   split <;> omega
def rowR (N : Nat) (g : Int → Int) : List Int:=(List.range N).map fun k : Nat=>g k
theorem zex (N : Nat) (g : Int → Int) : (rowR N g).length = N:=by simp [rowR]
theorem zdT {g : Int → Int} {x : Int} (h0 : 0 ≤ x) (h1 : x < N) : (rowR N g)[x.toNat]? = some (g x):=by
 unfold rowR
 rw [List.getElem?_map,List.getElem?_range (by omega)]
 simp only [Option.map_some,Int.toNat_of_nonneg h0]
theorem zim {g : Int → Int} {x v : Int} (h0 : 0 ≤ x) (h1 : x < N) : (rowR N g).set x.toNat v = rowR N fun y=>if y = x then v else g y:=by
 apply List.ext_getElem?
 intro j
 by_cases hj : j < N
 ·have e1:=zdT (N:=N) (g:=fun y=>if y = x then v else g y) (x:=(j : Int)) (by omega) (by omega)
  have e2:=zdT (N:=N) (g:=g) (x:=(j : Int)) (by omega) (by omega)
  simp only [Int.toNat_natCast] at e1 e2
  rw [List.getElem?_set,e1,e2,zex]
  by_cases hx : x.toNat = j
  ·rw [if_pos hx,if_pos (by omega),if_pos (by omega)]
  ·rw [if_neg hx,if_neg (by omega)]
 ·rw [List.getElem?_eq_none (by rw [List.length_set,zex]; omega),List.getElem?_eq_none (by rw [zex]; omega)]
theorem zhm {g h : Int → Int} (e : ∀ x,g x = h x) : rowR N g = rowR N h:=by
 obtain rfl : g = h:=funext e
 rfl
set_option maxRecDepth 100000 in
set_option maxHeartbeats 4000000 in
theorem zh8 (hn : za4 ⟨N,A⟩) (hf : zaB N A f) : zaj Tryz.prog ze9 [eN ⟨N,A⟩,ints f] [] (.B true) []:=by
 refine zlL.acalls (Nat.le_of_ble_eq_true rfl) (Nat.le_of_ble_eq_true rfl) (Nat.le_refl _) ?_
 show awp _ 0 _ _ ⟨87,[(0,eN ⟨N,A⟩),(1,ints f)],[],16⟩
 have hfl:=hf.fit.len
 have hfit:=zc2.1 hf.fit
 have hchk:=zfZ ⟨N,A⟩ (by have:=hn.2.2.1; simp only at this ⊢; omega)
 rw [if_pos hn] at hchk
 obtain ⟨hn0,hn1,hal,hav⟩:=hn
 simp only at hn0 hn1 hal hav
 have hfb : ∀ j (h : j < f.length),0 ≤ f[j] ∧ f[j] ≤ (A[j]'(by omega)).v ∧ (A[j]'(by omega)).v ≤ 1048576:=fun j hj=>by
  have h1:=hfit.2 j (by omega)
  have e1 : f.getD j 0 = f[j]:=by rw [List.getD_eq_getElem?_getD,List.getElem?_eq_getElem hj,Option.getD_some]
  have e2 : arcD A j = A[j]'(by omega):=by unfold arcD; rw [List.getD_eq_getElem?_getD,List.getElem?_eq_getElem (by omega),Option.getD_some]
  rw [e1,e2] at h1
  exact ⟨h1.1,h1.2,(hav _ (List.getElem_mem (by omega))).2.2.2.2.2.2.2.2⟩
 have hbd:=zhx hfl fun j hj=>⟨(hfb j hj).1,by have:=hfb j hj; omega⟩
 refine rx (s:=?s1) [1,2] [] [16] rfl ?o1 ?q1
 case o1=>simp; rfl
 refine zaa ?_
 refine zab ⟨87,[(1,ints f),(2,.pv (nC ⟨N,A⟩)),(18,.B false)],[],120⟩ rfl ?_ ?_
 ·simp
  refine zal hchk (by simp) ?_
  simp
  exact Le.snap [] rfl rfl (by simp <;> exact wkB (by simp [hfl]))
 refine zad _ rfl (fun h3=>by cases h3) fun _=>?_
 refine zae ?_
 refine zab ⟨87,[(1,ints f),(2,.pv (nC ⟨N,A⟩)),(5,.rs 136 0 N)],[(136,some ⟨1,zah (rowR N (netG A f 0)),0⟩)],144⟩ rfl ?_ ?_
 ·simp
  refine ⟨by omega,by omega,?_⟩
  have : rowR N (netG A f 0) = List.replicate N 0:=by
   unfold rowR
   simp only [zjb]
   simp [List.map_const']
  rw [this]
  exact Le.go [(136,136)] [] rfl rfl (by simp) (by simp)
 refine zaa ?_
 refine zab ⟨87,[(1,ints f),(2,.pv (nC ⟨N,A⟩)),(5,.rs 136 0 N),(6,.I 0)],[(136,some ⟨1,zah (rowR N (netG A f 0)),0⟩)],160⟩ rfl ?_ ?_
 ·simp
  exact Le.go [(136,136)] [] rfl rfl (by simp) (by simp [fcd])
 refine zaf ?_
 refine zao (ι:=Nat) (fun i=>⟨87,[(1,ints f),(2,.pv (nC ⟨N,A⟩)),(5,.rs 136 0 N),(6,.I i)],[(136,some ⟨1,zah (rowR N (netG A f i)),0⟩)],160⟩) (fun i=>i ≤ A.length) (fun i=>A.length - i) 0 (Nat.zero_le _) (Le.go [(136,136)] [] rfl rfl (by simp) (by simp [fcd])) ?_
 intro i hi
 refine zaa ?_
 refine zab ⟨87,[(1,ints f),(2,.pv (nC ⟨N,A⟩)),(5,.rs 136 0 N),(6,.I i),(25,.B (decide (i < f.length)))],[(136,some ⟨1,zah (rowR N (netG A f i)),0⟩)],192⟩ rfl ?_ ?_
 ·simp
  exact Le.go [(136,136)] [] rfl rfl (by simp) (by simp [fcd])
 refine zad _ rfl (fun h8=>?_) fun h8=>?_
 ·simp at h8
  have hiA : i < A.length:=by omega
  have hw1 : IntKind.i64.wrap ((i : Int) + 1) = (i : Int) + 1:=w64 (by omega) (by omega)
  obtain ⟨b1,b2,b3⟩:=hfb i h8
  have heo:=hav _ (List.getElem_mem hiA)
  have hsucc:=zjv hiA h8
  have hbe:=fun x=>hbd x i (by omega)
  obtain ⟨e,he⟩ : ∃ e,e = A[i]:=⟨_,rfl⟩
  obtain ⟨w,hw⟩ : ∃ w,w = f[i]:=⟨_,rfl⟩
  rw [← he,← hw] at hsucc b2
  rw [← hw] at b1
  rw [← he] at b3 heo
  obtain ⟨e1,e2,e3,e4,e5,_⟩:=heo
  have hg1 : A[i]? = some e:=by rw [List.getElem?_eq_getElem hiA,he]
  have hg2 : f[i]? = some w:=by rw [List.getElem?_eq_getElem h8,hw]
  have h2N : e.f < (N : Int) ∧ e.t < (N : Int):=by omega
  have h1:=hbe e.f
  have h2:=hbe e.t
  have hwx : IntKind.i64.wrap (netG A f i e.f - w) = netG A f i e.f - w:=w64 (by omega) (by omega)
  have hwy : IntKind.i64.wrap (netG A f i e.t + w) = netG A f i e.t + w:=w64 (by omega) (by omega)
  have hr1:=zdT (N:=N) (g:=netG A f i) (x:=e.f) e1 (by omega)
  have hs1:=zim (N:=N) (g:=netG A f i) (x:=e.f) (v:=netG A f i e.f - w) e1 (by omega)
  obtain ⟨g1,hg1d⟩ : ∃ g1 : Int → Int,g1 = fun y=>if y = e.f then netG A f i e.f - w else netG A f i y:=⟨_,rfl⟩
  rw [← hg1d] at hs1
  have hg1t : g1 e.t = netG A f i e.t:=by rw [hg1d]; exact if_neg fun h=>e5 h.symm
  have hr2:=zdT (N:=N) (g:=g1) (x:=e.t) e3 (by omega)
  rw [hg1t] at hr2
  have hs2:=zim (N:=N) (g:=g1) (x:=e.t) (v:=netG A f i e.t + w) e3 (by omega)
  have hend : (rowR N fun y=>if y = e.t then netG A f i e.t + w else g1 y) = rowR N (netG A f (i + 1)):=zhm fun x=>by
   rw [hsucc,hg1d]
   simp only
   by_cases h3 : x = e.t
   ·rw [h3,if_pos rfl,if_pos rfl,if_neg e5]
    omega
   ·by_cases h4 : x = e.f
    ·rw [if_neg h3,if_pos h4,if_neg fun h=>h3 h.symm,if_pos h4.symm,h4]
     omega
    ·rw [if_neg h3,if_neg h4,if_neg fun h=>h3 h.symm,if_neg fun h=>h4 h.symm]
     omega
  rw [hend] at hs2
  refine zae ?_
  refine zaI (ι:=Unit) (fun _=>⟨87,[(1,ints f),(2,.pv (nC ⟨N,A⟩)),(5,.rs 136 0 N),(6,.I i)],[(136,some ⟨1,zah (rowR N (netG A f (i + 1))),0⟩)],1000⟩) (fun _=>True) ?_ fun _ _=>?_
  ·refine zaf ?_
   refine zaa ?_
   refine zaw ⟨87,[(1,ints f),(2,.pv (nC ⟨N,A⟩)),(5,.rs 136 0 N),(6,.I i),(45,.B false)],[(136,some ⟨1,zah (rowR N (netG A f i)),0⟩)],500⟩ rfl ?_ ?_
   ·have hc1 : ¬ w < 0:=by omega
    have hc2 : ¬ e.v < w:=by omega
    simp [hg1,hg2,hiA,h8,← he,← hw,hc1,hc2]
    exact ⟨rfl,Le.go [(136,136)] [] rfl rfl (by simp [hc2]) (by simp [fcd])⟩
   refine zad _ rfl (fun h=>by cases h) fun _=>?_
   refine zae ?_
   refine zaw ⟨87,[(1,ints f),(2,.pv (nC ⟨N,A⟩)),(5,.rs 136 0 N),(6,.I i)],[(136,some ⟨1,zah (rowR N g1),0⟩)],700⟩ rfl ?_ ?_
   ·simp [hg1,hg2,hiA,h8,← he,← hw,hr1,e1,h2N,hwx,za7]
    exact ⟨rfl,Le.go [(136,136)] [] rfl rfl (by simp) (by simp [fcd,← hs1])⟩
   refine zbS rfl ?_
   simp [hg1,hg2,hiA,h8,← he,← hw,hr2,e3,h2N,hwy,za7]
   exact ⟨rfl,Le.go [(136,136)] [] rfl rfl (by simp) (by simp [fcd,← hs2])⟩
  refine zac (s:=?s20) rfl ?o20 ?q20
  case o20=>simp; rfl
  exact ⟨i + 1,by omega,by omega,Le.go [(136,136)] [] rfl rfl (by simp [hw1]) (by simp [fcd])⟩
 simp at h8
 obtain rfl : i = A.length:=by omega
 refine zan ?_
 refine hit ?_
 refine zaa ?_
 refine zab ⟨87,[(2,.pv (nC ⟨N,A⟩)),(5,.rs 136 0 N),(7,.I 2)],[(136,some ⟨1,zah (rowR N (netG A f A.length)),0⟩)],200⟩ rfl ?_ ?_
 ·simp
  exact Le.go [(136,136)] [] rfl rfl (by simp) (by simp [fcd])
 refine zaf ?_
 refine zao (ι:=Nat) (fun k=>⟨87,[(2,.pv (nC ⟨N,A⟩)),(5,.rs 136 0 N),(7,.I k)],[(136,some ⟨1,zah (rowR N (netG A f A.length)),0⟩)],200⟩) (fun k=>2 ≤ k ∧ k ≤ N) (fun k=>N - k) 2 (by omega) (Le.go [(136,136)] [] rfl rfl (by simp) (by simp [fcd])) ?_
 rintro k ⟨hk1,hk2⟩
 refine zaa ?_
 refine zab ⟨87,[(2,.pv (nC ⟨N,A⟩)),(5,.rs 136 0 N),(7,.I k),(79,.B (decide (k < N)))],[(136,some ⟨1,zah (rowR N (netG A f A.length)),0⟩)],300⟩ rfl ?_ ?_
 ·simp
  exact Le.go [(136,136)] [] rfl rfl (by simp) (by simp [fcd])
 refine zad _ rfl (fun h15=>?_) fun h15=>?_
 ·simp at h15
  have hz : netG A f A.length k = 0:=by
   rw [zol hfl]
   have:=hf.bal k hk1 h15
   unfold exF
   omega
  have hr:=zdT (N:=N) (g:=netG A f A.length) (x:=(k : Int)) (by omega) (by omega)
  rw [hz] at hr
  simp only [Int.toNat_natCast] at hr
  have hw1 : IntKind.i64.wrap ((k : Int) + 1) = (k : Int) + 1:=w64 (by omega) (by omega)
  refine zae ?_
  refine zaa ?_
  refine zaf ?_
  refine zab ⟨87,[(2,.pv (nC ⟨N,A⟩)),(5,.rs 136 0 N),(7,.I k),(86,.B false)],[(136,some ⟨1,zah (rowR N (netG A f A.length)),0⟩)],400⟩ rfl ?_ ?_
  ·simp [hr,h15]
   exact Le.go [(136,136)] [] rfl rfl (by simp) (by simp [fcd])
  refine zad _ rfl (fun h=>by cases h) fun _=>?_
  refine zae ?_
  refine zac (s:=?s21) rfl ?o21 ?q21
  case o21=>simp; rfl
  exact ⟨k + 1,by omega,by omega,Le.go [(136,136)] [] rfl rfl (by simp [hw1]) (by simp [fcd])⟩
 simp at h15
 refine zan ?_
 refine hit ?_
 refine zab ⟨87,[(4,.B true)],[],400⟩ rfl ?_ ?_
 ·simp
  exact Le.go [] [] rfl rfl (by simp) (by simp)
 refine zag ?_
 exact ⟨.inr rfl,zam.one (by simp)⟩
theorem zh7 (hn : za4 ⟨N,A⟩) (hf : zaB N A f) : zaj Tryz.prog ze3 [eN ⟨N,A⟩,ints f] [] (.I (valF A f)) []:=by
 refine zmw.acalls (Nat.le_of_ble_eq_true rfl) (Nat.le_of_ble_eq_true rfl) (Nat.le_refl _) ?_
 show awp _ 0 _ _ ⟨31,[(0,eN ⟨N,A⟩),(1,ints f)],[],16⟩
 have hchk:=zh8 hn hf
 have hfl:=hf.fit.len
 have hfit:=zc2.1 hf.fit
 obtain ⟨hn0,hn1,hal,hav⟩:=hn
 simp only at hn0 hn1 hal hav
 have hfb : ∀ j (h : j < f.length),0 ≤ f[j] ∧ f[j] ≤ 1048576:=fun j hj=>by
  have h1:=hfit.2 j (by omega)
  have e1 : f.getD j 0 = f[j]:=by rw [List.getD_eq_getElem?_getD,List.getElem?_eq_getElem hj,Option.getD_some]
  have e2 : arcD A j = A[j]'(by omega):=by unfold arcD; rw [List.getD_eq_getElem?_getD,List.getElem?_eq_getElem (by omega),Option.getD_some]
  rw [e1,e2] at h1
  have h2:=(hav _ (List.getElem_mem (show j < A.length by omega))).2.2.2.2.2.2.2.2
  omega
 have hbd:=zkh hfl hfb 0
 have hall : outF (A.take A.length) (f.take A.length) 0 = valF A f:=by
  unfold valF
  rw [List.take_of_length_le (Nat.le_refl _),List.take_of_length_le (by omega)]
 refine rx (s:=?s1) [1,2] [] [16] rfl ?o1 ?q1
 case o1=>simp; rfl
 refine zaa ?_
 refine rx (s:=?s2) [1,2,10] [] [] rfl ?o2 ?q2
 case o2=>simp; refine zal hchk (by simp) ?_; simp; rfl
 refine zad _ rfl (fun h=>by cases h) fun _=>?_
 refine zae ?_
 refine rx (s:=?s5) [1,2,5] [] [] rfl ?o5 ?q5
 case o5=>simp; rfl
 refine zaa ?_
 refine rx (s:=?s6) [1,2,5,6] [] [] rfl ?o6 ?q6
 case o6=>simp; rfl
 refine zaf ?_
 refine zao (ι:=Nat) (fun i=>⟨31,[(1,ints f),(2,.pv (nC ⟨N,A⟩)),(5,.I (outF (A.take i) (f.take i) 0)),(6,.I i)],[],80⟩) (fun i=>i ≤ A.length) (fun i=>A.length - i) 0 (Nat.zero_le _) (Le.go [] [] rfl rfl (by simp [outF,sumF]) (by simp)) ?_
 intro i hi
 have hbi:=hbd i hi
 refine zaa ?_
 refine rx (s:=?s7) [1,2,5,6,14] [] [] rfl ?o7 ?q7
 case o7=>simp; rfl
 refine zad _ rfl (fun h8=>?_) fun h8=>?_
 ·simp at h8
  have hiA : i < A.length:=by omega
  have hw1 : IntKind.i64.wrap ((i : Int) + 1) = (i : Int) + 1:=w64 (by omega) (by omega)
  have hsucc:=zmS hiA h8 0
  have hb:=hfb i h8
  refine zae ?_
  refine zaI (ι:=Unit) (fun _=>⟨31,[(1,ints f),(2,.pv (nC ⟨N,A⟩)),(5,.I (outF (A.take (i + 1)) (f.take (i + 1)) 0)),(6,.I i)],[],400⟩) (fun _=>True) ?_ fun _ _=>?_
  ·refine zaf ?_
   refine zab ⟨31,[(1,ints f),(2,.pv (nC ⟨N,A⟩)),(5,.I (outF (A.take i) (f.take i) 0)),(6,.I i),(23,.B (decide (A[i].f = 0)))],[],200⟩ rfl ?_ ?_
   ·simp [hiA]
    exact Le.go [] [] rfl rfl (by simp <;> exact wkB (by rw [Bool.eq_iff_iff]; simp)) (by simp)
   refine zad _ rfl (fun h10=>?_) fun h10=>?_
   ·rw [decide_eq_true_eq] at h10
    rw [if_pos h10] at hsucc
    have hw2 : IntKind.i64.wrap (outF (A.take i) (f.take i) 0 + f[i]) = outF (A.take i) (f.take i) 0 + f[i]:=w64 (by omega) (by omega)
    refine zac (s:=?s9) rfl ?o9 ?q9
    case o9=>simp [h8]; rfl
    exact ⟨(),trivial,Le.go [] [] rfl rfl (by simp [hsucc,hw2]) (by simp)⟩
   ·rw [decide_eq_false_iff_not] at h10
    rw [if_neg h10,Int.add_zero] at hsucc
    refine zae ?_
    exact ⟨(),trivial,Le.go [] [] rfl rfl (by simp [hsucc]) (by simp)⟩
  refine zac (s:=?s10) rfl ?o10 ?q10
  case o10=>simp; rfl
  exact ⟨i + 1,by omega,by omega,Le.go [] [] rfl rfl (by simp [hw1]) (by simp)⟩
 simp at h8
 obtain rfl : i = A.length:=by omega
 rw [hall]
 refine zan ?_
 refine hit ?_
 refine rx (s:=?s11) [4] [] [] rfl ?o11 ?q11
 case o11=>simp; rfl
 refine zag ?_
 exact ⟨.inr rfl,zam.one (by simp)⟩
theorem zpt {g : Gr} {p : Pol} {sinks : List Int} (hg : GrOk g) (hp : zaZ g.size p) (hk : ∀ x ∈ sinks,0 ≤ x ∧ x < g.size) : zdK (2 + 2 * g.size).toNat (zaT g p (zaD g p) sinks):=by
 have hs0:=hg.1.1
 have hse:=hp.2.1.nodup
 have hle:=zhC hg p.lv
 have hcl : (zaD g p).length = g.size.toNat:=by unfold zaD; rw [List.length_map,zi6]; rfl
 refine ⟨by omega,fun a ha=>?_⟩
 unfold zaT at ha
 rcases List.mem_append.1 ha with ha | ha
 ·rcases List.mem_append.1 ha with ha | ha
  ·rcases List.mem_append.1 ha with ha | ha
   ·obtain ⟨x,hx,rfl⟩:=List.mem_map.1 ha
    have h1:=List.mem_filter.1 hx
    have h2:=hse.2 x h1.1
    have h3 : 0 < (zaD g p).getD x.toNat 0:=by simpa using h1.2
    simp only
    omega
   ·obtain ⟨i,hx,rfl⟩:=List.mem_map.1 ha
    have h1:=List.mem_filter.1 hx
    have h2:=List.mem_range.1 h1.1
    have h3 : 0 < (zaD g p).getD i 0:=by simpa using h1.2
    simp only
    omega
  ·obtain ⟨x,hx,rfl⟩:=List.mem_map.1 ha
   have h2:=hk x (List.mem_filter.1 hx).1
   simp only
   omega
 ·obtain ⟨e,hx,rfl⟩:=List.mem_map.1 ha
  have h2:=hle.2 e (List.mem_filter.1 hx).1
  simp only
  omega
def arc1 (c : List Int) (x : Int) : List Ed:=if 0 < c.getD x.toNat 0 then [⟨0,2 + 2 * x,c.getD x.toNat 0⟩] else []
def arc2 (c : List Int) (i : Nat) : List Ed:=if 0 < c.getD i 0 then [⟨2 + 2 * (i : Int),3 + 2 * (i : Int),c.getD i 0 - 1⟩] else []
def arc3 (c : List Int) (x : Int) : List Ed:=if 0 < c.getD x.toNat 0 then [⟨2 + 2 * x,1,1⟩] else []
def arc4 (c : List Int) (e : Ed) : List Ed:=if 0 < c.getD e.f.toNat 0 then [⟨3 + 2 * e.f,2 + 2 * e.t,64⟩] else []
theorem zcA {α : Type} (q : α → Bool) (f : α → Ed) (l : List α) : (l.filter q).map f = l.flatMap fun x=>if q x = true then [f x] else []:=by
 induction l with
 | nil=>rfl
 | cons x l ih=>by_cases h : q x = true <;> simp [h,ih]
theorem zfx (g : Gr) (p : Pol) (c sinks : List Int) : zaT g p c sinks = p.seeds.flatMap (arc1 c) ++ (List.range c.length).flatMap (arc2 c) ++ sinks.flatMap (arc3 c) ++ (zai g p.lv).edges.flatMap (arc4 c):=by
 unfold zaT
 rw [zcA,zcA,zcA,zcA]
 simp only [decide_eq_true_eq]
 rfl
theorem zc6 {α : Type} (f : α → List Ed) (l : List α) (i : Nat) (h : i < l.length) : (l.take (i + 1)).flatMap f = (l.take i).flatMap f ++ f l[i]:=by
 rw [List.take_succ_eq_append_getElem h,List.flatMap_append]
 simp
theorem zbW {α : Type} (f : α → List Ed) (hf : ∀ x,(f x).length ≤ 1) (l : List α) : (l.flatMap f).length ≤ l.length:=by
 induction l with
 | nil=>simp
 | cons x l ih=>rw [List.flatMap_cons,List.length_append,List.length_cons]; have:=hf x; omega
theorem zgw (c : List Int) (x : Int) : (arc1 c x).length ≤ 1:=by unfold arc1; split <;> simp
theorem zgp (c : List Int) (x : Nat) : (arc2 c x).length ≤ 1:=by unfold arc2; split <;> simp
theorem zg1 (c : List Int) (x : Int) : (arc3 c x).length ≤ 1:=by unfold arc3; split <;> simp
theorem zg4 (c : List Int) (x : Ed) : (arc4 c x).length ≤ 1:=by unfold arc4; split <;> simp
theorem zbl {α : Type} (f : α → List Ed) (hf : ∀ x,(f x).length ≤ 1) (l : List α) (i : Nat) : ((l.take i).flatMap f).length ≤ l.length:=Nat.le_trans (zbW f hf _) (List.length_take_le' i l)
set_option maxRecDepth 100000 in
set_option maxHeartbeats 4000000 in
theorem zif (g : Gr) (p : Pol) (sinks : List Int) (hg : GrOk g) (hp : zaZ g.size p) (hr : Rise sinks 0 (g.size - 1)) (hs : p.seeds.length ≤ 64) (hsl : sinks.length ≤ 64) :
  zaj Tryz.prog zd8 [eG g,eP p,ints sinks] [] (.tup [eN ⟨2 + 2 * g.size,zaT g p (zaD g p) sinks⟩,.I 0]) []:=by
 refine zjG.acalls (Nat.le_of_ble_eq_true rfl) (Nat.le_of_ble_eq_true rfl) (Nat.le_refl _) ?_
 show awp _ 0 _ _ ⟨123,[(0,eG g),(1,eP p),(2,ints sinks)],[],16⟩
 have hsz:=hg.1.1
 have hsz2:=hg.1.2.1
 have hel:=hg.edges_le
 have hgl:=hg.gone_le
 have hchk:=zbV g p (by omega) (by omega) (by omega) (by have:=hp.2.2.2.1; omega)
 rw [if_pos hg,if_pos hp] at hchk
 have hcap:=zfn g p hg (by omega)
 have hcb:=ziW (g:=g) hp
 have hcl : (zaD g p).length = g.size.toNat:=zbx
 rw [← hcl] at hcap
 have hlev:=zed g p.lv (by omega) (by omega)
 rw [zfx]
 obtain ⟨C,hC⟩ : ∃ C,C = zaD g p:=⟨_,rfl⟩
 rw [← hC] at hcap hcl hcb ⊢
 have hGe : ∀ e ∈ (zai g p.lv).edges,e ∈ g.edges:=fun e he=>(List.mem_filter.1 he).1
 have hGl : (zai g p.lv).edges.length ≤ 500:=Nat.le_trans (List.length_filter_le ..) hel
 obtain ⟨G,hG⟩ : ∃ G,G = zai g p.lv:=⟨_,rfl⟩
 rw [← hG] at hlev hGe hGl ⊢
 have hw1 : IntKind.i64.wrap (g.size - 1) = g.size - 1:=w64 (by omega) (by omega)
 have hfit : ∀ e ∈ G.edges,(0 ≤ e.f ∧ e.f < g.size) ∧ (0 ≤ e.t ∧ e.t < g.size):=fun e he=>by
  have:=hg.fits e (hGe e he)
  unfold Fits at this
  omega
 have hkey : ∀ k : Int,0 ≤ k → k < g.size → ∃ j : Nat,k = j ∧ j < C.length ∧ j < 64:=fun k h0 h1=>⟨k.toNat,by omega,by omega,by omega⟩
 have hseed : ∀ k ∈ p.seeds,∃ j : Nat,k = j ∧ j < C.length ∧ j < 64:=fun k hk=>by
  obtain ⟨i,hi,rfl⟩:=List.getElem_of_mem hk
  have:=hp.2.1 i hi
  exact hkey _ (by omega) (by omega)
 have hsink : ∀ k ∈ sinks,∃ j : Nat,k = j ∧ j < C.length ∧ j < 64:=fun k hk=>by
  obtain ⟨i,hi,rfl⟩:=List.getElem_of_mem hk
  have:=hr i hi
  exact hkey _ (by omega) (by omega)
 refine zab ⟨123,[(2,ints sinks),(3,.pv (gC g)),(4,.pv (pC p)),(6,.pt 32 0 0)],[(32,some ⟨2,[[.I 0,.nilS]],0⟩)],48⟩ rfl ?_ ?_
 ·simp
  exact Le.go [(32,32)] [16,24] rfl rfl (by simp) (by simp)
 refine zaa ?_
 refine rk (s:=?s2) [2,3,4,6,8] [32] rfl ?o2 ?q2
 case o2=>simp; refine zal hchk (by simp) ?_; simp; rfl
 refine rk (s:=?s3) [2,3,4,6,24] [32] rfl ?o3 ?q3
 case o3=>simp; rfl
 refine zad _ rfl (fun h4=>?_) fun h4=>zae ?_
 ·simp at h4
 refine zaa ?_
 refine rk (s:=?s5) [2,3,4,6,32] [32] rfl ?o5 ?q5
 case o5=>simp [hw1]; refine zal (zbP sinks 0 (g.size - 1) (by omega)) (by simp) ?_; simp [hr]; rfl
 refine zad _ rfl (fun h6=>?_) fun h6=>zae ?_
 ·simp at h6
 refine rk (s:=?s7) [2,3,4,6,9] [32,176] rfl ?o7 ?q7
 case o7=>simp; refine zal (zbI g.size hsz (by omega)) (by simp) ?_; simp; rfl
 obtain ⟨N,hN⟩ : ∃ N : Int,N = 2 + 2 * g.size:=⟨_,rfl⟩
 simp only [← hN]
 refine rk (s:=?s8) [2,3,4,6,9,10] [32,176] rfl ?o8 ?q8
 case o8=>simp; rfl
 refine zab ⟨123,[(2,ints sinks),(3,.pv (gC g)),(4,.pv (pC p)),(6,.pt 32 0 0),(9,.pt 176 0 0),(10,.fn (.func zaF) [] [.pt 176 0 0]),(11,ints C)],[(32,some ⟨2,[[.I 0,.nilS]],0⟩),(176,some ⟨2,[[.I N,.nilS]],0⟩)],240⟩ rfl ?_ ?_
 ·simp
  refine za1 hcap (by simp) ?_
  simp [fcd]
  exact Le.go [(32,32),(176,176)] [224] rfl rfl (by simp [fcd,zaq]) (by simp)
 have hb1 : (p.seeds.flatMap (arc1 C)).length ≤ 64:=Nat.le_trans (zbW _ (zgw C) _) hs
 have hb2 : ((List.range C.length).flatMap (arc2 C)).length ≤ 64:=Nat.le_trans (zbW _ (zgp C) _) (by rw [List.length_range]; omega)
 have hb3 : (sinks.flatMap (arc3 C)).length ≤ 64:=Nat.le_trans (zbW _ (zg1 C) _) hsl
 have hb4 : (G.edges.flatMap (arc4 C)).length ≤ 500:=Nat.le_trans (zbW _ (zg4 C) _) hGl
 obtain ⟨X1,hX1⟩ : ∃ X,X = p.seeds.flatMap (arc1 C):=⟨_,rfl⟩
 obtain ⟨X2,hX2⟩ : ∃ X,X = (List.range C.length).flatMap (arc2 C):=⟨_,rfl⟩
 obtain ⟨X3,hX3⟩ : ∃ X,X = sinks.flatMap (arc3 C):=⟨_,rfl⟩
 obtain ⟨X4,hX4⟩ : ∃ X,X = G.edges.flatMap (arc4 C):=⟨_,rfl⟩
 obtain ⟨Z2,hZ2⟩ : ∃ Z,Z = X1 ++ X2:=⟨_,rfl⟩
 obtain ⟨Z3,hZ3⟩ : ∃ Z,Z = Z2 ++ X3:=⟨_,rfl⟩
 obtain ⟨Z4,hZ4⟩ : ∃ Z,Z = Z3 ++ X4:=⟨_,rfl⟩
 rw [← hX1] at hb1
 rw [← hX2] at hb2
 rw [← hX3] at hb3
 rw [← hX4] at hb4
 rw [← hX1,← hX2,← hX3,← hX4,← hZ2,← hZ3,← hZ4]
 have hz2 : Z2.length ≤ 128:=by rw [hZ2,List.length_append]; omega
 have hz3 : Z3.length ≤ 192:=by rw [hZ3,List.length_append]; omega
 refine zaa ?_
 refine rk (s:=?sa1) [2,3,4,6,9,10,11,43,44,45] [32,176] rfl ?oa1 ?qa1
 case oa1=>simp; rfl
 refine zaf ?_
 obtain ⟨Fa,Fa0,Fas,Fal,FaN⟩ : ∃ F : Nat → List Ed,F 0 = [] ∧ (∀ i (h : i < (p.seeds).length),F (i + 1) = F i ++ arc1 C (p.seeds)[i]) ∧ (∀ i,(F i).length ≤ 64) ∧ F (p.seeds).length = (p.seeds).flatMap (arc1 C) :=
  ⟨fun i=>((p.seeds).take i).flatMap (arc1 C),by simp,fun i h=>by simp only [zc6 _ _ i h,List.append_assoc],fun i=>by have:=zbl _ (zgw C) (p.seeds) i; exact Nat.le_trans this hs,by simp⟩
 rw [← hX1] at FaN
 refine zao (ι:=Nat) (fun i=>⟨123,[(2,ints sinks),(3,.pv (gC g)),(4,.pv (pC p)),(6,.pt 32 0 0),(9,.pt 176 0 0),(10,.fn (.func zaF) [] [.pt 176 0 0]),(11,ints C),(43,ints p.seeds),(44,.I p.seeds.length),(45,.I i)],[(32,some ⟨2,[[.I 0,.nilS]],0⟩),(176,some (outV N 16 (Fa i).length)),(16,some ⟨3,zaU (Fa i),0⟩)],272⟩) (fun i=>i ≤ p.seeds.length) (fun i=>p.seeds.length - i) 0 (Nat.zero_le _) (Le.lst [(32,32),(176,176)] [] [(16,3)] rfl (by simp) (by simp) (by simp) (by simp) (by simp) (by simp) (by simp) (by simp [Up]) (by simp [Fa0]; refine ⟨zaG.rfl' (by simp),zaG.row rfl (by omega) (by simp [UpL,Up])⟩)) ?_
 intro i hi
 refine rk (s:=?sa2) [2,3,4,6,9,10,11,43,44,45,46] [32,176,16] rfl ?oa2 ?qa2
 case oa2=>simp; rfl
 refine zaa ?_
 refine zad _ rfl (fun h7=>?_) fun h7=>?_
 ·simp at h7
  have hw : IntKind.i64.wrap ((i : Int) + 1) = (i : Int) + 1:=w64 (by omega) (by omega)
  have hFi:=Fal i
  obtain ⟨k,hk,hkC,hk64⟩:=hseed _ (List.getElem_mem h7)
  have hFn : Fa (i + 1) = Fa i ++ if 0 < C[k] then [⟨0,2 + 2 * (k : Int),C[k]⟩] else []:=by
   rw [Fas i h7,hk]
   unfold arc1
   simp [hkC]
  refine zae ?_
  refine zaI (ι:=Unit) (fun _=>⟨123,[(2,ints sinks),(3,.pv (gC g)),(4,.pv (pC p)),(6,.pt 32 0 0),(9,.pt 176 0 0),(10,.fn (.func zaF) [] [.pt 176 0 0]),(11,ints C),(43,ints p.seeds),(44,.I p.seeds.length),(45,.I i)],[(32,some ⟨2,[[.I 0,.nilS]],0⟩),(176,some (outV N 16 (Fa (i + 1)).length)),(16,some ⟨3,zaU (Fa (i + 1)),0⟩)],700⟩) (fun _=>True) ?_ fun _ _=>?_
  ·refine zaf ?_
   refine rk (s:=?sa3) [2,3,4,6,9,10,11,13,43,44,45] [32,176,16] rfl ?oa3 ?qa3
   case oa3=>simp [h7,hk]; rfl
   refine rk (s:=?sa4) [2,3,4,6,9,10,11,13,43,44,45,53] [32,176,16] rfl ?oa4 ?qa4
   case oa4=>simp [hkC]; rfl
   refine zad _ rfl (fun h8=>?_) fun h8=>?_
   ·simp at h8
    rw [if_pos h8] at hFn
    refine zbS rfl ?_
    simp [hkC]
    refine zal (zbI k (by omega) (by omega)) (by simp) ?_
    simp [hkC]
    refine zj9 (i:=176) (j:=16) (by decide) rfl rfl (e1':=outV N 1 (Fa i).length) (e2':=⟨3,zaU (Fa i),0⟩) (by simp) (by simp [fcd]) (zn4 N 0 (2 + 2 * (k : Int)) C[k] (Fa i) _ rfl (by omega)) (by simp) (by simp) ?_
    simp [fcd]
    exact ⟨rfl,Le.go [(32,32),(176,176),(400,16)] [] rfl rfl (by simp [hFn]) (by simp [hFn,fcd])⟩
   ·simp at h8
    rw [if_neg (by omega)] at hFn
    refine zae ?_
    exact ⟨(),trivial,Le.go [(32,32),(176,176),(16,16)] [] rfl rfl (by simp [hFn]) (by simp [hFn,fcd])⟩
  refine zac (s:=?sa9) rfl ?oa9 ?qa9
  case oa9=>simp; rfl
  exact ⟨i + 1,by omega,by omega,Le.go [(32,32),(176,176),(16,16)] [] rfl rfl (by simp [hw]) (by simp [fcd])⟩
 simp at h7
 obtain rfl : i = p.seeds.length:=by omega
 rw [FaN]
 refine zan ?_
 refine hit ?_
 refine zaa ?_
 refine rk (s:=?sb1) [2,3,4,6,9,10,11,63,64,65] [32,176,16] rfl ?ob1 ?qb1
 case ob1=>simp; rfl
 refine zaf ?_
 obtain ⟨Fb,Fb0,Fbs,Fbl,FbN⟩ : ∃ F : Nat → List Ed,F 0 = X1 ∧ (∀ i (h : i < (List.range C.length).length),F (i + 1) = F i ++ arc2 C (List.range C.length)[i]) ∧ (∀ i,(F i).length ≤ 200) ∧ F (List.range C.length).length = X1 ++ (List.range C.length).flatMap (arc2 C) :=
  ⟨fun i=>X1 ++ ((List.range C.length).take i).flatMap (arc2 C),by simp,fun i h=>by simp only [zc6 _ _ i h,List.append_assoc],fun i=>by have:=zbl _ (zgp C) (List.range C.length) i; rw [List.length_range] at this; rw [List.length_append]; omega,by simp⟩
 rw [List.length_range,← hX2,← hZ2] at FbN
 refine zao (ι:=Nat) (fun i=>⟨123,[(2,ints sinks),(3,.pv (gC g)),(4,.pv (pC p)),(6,.pt 32 0 0),(9,.pt 176 0 0),(10,.fn (.func zaF) [] [.pt 176 0 0]),(11,ints C),(63,ints C),(64,.I C.length),(65,.I i)],[(32,some ⟨2,[[.I 0,.nilS]],0⟩),(176,some (outV N 16 (Fb i).length)),(16,some ⟨3,zaU (Fb i),0⟩)],304⟩) (fun i=>i ≤ C.length) (fun i=>C.length - i) 0 (Nat.zero_le _) (Le.go [(32,32),(176,176),(16,16)] [] rfl rfl (by simp [Fb0]) (by simp [Fb0,fcd])) ?_
 intro i hi
 refine rk (s:=?sb2) [2,3,4,6,9,10,11,63,64,65,66] [32,176,16] rfl ?ob2 ?qb2
 case ob2=>simp; rfl
 refine zaa ?_
 refine zad _ rfl (fun h7=>?_) fun h7=>?_
 ·simp at h7
  have hw : IntKind.i64.wrap ((i : Int) + 1) = (i : Int) + 1:=w64 (by omega) (by omega)
  have hFi:=Fbl i
  have hkC:=h7
  have hFn : Fb (i + 1) = Fb i ++ if 0 < C[i] then [⟨2 + 2 * (i : Int),3 + 2 * (i : Int),C[i] - 1⟩] else []:=by
   rw [Fbs i (by simpa using h7)]
   unfold arc2
   simp [hkC]
  have hci:=hcb _ (List.getElem_mem h7)
  have hwc : IntKind.i64.wrap (C[i] - 1) = C[i] - 1:=w64 (by omega) (by omega)
  refine zae ?_
  refine zaI (ι:=Unit) (fun _=>⟨123,[(2,ints sinks),(3,.pv (gC g)),(4,.pv (pC p)),(6,.pt 32 0 0),(9,.pt 176 0 0),(10,.fn (.func zaF) [] [.pt 176 0 0]),(11,ints C),(63,ints C),(64,.I C.length),(65,.I i)],[(32,some ⟨2,[[.I 0,.nilS]],0⟩),(176,some (outV N 16 (Fb (i + 1)).length)),(16,some ⟨3,zaU (Fb (i + 1)),0⟩)],700⟩) (fun _=>True) ?_ fun _ _=>?_
  ·refine zaf ?_
   refine rk (s:=?sb3) [2,3,4,6,9,10,11,14,15,63,64,65] [32,176,16] rfl ?ob3 ?qb3
   case ob3=>simp [h7]; rfl
   refine rk (s:=?sb4) [2,3,4,6,9,10,11,14,15,63,64,65,71] [32,176,16] rfl ?ob4 ?qb4
   case ob4=>simp [hkC]; rfl
   refine zad _ rfl (fun h8=>?_) fun h8=>?_
   ·simp at h8
    rw [if_pos h8] at hFn
    refine zav rfl ?_
    simp [hkC]
    refine zal (zbI i (by omega) (by omega)) (by simp) ?_
    simp [hkC,hwc]
    refine zal (zgt i (by omega) (by omega)) (by simp) ?_
    simp [hkC,hwc]
    refine zj9 (i:=176) (j:=16) (by decide) rfl rfl (e1':=outV N 1 (Fb i).length) (e2':=⟨3,zaU (Fb i),0⟩) (by simp) (by simp [fcd]) (zn4 N (2 + 2 * (i : Int)) (3 + 2 * (i : Int)) (C[i] - 1) (Fb i) _ rfl (by omega)) (by simp) (by simp) ?_
    simp [fcd]
    exact Le.go [(32,32),(176,176),(424,16)] [] rfl rfl (by simp [hFn]) (by simp [hFn,fcd])
   ·simp at h8
    rw [if_neg (by omega)] at hFn
    refine zae ?_
    exact ⟨(),trivial,Le.go [(32,32),(176,176),(16,16)] [] rfl rfl (by simp [hFn]) (by simp [hFn,fcd])⟩
  refine zac (s:=?sb9) rfl ?ob9 ?qb9
  case ob9=>simp; rfl
  exact ⟨i + 1,by omega,by omega,Le.go [(32,32),(176,176),(16,16)] [] rfl rfl (by simp [hw]) (by simp [fcd])⟩
 simp at h7
 obtain rfl : i = C.length:=by omega
 rw [FbN]
 refine zan ?_
 refine hit ?_
 refine zaa ?_
 refine rk (s:=?sc1) [3,4,6,9,10,11,81,82,83] [32,176,16] rfl ?oc1 ?qc1
 case oc1=>simp; rfl
 refine zaf ?_
 obtain ⟨Fc,Fc0,Fcs,Fcl,FcN⟩ : ∃ F : Nat → List Ed,F 0 = Z2 ∧ (∀ i (h : i < (sinks).length),F (i + 1) = F i ++ arc3 C (sinks)[i]) ∧ (∀ i,(F i).length ≤ 300) ∧ F (sinks).length = Z2 ++ (sinks).flatMap (arc3 C) :=
  ⟨fun i=>Z2 ++ ((sinks).take i).flatMap (arc3 C),by simp,fun i h=>by simp only [zc6 _ _ i h,List.append_assoc],fun i=>by have:=zbl _ (zg1 C) (sinks) i; simp only [List.length_append]; omega,by simp⟩
 rw [← hX3,← hZ3] at FcN
 refine zao (ι:=Nat) (fun i=>⟨123,[(3,.pv (gC g)),(4,.pv (pC p)),(6,.pt 32 0 0),(9,.pt 176 0 0),(10,.fn (.func zaF) [] [.pt 176 0 0]),(11,ints C),(81,ints sinks),(82,.I sinks.length),(83,.I i)],[(32,some ⟨2,[[.I 0,.nilS]],0⟩),(176,some (outV N 16 (Fc i).length)),(16,some ⟨3,zaU (Fc i),0⟩)],336⟩) (fun i=>i ≤ sinks.length) (fun i=>sinks.length - i) 0 (Nat.zero_le _) (Le.go [(32,32),(176,176),(16,16)] [] rfl rfl (by simp [Fc0]) (by simp [Fc0,fcd])) ?_
 intro i hi
 refine rk (s:=?sc2) [3,4,6,9,10,11,81,82,83,84] [32,176,16] rfl ?oc2 ?qc2
 case oc2=>simp; rfl
 refine zaa ?_
 refine zad _ rfl (fun h7=>?_) fun h7=>?_
 ·simp at h7
  have hw : IntKind.i64.wrap ((i : Int) + 1) = (i : Int) + 1:=w64 (by omega) (by omega)
  have hFi:=Fcl i
  obtain ⟨k,hk,hkC,hk64⟩:=hsink _ (List.getElem_mem h7)
  have hFn : Fc (i + 1) = Fc i ++ if 0 < C[k] then [⟨2 + 2 * (k : Int),1,1⟩] else []:=by
   rw [Fcs i h7,hk]
   unfold arc3
   simp [hkC]
  refine zae ?_
  refine zaI (ι:=Unit) (fun _=>⟨123,[(3,.pv (gC g)),(4,.pv (pC p)),(6,.pt 32 0 0),(9,.pt 176 0 0),(10,.fn (.func zaF) [] [.pt 176 0 0]),(11,ints C),(81,ints sinks),(82,.I sinks.length),(83,.I i)],[(32,some ⟨2,[[.I 0,.nilS]],0⟩),(176,some (outV N 16 (Fc (i + 1)).length)),(16,some ⟨3,zaU (Fc (i + 1)),0⟩)],700⟩) (fun _=>True) ?_ fun _ _=>?_
  ·refine zaf ?_
   refine rk (s:=?sc3) [3,4,6,9,10,11,17,81,82,83] [32,176,16] rfl ?oc3 ?qc3
   case oc3=>simp [h7,hk]; rfl
   refine rk (s:=?sc4) [3,4,6,9,10,11,17,81,82,83,91] [32,176,16] rfl ?oc4 ?qc4
   case oc4=>simp [hkC]; rfl
   refine zad _ rfl (fun h8=>?_) fun h8=>?_
   ·simp at h8
    rw [if_pos h8] at hFn
    refine zav rfl ?_
    simp [hkC]
    refine zal (zbI k (by omega) (by omega)) (by simp) ?_
    simp [hkC]
    refine zj9 (i:=176) (j:=16) (by decide) rfl rfl (e1':=outV N 1 (Fc i).length) (e2':=⟨3,zaU (Fc i),0⟩) (by simp) (by simp [fcd]) (zn4 N (2 + 2 * (k : Int)) 1 1 (Fc i) _ rfl (by omega)) (by simp) (by simp) ?_
    simp [fcd]
    exact Le.go [(32,32),(176,176),(432,16)] [] rfl rfl (by simp [hFn]) (by simp [hFn,fcd])
   ·simp at h8
    rw [if_neg (by omega)] at hFn
    refine zae ?_
    exact ⟨(),trivial,Le.go [(32,32),(176,176),(16,16)] [] rfl rfl (by simp [hFn]) (by simp [hFn,fcd])⟩
  refine zac (s:=?sc9) rfl ?oc9 ?qc9
  case oc9=>simp; rfl
  exact ⟨i + 1,by omega,by omega,Le.go [(32,32),(176,176),(16,16)] [] rfl rfl (by simp [hw]) (by simp [fcd])⟩
 simp at h7
 obtain rfl : i = sinks.length:=by omega
 rw [FcN]
 refine zan ?_
 refine hit ?_
 refine zaa ?_
 refine rk (s:=?sd1) [6,9,10,11,101,102,103] [32,176,16] rfl ?od1 ?qd1
 case od1=>simp; refine zal hlev (by simp) ?_; simp; rfl
 refine zaf ?_
 obtain ⟨Fd,Fd0,Fds,Fdl,FdN⟩ : ∃ F : Nat → List Ed,F 0 = Z3 ∧ (∀ i (h : i < (G.edges).length),F (i + 1) = F i ++ arc4 C (G.edges)[i]) ∧ (∀ i,(F i).length ≤ 900) ∧ F (G.edges).length = Z3 ++ (G.edges).flatMap (arc4 C) :=
  ⟨fun i=>Z3 ++ ((G.edges).take i).flatMap (arc4 C),by simp,fun i h=>by simp only [zc6 _ _ i h,List.append_assoc],fun i=>by have:=zbl _ (zg4 C) (G.edges) i; simp only [List.length_append]; omega,by simp⟩
 rw [← hX4,← hZ4] at FdN
 refine zao (ι:=Nat) (fun i=>⟨123,[(6,.pt 32 0 0),(9,.pt 176 0 0),(10,.fn (.func zaF) [] [.pt 176 0 0]),(11,ints C),(101,eEs G.edges),(102,.I G.edges.length),(103,.I i)],[(32,some ⟨2,[[.I 0,.nilS]],0⟩),(176,some (outV N 16 (Fd i).length)),(16,some ⟨3,zaU (Fd i),0⟩)],400⟩) (fun i=>i ≤ G.edges.length) (fun i=>G.edges.length - i) 0 (Nat.zero_le _) (Le.go [(32,32),(176,176),(16,16)] [] rfl rfl (by simp [Fd0]) (by simp [Fd0,fcd])) ?_
 intro i hi
 refine rk (s:=?sd2) [6,9,10,11,101,102,103,104] [32,176,16] rfl ?od2 ?qd2
 case od2=>simp; rfl
 refine zaa ?_
 refine zad _ rfl (fun h7=>?_) fun h7=>?_
 ·simp at h7
  have hw : IntKind.i64.wrap ((i : Int) + 1) = (i : Int) + 1:=w64 (by omega) (by omega)
  have hFi:=Fdl i
  obtain ⟨x,hx⟩ : ∃ x,x = G.edges[i]:=⟨_,rfl⟩
  have hfx:=hfit _ (List.getElem_mem h7)
  rw [← hx] at hfx
  obtain ⟨k,hk,hkC,hk64⟩:=hkey x.f hfx.1.1 hfx.1.2
  obtain ⟨u,hu,huC,hu64⟩:=hkey x.t hfx.2.1 hfx.2.2
  have hFn : Fd (i + 1) = Fd i ++ if 0 < C[k] then [⟨3 + 2 * (k : Int),2 + 2 * (u : Int),64⟩] else []:=by
   rw [Fds i h7,← hx]
   unfold arc4
   rw [hk,hu]
   simp [hkC]
  refine zae ?_
  refine zaI (ι:=Unit) (fun _=>⟨123,[(6,.pt 32 0 0),(9,.pt 176 0 0),(10,.fn (.func zaF) [] [.pt 176 0 0]),(11,ints C),(101,eEs G.edges),(102,.I G.edges.length),(103,.I i)],[(32,some ⟨2,[[.I 0,.nilS]],0⟩),(176,some (outV N 16 (Fd (i + 1)).length)),(16,some ⟨3,zaU (Fd (i + 1)),0⟩)],700⟩) (fun _=>True) ?_ fun _ _=>?_
  ·refine zaf ?_
   refine zab ⟨123,[(6,.pt 32 0 0),(9,.pt 176 0 0),(10,.fn (.func zaF) [] [.pt 176 0 0]),(11,ints C),(19,.pv (eC x)),(101,eEs G.edges),(102,.I G.edges.length),(103,.I i)],[(32,some ⟨2,[[.I 0,.nilS]],0⟩),(176,some (outV N 16 (Fd i).length)),(16,some ⟨3,zaU (Fd i),0⟩)],440⟩ rfl ?_ ?_
   ·simp [h7,← hx]
    exact Le.go [(32,32),(176,176),(16,16)] [424] rfl rfl (by simp) (by simp [fcd])
   refine rk (s:=?sd4) [6,9,10,11,19,101,102,103,112] [32,176,16] rfl ?od4 ?qd4
   case od4=>simp [hk,hkC]; rfl
   refine zad _ rfl (fun h8=>?_) fun h8=>?_
   ·simp at h8
    rw [if_pos h8] at hFn
    refine zbS rfl ?_
    simp [hk,hu]
    refine zal (zgt k (by omega) (by omega)) (by simp) ?_
    simp [hkC]
    refine zal (zbI u (by omega) (by omega)) (by simp) ?_
    simp [hkC]
    refine zj9 (i:=176) (j:=16) (by decide) rfl rfl (e1':=outV N 1 (Fd i).length) (e2':=⟨3,zaU (Fd i),0⟩) (by simp) (by simp [fcd]) (zn4 N (3 + 2 * (k : Int)) (2 + 2 * (u : Int)) 64 (Fd i) _ rfl (by omega)) (by simp) (by simp) ?_
    simp [fcd]
    exact ⟨rfl,Le.go [(32,32),(176,176),(544,16)] [] rfl rfl (by simp [hFn]) (by simp [hFn,fcd])⟩
   ·simp at h8
    rw [if_neg (by omega)] at hFn
    refine zae ?_
    exact ⟨(),trivial,Le.go [(32,32),(176,176),(16,16)] [] rfl rfl (by simp [hFn]) (by simp [hFn,fcd])⟩
  refine zac (s:=?sd9) rfl ?od9 ?qd9
  case od9=>simp; rfl
  exact ⟨i + 1,by omega,by omega,Le.go [(32,32),(176,176),(16,16)] [] rfl rfl (by simp [hw]) (by simp [fcd])⟩
 simp at h7
 obtain rfl : i = G.edges.length:=by omega
 rw [FdN]
 refine zan ?_
 refine hit ?_
 refine rk (s:=?sz) [6,7] [32,16] rfl ?oz ?qz
 case oz=>simp; rfl
 refine zag ?_
 exact ⟨.inr rfl,zam.out [] [16] rfl (by simp) (by simp) (by simp [hN,fcd,zaq]) (by simp)⟩
set_option maxRecDepth 100000 in
set_option maxHeartbeats 4000000 in
theorem zeX (g : Gr) (p : Pol) (sinks : List Int) (hg : GrOk g) (hp : zaZ g.size p) (hr : Rise sinks 0 (g.size - 1)) (hs : p.seeds.length ≤ 64) (hsl : sinks.length ≤ 64) :
  zaj Tryz.prog zcY [eG g,eP p,ints sinks] [] (.tup [eN ⟨2 + 2 * g.size,zaT g p (zaD g p) sinks⟩,.I 0]) []:=by
 refine zjF.acalls (Nat.le_of_ble_eq_true rfl) (Nat.le_of_ble_eq_true rfl) (Nat.le_refl _) ?_
 show awp _ 0 _ _ ⟨158,[(0,eG g),(1,eP p),(2,ints sinks)],[],16⟩
 have hsz:=hg.1.1
 have hsz2:=hg.1.2.1
 have hel:=hg.edges_le
 have hgl:=hg.gone_le
 have hchk:=zjN g p (by omega) (by omega) (by omega) (by have:=hp.2.2.2.1; omega)
 rw [if_pos hg,if_pos hp] at hchk
 have hcb:=ziW (g:=g) hp
 have hcl : (zaD g p).length = g.size.toNat:=zbx
 have hlev:=zc3 g p.lv (by omega) (by omega)
 rw [zfx]
 have hGe : ∀ e ∈ (zai g p.lv).edges,e ∈ g.edges:=fun e he=>(List.mem_filter.1 he).1
 have hGl : (zai g p.lv).edges.length ≤ 500:=Nat.le_trans (List.length_filter_le ..) hel
 have hall:=zd1 (zai g p.lv) p.seeds (hg.level p.lv) (by omega)
 have hcap:=zmO (zai g p.lv) p (hg.level p.lv) (by omega)
 have hcc : zaD (zai g p.lv) p = zaD g p:=by unfold zaD; rw [zmE]
 rw [hcc] at hcap
 have hDC : ∀ k : Nat,k < g.size.toNat → ∀ (h1 : k < (zbe (zai g p.lv) p.seeds).length) (h2 : k < (zaD g p).length),0 ≤ (zbe (zai g p.lv) p.seeds)[k] ↔ 0 < (zaD g p)[k]:=fun k hk h1 h2=>by
  have:=zmU hp (d:=(zbe (zai g p.lv) p.seeds)[k])
  rw [← this]
  simp [zaD]
 have hDl : (zbe (zai g p.lv) p.seeds).length = g.size.toNat:=by simp [zbe,zai]
 have hGs : (zai g p.lv).size = g.size:=rfl
 rw [hGs] at hall hcap
 rw [← hcl] at hcap
 rw [← hDl] at hall
 obtain ⟨C,hC⟩ : ∃ C,C = zaD g p:=⟨_,rfl⟩
 obtain ⟨D,hD⟩ : ∃ D,D = zbe (zai g p.lv) p.seeds:=⟨_,rfl⟩
 rw [← hC] at hcap hcl hcb ⊢
 rw [← hD] at hall hDl
 simp only [← hC,← hD] at hDC
 have hDk : ∀ k : Nat,k < C.length → k < D.length:=fun k hk=>by omega
 have hDC' : ∀ (k : Nat) (h2 : k < C.length),0 ≤ D[k]'(hDk k h2) ↔ 0 < C[k]:=fun k h2=>hDC k (by omega) (hDk k h2) h2
 obtain ⟨G,hG⟩ : ∃ G,G = zai g p.lv:=⟨_,rfl⟩
 rw [← hG] at hlev hGe hGl hall hcap hGs ⊢
 have hfit : ∀ e ∈ G.edges,(0 ≤ e.f ∧ e.f < g.size) ∧ (0 ≤ e.t ∧ e.t < g.size):=fun e he=>by
  have:=hg.fits e (hGe e he)
  unfold Fits at this
  omega
 have hkey : ∀ k : Int,0 ≤ k → k < g.size → ∃ j : Nat,k = j ∧ j < C.length ∧ j < 64:=fun k h0 h1=>⟨k.toNat,by omega,by omega,by omega⟩
 have hseed : ∀ k ∈ p.seeds,∃ j : Nat,k = j ∧ j < C.length ∧ j < 64:=fun k hk=>by
  obtain ⟨i,hi,rfl⟩:=List.getElem_of_mem hk
  have:=hp.2.1 i hi
  exact hkey _ (by omega) (by omega)
 have hsink : ∀ k ∈ sinks,∃ j : Nat,k = j ∧ j < C.length ∧ j < 64:=fun k hk=>by
  obtain ⟨i,hi,rfl⟩:=List.getElem_of_mem hk
  have:=hr i hi
  exact hkey _ (by omega) (by omega)
 have hw3 : IntKind.i64.wrap (2 * g.size) = 2 * g.size:=w64 (by omega) (by omega)
 have hw4 : IntKind.i64.wrap (2 + 2 * g.size) = 2 + 2 * g.size:=w64 (by omega) (by omega)
 refine zab ⟨158,[(2,ints sinks),(3,.pt 16 0 0),(4,.pv (pC p)),(6,.pt 32 0 0)],[(16,some ⟨3,[gC g],0⟩),(32,some ⟨2,[[.I 0,.nilS]],0⟩)],48⟩ rfl ?_ ?_
 ·simp
  exact Le.go [(16,16),(32,32)] [24] rfl rfl (by simp) (by simp)
 refine zaa ?_
 refine rk (s:=?s2) [2,3,4,6,8] [16,32] rfl ?o2 ?q2
 case o2=>simp; refine zal hchk (by simp) ?_; simp; rfl
 refine rk (s:=?s3) [2,3,4,6,22] [16,32] rfl ?o3 ?q3
 case o3=>simp; rfl
 refine zad _ rfl (fun h4=>?_) fun h4=>zae ?_
 ·simp at h4
 refine zaa ?_
 refine rk (s:=?s5) [2,3,4,6,29] [16,32] rfl ?o5 ?q5
 case o5=>simp; refine zal (zdU sinks g.size (by omega)) (by simp) ?_; simp [hr]; rfl
 refine zad _ rfl (fun h6=>?_) fun h6=>zae ?_
 ·simp at h6
 refine zab ⟨158,[(2,ints sinks),(3,.pv (gC G)),(4,.pv (pC p)),(6,.pt 32 0 0)],[(32,some ⟨2,[[.I 0,.nilS]],0⟩)],176⟩ rfl ?_ ?_
 ·simp
  refine zal hlev (by simp) ?_
  simp
  exact Le.go [(32,32)] [16] rfl rfl (by simp) (by simp)
 refine zaw ⟨158,[(2,ints sinks),(3,.pv (gC G)),(4,.pv (pC p)),(6,.pt 32 0 0),(9,ints D),(10,ints C)],[(32,some ⟨2,[[.I 0,.nilS]],0⟩)],248⟩ rfl ?_ ?_
 ·simp
  refine za1 hall (by simp) ?_
  simp [fcd]
  refine za1 hcap (by simp) ?_
  simp [fcd]
  exact ⟨rfl,Le.go [(32,32)] [200,224] rfl rfl (by simp [fcd,zaq]) (by simp)⟩
 refine rk (s:=?s7) [2,3,4,6,9,10,11] [32,288] rfl ?o7 ?q7
 case o7=>simp [hGs,hw3,hw4]; rfl
 obtain ⟨N,hN⟩ : ∃ N : Int,N = 2 + 2 * g.size:=⟨_,rfl⟩
 simp only [← hN]
 have hb1 : (p.seeds.flatMap (arc1 C)).length ≤ 64:=Nat.le_trans (zbW _ (zgw C) _) hs
 have hb2 : ((List.range C.length).flatMap (arc2 C)).length ≤ 64:=Nat.le_trans (zbW _ (zgp C) _) (by rw [List.length_range]; omega)
 have hb3 : (sinks.flatMap (arc3 C)).length ≤ 64:=Nat.le_trans (zbW _ (zg1 C) _) hsl
 have hb4 : (G.edges.flatMap (arc4 C)).length ≤ 500:=Nat.le_trans (zbW _ (zg4 C) _) hGl
 obtain ⟨X1,hX1⟩ : ∃ X,X = p.seeds.flatMap (arc1 C):=⟨_,rfl⟩
 obtain ⟨X2,hX2⟩ : ∃ X,X = (List.range C.length).flatMap (arc2 C):=⟨_,rfl⟩
 obtain ⟨X3,hX3⟩ : ∃ X,X = sinks.flatMap (arc3 C):=⟨_,rfl⟩
 obtain ⟨X4,hX4⟩ : ∃ X,X = G.edges.flatMap (arc4 C):=⟨_,rfl⟩
 obtain ⟨Z2,hZ2⟩ : ∃ Z,Z = X1 ++ X2:=⟨_,rfl⟩
 obtain ⟨Z3,hZ3⟩ : ∃ Z,Z = Z2 ++ X3:=⟨_,rfl⟩
 obtain ⟨Z4,hZ4⟩ : ∃ Z,Z = Z3 ++ X4:=⟨_,rfl⟩
 rw [← hX1] at hb1
 rw [← hX2] at hb2
 rw [← hX3] at hb3
 rw [← hX4] at hb4
 rw [← hX1,← hX2,← hX3,← hX4,← hZ2,← hZ3,← hZ4]
 have hz2 : Z2.length ≤ 128:=by rw [hZ2,List.length_append]; omega
 have hz3 : Z3.length ≤ 192:=by rw [hZ3,List.length_append]; omega
 refine zaa ?_
 refine rk (s:=?sa1) [2,3,4,6,9,10,11,12] [32,288] rfl ?oa1 ?qa1
 case oa1=>simp; rfl
 refine zaf ?_
 obtain ⟨Fa,Fa0,Fas,Fal,FaN⟩ : ∃ F : Nat → List Ed,F 0 = [] ∧ (∀ i (h : i < (p.seeds).length),F (i + 1) = F i ++ arc1 C (p.seeds)[i]) ∧ (∀ i,(F i).length ≤ 64) ∧ F (p.seeds).length = (p.seeds).flatMap (arc1 C) :=
  ⟨fun i=>((p.seeds).take i).flatMap (arc1 C),by simp,fun i h=>by simp only [zc6 _ _ i h,List.append_assoc],fun i=>by have:=zbl _ (zgw C) (p.seeds) i; exact Nat.le_trans this hs,by simp⟩
 rw [← hX1] at FaN
 refine zao (ι:=Nat) (fun i=>⟨158,[(2,ints sinks),(3,.pv (gC G)),(4,.pv (pC p)),(6,.pt 32 0 0),(9,ints D),(10,ints C),(11,.pt 288 0 0),(12,.I i)],[(32,some ⟨2,[[.I 0,.nilS]],0⟩),(288,some (outV N 16 (Fa i).length)),(16,some ⟨3,zaU (Fa i),0⟩)],312⟩) (fun i=>i ≤ p.seeds.length) (fun i=>p.seeds.length - i) 0 (Nat.zero_le _) (Le.lst [(32,32),(288,288)] [] [(16,3)] rfl (by simp) (by simp) (by simp) (by simp) (by simp) (by simp) (by simp) (by simp [Up]) (by simp [Fa0]; refine ⟨zaG.rfl' (by simp),zaG.row rfl (by omega) (by simp [UpL,Up])⟩)) ?_
 intro i hi
 refine zaa ?_
 refine rk (s:=?sa2) [2,3,4,6,9,10,11,12,51] [32,288,16] rfl ?oa2 ?qa2
 case oa2=>simp; rfl
 refine zad _ rfl (fun h7=>?_) fun h7=>?_
 ·simp at h7
  have hw : IntKind.i64.wrap ((i : Int) + 1) = (i : Int) + 1:=w64 (by omega) (by omega)
  have hFi:=Fal i
  obtain ⟨k,hk,hkC,hk64⟩:=hseed _ (List.getElem_mem h7)
  have hFn : Fa (i + 1) = Fa i ++ if 0 < C[k] then [⟨0,2 + 2 * (k : Int),C[k]⟩] else []:=by
   rw [Fas i h7,hk]
   unfold arc1
   simp [hkC]
  have hkD:=hDk _ hkC
  have hdc:=hDC' _ hkC
  refine zae ?_
  refine zaI (ι:=Unit) (fun _=>⟨158,[(2,ints sinks),(3,.pv (gC G)),(4,.pv (pC p)),(6,.pt 32 0 0),(9,ints D),(10,ints C),(11,.pt 288 0 0),(12,.I i)],[(32,some ⟨2,[[.I 0,.nilS]],0⟩),(288,some (outV N 16 (Fa (i + 1)).length)),(16,some ⟨3,zaU (Fa (i + 1)),0⟩)],800⟩) (fun _=>True) ?_ fun _ _=>?_
  ·refine zaf ?_
   refine rk (s:=?sa3) [2,3,4,6,9,10,11,12,13] [32,288,16] rfl ?oa3 ?qa3
   case oa3=>simp [h7,hk]; rfl
   refine rk (s:=?sa4) [2,3,4,6,9,10,11,12,13,63] [32,288,16] rfl ?oa4 ?qa4
   case oa4=>simp [hkD]; rfl
   refine zad _ rfl (fun h8=>?_) fun h8=>?_
   ·simp at h8
    rw [if_pos (hdc.1 h8)] at hFn
    have htl : ∀ f : Ed → List AV,List.take (Fa i).length (List.map f (Fa i)) = List.map f (Fa i):=fun f=>List.take_of_length_le (by simp)
    refine zbS rfl ?_
    simp [hkC]
    refine zal (zcV k (by omega) (by omega)) (by simp) ?_
    simp [htl,hkC]
    refine ⟨by omega,by omega,?_⟩
    exact ⟨rfl,Le.go [(32,32),(288,288),(520,16)] [] rfl rfl (by simp [hFn]) (by simp [hFn,fcd])⟩
   ·simp at h8
    rw [if_neg (by omega)] at hFn
    refine zae ?_
    exact ⟨(),trivial,Le.go [(32,32),(288,288),(16,16)] [] rfl rfl (by simp [hFn]) (by simp [hFn,fcd])⟩
  refine zac (s:=?sa9) rfl ?oa9 ?qa9
  case oa9=>simp; rfl
  exact ⟨i + 1,by omega,by omega,Le.go [(32,32),(288,288),(16,16)] [] rfl rfl (by simp [hw]) (by simp [fcd])⟩
 simp at h7
 obtain rfl : i = p.seeds.length:=by omega
 rw [FaN]
 refine zan ?_
 refine hit ?_
 refine zaa ?_
 refine rk (s:=?sb1) [2,3,6,9,10,11,14] [32,288,16] rfl ?ob1 ?qb1
 case ob1=>simp; rfl
 refine zaf ?_
 obtain ⟨Fb,Fb0,Fbs,Fbl,FbN⟩ : ∃ F : Nat → List Ed,F 0 = X1 ∧ (∀ i (h : i < (List.range C.length).length),F (i + 1) = F i ++ arc2 C (List.range C.length)[i]) ∧ (∀ i,(F i).length ≤ 200) ∧ F (List.range C.length).length = X1 ++ (List.range C.length).flatMap (arc2 C) :=
  ⟨fun i=>X1 ++ ((List.range C.length).take i).flatMap (arc2 C),by simp,fun i h=>by simp only [zc6 _ _ i h,List.append_assoc],fun i=>by have:=zbl _ (zgp C) (List.range C.length) i; rw [List.length_range] at this; rw [List.length_append]; omega,by simp⟩
 rw [List.length_range,← hX2,← hZ2] at FbN
 refine zao (ι:=Nat) (fun i=>⟨158,[(2,ints sinks),(3,.pv (gC G)),(6,.pt 32 0 0),(9,ints D),(10,ints C),(11,.pt 288 0 0),(14,.I i)],[(32,some ⟨2,[[.I 0,.nilS]],0⟩),(288,some (outV N 16 (Fb i).length)),(16,some ⟨3,zaU (Fb i),0⟩)],360⟩) (fun i=>i ≤ C.length) (fun i=>C.length - i) 0 (Nat.zero_le _) (Le.go [(32,32),(288,288),(16,16)] [] rfl rfl (by simp [Fb0]) (by simp [Fb0,fcd])) ?_
 intro i hi
 refine zaa ?_
 refine rk (s:=?sb2) [2,3,6,9,10,11,14,79] [32,288,16] rfl ?ob2 ?qb2
 case ob2=>simp; rfl
 refine zad _ rfl (fun h7=>?_) fun h7=>?_
 ·simp [hGs] at h7
  have hw : IntKind.i64.wrap ((i : Int) + 1) = (i : Int) + 1:=w64 (by omega) (by omega)
  have hFi:=Fbl i
  have hkC : i < C.length:=by omega
  have hFn : Fb (i + 1) = Fb i ++ if 0 < C[i] then [⟨2 + 2 * (i : Int),3 + 2 * (i : Int),C[i] - 1⟩] else []:=by
   rw [Fbs i (by simpa using hkC)]
   unfold arc2
   simp [hkC]
  have hci:=hcb _ (List.getElem_mem hkC)
  have hwc : IntKind.i64.wrap (C[i] - 1) = C[i] - 1:=w64 (by omega) (by omega)
  have hkD:=hDk _ hkC
  have hdc:=hDC' _ hkC
  refine zae ?_
  refine zaI (ι:=Unit) (fun _=>⟨158,[(2,ints sinks),(3,.pv (gC G)),(6,.pt 32 0 0),(9,ints D),(10,ints C),(11,.pt 288 0 0),(14,.I i)],[(32,some ⟨2,[[.I 0,.nilS]],0⟩),(288,some (outV N 16 (Fb (i + 1)).length)),(16,some ⟨3,zaU (Fb (i + 1)),0⟩)],800⟩) (fun _=>True) ?_ fun _ _=>?_
  ·refine zaf ?_
   refine rk (s:=?sb3) [2,3,6,9,10,11,14,86] [32,288,16] rfl ?ob3 ?qb3
   case ob3=>simp [hkD]; rfl
   refine zad _ rfl (fun h8=>?_) fun h8=>?_
   ·simp at h8
    rw [if_pos (hdc.1 h8)] at hFn
    have htl : ∀ f : Ed → List AV,List.take (Fb i).length (List.map f (Fb i)) = List.map f (Fb i):=fun f=>List.take_of_length_le (by simp)
    refine zbS rfl ?_
    simp [hkC,hwc]
    refine zal (zcV i (by omega) (by omega)) (by simp) ?_
    simp [htl,hkC,hwc]
    refine zal (zg3 i (by omega) (by omega)) (by simp) ?_
    simp [htl,hkC,hwc]
    refine ⟨by omega,by omega,?_⟩
    exact ⟨rfl,Le.go [(32,32),(288,288),(536,16)] [] rfl rfl (by simp [hFn]) (by simp [hFn,fcd])⟩
   ·simp at h8
    rw [if_neg (by omega)] at hFn
    refine zae ?_
    exact ⟨(),trivial,Le.go [(32,32),(288,288),(16,16)] [] rfl rfl (by simp [hFn]) (by simp [hFn,fcd])⟩
  refine zac (s:=?sb9) rfl ?ob9 ?qb9
  case ob9=>simp; rfl
  exact ⟨i + 1,by omega,by omega,Le.go [(32,32),(288,288),(16,16)] [] rfl rfl (by simp [hw]) (by simp [fcd])⟩
 simp [hGs] at h7
 obtain rfl : i = C.length:=by omega
 rw [FbN]
 refine zan ?_
 refine hit ?_
 refine zaa ?_
 refine rk (s:=?sc1) [2,3,6,9,11,15] [32,288,16] rfl ?oc1 ?qc1
 case oc1=>simp; rfl
 refine zaf ?_
 obtain ⟨Fc,Fc0,Fcs,Fcl,FcN⟩ : ∃ F : Nat → List Ed,F 0 = Z2 ∧ (∀ i (h : i < (sinks).length),F (i + 1) = F i ++ arc3 C (sinks)[i]) ∧ (∀ i,(F i).length ≤ 300) ∧ F (sinks).length = Z2 ++ (sinks).flatMap (arc3 C) :=
  ⟨fun i=>Z2 ++ ((sinks).take i).flatMap (arc3 C),by simp,fun i h=>by simp only [zc6 _ _ i h,List.append_assoc],fun i=>by have:=zbl _ (zg1 C) (sinks) i; simp only [List.length_append]; omega,by simp⟩
 rw [← hX3,← hZ3] at FcN
 refine zao (ι:=Nat) (fun i=>⟨158,[(2,ints sinks),(3,.pv (gC G)),(6,.pt 32 0 0),(9,ints D),(11,.pt 288 0 0),(15,.I i)],[(32,some ⟨2,[[.I 0,.nilS]],0⟩),(288,some (outV N 16 (Fc i).length)),(16,some ⟨3,zaU (Fc i),0⟩)],400⟩) (fun i=>i ≤ sinks.length) (fun i=>sinks.length - i) 0 (Nat.zero_le _) (Le.go [(32,32),(288,288),(16,16)] [] rfl rfl (by simp [Fc0]) (by simp [Fc0,fcd])) ?_
 intro i hi
 refine zaa ?_
 refine rk (s:=?sc2) [2,3,6,9,11,15,105] [32,288,16] rfl ?oc2 ?qc2
 case oc2=>simp; rfl
 refine zad _ rfl (fun h7=>?_) fun h7=>?_
 ·simp at h7
  have hw : IntKind.i64.wrap ((i : Int) + 1) = (i : Int) + 1:=w64 (by omega) (by omega)
  have hFi:=Fcl i
  obtain ⟨k,hk,hkC,hk64⟩:=hsink _ (List.getElem_mem h7)
  have hFn : Fc (i + 1) = Fc i ++ if 0 < C[k] then [⟨2 + 2 * (k : Int),1,1⟩] else []:=by
   rw [Fcs i h7,hk]
   unfold arc3
   simp [hkC]
  have hkD:=hDk _ hkC
  have hdc:=hDC' _ hkC
  refine zae ?_
  refine zaI (ι:=Unit) (fun _=>⟨158,[(2,ints sinks),(3,.pv (gC G)),(6,.pt 32 0 0),(9,ints D),(11,.pt 288 0 0),(15,.I i)],[(32,some ⟨2,[[.I 0,.nilS]],0⟩),(288,some (outV N 16 (Fc (i + 1)).length)),(16,some ⟨3,zaU (Fc (i + 1)),0⟩)],800⟩) (fun _=>True) ?_ fun _ _=>?_
  ·refine zaf ?_
   refine rk (s:=?sc3) [2,3,6,9,11,15,115] [32,288,16] rfl ?oc3 ?qc3
   case oc3=>simp [h7,hk,hkD]; rfl
   refine zad _ rfl (fun h8=>?_) fun h8=>?_
   ·simp at h8
    rw [if_pos (hdc.1 h8)] at hFn
    have htl : ∀ f : Ed → List AV,List.take (Fc i).length (List.map f (Fc i)) = List.map f (Fc i):=fun f=>List.take_of_length_le (by simp)
    refine zbS rfl ?_
    simp [h7,hk]
    refine zal (zcV k (by omega) (by omega)) (by simp) ?_
    simp [htl,h7,hk]
    refine ⟨by omega,by omega,?_⟩
    exact ⟨rfl,Le.go [(32,32),(288,288),(568,16)] [] rfl rfl (by simp [hFn]) (by simp [hFn,fcd])⟩
   ·simp at h8
    rw [if_neg (by omega)] at hFn
    refine zae ?_
    exact ⟨(),trivial,Le.go [(32,32),(288,288),(16,16)] [] rfl rfl (by simp [hFn]) (by simp [hFn,fcd])⟩
  refine zac (s:=?sc9) rfl ?oc9 ?qc9
  case oc9=>simp; rfl
  exact ⟨i + 1,by omega,by omega,Le.go [(32,32),(288,288),(16,16)] [] rfl rfl (by simp [hw]) (by simp [fcd])⟩
 simp at h7
 obtain rfl : i = sinks.length:=by omega
 rw [FcN]
 refine zan ?_
 refine hit ?_
 refine zaa ?_
 refine rk (s:=?sd1) [3,6,9,11,16] [32,288,16] rfl ?od1 ?qd1
 case od1=>simp; rfl
 refine zaf ?_
 obtain ⟨Fd,Fd0,Fds,Fdl,FdN⟩ : ∃ F : Nat → List Ed,F 0 = Z3 ∧ (∀ i (h : i < (G.edges).length),F (i + 1) = F i ++ arc4 C (G.edges)[i]) ∧ (∀ i,(F i).length ≤ 900) ∧ F (G.edges).length = Z3 ++ (G.edges).flatMap (arc4 C) :=
  ⟨fun i=>Z3 ++ ((G.edges).take i).flatMap (arc4 C),by simp,fun i h=>by simp only [zc6 _ _ i h,List.append_assoc],fun i=>by have:=zbl _ (zg4 C) (G.edges) i; simp only [List.length_append]; omega,by simp⟩
 rw [← hX4,← hZ4] at FdN
 refine zao (ι:=Nat) (fun i=>⟨158,[(3,.pv (gC G)),(6,.pt 32 0 0),(9,ints D),(11,.pt 288 0 0),(16,.I i)],[(32,some ⟨2,[[.I 0,.nilS]],0⟩),(288,some (outV N 16 (Fd i).length)),(16,some ⟨3,zaU (Fd i),0⟩)],440⟩) (fun i=>i ≤ G.edges.length) (fun i=>G.edges.length - i) 0 (Nat.zero_le _) (Le.go [(32,32),(288,288),(16,16)] [] rfl rfl (by simp [Fd0]) (by simp [Fd0,fcd])) ?_
 intro i hi
 refine zaa ?_
 refine rk (s:=?sd2) [3,6,9,11,16,131] [32,288,16] rfl ?od2 ?qd2
 case od2=>simp; rfl
 refine zad _ rfl (fun h7=>?_) fun h7=>?_
 ·simp at h7
  have hw : IntKind.i64.wrap ((i : Int) + 1) = (i : Int) + 1:=w64 (by omega) (by omega)
  have hFi:=Fdl i
  obtain ⟨x,hx⟩ : ∃ x,x = G.edges[i]:=⟨_,rfl⟩
  have hfx:=hfit _ (List.getElem_mem h7)
  rw [← hx] at hfx
  obtain ⟨k,hk,hkC,hk64⟩:=hkey x.f hfx.1.1 hfx.1.2
  obtain ⟨u,hu,huC,hu64⟩:=hkey x.t hfx.2.1 hfx.2.2
  have hFn : Fd (i + 1) = Fd i ++ if 0 < C[k] then [⟨3 + 2 * (k : Int),2 + 2 * (u : Int),64⟩] else []:=by
   rw [Fds i h7,← hx]
   unfold arc4
   rw [hk,hu]
   simp [hkC]
  have hkD:=hDk _ hkC
  have hdc:=hDC' _ hkC
  refine zae ?_
  refine zaI (ι:=Unit) (fun _=>⟨158,[(3,.pv (gC G)),(6,.pt 32 0 0),(9,ints D),(11,.pt 288 0 0),(16,.I i)],[(32,some ⟨2,[[.I 0,.nilS]],0⟩),(288,some (outV N 16 (Fd (i + 1)).length)),(16,some ⟨3,zaU (Fd (i + 1)),0⟩)],800⟩) (fun _=>True) ?_ fun _ _=>?_
  ·refine zaf ?_
   refine zab ⟨158,[(3,.pv (gC G)),(6,.pt 32 0 0),(9,ints D),(11,.pt 288 0 0),(16,.I i),(17,.pv (eC x))],[(32,some ⟨2,[[.I 0,.nilS]],0⟩),(288,some (outV N 16 (Fd i).length)),(16,some ⟨3,zaU (Fd i),0⟩)],536⟩ rfl ?_ ?_
   ·simp [h7,← hx]
    exact Le.go [(32,32),(288,288),(16,16)] [520] rfl rfl (by simp) (by simp [fcd])
   refine rk (s:=?sd4) [3,6,9,11,16,17,144] [32,288,16] rfl ?od4 ?qd4
   case od4=>simp [hk,hkD]; rfl
   refine zad _ rfl (fun h8=>?_) fun h8=>?_
   ·simp at h8
    rw [if_pos (hdc.1 h8)] at hFn
    have htl : ∀ f : Ed → List AV,List.take (Fd i).length (List.map f (Fd i)) = List.map f (Fd i):=fun f=>List.take_of_length_le (by simp)
    refine zbS rfl ?_
    simp [hk,hu]
    refine zal (zg3 k (by omega) (by omega)) (by simp) ?_
    simp [htl,hk,hu]
    refine zal (zcV u (by omega) (by omega)) (by simp) ?_
    simp [htl,hk,hu]
    refine ⟨by omega,by omega,?_⟩
    exact ⟨rfl,Le.go [(32,32),(288,288),(664,16)] [] rfl rfl (by simp [hFn]) (by simp [hFn,fcd])⟩
   ·simp at h8
    rw [if_neg (by omega)] at hFn
    refine zae ?_
    exact ⟨(),trivial,Le.go [(32,32),(288,288),(16,16)] [] rfl rfl (by simp [hFn]) (by simp [hFn,fcd])⟩
  refine zac (s:=?sd9) rfl ?od9 ?qd9
  case od9=>simp; rfl
  exact ⟨i + 1,by omega,by omega,Le.go [(32,32),(288,288),(16,16)] [] rfl rfl (by simp [hw]) (by simp [fcd])⟩
 simp at h7
 obtain rfl : i = G.edges.length:=by omega
 rw [FdN]
 refine zan ?_
 refine hit ?_
 refine rk (s:=?sz) [6,7] [32,16] rfl ?oz ?qz
 case oz=>simp; rfl
 refine zag ?_
 exact ⟨.inr rfl,zam.out [] [16] rfl (by simp) (by simp) (by simp [hN,fcd,zaq]) (by simp)⟩
instance (g : Gr) (lv f t : Int) : Decidable (zoF g lv f t):=by unfold zoF; infer_instance
theorem zbE {a : List Int} {n : Int} (h : ∀ k ∈ a,0 ≤ k ∧ k < n) : Rise (zar a) 0 (n - 1):=by
 intro i hi
 have hm:=zb8.1 (List.getElem_mem hi)
 have:=h _ hm.1
 refine ⟨by omega,by omega,fun hp=>?_⟩
 exact (List.pairwise_iff_getElem.1 (zdj a)) (i - 1) i (by omega) hi (by omega)
theorem zbw (a : List Int) : (zar a).length ≤ 64:=Nat.le_trans (List.length_filter_le ..) (by simp)
theorem zm7 (g : Gr) (p : Pol) (sinks : List Int) (hg : GrOk g) (hs : p.seeds.length ≤ 64) (hsl : sinks.length ≤ 64) : (zaT g p (zaD g p) sinks).length ≤ 1000:=by
 rw [zfx]
 have h1:=zbW _ (zgw (zaD g p)) p.seeds
 have h2:=zbW _ (zgp (zaD g p)) (List.range (zaD g p).length)
 have h3:=zbW _ (zg1 (zaD g p)) sinks
 have h4:=zbW _ (zg4 (zaD g p)) (zai g p.lv).edges
 have h5 : (zai g p.lv).edges.length ≤ g.edges.length:=List.length_filter_le ..
 have h6:=hg.edges_le
 have h7:=hg.1.2.1
 have h8:=hg.1.1
 rw [List.length_range] at h2
 have h9 : (zaD g p).length = g.size.toNat:=zbx
 simp only [List.length_append]
 omega
def netN (g : Gr) : Nat:=(2 + 2 * g.size).toNat
theorem zfD {g : Gr} (hg : GrOk g) : ((netN g : Nat) : Int) = 2 + 2 * g.size:=by unfold netN; have:=hg.1.1; omega
abbrev netA (g : Gr) (p : Pol) (ks : List Int) : List Ed:=zaT g p (zaD g p) ks
def zap (g : Gr) (p : Pol) (ks : List Int) : Prop:=maxF (netN g) (netA g p ks) = ks.length
theorem zdJ {g : Gr} {p : Pol} {ks : List Int} (hg : GrOk g) (hp : zaZ g.size p) (hk : ∀ x ∈ ks,0 ≤ x ∧ x < g.size) : zdK (netN g) (netA g p ks):=zpt hg hp hk
theorem zd3 {g : Gr} {p : Pol} {ks : List Int} (hg : GrOk g) (hp : zaZ g.size p) (hk : ∀ x ∈ ks,0 ≤ x ∧ x < g.size) (hs : p.seeds.length ≤ 64) (hsl : ks.length ≤ 64) : za4 ⟨netN g,netA g p ks⟩:=by
 have h1:=zdJ hg hp hk
 have h2 : (netA g p ks).length ≤ 1000:=zm7 g p ks hg hs hsl
 have h3:=hg.1.2.1
 have hN:=zfD hg
 have h0:=hg.1.1
 have hcb : ∀ i : Nat,(zaD g p).getD i 0 ≤ 1000:=fun i=>by
  rw [List.getD_eq_getElem?_getD]
  cases h : (zaD g p)[i]? with
  | none=>simp
  | some v =>
    have hm:=List.mem_of_getElem? h
    unfold zaD at hm
    obtain ⟨d,_,rfl⟩:=List.mem_map.1 hm
    exact (zf6 hp d).2
 refine ⟨by simp only; omega,by simp only; omega,by simp only; omega,fun a ha=>?_⟩
 obtain ⟨q1,q2,q3,q4,q5,q6,q7,q8⟩:=h1.arc a ha
 refine ⟨q1,by simp only; omega,q3,by simp only; omega,q5,q6,q7,q8,?_⟩
 simp only [netA,zaT] at ha
 rcases List.mem_append.1 ha with ha | ha
 ·rcases List.mem_append.1 ha with ha | ha
  ·rcases List.mem_append.1 ha with ha | ha
   ·obtain ⟨x,hx,rfl⟩:=List.mem_map.1 ha
    have:=hcb x.toNat
    simp only
    omega
   ·obtain ⟨i,hx,rfl⟩:=List.mem_map.1 ha
    have:=hcb i
    simp only
    omega
  ·obtain ⟨x,hx,rfl⟩:=List.mem_map.1 ha
   simp
 ·obtain ⟨e,hx,rfl⟩:=List.mem_map.1 ha
  simp
structure zmT (g : Gr) (p : Pol) (ks f : List Int) : Prop where
 ok : zaB (netN g) (netA g p ks) f
 most : ∀ f',zaB (netN g) (netA g p ks) f' → valF (netA g p ks) f' ≤ valF (netA g p ks) f
 val : valF (netA g p ks) f = maxF (netN g) (netA g p ks)
theorem zeb {ks : List Int} {n : Int} (h : Rise ks 0 (n - 1)) : ∀ x ∈ ks,0 ≤ x ∧ x < n:=fun x hx=>by
 have:=h.nodup.2 x hx
 omega
end Go.Proofs.YteiabadhhhckfaaGreat
