/- Texts of this claim,merged. -/
import Derived.Test.YtlhjelookgjmpaaGreatRe11
import Derived.Test.YtlhjelookgjmpaaGreatRe9
import Derived.Test.YtlhjelookgjmpaaGreatRe10
set_option linter.unusedSimpArgs false
set_option linter.unusedVariables false
set_option linter.unusedSectionVars false
namespace Go.Proofs.YtlhjelookgjmpaaGreat
open Go
def ServesE (g : Gr) (seeds order caps : List Int) (P : List (List Int)) (ends : List Int) : Prop :=
 (∀ w ∈ P,WalkC g seeds order w) ∧ RoomP caps P ∧ srt (lasts P) = srt ends
def capAt (caps : List Int) (P : List (List Int)) (k : Nat) : Prop:=∀ h : k < caps.length,(begC P k : Int) ≤ caps[k] ∧ (useC P k : Int) ≤ max 0 (caps[k] - 1)
theorem roomP_iff {c : List Int} {P : List (List Int)} : RoomP c P ↔ ∀ k,capAt c P k:=Iff.rfl
set_option maxRecDepth 100000 in
set_option maxHeartbeats 2000000 in
open Classical in
theorem engine_serve_ok (g : Gr) (seeds caps order : List Int) (P : List (List Int)) (ends : List Int) (hg : g.edges.length ≤ 500) (hs : seeds.length ≤ 140737488355328) (ho : order.length ≤ 140737488355328)
  (ho64 : ∀ k ∈ order,0 ≤ k ∧ k < 64) (hc64 : caps.length ≤ 64) (hcb : ∀ c ∈ caps,0 ≤ c ∧ c ≤ 1000) (hP : P.length ≤ 100000) (hPw : ∀ w ∈ P,w.length ≤ 100000) (hE : ends.length ≤ 1099511627776) :
  ACalls Tryz.prog nchecker_engine_serve [eEng g seeds caps order,pathsV P,ints ends] [] (.B (decide (ServesE g seeds order caps P ends))) []:=by
 refine schecker_engine_serve.acalls (Nat.le_of_ble_eq_true rfl) (Nat.le_of_ble_eq_true rfl) (Nat.le_refl _) ?_
 show awp _ 0 _ _ ⟨89,[(0,eEng g seeds caps order),(1,pathsV P),(2,ints ends)],[],16⟩
 refine rx (s:=?s1) [1,2,3] [] [16] rfl ?o1 ?q1
 case o1=>simp; rfl
 refine awp_regc ⟨89,[(1,pathsV P),(2,ints ends),(3,.pv (xC g seeds caps order)),(7,.pt 32 0 0),(8,.pt 40 0 0)],[(32,some ⟨64,[cnt fun _=>0],0⟩),(40,some ⟨64,[cnt fun _=>0],0⟩)],48⟩ rfl ?_ ?_
 ·rw [cnt_zero]
  simp
  exact Le.keep rfl (Nat.le_refl _) (by simp) (by simp [List.replicate])
 refine rk (s:=?s3) [1,2,3,7,8,9] [32,40] rfl ?o3 ?q3
 case o3=>simp; rfl
 refine awp_seq ?_
 refine rk (s:=?s4) [2,3,7,8,9,16,17,18] [32,40] rfl ?o4 ?q4
 case o4=>simp; rfl
 refine awp_block ?_
 let B : Nat → Int → Int:=fun i k=>begC (P.take i) k
 let U : Nat → Int → Int:=fun i k=>useC (P.take i) k
 let L : Nat → List Int:=fun i=>lasts (P.take i)
 have hB0 : B 0 = fun _=>0:=by funext k; simp [B,begC]
 have hU0 : U 0 = fun _=>0:=by funext k; simp [U,useC]
 have hL0 : L 0 = []:=by simp [L,lasts]
 refine awp_loop (ι:=Nat) (fun i=>⟨89,[(2,ints ends),(3,.pv (xC g seeds caps order)),(7,.pt 32 0 0),(8,.pt 40 0 0),(9,.rs 16 0 i),(16,pathsV P),(17,.I P.length),(18,.I i)],[(32,some ⟨64,[cnt (B i)],0⟩),(40,some ⟨64,[cnt (U i)],0⟩),(16,some ⟨1,rowsI (L i),0⟩)],80⟩)
  (fun i=>i ≤ P.length ∧ ∀ w ∈ P.take i,WalkC g seeds order w) (fun i=>P.length - i) 0 (by simp) (Le.lst [(32,32),(40,40)] [] [(16,1)] rfl (by simp) (by simp) (by simp) (by simp) (by simp) (by simp) (by simp) (by simp [Up]) (by simp [hB0,hU0,hL0])) ?_
 rintro i ⟨hi,hp⟩
 have hLl : (L i).length = i:=by
  have h1:=lasts_len (P:=P.take i) fun w hw=>by obtain ⟨k,hk,_⟩:=(hp w hw).1; rintro rfl; simp at hk
  rw [List.length_take,Nat.min_eq_left hi] at h1
  exact h1
 refine rk (s:=?s5) [2,3,7,8,9,16,17,18,19] [32,40,16] rfl ?o5 ?q5
 case o5=>simp; rfl
 refine awp_seq ?_
 refine awp_cond _ rfl (fun h6=>?_) fun h6=>?_
 ·simp at h6
  have hw1 : IntKind.i64.wrap ((i : Int) + 1) = (i : Int) + 1:=w64 (by omega) (by omega)
  refine awp_skip ?_
  refine awp_seq ?_
  refine awp_block ?_
  obtain ⟨w,hwd⟩ : ∃ w,w = P[i]:=⟨_,rfl⟩
  have hwl : w.length ≤ 100000:=by rw [hwd]; exact hPw _ (List.getElem_mem h6)
  refine rk (s:=?s7) [2,3,7,8,9,11,16,17,18] [32,40,16] rfl ?o7 ?q7
  case o7=>simp [h6,← hwd]; rfl
  refine awp_seq ?_
  refine rk (s:=?s8) [2,3,7,8,9,11,16,17,18,25] [32,40,16] rfl ?o8 ?q8
  case o8 =>
   simp
   refine call0e (engine_walks_ok g seeds caps order w (by omega) hs ho (by omega)) (by simp) ?_
   simp
   rfl
  refine awp_cond _ rfl (fun h9=>?_) fun h9=>?_
  ·refine rk (s:=?s10) [6] [] rfl ?o10 ?q10
   case o10=>simp; rfl
   refine awp_ret ?_
   have hn : ¬ ServesE g seeds order caps P ends:=fun h=>by simp at h9; exact h9 (hwd ▸ h.1 _ (List.getElem_mem h6))
   exact ⟨.inr rfl,RetOk.one (by simp [hn])⟩
  simp at h9
  have hk64 : ∀ j (h : j < w.length),0 ≤ w[j] ∧ w[j] < 64:=fun j h=>ho64 _ (h9.2 j h).1.1
  have hne : w ≠ []:=by obtain ⟨k,hk,_⟩:=h9.1; rintro rfl; simp at hk
  have hpos : 0 < w.length:=List.length_pos_iff.2 hne
  obtain ⟨k0,hk0,hk0'⟩ : ∃ k0 : Nat,w[0] = k0 ∧ k0 < 64:=⟨w[0].toNat,by have:=hk64 0 hpos; omega,by have:=hk64 0 hpos; omega⟩
  have hhd : w.head? = some (k0 : Int):=by rw [List.head?_eq_getElem?,List.getElem?_eq_getElem hpos,hk0]
  have hBle : B i k0 ≤ 100000:=by
   have:=begC_len (P.take i) k0
   have:=List.length_take_le i P
   simp only [B]
   omega
  have hB0' : 0 ≤ B i k0:=by simp only [B]; omega
  have hwB : IntKind.i64.wrap (B i k0 + 1) = B i k0 + 1:=w64 (by omega) (by omega)
  have hBn : (fun j=>if j = (k0 : Int) then B i k0 + 1 else B i j) = B (i + 1):=by
   funext j
   simp only [B]
   rw [begC_succ P i h6 j,← hwd,hhd]
   by_cases h : j = (k0 : Int)
   ·subst h; simp
   ·simp [h,Ne.symm h]
  have hd1:=cnt_drop (B i) hk0'
  have hs1:=cnt_set (B i) hk0' (B i k0 + 1)
  rw [hBn] at hs1
  refine awp_skip ?_
  refine awp_regc ⟨89,[(2,ints ends),(3,.pv (xC g seeds caps order)),(7,.pt 32 0 0),(8,.pt 40 0 0),(9,.rs 16 0 i),(11,ints w),(16,pathsV P),(17,.I P.length),(18,.I i)],[(32,some ⟨64,[cnt (B (i + 1))],0⟩),(40,some ⟨64,[cnt (U i)],0⟩),(16,some ⟨1,rowsI (L i),0⟩)],208⟩ rfl ?_ ?_
  ·simp [hpos,hk0,hk0',hd1,hwB,cnt_len,hs1]
   refine ⟨by omega,by omega,?_⟩
   exact Le.keep rfl (Nat.le_refl _) (by simp) (by simp)
  obtain ⟨d,hd⟩ : ∃ d,d = w.dropLast:=⟨_,rfl⟩
  have hdl : d.length = w.length - 1:=by rw [hd,List.length_dropLast]
  have hdt : ∀ f : Int → List AV,List.take (w.length - 1) (List.map f w) = List.map f d:=fun f=>by rw [← List.map_take,hd,List.dropLast_eq_take]
  have hwm : IntKind.i64.wrap ((w.length : Int) - 1) = ((w.length - 1 : Nat) : Int):=by rw [w64 (by omega) (by omega)]; omega
  refine awp_seq ?_
  refine awp_regc ⟨89,[(2,ints ends),(3,.pv (xC g seeds caps order)),(7,.pt 32 0 0),(8,.pt 40 0 0),(9,.rs 16 0 i),(11,ints w),(16,pathsV P),(17,.I P.length),(18,.I i),(37,ints d),(38,.I d.length),(39,.I 0)],[(32,some ⟨64,[cnt (B (i + 1))],0⟩),(40,some ⟨64,[cnt (U i)],0⟩),(16,some ⟨1,rowsI (L i),0⟩)],264⟩ rfl ?_ ?_
  ·simp [hwm,hdt,hdl]
   exact Le.keep rfl (Nat.le_refl _) (by simp) (by simp)
  refine awp_block ?_
  let V : Nat → Int → Int:=fun j k=>U i k + ((d.take j).count k : Nat)
  have hV0 : V 0 = U i:=by funext k; simp [V]
  refine awp_loop (ι:=Nat) (fun j=>⟨89,[(2,ints ends),(3,.pv (xC g seeds caps order)),(7,.pt 32 0 0),(8,.pt 40 0 0),(9,.rs 16 0 i),(11,ints w),(16,pathsV P),(17,.I P.length),(18,.I i),(37,ints d),(38,.I d.length),(39,.I j)],[(32,some ⟨64,[cnt (B (i + 1))],0⟩),(40,some ⟨64,[cnt (V j)],0⟩),(16,some ⟨1,rowsI (L i),0⟩)],264⟩)
   (fun j=>j ≤ d.length) (fun j=>d.length - j) 0 (Nat.zero_le _) (Le.keep rfl (Nat.le_refl _) (by simp) (by simp [hV0])) ?_
  intro j hj
  refine rk (s:=?s13) [2,3,7,8,9,11,16,17,18,37,38,39,40] [32,40,16] rfl ?o13 ?q13
  case o13=>simp; rfl
  refine awp_seq ?_
  refine awp_cond _ rfl (fun h14=>?_) fun h14=>?_
  ·simp at h14
   have hw2 : IntKind.i64.wrap ((j : Int) + 1) = (j : Int) + 1:=w64 (by omega) (by omega)
   have hdj : d[j] = w[j]'(by omega):=by simp [hd]
   obtain ⟨k1,hk1,hk1'⟩ : ∃ k1 : Nat,d[j] = k1 ∧ k1 < 64:=⟨d[j].toNat,by have:=hk64 j (by omega); omega,by have:=hk64 j (by omega); omega⟩
   have hVle : 0 ≤ V j k1 ∧ V j k1 ≤ 100000000000000:=by
    have h1:=useC_len (P:=P.take i) (m:=100000) (fun x hx=>hPw x (List.mem_of_mem_take hx)) k1
    have h2:=List.length_take_le' i P
    have h3 : (d.take j).count (k1 : Int) ≤ d.length:=Nat.le_trans List.count_le_length (List.length_take_le' j d)
    have h4 : 100000 * (P.take i).length ≤ 100000 * P.length:=Nat.mul_le_mul_left _ h2
    have h5 : 100000 * P.length ≤ 100000 * 100000:=Nat.mul_le_mul_left _ hP
    simp only [V,U]
    omega
   have hwV : IntKind.i64.wrap (V j k1 + 1) = V j k1 + 1:=w64 (by omega) (by omega)
   have hVn : (fun k=>if k = (k1 : Int) then V j k1 + 1 else V j k) = V (j + 1):=by
    funext k
    simp only [V]
    rw [count_take_succ d j h14 k,hk1]
    by_cases h : k = (k1 : Int)
    ·subst h; simp; omega
    ·simp [h,Ne.symm h]
   have hd2:=cnt_drop (V j) hk1'
   have hs2:=cnt_set (V j) hk1' (V j k1 + 1)
   rw [hVn] at hs2
   refine awp_skip ?_
   refine awp_seq ?_
   refine awp_block ?_
   refine rk (s:=?s15) [2,3,7,8,9,11,13,16,17,18,37,38,39] [32,40,16] rfl ?o15 ?q15
   case o15=>simp [h14,hk1]; rfl
   refine awp_run (s:=?s16) rfl ?o16 ?q16
   case o16 =>
    simp [hk1',hd2,hwV,cnt_len,hs2]
    refine ⟨by omega,by omega,?_⟩
    rfl
   refine awp_run (s:=?s17) rfl ?o17 ?q17
   case o17=>simp [hw2]; rfl
   exact ⟨j + 1,by omega,by omega,Le.go [(32,32),(40,40),(16,16)] [] rfl rfl (by simp) (by simp)⟩
  simp at h14
  obtain rfl : j = d.length:=by omega
  have hVe : V d.length = U (i + 1):=by
   funext k
   simp only [V,U]
   rw [useC_succ P i h6 k,← hwd,← hd,List.take_of_length_le (Nat.le_refl _)]
   simp
  have hLn : L (i + 1) = L i ++ [w.getLast hne]:=by
   have:=lasts_succ P i h6 (hwd ▸ hne)
   simp only [L]
   rw [this]
   congr 3
   exact hwd.symm
  have hgl : w[w.length - 1]'(by omega) = w.getLast hne:=(List.getLast_eq_getElem hne).symm
  have hti : ∀ f : Int → List AV,List.take i (List.map f (L i)) = List.map f (L i):=fun f=>List.take_of_length_le (by simp [hLl])
  refine awp_exit ?_
  refine hit ?_
  refine awp_run (s:=?s18) rfl ?o18 ?q18
  case o18 =>
   simp [hwm,hne,show w.length - 1 < w.length by omega,hgl,hLl,hti]
   refine ⟨by omega,by omega,?_⟩
   rfl
  refine awp_run (s:=?s19) rfl ?o19 ?q19
  case o19=>simp [hw1]; rfl
  refine ⟨i + 1,⟨h6,fun x hx=>?_⟩,by omega,Le.go [(32,32),(40,40),(336,16)] [] rfl rfl (by simp) (by simp [hVe,hLn])⟩
  rw [List.take_succ_eq_append_getElem h6] at hx
  rcases List.mem_append.1 hx with hx | hx
  ·exact hp x hx
  ·rw [List.mem_singleton] at hx
   rw [hx,← hwd]
   exact h9
 simp at h6
 obtain rfl : i = P.length:=by omega
 have hBP : ∀ k,B P.length k = begC P k:=fun k=>by simp [B]
 have hUP : ∀ k,U P.length k = useC P k:=fun k=>by simp [U]
 have hLP : L P.length = lasts P:=by simp [L]
 have hpP : ∀ w ∈ P,WalkC g seeds order w:=fun w hw=>hp w (by simpa using hw)
 rw [hLP] at hLl ⊢
 refine awp_exit ?_
 refine hit ?_
 refine awp_seq ?_
 refine rk (s:=?s20) [2,7,8,9,60,61,62] [32,40,16] rfl ?o20 ?q20
 case o20=>simp; rfl
 refine awp_block ?_
 refine awp_loop (ι:=Nat) (fun k=>⟨89,[(2,ints ends),(7,.pt 32 0 0),(8,.pt 40 0 0),(9,.rs 16 0 P.length),(60,ints caps),(61,.I caps.length),(62,.I k)],[(32,some ⟨64,[cnt (B P.length)],0⟩),(40,some ⟨64,[cnt (U P.length)],0⟩),(16,some ⟨1,rowsI (lasts P),0⟩)],120⟩)
  (fun k=>k ≤ caps.length ∧ ∀ x,x < k → capAt caps P x) (fun k=>caps.length - k) 0 (by simp) (Le.keep rfl (Nat.le_refl _) (by simp) (by simp)) ?_
 rintro k ⟨hk,hq⟩
 refine rk (s:=?s21) [2,7,8,9,60,61,62,63] [32,40,16] rfl ?o21 ?q21
 case o21=>simp; rfl
 refine awp_seq ?_
 refine awp_cond _ rfl (fun h7=>?_) fun h7=>?_
 ·simp at h7
  have hw3 : IntKind.i64.wrap ((k : Int) + 1) = (k : Int) + 1:=w64 (by omega) (by omega)
  have hck:=hcb _ (List.getElem_mem h7)
  have hwc : IntKind.i64.wrap (caps[k] - 1) = caps[k] - 1:=w64 (by omega) (by omega)
  have hd3:=cnt_drop (B P.length) (k:=k) (by omega)
  have hd4:=cnt_drop (U P.length) (k:=k) (by omega)
  rw [hBP] at hd3
  rw [hUP] at hd4
  have hk64' : k < 64:=by omega
  have hcp : capAt caps P k ↔ ((begC P k : Int) ≤ caps[k] ∧ (useC P k : Int) ≤ max 0 (caps[k] - 1)):=⟨fun h=>h h7,fun h _=>h⟩
  refine awp_skip ?_
  refine awp_seq ?_
  refine awp_block ?_
  refine rk (s:=?s22) [2,7,8,9,14,15,60,61,62] [32,40,16] rfl ?o22 ?q22
  case o22=>simp [h7]; rfl
  refine awp_regc ⟨89,[(2,ints ends),(7,.pt 32 0 0),(8,.pt 40 0 0),(9,.rs 16 0 P.length),(60,ints caps),(61,.I caps.length),(62,.I k),(80,.B (decide (¬ capAt caps P k)))],[(32,some ⟨64,[cnt (B P.length)],0⟩),(40,some ⟨64,[cnt (U P.length)],0⟩),(16,some ⟨1,rowsI (lasts P),0⟩)],280⟩ rfl ?_ ?_
  ·simp [hk64',hd3,hd4,cnt_len]
   refine ⟨by omega,?_⟩
   refine gcase (fun hb=>?_) (fun hb=>?_) <;> (try rw [hb]) <;> (try simp at hb) <;> simp [hb,hk64',hd3,hd4,cnt_len,hwc]
   ·exact Le.go [(32,32),(40,40),(16,16)] [] rfl rfl (by simp <;> exact wkB (by rw [Bool.eq_iff_iff]; simp [hcp]; omega)) (by simp)
   ·refine ⟨by omega,?_⟩
    exact Le.go [(32,32),(40,40),(16,16)] [] rfl rfl (by simp <;> exact wkB (by rw [Bool.eq_iff_iff]; simp [hcp,hb]; split <;> omega)) (by simp)
  refine awp_cond _ rfl (fun h8=>?_) fun h8=>?_
  ·refine rk (s:=?s23) [6] [] rfl ?o23 ?q23
   case o23=>simp; rfl
   refine awp_ret ?_
   have hn : ¬ ServesE g seeds order caps P ends:=fun h=>by simp at h8; exact h8 (roomP_iff.1 h.2.1 k)
   exact ⟨.inr rfl,RetOk.one (by simp [hn])⟩
  simp at h8
  refine awp_skip ?_
  refine awp_run (s:=?s24) rfl ?o24 ?q24
  case o24=>simp [hw3]; rfl
  refine ⟨k + 1,⟨h7,fun x hx=>?_⟩,by omega,Le.go [(32,32),(40,40),(16,16)] [] rfl rfl (by simp) (by simp)⟩
  rcases Nat.lt_succ_iff_lt_or_eq.1 hx with h | rfl
  ·exact hq x h
  ·exact h8
 simp at h7
 have hroom : RoomP caps P:=roomP_iff.2 fun x hx=>hq x (by omega) hx
 have hll : (lasts P).length ≤ 1099511627776:=by omega
 have htl : ∀ f : Int → List AV,List.take P.length (List.map f (lasts P)) = List.map f (lasts P):=fun f=>List.take_of_length_le (by simp [hLl])
 have htl2 : ∀ (f : Int → List AV) (r : Int → Int → Bool),List.take P.length (List.map f ((lasts P).mergeSort r)) = List.map f ((lasts P).mergeSort r):=fun f r=>List.take_of_length_le (by simp [List.length_mergeSort,hLl])
 refine awp_exit ?_
 refine hit ?_
 refine rx (s:=?s25) [6] [] [] rfl ?o25 ?q25
 case o25 =>
  simp
  refine call0k [16] (by simp) (Values_ok (lasts P)) (by simp [htl,hLl]) ?_
  simp [htl,hLl]
  refine callN1 (Sorted_ok (lasts P) hll) (by simp) ?_
  simp [fcd]
  refine call0e (Values_ok ends) (by simp) ?_
  simp
  refine callN1 (Sorted_ok ends hE) (by simp) ?_
  simp [fcd]
  refine call0s [144,168] (EqualI_ok (sorted (lasts P)) (sorted ends) (by rw [sorted_len]; omega)) (by simp [hLl,htl2,take_msort]) (.sc _) ?_
  simp
  rfl
 refine awp_ret ?_
 have hfin : ServesE g seeds order caps P ends ↔ sorted (lasts P) = sorted ends:=⟨fun h=>h.2.2,fun h=>⟨hpP,hroom,h⟩⟩
 exact ⟨.inr rfl,RetOk.one (by simp [hfin])⟩
section
variable {P : Program} {np id : Nat} {h : Nat → Option Ent} {K : AV → List Nat → List (Nat × Option Ent) → Prop} {s s' l k : Nat} {f : Bool} {rows : List (List AV)}
@[simp] theorem k_slvlh2 : aK P np id (.slc s true true false) [.vs s' f rows,.sc (.int .i64 (l : Int)),.sc (.int .i64 (k : Int))] h K = (l ≤ k ∧ k ≤ rows.length ∧ s' = s ∧ K (.vs s false ((rows.drop l).take (k - l))) [] []):=by
 rw [k_slc]
 refine propext ⟨?_,?_⟩
 ·rintro ⟨l',r,m,n,h1,h2,h4,h5,h6,h7,h3,h10,h8,h9⟩
  simp at h4 h1
  subst h1
  obtain ⟨rfl,rfl⟩ : l = l' ∧ k = r:=by omega
  exact ⟨h2,h3,h8,by simpa using h9⟩
 ·rintro ⟨h1,h2,h3,h4⟩
  exact ⟨l,k,0,rows.length,rfl,h1,by simp,(fun h=>by cases h),(fun h=>by cases h),(fun h=>by cases h),h2,(fun h=>by cases h),h3,by simpa using h4⟩
end
theorem sub_first {k : Int} {l : List Int} : ∀ {s : List Int},(k :: l).Sublist s ↔ k ∈ s ∧ l.Sublist (s.drop (s.idxOf k + 1))
 | []=>by simp
 | x :: s=>by
   rw [sub_cons_iff]
   by_cases h : x = k
   ·subst h
    simp [List.idxOf_cons_self]
   ·rw [if_neg h,sub_first]
    have hb : (x == k) = false:=by simpa using h
    simp [List.idxOf_cons,Ne.symm h,hb]
theorem takeWhile_idx (key : Int) : ∀ (o : List Int),aheadO o key = o.take (o.idxOf key)
 | []=>rfl
 | x :: o=>by
   rw [aheadO_cons]
   by_cases h : x = key
   ·subst h
    simp [List.idxOf_cons_self]
   ·rw [if_neg h,takeWhile_idx key o]
    have hb : (x == key) = false:=by simpa using h
    simp [List.idxOf_cons,hb]
open Classical in
theorem engine_before_ok (g : Gr) (seeds caps order l : List Int) (key : Int) (ho : order.length ≤ 1000000) (hl : l.length ≤ 140737488355328) (hk : key ∈ order) :
  ACalls Tryz.prog nchecker_engine_before [eEng g seeds caps order,ints l,.I key] [] (.B (decide (BeforeP order l key))) []:=by
 refine schecker_engine_before.acalls (Nat.le_of_ble_eq_true rfl) (Nat.le_of_ble_eq_true rfl) (Nat.le_refl _) ?_
 show awp _ 0 _ _ ⟨36,[(0,eEng g seeds caps order),(1,ints l),(2,.I key)],[],16⟩
 obtain ⟨e,he⟩ : ∃ e,e = order.idxOf key:=⟨_,rfl⟩
 have hel : e < order.length:=by rw [he]; exact List.idxOf_lt_length_of_mem hk
 have hix : idxI order key = e:=by unfold idxI; rw [if_pos hk,he]
 have hidx:=slices_Index_Lint_int_ok order key (by omega)
 rw [hix] at hidx
 have hA : aheadO order key = order.take e:=by rw [takeWhile_idx,he]
 refine rx (s:=?s1) [1,2,3] [] [16] rfl ?o1 ?q1
 case o1=>simp; rfl
 refine rx (s:=?s2) [1,2,3,7] [] [] rfl ?o2 ?q2
 case o2=>simp; rfl
 refine rx (s:=?s3) [1,3,7,8] [] [] rfl ?o3 ?q3
 case o3=>simp; refine call0e hidx (by simp) ?_; simp; rfl
 refine awp_seq ?_
 refine rx (s:=?s4) [3,7,8,16,17,18] [] [] rfl ?o4 ?q4
 case o4=>simp; rfl
 refine awp_block ?_
 refine awp_loop (ι:=Nat × Nat) (fun p=>⟨36,[(3,.pv (xC g seeds caps order)),(7,.I p.2),(8,.I e),(16,ints l),(17,.I l.length),(18,.I p.1)],[],104⟩)
  (fun p=>p.1 ≤ l.length ∧ p.2 ≤ e ∧ (BeforeP order l key ↔ (l.drop p.1).Sublist ((order.take e).drop p.2))) (fun p=>l.length - p.1) (0,0) ⟨Nat.zero_le _,Nat.zero_le _,by unfold BeforeP; rw [hA]; simp⟩ (Le.go [] [] rfl rfl (by simp) (by simp)) ?_
 rintro ⟨i,a⟩ ⟨hi,ha,hq⟩
 simp only at hi ha hq
 refine rx (s:=?s5) [3,7,8,16,17,18,19] [] [] rfl ?o5 ?q5
 case o5=>simp; rfl
 refine awp_seq ?_
 refine awp_cond _ rfl (fun h6=>?_) fun h6=>?_
 ·simp at h6
  have hw1 : IntKind.i64.wrap ((i : Int) + 1) = (i : Int) + 1:=w64 (by omega) (by omega)
  rw [List.drop_eq_getElem_cons h6,sub_first] at hq
  obtain ⟨s,hs⟩ : ∃ s,s = (order.take e).drop a:=⟨_,rfl⟩
  have hsl : s.length = e - a:=by rw [hs]; simp; omega
  have hmap : ∀ f : Int → List AV,List.take (e - a) (List.drop a (List.map f order)) = List.map f s:=fun f=>by
   rw [hs,List.drop_take,List.map_take,List.map_drop]
  have hidx2:=slices_Index_Lint_int_ok s l[i] (by omega)
  rw [← hs] at hq
  refine awp_skip ?_
  refine awp_seq ?_
  refine awp_block ?_
  refine rx (s:=?s7) [3,7,8,10,16,17,18] [] [] rfl ?o7 ?q7
  case o7=>simp [h6]; rfl
  refine rx (s:=?s8) [3,7,8,11,16,17,18] [] [] rfl ?o8 ?q8
  case o8 =>
   simp [ha,show e ≤ order.length by omega]
   refine call0e hidx2 (by simp [hmap]) ?_
   simp
   rfl
  refine awp_seq ?_
  refine rx (s:=?s9) [3,7,8,11,16,17,18,30] [] [] rfl ?o9 ?q9
  case o9=>simp; rfl
  refine awp_cond _ rfl (fun h10=>?_) fun h10=>?_
  ·simp at h10
   refine rx (s:=?s11) [6] [] [] rfl ?o11 ?q11
   case o11=>simp; rfl
   refine awp_ret ?_
   have hn : ¬ BeforeP order l key:=fun h=>by
    have hm:=(hq.1 h).1
    unfold idxI at h10
    rw [if_pos hm] at h10
    omega
   exact ⟨.inr rfl,RetOk.one (by simp [hn])⟩
  simp at h10
  have hm : l[i] ∈ s:=by
   unfold idxI at h10
   split at h10
   ·assumption
   ·omega
  have hil : s.idxOf l[i] < s.length:=List.idxOf_lt_length_of_mem hm
  have hii : idxI s l[i] = (s.idxOf l[i] : Int):=by unfold idxI; rw [if_pos hm]
  obtain ⟨q,hq'⟩ : ∃ q,q = s.idxOf l[i]:=⟨_,rfl⟩
  rw [← hq'] at hii hil
  have hw2 : IntKind.i64.wrap (idxI s l[i] + 1) = (q : Int) + 1:=by rw [hii,w64 (by omega) (by omega)]
  have hw3 : IntKind.i64.wrap ((a : Int) + ((q : Int) + 1)) = (a : Int) + ((q : Int) + 1):=w64 (by omega) (by omega)
  refine awp_skip ?_
  refine awp_run (s:=?s12) rfl ?o12 ?q12
  case o12=>simp [hw2,hw3]; rfl
  refine awp_run (s:=?s13) rfl ?o13 ?q13
  case o13=>simp [hw1]; rfl
  refine ⟨(i + 1,a + (q + 1)),⟨by simp only; omega,by simp only; omega,?_⟩,by simp only; omega,Le.go [] [] rfl rfl (by simp [hw3]) (by simp)⟩
  simp only
  rw [hq,← hq',hs,List.drop_drop]
  simp only [← hs,hm,true_and]
 simp at h6
 obtain rfl : i = l.length:=by omega
 have hy : BeforeP order l key:=hq.2 (by simp)
 refine awp_exit ?_
 refine hit ?_
 refine rx (s:=?s14) [6] [] [] rfl ?o14 ?q14
 case o14=>simp; rfl
 refine awp_ret ?_
 exact ⟨.inr rfl,RetOk.one (by simp [hy])⟩
def PathsE (g : Gr) (p : Pol) (P : List (List Int)) (ends : List Int) : Prop :=
 ServesE (levelG g p.lv) p.seeds (ordL (levelG g p.lv) p.seeds) (capsL g p) P ends
def PathsC (g : Gr) (p : Pol) (P : List (List Int)) (ends : List Int) : Prop:=(GrOk g ∧ PolOk g.size p) ∧ Diff ends g.size ∧ PathsE g p P ends
theorem capsL_bound {g : Gr} {p : Pol} {n : Int} (hp : PolOk n p) : ∀ c ∈ capsL g p,0 ≤ c ∧ c ≤ 1000:=by
 intro c hc
 obtain ⟨d,_,rfl⟩:=List.mem_map.1 hc
 exact capOf_bound hp d
theorem ordL_len {g : Gr} {S : List Int} (hg : 0 ≤ g.size) : (ordL g S).length ≤ g.size.toNat:=by
 have h:=nodup_sub_len (a:=ordL g S) (b:=(List.range g.size.toNat).map fun (i : Nat)=>(i : Int)) (ordL_nodup g S) fun x hx=>by
  have:=ordL_range hx
  exact List.mem_map.2 ⟨x.toNat,List.mem_range.2 (by omega),by show ((x.toNat : Nat) : Int) = x; omega⟩
 simpa using h
open Classical in
theorem checker_Paths_ok (g : Gr) (p : Pol) (P : List (List Int)) (ends : List Int) (hl : g.edges.length ≤ 140737488355328) (hl2 : g.gone.length ≤ 140737488355328) (hs : p.seeds.length ≤ 1099511627776) (ht : p.table.length ≤ 140737488355328)
  (hN : g.size < 20) (hP : P.length ≤ 100000) (hPw : ∀ w ∈ P,w.length ≤ 100000) (hE : ends.length ≤ 1099511627776) :
  ACalls Tryz.prog nchecker_Paths [eG g,eP p,pathsV P,ints ends] [] (.B (decide (PathsC g p P ends))) []:=by
 refine schecker_Paths.acalls (Nat.le_of_ble_eq_true rfl) (Nat.le_of_ble_eq_true rfl) (Nat.le_refl _) ?_
 show awp _ 0 _ _ ⟨27,[(0,eG g),(1,eP p),(2,pathsV P),(3,ints ends)],[],16⟩
 have hchk:=capacity_Check_ok g p hl hl2 (by omega) ht
 have hdiff:=checker_different_ok ends g.size (by omega)
 refine rx (s:=?s1) [2,3,4,5] [] [16,24] rfl ?o1 ?q1
 case o1=>simp; rfl
 refine awp_regc ⟨27,[(8,.B (decide (PathsC g p P ends)))],[],184⟩ rfl ?_ ?_
 ·by_cases hg : GrOk g
  ·by_cases hp : PolOk g.size p
   ·rw [if_pos hg,if_pos hp] at hchk
    have hof:=checker_of_ok g p hg hN hs
    have hsrv:=engine_serve_ok (levelG g p.lv) p.seeds (capsL g p) (ordL (levelG g p.lv) p.seeds) P ends (hg.level p.lv).edges_le (by omega)
     (by have:=ordL_len (g:=levelG g p.lv) (S:=p.seeds) hg.1.1; have : (levelG g p.lv).size = g.size:=rfl; omega)
     (fun k hk=>by have:=ordL_range hk; have : (levelG g p.lv).size = g.size:=rfl; omega) (by rw [capsL_len]; omega) (capsL_bound hp) hP hPw hE
    simp
    refine call0e hchk (by simp) ?_
    simp
    refine call0e hdiff (by simp) ?_
    simp
    by_cases hd : Diff ends g.size
    ·simp [hd]
     refine call0e hof (by simp) ?_
     simp
     refine call0e hsrv (by simp) ?_
     simp
     exact Le.snap [] rfl rfl (by simp [PathsC,hg,hp,hd,PathsE])
    ·simp [hd]
     exact Le.snap [] rfl rfl (by simp [PathsC,hd])
   ·rw [if_pos hg,if_neg hp] at hchk
    simp
    refine call0e hchk (by simp) ?_
    simp
    exact Le.snap [] rfl rfl (by simp [PathsC,hp])
  ·rw [if_neg hg] at hchk
   simp
   refine call0e hchk (by simp) ?_
   simp
   exact Le.snap [] rfl rfl (by simp [PathsC,hg])
 refine awp_ret ?_
 exact ⟨.inr rfl,RetOk.one (by simp)⟩
theorem has24_ok (l : List Int) (n : Int) (hl : l.length ≤ 140737488355328) : ACalls Tryz.prog nref24_Has [ints l,.I n] [] (.B (decide (n ∈ l))) []:=by
 refine sref24_Has.acalls (Nat.le_of_ble_eq_true rfl) (Nat.le_of_ble_eq_true rfl) (Nat.le_refl _) ?_
 show awp _ 0 _ _ ⟨18,[(0,ints l),(1,.I n)],[],16⟩
 refine rx (s:=?s1) [0,1] [] [] rfl ?o1 ?q1
 case o1=>simp; rfl
 refine awp_seq ?_
 refine rx (s:=?s2) [0,1,5] [] [] rfl ?o2 ?q2
 case o2=>simp; rfl
 refine awp_block ?_
 refine awp_loop (ι:=Nat) (fun i=>⟨18,[(0,ints l),(1,.I n),(5,.I i)],[],32⟩) (fun i=>i ≤ l.length ∧ n ∉ l.take i) (fun i=>l.length - i) 0 (by simp) (Le.go [] [] rfl rfl (by simp) (by simp)) ?_
 rintro i ⟨hi,hp⟩
 refine awp_seq ?_
 refine rx (s:=?s3) [0,1,5,9] [] [] rfl ?o3 ?q3
 case o3=>simp; rfl
 refine awp_cond _ rfl (fun h4=>?_) fun h4=>?_
 ·simp at h4
  have hw : IntKind.i64.wrap ((i : Int) + 1) = (i : Int) + 1:=w64 (by omega) (by omega)
  refine awp_skip ?_
  refine awp_seq ?_
  refine awp_block ?_
  refine rx (s:=?s5) [0,1,5,17] [] [] rfl ?o5 ?q5
  case o5=>simp [h4]; rfl
  refine awp_cond _ rfl (fun h7=>?_) fun h7=>?_
  ·simp at h7
   refine rx (s:=?s8) [4] [] [] rfl ?o8 ?q8
   case o8=>simp; rfl
   refine awp_ret ?_
   have hm : n ∈ l:=h7 ▸ List.getElem_mem h4
   exact ⟨.inr rfl,RetOk.one (by simp [hm])⟩
  simp at h7
  refine awp_skip ?_
  refine awp_reg rfl ?_
  simp [hw]
  refine ⟨i + 1,⟨h4,?_⟩,by omega,Le.go [] [] rfl rfl (by simp) (by simp)⟩
  rw [List.take_succ_eq_append_getElem h4,List.mem_append,List.mem_singleton]
  exact fun h=>h.elim hp fun e=>h7 e.symm
 simp at h4
 have hn : n ∉ l:=by rw [List.take_of_length_le (by omega)] at hp; exact hp
 refine awp_exit ?_
 refine hit ?_
 refine rx (s:=?s9) [4] [] [] rfl ?o9 ?q9
 case o9=>simp; rfl
 refine awp_ret ?_
 exact ⟨.inr rfl,RetOk.one (by simp [hn])⟩
def joinN (a : List Int) (k : Nat) : List Int:=((List.range k).map Int.ofNat).filter fun x=>decide (x ∈ a)
theorem joinN_succ (a : List Int) (k : Nat) : joinN a (k + 1) = joinN a k ++ if (k : Int) ∈ a then [(k : Int)] else []:=by
 unfold joinN
 rw [List.range_succ,List.map_append,List.filter_append]
 congr 1
 by_cases h : (k : Int) ∈ a
 ·rw [if_pos h]
  simp [h]
 ·rw [if_neg h]
  simp [h]
theorem joinN_len (a : List Int) (k : Nat) : (joinN a k).length ≤ k:=by
 refine Nat.le_trans (List.length_filter_le ..) (by simp)
theorem join24_ok (a b : List Int) (ha : a.length ≤ 140737488355328) (hb : b.length ≤ 140737488355328) : ACalls Tryz.prog nref24_Join [ints a,ints b] [] (.rs 0 0 (joinL (a ++ b)).length) [some ⟨1,rowsI (joinL (a ++ b)),0⟩]:=by
 refine sref24_Join.acalls (Nat.le_of_ble_eq_true rfl) (Nat.le_of_ble_eq_true rfl) (Nat.zero_le _) ?_
 show awp _ 0 _ _ ⟨24,[(0,ints a),(1,ints b)],[],16⟩
 refine rx (s:=?s1) [0,1] [] [] rfl ?o1 ?q1
 case o1=>simp; rfl
 refine rx (s:=?s2) [0,1,5] [] [] rfl ?o2 ?q2
 case o2=>simp; rfl
 refine awp_seq ?_
 refine rx (s:=?s3) [0,1,5,6] [] [] rfl ?o3 ?q3
 case o3=>simp; rfl
 refine awp_block ?_
 obtain ⟨J,hJ0,hJs,hJl,hJN⟩ : ∃ J : Nat → List Int,J 0 = [] ∧ (∀ k : Nat,J (k + 1) = J k ++ if (k : Int) ∈ a ++ b then [(k : Int)] else []) ∧ (∀ k,(J k).length ≤ k) ∧ J 64 = joinL (a ++ b) :=
  ⟨joinN (a ++ b),rfl,joinN_succ _,joinN_len _,rfl⟩
 refine awp_loop (ι:=Nat) (fun i=>⟨24,[(0,ints a),(1,ints b),(5,.rs 16 0 (J i).length),(6,.I i)],[(16,some ⟨1,rowsI (J i),0⟩)],40⟩) (fun i=>i ≤ 64) (fun i=>64 - i) 0 (by omega) (Le.lst [] [] [(16,1)] rfl (by simp) (by simp) (by simp) (by simp) (by simp) (by simp) (by simp) (by simp [Up,hJ0]) (by simp [hJ0])) ?_
 intro i hi
 have hJi:=hJl i
 have hti : ∀ f : Int → List AV,List.take (J i).length (List.map f (J i)) = List.map f (J i):=fun f=>List.take_of_length_le (by simp)
 refine awp_seq ?_
 refine rk (s:=?s4) [0,1,5,6,8] [16] rfl ?o4 ?q4
 case o4=>simp; rfl
 refine awp_cond _ rfl (fun h5=>?_) fun h5=>?_
 ·simp at h5
  have hw : IntKind.i64.wrap ((i : Int) + 1) = (i : Int) + 1:=w64 (by omega) (by omega)
  refine awp_skip ?_
  refine awp_cut (ι:=Unit) (fun _=>⟨24,[(0,ints a),(1,ints b),(5,.rs 16 0 (J (i + 1)).length),(6,.I i)],[(16,some ⟨1,rowsI (J (i + 1)),0⟩)],200⟩) (fun _=>True) ?_ fun _ _=>?_
  ·refine awp_block ?_
   refine awp_regc ⟨24,[(0,ints a),(1,ints b),(5,.rs 16 0 (J i).length),(6,.I i),(18,.B (decide ((i : Int) ∈ a ++ b)))],[(16,some ⟨1,rowsI (J i),0⟩)],120⟩ rfl ?_ ?_
   ·simp
    refine call0e (has24_ok a i ha) (by simp) ?_
    simp
    refine gcase (fun hb'=>?_) (fun hb'=>?_) <;> (try rw [hb']) <;> (try simp at hb') <;> simp [hb']
    ·exact Le.keep rfl (Nat.le_refl _) (by simp [hb']) (by simp)
    ·refine call0e (has24_ok b i hb) (by simp) ?_
     simp
     exact Le.keep rfl (Nat.le_refl _) (by simp [hb']) (by simp)
   refine awp_cond _ rfl (fun h6=>?_) fun h6=>?_
   ·rw [decide_eq_true_eq] at h6
    refine awp_run (s:=?s7) rfl ?o7 ?q7
    case o7=>simp [hti]; refine ⟨by omega,by omega,?_⟩; rfl
    exact ⟨(),trivial,Le.go [(144,16)] [] rfl rfl (by simp [hJs,h6]) (by simp [hJs,h6,fcd])⟩
   ·rw [decide_eq_false_iff_not] at h6
    refine awp_skip ?_
    exact ⟨(),trivial,Le.go [(16,16)] [] rfl rfl (by simp [hJs,h6]) (by simp [hJs,h6,fcd])⟩
  refine awp_run (s:=?s8) rfl ?o8 ?q8
  case o8=>simp [hw]; rfl
  exact ⟨i + 1,by omega,by omega,Le.go [(16,16)] [] rfl rfl (by simp) (by simp [fcd])⟩
 simp at h5
 obtain rfl : i = 64:=by omega
 refine awp_exit ?_
 refine hit ?_
 refine rk (s:=?s9) [4] [16] rfl ?o9 ?q9
 case o9=>simp; rfl
 refine awp_ret ?_
 exact ⟨.inr rfl,RetOk.out [16] [] rfl (by simp) (by simp) (by simp [hJN]) (by simp [fcd,hJN])⟩
abbrev nC (n : Net) : List AV:=[.I n.nodes,eEs n.arcs]
abbrev eN (n : Net) : AV:=.agg (nC n)
theorem IndexFuncA_ok (f : FuncId) (capt : List AV) (q : Ed → Bool) (l : List Ed) (hl : l.length ≤ 1099511627776) (hs : Still capt) (hc : ∀ e ∈ l,ACalls Tryz.prog f (eE e :: capt) [] (.B (q e)) []) : ACalls Tryz.prog nslices_IndexFunc_Lapi_Arc_api_Arc [eEs l,.fn (.func f) [] capt] [] (.I (idxQ l q)) []:=by
 have hs2 : ∀ ρ sn h,capt.map (conv ρ sn h 2) = capt:=fun _ _ _=>hs _ _ _ 1
 have hs3 : ∀ ρ sn h,capt.map (conv ρ sn h 3) = capt:=fun _ _ _=>hs _ _ _ 2
 have hs4 : ∀ ρ sn h,capt.map (conv ρ sn h 4) = capt:=fun _ _ _=>hs _ _ _ 3
 refine sslices_IndexFunc_Lapi_Arc_api_Arc.acalls (Nat.le_of_ble_eq_true rfl) (Nat.le_of_ble_eq_true rfl) (Nat.le_refl _) ?_
 show awp _ 0 _ _ ⟨19,[(0,eEs l),(1,.fn (.func f) [] capt)],[],16⟩
 refine awp_seq ?_
 refine awp_run (s:=?s1) rfl ?o1 ?q1
 case o1=>simp; rfl
 refine awp_seq ?_
 refine awp_seq ?_
 refine awp_run (s:=?s2) rfl ?o2 ?q2
 case o2=>simp; rfl
 refine awp_block ?_
 refine awp_loop (ι:=Nat) (fun k=>⟨19,[(0,eEs l),(1,.fn (.func f) [] capt),(7,.I l.length),(8,.I k)],[],16⟩) (fun k=>k ≤ l.length ∧ ∀ i,i < k → ∀ h : i < l.length,q l[i] = false) (fun k=>l.length - k) (0) ?_ (Le.snap [] rfl rfl (by simp [hs2,hs3,hs4])) ?_
 ·simp
 rintro k ⟨hk,hp⟩
 refine awp_seq ?_
 refine awp_run (s:=?s3) rfl ?o3 ?q3
 case o3=>simp; rfl
 refine awp_seq ?_
 refine awp_cond _ rfl (fun h4=>?_) fun h4=>?_
 ·try simp at h4
  have hw2 : IntKind.i64.wrap ((k : Int) + 1) = (k : Int) + 1:=w64 (by omega) (by omega)
  have hck:=hc l[k] (List.getElem_mem h4)
  refine awp_skip ?_
  refine awp_seq ?_
  refine awp_block ?_
  refine awp_seq ?_
  refine awp_run (s:=?s5) rfl ?o5 ?q5
  case o5=>simp [h4,hw2]; rfl
  refine awp_seq ?_
  refine awp_run (s:=?s6) rfl ?o6 ?q6
  case o6 =>
   simp [h4,hw2]
   refine call0e hck ?_ ?_
   ·simp [hs2,hs3,hs4]
   simp [h4,hw2]; rfl
  refine awp_cond _ rfl (fun h7=>?_) fun h7=>?_
  ·try simp at h7
   refine awp_seq ?_
   refine awp_run (s:=?s8) rfl ?o8 ?q8
   case o8=>simp [h4,hw2]; rfl
   refine awp_ret ?_
   exact ⟨.inr rfl,RetOk.one (by simp [idxQ_at h4 hp h7])⟩
  try simp at h7
  refine awp_skip ?_
  refine awp_run (s:=?s9) rfl ?o9 ?q9
  case o9=>simp [h4,hw2]; rfl
  refine ⟨k + 1,⟨h4,fun i hi=>?_⟩,by omega,Le.snap [] rfl rfl (by simp [h4,hw2,hs2,hs3,hs4])⟩
  rcases Nat.lt_succ_iff_lt_or_eq.1 hi with h | rfl
  ·exact hp i h
  ·exact fun _=>h7
 try simp at h4
 have hall : ∀ i,i < l.length → ∀ h : i < l.length,q l[i] = false:=fun i hi=>hp i (by omega)
 refine awp_exit ?_
 refine hit ?_
 refine awp_seq ?_
 refine awp_run (s:=?s10) rfl ?o10 ?q10
 case o10=>simp; rfl
 refine awp_ret ?_
 exact ⟨.inr rfl,RetOk.one (by simp [idxQ_no hall])⟩
theorem ContainsFuncA_ok (f : FuncId) (capt : List AV) (q : Ed → Bool) (l : List Ed) (hl : l.length ≤ 1099511627776) (hs : Still capt) (hc : ∀ e ∈ l,ACalls Tryz.prog f (eE e :: capt) [] (.B (q e)) []) : ACalls Tryz.prog nslices_ContainsFunc_Lapi_Arc_api_Arc [eEs l,.fn (.func f) [] capt] [] (.B (l.any q)) []:=by
 have hs2 : ∀ ρ sn h,capt.map (conv ρ sn h 2) = capt:=fun _ _ _=>hs _ _ _ 1
 have hs3 : ∀ ρ sn h,capt.map (conv ρ sn h 3) = capt:=fun _ _ _=>hs _ _ _ 2
 have hs4 : ∀ ρ sn h,capt.map (conv ρ sn h 4) = capt:=fun _ _ _=>hs _ _ _ 3
 refine sslices_ContainsFunc_Lapi_Arc_api_Arc.acalls (Nat.le_of_ble_eq_true rfl) (Nat.le_of_ble_eq_true rfl) (Nat.le_refl _) ?_
 show awp _ 0 _ _ ⟨9,[(0,eEs l),(1,.fn (.func f) [] capt)],[],16⟩
 refine awp_seq ?_
 refine awp_run (s:=?s1) rfl ?o1 ?q1
 case o1=>simp; rfl
 have hi : decide (0 ≤ idxQ l q) = l.any q:=by
  unfold idxQ
  by_cases h : l.findIdx q < l.length
  ·rw [if_pos h]
   have:=List.findIdx_getElem (w:=h)
   have h2 : l.any q = true:=List.any_eq_true.2 ⟨_,List.getElem_mem h,this⟩
   rw [h2]
   simp
  ·rw [if_neg h]
   have : l.findIdx q = l.length:=by have:=List.findIdx_le_length (xs:=l) (p:=q); omega
   rw [List.findIdx_eq_length] at this
   have h2 : l.any q = false:=by
    rw [List.any_eq_false]
    intro x hx
    simp [this x hx]
   rw [h2]
   simp
 refine awp_regc ⟨9,[(4,.B (l.any q))],[],16⟩ rfl ?_ ?_
 ·simp
  refine call0e (IndexFuncA_ok f capt q l hl hs hc) ?_ ?_
  ·simp [hs2,hs3,hs4]
  simp
  exact Le.snap [] rfl rfl (by simp; exact wkB hi)
 refine awp_ret ?_
 exact ⟨.inr rfl,RetOk.one (by simp)⟩
theorem flow_Check_c1_ok (n : Net) (a : Ed) (h2 : 2 ≤ n.nodes) (h3 : n.nodes ≤ 130) : ACalls Tryz.prog nflow_Check_c1 [eE a,.pv (nC n)] [] (.B (!decide (ArcOk n.nodes a))) []:=by
 refine sflow_Check_c1.acalls (Nat.le_of_ble_eq_true rfl) (Nat.le_of_ble_eq_true rfl) (Nat.le_refl _) ?_
 show awp _ 0 _ _ ⟨43,[(0,eE a),(1,.pv (nC n))],[],16⟩
 have hw : IntKind.i64.wrap (n.nodes - 1) = n.nodes - 1:=w64 (by omega) (by omega)
 refine rx (s:=?s1) [1,2] [] [16] rfl ?o1 ?q1
 case o1=>simp; rfl
 refine awp_regc ⟨43,[(3,.B (!decide (ArcOk n.nodes a)))],[],400⟩ rfl ?_ ?_
 ·simp [hw]
  repeat' first
   | (refine callf nlists_In rfl ?_; refine call0e (lists_In_ok ..) rfl ?_; simp [hw])
   | (refine gcase (fun hb=>?_) (fun hb=>?_) <;> (try rw [hb]) <;> (try simp at hb) <;> simp [hb,hw])
  all_goals exact Le.snap [] rfl rfl (by simp <;> exact wkB (by (try simp at *); grind [ArcOk]))
 refine awp_ret ?_
 exact ⟨.inr rfl,RetOk.one (by simp)⟩
theorem flow_Check_ok (n : Net) (hl : n.arcs.length ≤ 1099511627776) : ACalls Tryz.prog nflow_Check [eN n] [] (.I (if NetVal n then 0 else 16)) []:=by
 refine sflow_Check.acalls (Nat.le_of_ble_eq_true rfl) (Nat.le_of_ble_eq_true rfl) (Nat.le_refl _) ?_
 show awp _ 0 _ _ ⟨21,[(0,eN n)],[],16⟩
 refine rx (s:=?s1) [1] [] [16] rfl ?o1 ?q1
 case o1=>simp; rfl
 refine rx (s:=?s2) [1,3] [] [] rfl ?o2 ?q2
 case o2=>simp; rfl
 refine awp_seq ?_
 refine awp_regc ⟨21,[(20,.B (!decide (NetVal n)))],[],300⟩ rfl ?_ ?_
 ·by_cases h2 : 2 ≤ n.nodes ∧ n.nodes ≤ 130
  ·have hcf:=ContainsFuncA_ok nflow_Check_c1 [.pv (nC n)] (fun a=>!decide (ArcOk n.nodes a)) n.arcs hl (fun ρ sn h k=>by simp) (fun e _=>flow_Check_c1_ok n e h2.1 h2.2)
   simp
   refine call0e (lists_In_ok ..) rfl ?_
   simp [h2]
   by_cases h3 : n.arcs.length ≤ 1200
   ·simp [show ¬ (1200 < n.arcs.length) by omega,show ¬ (1200 < (n.arcs.length : Int)) by omega]
    refine call0e hcf (by simp) ?_
    simp
    refine Le.snap [] rfl rfl (by simp <;> exact wkB (by rw [Bool.eq_iff_iff]; simp [NetVal,h2,h3]))
   ·simp [show (1200 < n.arcs.length) by omega,show (1200 < (n.arcs.length : Int)) by omega]
    refine Le.snap [] rfl rfl (by simp [NetVal,h3])
  ·simp
   refine call0e (lists_In_ok ..) rfl ?_
   have h2' : (decide (2 ≤ n.nodes) && decide (n.nodes ≤ 130)) = false:=by simpa using fun h=>by omega
   simp [h2']
   have hn : ¬ NetVal n:=fun h=>h2 ⟨h.1,h.2.1⟩
   refine Le.snap [] rfl rfl (by simp [hn])
 refine awp_cond _ rfl (fun h7=>?_) fun h7=>?_
 ·simp at h7
  refine rx (s:=?s8) [2] [] [] rfl ?o8 ?q8
  case o8=>simp; rfl
  refine awp_ret ?_
  exact ⟨.inr rfl,RetOk.one (by simp [h7])⟩
 simp at h7
 refine awp_skip ?_
 refine rx (s:=?s9) [2] [] [] rfl ?o9 ?q9
 case o9=>simp; rfl
 refine awp_ret ?_
 exact ⟨.inr rfl,RetOk.one (by simp [h7])⟩
def NetPre (n : Net) : Prop:=(2 ≤ n.nodes ∧ n.nodes ≤ 130) ∧ n.arcs.length ≤ 1200
def ArcAt (n : Net) (i : Nat) : Prop:=∀ h : i < n.arcs.length,ArcOk n.nodes n.arcs[i]
theorem netVal_iff {n : Net} : NetVal n ↔ NetPre n ∧ ∀ i,ArcAt n i:=by
 unfold NetVal NetPre ArcAt
 constructor
 ·rintro ⟨a,b,c,d⟩
  exact ⟨⟨⟨a,b⟩,c⟩,fun i h=>d _ (List.getElem_mem h)⟩
 ·rintro ⟨⟨⟨a,b⟩,c⟩,d⟩
  exact ⟨a,b,c,fun x hx=>by obtain ⟨i,hi,rfl⟩:=List.getElem_of_mem hx; exact d i hi⟩
set_option maxRecDepth 100000 in
open Classical in
theorem ref15_Check_ok (n : Net) (hl : n.arcs.length ≤ 1099511627776) : ACalls Tryz.prog nref15_Check [eN n] [] (.I (if NetVal n then 0 else 16)) []:=by
 refine sref15_Check.acalls (Nat.le_of_ble_eq_true rfl) (Nat.le_of_ble_eq_true rfl) (Nat.le_refl _) ?_
 show awp _ 0 _ _ ⟨80,[(0,eN n)],[],16⟩
 refine rx (s:=?s1) [1] [] [16] rfl ?o1 ?q1
 case o1=>simp; rfl
 refine awp_seq ?_
 refine awp_regc ⟨80,[(1,.pv (nC n)),(18,.B (!decide (NetPre n)))],[],300⟩ rfl ?_ ?_
 ·simp
  repeat' first
   | (refine gcase (fun hb=>?_) (fun hb=>?_) <;> (try rw [hb]) <;> (try simp at hb) <;> simp [hb])
  all_goals exact Le.snap [] rfl rfl (by simp <;> exact wkB (by (try simp at *); grind [NetPre]))
 refine awp_cond _ rfl (fun h3=>?_) fun h3=>?_
 ·simp at h3
  refine rx (s:=?s4) [2] [] [] rfl ?o4 ?q4
  case o4=>simp; rfl
  refine awp_ret ?_
  exact ⟨.inr rfl,RetOk.one (by simp [netVal_iff,h3])⟩
 simp at h3
 refine awp_skip ?_
 refine awp_seq ?_
 refine rx (s:=?s5) [1,3] [] [] rfl ?o5 ?q5
 case o5=>simp; rfl
 refine awp_block ?_
 refine awp_loop (ι:=Nat) (fun i=>⟨80,[(1,.pv (nC n)),(3,.I i)],[],308⟩) (fun i=>i ≤ n.arcs.length ∧ ∀ k,k < i → ArcAt n k) (fun i=>n.arcs.length - i) 0 (by simp) (Le.go [] [] rfl rfl (by simp) (by simp)) ?_
 rintro i ⟨hi,hp⟩
 refine awp_seq ?_
 refine rx (s:=?s6) [1,3,23] [] [] rfl ?o6 ?q6
 case o6=>simp; rfl
 refine awp_cond _ rfl (fun h7=>?_) fun h7=>?_
 ·simp at h7
  have hw : IntKind.i64.wrap ((i : Int) + 1) = (i : Int) + 1:=w64 (by omega) (by omega)
  refine awp_skip ?_
  refine awp_seq ?_
  refine awp_block ?_
  refine awp_regc ⟨80,[(1,.pv (nC n)),(3,.I i),(4,.pv (eC n.arcs[i]))],[],408⟩ rfl ?_ ?_
  ·simp [h7]
   exact Le.snap [388] rfl rfl (by simp)
  refine awp_regc ⟨80,[(1,.pv (nC n)),(3,.I i),(79,.B (!decide (ArcAt n i)))],[],900⟩ rfl ?_ ?_
  ·simp
   have hat : ArcAt n i ↔ ArcOk n.nodes n.arcs[i]:=⟨fun h=>h h7,fun h _=>h⟩
   repeat' first
    | (refine gcase (fun hb=>?_) (fun hb=>?_) <;> (try rw [hb]) <;> (try simp at hb) <;> simp [hb])
   all_goals exact Le.snap [] rfl rfl (by simp <;> exact wkB (by (try simp at *); simp only [hat]; grind [ArcOk]))
  refine awp_cond _ rfl (fun h9=>?_) fun h9=>?_
  ·refine rx (s:=?s10) [2] [] [] rfl ?o10 ?q10
   case o10=>simp; rfl
   refine awp_ret ?_
   have hn : ¬ NetVal n:=fun h=>by simp at h9; exact h9 ((netVal_iff.1 h).2 i)
   exact ⟨.inr rfl,RetOk.one (by simp [hn])⟩
  simp at h9
  refine awp_skip ?_
  refine awp_run (s:=?s11) rfl ?o11 ?q11
  case o11=>simp; rfl
  refine ⟨i + 1,⟨h7,fun k hk=>?_⟩,by omega,Le.go [] [] rfl rfl (by simp [hw]) (by simp)⟩
  rcases Nat.lt_succ_iff_lt_or_eq.1 hk with h | rfl
  ·exact hp k h
  ·exact h9
 simp at h7
 have hy : NetVal n:=netVal_iff.2 ⟨h3,fun k hk=>hp k (by omega) hk⟩
 refine awp_exit ?_
 refine hit ?_
 refine rx (s:=?s12) [2] [] [] rfl ?o12 ?q12
 case o12=>simp; rfl
 refine awp_ret ?_
 exact ⟨.inr rfl,RetOk.one (by simp [hy])⟩
variable {g : Gr} {S : List Int} {key : Int}
abbrev rowsB (l : List Bool) : List (List AV):=l.map fun b=>[AV.B b]
variable {g : Gr} {S : List Int} {key : Int}
section
variable {P : Program} {np id : Nat} {h : Nat → Option Ent} {K : AV → List Nat → List (Nat × Option Ent) → Prop}
theorem k_slr {s i off len : Nat} (l : Nat) {e : Ent} (he : h i = some e) (hs : e.s = s) (hl : l ≤ len) (hK : K (.rs i (off + l) (len - l)) [i] []) : aK P np id (.slc s true false false) [.rs i off len,.sc (.int .i64 l)] h K:=by
 rw [k_slc]
 exact ⟨l,len,0,len,rfl,hl,rfl,by simp,by simp,by simp,Nat.le_refl _,rfl,⟨e,he,hs⟩,hK⟩
theorem k_slh {s i off len : Nat} (r : Nat) {e : Ent} (he : h i = some e) (hs : e.s = s) (hr : r ≤ len) (hK : K (.rs i off r) [i] []) : aK P np id (.slc s false true false) [.rs i off len,.sc (.int .i64 r)] h K:=by
 rw [k_slc]
 exact ⟨0,r,0,len,rfl,Nat.zero_le _,rfl,by simp,by simp,by simp,hr,rfl,⟨e,he,hs⟩,hK⟩
end
structure BSt where
 D : List Int
 b : List Int
 Z : List Int
 off : Nat
 q : Nat
structure BInv (N : Nat) (A : List Ed) (f : List Int) (s : BSt) (m : Nat) : Prop where
 bfs : Bfs N A f s.D s.b
 z : s.off + s.q = s.Z.length
 d : m + s.q = s.D.length
 same : s.Z.drop s.off = s.D.drop m
section
variable {N : Nat} {A : List Ed} {f : List Int}
theorem tryS_fwd {i : Nat} {k : Int} {D b : List Int} (hi : i < A.length) (hf : i < f.length) : tryS A f k (i,false) (D,b) = if A[i].f = k ∧ f[i] < A[i].v ∧ A[i].t ∉ D then (D ++ [A[i].t],b.set A[i].t.toNat ((i : Int) + 1)) else (D,b):=by
 have he : arcD A i = A[i]:=by unfold arcD; rw [List.getD_eq_getElem?_getD,List.getElem?_eq_getElem hi,Option.getD_some]
 have hg : f.getD i 0 = f[i]:=by rw [List.getD_eq_getElem?_getD,List.getElem?_eq_getElem hf,Option.getD_some]
 unfold tryS stF stT roomS encS
 simp only [Bool.false_eq_true,if_false,he,hg,Int.sub_pos]
theorem tryS_bwd {i : Nat} {k : Int} {D b : List Int} (hi : i < A.length) (hf : i < f.length) : tryS A f k (i,true) (D,b) = if A[i].t = k ∧ 0 < f[i] ∧ A[i].f ∉ D then (D ++ [A[i].f],b.set A[i].f.toNat (-((i : Int) + 1))) else (D,b):=by
 have he : arcD A i = A[i]:=by unfold arcD; rw [List.getD_eq_getElem?_getD,List.getElem?_eq_getElem hi,Option.getD_some]
 have hg : f.getD i 0 = f[i]:=by rw [List.getD_eq_getElem?_getD,List.getElem?_eq_getElem hf,Option.getD_some]
 unfold tryS stF stT roomS encS
 simp only [if_true,he,hg]
theorem BInv.more {s : BSt} {m : Nat} (h : BInv N A f s m) {x : Int} {b' : List Int} (hb : Bfs N A f (s.D ++ [x]) b') : BInv N A f ⟨s.D ++ [x],b',s.Z.drop s.off ++ [x],0,s.q + 1⟩ m:=by
 have h1:=h.z
 have h2:=h.d
 refine ⟨hb,?_,?_,?_⟩
 ·simp only [List.length_append,List.length_drop,List.length_singleton]; omega
 ·simp only [List.length_append,List.length_singleton]; omega
 ·simp only [List.drop_zero]
  rw [h.same,List.drop_append_of_le_length (by omega)]
theorem BInv.pop {s : BSt} {m : Nat} (h : BInv N A f s m) (hq : 0 < s.q) : BInv N A f { s with off:=s.off + 1,q:=s.q - 1 } (m + 1):=by
 have h1:=h.z
 have h2:=h.d
 refine ⟨h.bfs,by simp only; omega,by simp only; omega,?_⟩
 simp only
 rw [← List.drop_drop,h.same,List.drop_drop]
theorem BInv.head {s : BSt} {m : Nat} (h : BInv N A f s m) (hq : 0 < s.q) : ∃ hm : m < s.D.length,s.Z[s.off]? = some s.D[m]:=by
 have h1:=h.z
 have h2:=h.d
 refine ⟨by omega,?_⟩
 have e : (s.Z.drop s.off)[0]? = (s.D.drop m)[0]?:=by rw [h.same]
 rw [List.getElem?_drop,List.getElem?_drop,Nat.add_zero,Nat.add_zero] at e
 rw [e,List.getElem?_eq_getElem (by omega)]
end
set_option maxRecDepth 100000 in
set_option maxHeartbeats 4000000 in
theorem Residual_a (N : Nat) (A : List Ed) (f : List Int) (hn : NetVal ⟨N,A⟩) (hf : f.length = A.length) :
  ∃ x : List Int × List Int,(Bfs N A f x.1 x.2 ∧ ClosedS A f x.1) ∧ ACalls Tryz.prog nref15_Residual [eN ⟨N,A⟩,ints f] [] (.rs 0 0 N) [some ⟨1,rowsI x.2,0⟩]:=by
 refine sref15_Residual.acallsX (args:=[eN ⟨N,A⟩,ints f]) (hs:=[]) (fun x=>.rs 0 0 N) (fun x=>[some ⟨1,rowsI x.2,0⟩]) (fun x : List Int × List Int=>Bfs N A f x.1 x.2 ∧ ClosedS A f x.1) (Nat.le_of_ble_eq_true rfl) (Nat.le_of_ble_eq_true rfl) (fun _=>by simp) ?_
 show awp _ 0 _ _ ⟨112,[(0,eN ⟨N,A⟩),(1,ints f)],[],16⟩
 obtain ⟨hn0,hn1,hal,hav⟩:=hn
 simp only at hn0 hn1 hal hav
 refine rx (s:=?s1) [1,2] [] [16] rfl ?o1 ?q1
 case o1=>simp; rfl
 refine awp_regc ⟨112,[(1,ints f),(2,.pv (nC ⟨N,A⟩)),(5,.rs 48 0 N)],[(48,some ⟨1,rowsI (List.replicate N 0),0⟩)],56⟩ rfl ?_ ?_
 ·simp
  refine ⟨by omega,by omega,?_⟩
  exact Le.go [(48,48)] [] rfl rfl (by simp) (by simp)
 refine awp_regc ⟨112,[(1,ints f),(2,.pv (nC ⟨N,A⟩)),(5,.rs 48 0 N),(6,.rs 80 0 N)],[(48,some ⟨1,rowsI (List.replicate N 0),0⟩),(80,some ⟨1,rowsB (List.replicate N false),0⟩)],88⟩ rfl ?_ ?_
 ·simp
  refine ⟨by omega,?_⟩
  exact Le.go [(48,48),(72,80)] [] rfl rfl (by simp) (by simp)
 have hmf:=marksL_first (N:=N) (by omega)
 refine awp_regc ⟨112,[(1,ints f),(2,.pv (nC ⟨N,A⟩)),(5,.rs 48 0 N),(6,.rs 80 0 N)],[(48,some ⟨1,rowsI (List.replicate N 0),0⟩),(80,some ⟨1,rowsB (marksL N [0]),0⟩)],112⟩ rfl ?_ ?_
 ·have h0 : 0 < N:=by omega
  simp [h0,splice]
  exact Le.go [(48,48),(80,80)] [] rfl rfl (by simp) (by simp [← hmf])
 refine awp_regc ⟨112,[(1,ints f),(2,.pv (nC ⟨N,A⟩)),(5,.rs 48 0 N),(6,.rs 80 0 N),(7,.rs 120 0 1)],[(48,some ⟨1,rowsI (List.replicate N 0),0⟩),(80,some ⟨1,rowsB (marksL N [0]),0⟩),(120,some ⟨1,rowsI [0],0⟩)],136⟩ rfl ?_ ?_
 ·simp
  exact Le.go [(48,48),(80,80),(112,120)] [] rfl rfl (by simp) (by simp)
 refine awp_seq ?_
 refine awp_block ?_
 refine awp_loop (ι:=BSt × Nat) (fun s=>⟨112,[(1,ints f),(2,.pv (nC ⟨N,A⟩)),(5,.rs 48 0 N),(6,.rs 80 0 N),(7,.rs 120 s.1.off s.1.q)],[(48,some ⟨1,rowsI s.1.b,0⟩),(80,some ⟨1,rowsB (marksL N s.1.D),0⟩),(120,some ⟨1,rowsI s.1.Z,0⟩)],136⟩)
  (fun s=>BInv N A f s.1 s.2 ∧ ClosedM A f s.1.D s.2) (fun s=>N - s.2) (⟨[0],List.replicate N 0,[0],0,1⟩,0)
  ⟨⟨Bfs.start (by omega),rfl,rfl,rfl⟩,fun s _ h=>by simp at h⟩ (Le.go [(48,48),(80,80),(120,120)] [] rfl rfl (by simp) (by simp)) ?_
 rintro ⟨s,m⟩ ⟨hb,hcl⟩
 simp only at hb hcl
 have hfew:=hb.bfs.few
 have hbd:=hb.d
 have hbz:=hb.z
 refine awp_seq ?_
 refine rk (s:=?s6) [1,2,5,6,7,22] [48,80,120] rfl ?o6 ?q6
 case o6=>simp; rfl
 refine awp_cond _ rfl (fun h7=>?_) fun h7=>?_
 ·simp at h7
  obtain ⟨hmD,hk⟩:=hb.head h7
  have hoff : s.off < s.Z.length:=by omega
  obtain ⟨k,hkd⟩ : ∃ k,k = s.D[m]:=⟨_,rfl⟩
  rw [← hkd] at hk
  have hkD : k ∈ s.D:=hkd ▸ List.getElem_mem hmD
  refine awp_skip ?_
  refine awp_block ?_
  refine rk (s:=?s8) [1,2,5,6,7,8] [48,80,120] rfl ?o8 ?q8
  case o8=>simp [hk,h7]; rfl
  refine awp_regc ⟨112,[(1,ints f),(2,.pv (nC ⟨N,A⟩)),(5,.rs 48 0 N),(6,.rs 80 0 N),(7,.rs 120 (s.off + 1) (s.q - 1)),(8,.I k)],[(48,some ⟨1,rowsI s.b,0⟩),(80,some ⟨1,rowsB (marksL N s.D),0⟩),(120,some ⟨1,rowsI s.Z,0⟩)],300⟩ rfl ?_ ?_
  ·simp
   refine k_slr 1 (i:=120) rfl rfl h7 ?_
   simp
   exact Le.go [(48,48),(80,80),(120,120)] [] rfl rfl (by simp) (by simp)
  have hpop:=hb.pop h7
  refine rk (s:=?s10) [1,2,5,6,7,8,9] [48,80,120] rfl ?o10 ?q10
  case o10=>simp; rfl
  refine awp_block ?_
  refine awp_loop (ι:=BSt × Nat) (fun s=>⟨112,[(1,ints f),(2,.pv (nC ⟨N,A⟩)),(5,.rs 48 0 N),(6,.rs 80 0 N),(7,.rs 120 s.1.off s.1.q),(8,.I k),(9,.I s.2)],[(48,some ⟨1,rowsI s.1.b,0⟩),(80,some ⟨1,rowsB (marksL N s.1.D),0⟩),(120,some ⟨1,rowsI s.1.Z,0⟩)],400⟩)
   (fun t=>BInv N A f t.1 (m + 1) ∧ t.2 ≤ A.length ∧ ClosedI A f t.1.D k t.2 ∧ ∃ l,t.1.D = s.D ++ l) (fun t=>A.length - t.2) ({ s with off:=s.off + 1,q:=s.q - 1 },0)
   ⟨hpop,Nat.zero_le _,fun s h=>by omega,[],by simp⟩ (Le.go [(48,48),(80,80),(120,120)] [] rfl rfl (by simp) (by simp)) ?_
  rintro ⟨t,i⟩ ⟨ht,hi,htc,l,htl⟩
  simp only at ht hi htc htl
  refine awp_seq ?_
  refine rk (s:=?s11) [1,2,5,6,7,8,9,32] [48,80,120] rfl ?o11 ?q11
  case o11=>simp; rfl
  refine awp_cond _ rfl (fun h12=>?_) fun h12=>?_
  ·simp at h12
   have hif : i < f.length:=by omega
   have hw : IntKind.i64.wrap ((i : Int) + 1) = (i : Int) + 1:=w64 (by omega) (by omega)
   have hw2 : IntKind.i64.wrap (-((i : Int) + 1)) = -((i : Int) + 1):=w64 (by omega) (by omega)
   obtain ⟨e,he⟩ : ∃ e,e = A[i]:=⟨_,rfl⟩
   obtain ⟨v,hv⟩ : ∃ v,v = f[i]:=⟨_,rfl⟩
   have hfwd:=fun (D b : List Int)=>tryS_fwd (k:=k) (D:=D) (b:=b) h12 hif
   have hbwd:=fun (D b : List Int)=>tryS_bwd (k:=k) (D:=D) (b:=b) h12 hif
   rw [← he,← hv] at hfwd hbwd
   have heo:=hav _ (List.getElem_mem h12)
   rw [← he] at heo
   obtain ⟨e1,e2,e3,e4,_⟩:=heo
   have hg1 : A[i]? = some e:=by rw [List.getElem?_eq_getElem h12,he]
   have hg2 : f[i]? = some v:=by rw [List.getElem?_eq_getElem hif,hv]
   have hkt : k ∈ t.D:=by rw [htl]; exact List.mem_append_left _ hkD
   refine awp_skip ?_
   refine awp_cut (ι:=BSt) (fun u=>⟨112,[(1,ints f),(2,.pv (nC ⟨N,A⟩)),(5,.rs 48 0 N),(6,.rs 80 0 N),(7,.rs 120 u.off u.q),(8,.I k),(9,.I i)],[(48,some ⟨1,rowsI u.b,0⟩),(80,some ⟨1,rowsB (marksL N u.D),0⟩),(120,some ⟨1,rowsI u.Z,0⟩)],2000⟩)
    (fun u=>BInv N A f u (m + 1) ∧ ClosedI A f u.D k (i + 1) ∧ ∃ l,u.D = t.D ++ l) ?_ fun u hu=>?_
   ·refine awp_block ?_
    refine awp_regc ⟨112,[(1,ints f),(2,.pv (nC ⟨N,A⟩)),(5,.rs 48 0 N),(6,.rs 80 0 N),(7,.rs 120 t.off t.q),(8,.I k),(9,.I i),(10,.pv (eC e))],[(48,some ⟨1,rowsI t.b,0⟩),(80,some ⟨1,rowsB (marksL N t.D),0⟩),(120,some ⟨1,rowsI t.Z,0⟩)],600⟩ rfl ?_ ?_
    ·simp [h12,← he]
     exact Le.go [(48,48),(80,80),(120,120)] [480] rfl rfl (by simp) (by simp)
    refine awp_cut (ι:=BSt) (fun u=>⟨112,[(1,ints f),(2,.pv (nC ⟨N,A⟩)),(5,.rs 48 0 N),(6,.rs 80 0 N),(7,.rs 120 u.off u.q),(8,.I k),(9,.I i),(10,.pv (eC e))],[(48,some ⟨1,rowsI u.b,0⟩),(80,some ⟨1,rowsB (marksL N u.D),0⟩),(120,some ⟨1,rowsI u.Z,0⟩)],1000⟩)
     (fun u=>BInv N A f u (m + 1) ∧ (u.D,u.b) = tryS A f k (i,false) (t.D,t.b)) ?_ fun u hu=>?_
    ·have hmk : (marksL N t.D)[e.t.toNat]? = some (decide (e.t ∈ t.D)):=marksL_get e3 (by omega)
     have hlt : e.t.toNat < N:=by omega
     have hlt2 : e.t < (N : Int):=by omega
     refine awp_dregc ⟨112,[(1,ints f),(2,.pv (nC ⟨N,A⟩)),(5,.rs 48 0 N),(6,.rs 80 0 N),(7,.rs 120 t.off t.q),(8,.I k),(9,.I i),(10,.pv (eC e)),(60,.B (decide (e.f = k ∧ v < e.v ∧ e.t ∉ t.D)))],[(48,some ⟨1,rowsI t.b,0⟩),(80,some ⟨1,rowsB (marksL N t.D),0⟩),(120,some ⟨1,rowsI t.Z,0⟩)],800⟩ rfl ?_ ?_
     ·by_cases hm : e.t ∈ t.D
      ·rw [decide_eq_true hm] at hmk
       simp
       repeat' first
        | (refine gcase (fun hb=>?_) (fun hb=>?_) <;> (try rw [hb]) <;> (try simp at hb) <;> simp [hb,hmk,hg2,e3,hlt2,hif,← hv])
       all_goals exact ⟨rfl,Le.go [(48,48),(80,80),(120,120)] [] rfl rfl (by simp [hb,hm]) (by simp)⟩
      ·rw [decide_eq_false hm] at hmk
       simp
       repeat' first
        | (refine gcase (fun hb=>?_) (fun hb=>?_) <;> (try rw [hb]) <;> (try simp at hb) <;> simp [hb,hmk,hg2,e3,hlt2,hif,← hv])
       all_goals exact ⟨rfl,Le.go [(48,48),(80,80),(120,120)] [] rfl rfl (by simp [hm]) (by simp)⟩
     refine awp_cond _ rfl (fun h15=>?_) fun h15=>?_
     ·rw [decide_eq_true_eq] at h15
      have hs1:=hfwd t.D t.b
      rw [if_pos h15] at hs1
      have hbk : ∃ y,t.b[e.t.toNat]? = some y:=⟨_,List.getElem?_eq_getElem (by rw [ht.bfs.len]; omega)⟩
      obtain ⟨y,hy⟩:=hbk
      have hbl : e.t.toNat < t.b.length:=by rw [ht.bfs.len]; omega
      have hbt : ∀ g : Int → List AV,List.take t.q (List.drop t.off (List.map g t.Z)) = List.map g (t.Z.drop t.off):=fun g=>by rw [← List.map_drop,List.take_of_length_le (by have:=ht.z; simp; omega)]
      have htz:=ht.z
      have htd:=ht.d
      have hms:=marksL_set (D:=t.D) e3 hlt2
      have hbu : Bfs N A f (t.D ++ [e.t]) (t.b.set e.t.toNat ((i : Int) + 1)):=by
       have h3:=tryS_ok (A:=A) (f:=f) (k:=k) (s:=(i,false)) (st:=(t.D,t.b)) ht.bfs hkt h12 (by unfold stT arcD; rw [List.getD_eq_getElem?_getD,hg1]; exact e3) (by unfold stT arcD; rw [List.getD_eq_getElem?_getD,hg1]; exact hlt2)
       rw [hs1] at h3
       exact h3
      have hfw:=hbu.few
      rw [List.length_append,List.length_singleton] at hfw
      refine awp_dregc ⟨112,[(1,ints f),(2,.pv (nC ⟨N,A⟩)),(5,.rs 48 0 N),(6,.rs 80 0 N),(7,.rs 120 t.off t.q),(8,.I k),(9,.I i),(10,.pv (eC e))],[(48,some ⟨1,rowsI (t.b.set e.t.toNat ((i : Int) + 1)),0⟩),(80,some ⟨1,rowsB (marksL N (t.D ++ [e.t])),0⟩),(120,some ⟨1,rowsI t.Z,0⟩)],900⟩ rfl ?_ ?_
      ·simp [hmk,e3,hlt2,hw,hy,splice]
       exact ⟨rfl,Le.go [(48,48),(80,80),(120,120)] [] rfl rfl (by simp) (by simp [← hms,fcd])⟩
      refine awp_reg rfl ?_
      simp [hbt]
      exact ⟨by omega,by omega,by omega,⟨t.D ++ [e.t],t.b.set e.t.toNat ((i : Int) + 1),t.Z.drop t.off ++ [e.t],0,t.q + 1⟩,⟨ht.more hbu,hs1.symm⟩,Le.go [(48,48),(80,80),(932,120)] [] rfl rfl (by simp) (by simp [fcd])⟩
     ·rw [decide_eq_false_iff_not] at h15
      have hs1:=hfwd t.D t.b
      rw [if_neg h15] at hs1
      refine awp_skip ?_
      exact ⟨t,⟨ht,hs1.symm⟩,Le.go [(48,48),(80,80),(120,120)] [] rfl rfl (by simp) (by simp)⟩
    obtain ⟨hu1,hu2⟩:=hu
    have hku : k ∈ u.D:=by
     obtain ⟨l1,e1⟩:=tryS_sub (A:=A) (f:=f) (k:=k) (s:=(i,false)) (st:=(t.D,t.b))
     rw [← hu2] at e1
     simp only at e1
     rw [e1]
     exact List.mem_append_left _ hkt
    have hul : ∃ l,u.D = t.D ++ l:=by
     obtain ⟨l1,e1⟩:=tryS_sub (A:=A) (f:=f) (k:=k) (s:=(i,false)) (st:=(t.D,t.b))
     rw [← hu2] at e1
     exact ⟨l1,e1⟩
    have hcl2 : ClosedI A f (tryS A f k (i,true) (u.D,u.b)).1 k (i + 1):=by
     rw [hu2]
     exact ClosedI.try2 (st:=(t.D,t.b)) htc
    have hmk : (marksL N u.D)[e.f.toNat]? = some (decide (e.f ∈ u.D)):=marksL_get e1 (by omega)
    have hlt : e.f.toNat < N:=by omega
    have hlt2 : e.f < (N : Int):=by omega
    have hub:=hbwd u.D u.b
    refine awp_regc ⟨112,[(1,ints f),(2,.pv (nC ⟨N,A⟩)),(5,.rs 48 0 N),(6,.rs 80 0 N),(7,.rs 120 u.off u.q),(8,.I k),(9,.I i),(10,.pv (eC e)),(94,.B (decide (e.t = k ∧ 0 < v ∧ e.f ∉ u.D)))],[(48,some ⟨1,rowsI u.b,0⟩),(80,some ⟨1,rowsB (marksL N u.D),0⟩),(120,some ⟨1,rowsI u.Z,0⟩)],1200⟩ rfl ?_ ?_
    ·by_cases hm : e.f ∈ u.D
     ·rw [decide_eq_true hm] at hmk
      simp
      repeat' first
       | (refine gcase (fun hb=>?_) (fun hb=>?_) <;> (try rw [hb]) <;> (try simp at hb) <;> simp [hb,hmk,hg2,e1,hlt2,hif,← hv])
      all_goals exact Le.go [(48,48),(80,80),(120,120)] [] rfl rfl (by simp [hb,hm]) (by simp)
     ·rw [decide_eq_false hm] at hmk
      simp
      repeat' first
       | (refine gcase (fun hb=>?_) (fun hb=>?_) <;> (try rw [hb]) <;> (try simp at hb) <;> simp [hb,hmk,hg2,e1,hlt2,hif,← hv])
      all_goals exact Le.go [(48,48),(80,80),(120,120)] [] rfl rfl (by simp [hm]) (by simp)
    refine awp_cond _ rfl (fun h15=>?_) fun h15=>?_
    ·rw [decide_eq_true_eq] at h15
     rw [if_pos h15] at hub
     obtain ⟨y,hy⟩ : ∃ y,u.b[e.f.toNat]? = some y:=⟨_,List.getElem?_eq_getElem (by rw [hu1.bfs.len]; omega)⟩
     have hbt : ∀ g : Int → List AV,List.take u.q (List.drop u.off (List.map g u.Z)) = List.map g (u.Z.drop u.off):=fun g=>by rw [← List.map_drop,List.take_of_length_le (by have:=hu1.z; simp; omega)]
     have htz:=hu1.z
     have htd:=hu1.d
     have hms:=marksL_set (D:=u.D) e1 hlt2
     have hbu : Bfs N A f (u.D ++ [e.f]) (u.b.set e.f.toNat (-((i : Int) + 1))):=by
      have h3:=tryS_ok (A:=A) (f:=f) (k:=k) (s:=(i,true)) (st:=(u.D,u.b)) hu1.bfs hku h12 (by unfold stT arcD; rw [List.getD_eq_getElem?_getD,hg1]; exact e1) (by unfold stT arcD; rw [List.getD_eq_getElem?_getD,hg1]; exact hlt2)
      rw [hub] at h3
      exact h3
     have hfw:=hbu.few
     rw [List.length_append,List.length_singleton] at hfw
     refine awp_dregc ⟨112,[(1,ints f),(2,.pv (nC ⟨N,A⟩)),(5,.rs 48 0 N),(6,.rs 80 0 N),(7,.rs 120 u.off u.q),(8,.I k),(9,.I i),(10,.pv (eC e))],[(48,some ⟨1,rowsI (u.b.set e.f.toNat (-((i : Int) + 1))),0⟩),(80,some ⟨1,rowsB (marksL N (u.D ++ [e.f])),0⟩),(120,some ⟨1,rowsI u.Z,0⟩)],1400⟩ rfl ?_ ?_
     ·simp [hmk,e1,hlt2,hw,hw2,hy,splice]
      exact ⟨rfl,Le.go [(48,48),(80,80),(120,120)] [] rfl rfl (by simp) (by simp [← hms,fcd])⟩
     refine awp_reg rfl ?_
     simp [hbt]
     rw [hub] at hcl2
     refine ⟨by omega,by omega,by omega,⟨u.D ++ [e.f],u.b.set e.f.toNat (-((i : Int) + 1)),u.Z.drop u.off ++ [e.f],0,u.q + 1⟩,⟨hu1.more hbu,hcl2,?_⟩,Le.go [(48,48),(80,80),(1432,120)] [] rfl rfl (by simp) (by simp [fcd])⟩
     obtain ⟨l1,e1⟩:=hul
     exact ⟨l1 ++ [e.f],by simp only [e1,List.append_assoc]⟩
    ·rw [decide_eq_false_iff_not] at h15
     rw [if_neg h15] at hub
     rw [hub] at hcl2
     refine awp_skip ?_
     exact ⟨u,⟨hu1,hcl2,hul⟩,Le.go [(48,48),(80,80),(120,120)] [] rfl rfl (by simp) (by simp)⟩
   obtain ⟨hu1,hu2,l2,hu3⟩:=hu
   refine awp_run (s:=?s30) rfl ?o30 ?q30
   case o30=>simp; rfl
   exact ⟨(u,i + 1),⟨hu1,h12,hu2,l ++ l2,by rw [hu3,htl,List.append_assoc]⟩,Nat.sub_lt_sub_left h12 (Nat.lt_succ_self i),Le.go [(48,48),(80,80),(120,120)] [] rfl rfl (by simp [hw]) (by simp)⟩
  simp at h12
  obtain rfl : i = A.length:=by omega
  refine awp_exit ?_
  refine hit ?_
  rw [hkd] at htc
  refine ⟨(t,m + 1),⟨ht,ClosedM.next hmD hcl htc htl⟩,?_,Le.go [(48,48),(80,80),(120,120)] [] rfl rfl (by simp) (by simp)⟩
  simp only
  omega
 simp at h7
 have hmD : m = s.D.length:=by omega
 refine awp_exit ?_
 refine hit ?_
 refine rk (s:=?s23) [4] [48] rfl ?o23 ?q23
 case o23=>simp; rfl
 refine awp_ret ?_
 exact PostX.mk (.inr rfl) (s.D,s.b) ⟨hb.bfs,by rw [hmD] at hcl; exact hcl.all⟩ (RetOk.out [48] [] rfl (by simp) (by simp) (by simp) (by simp [fcd]))
theorem nodup_rev {α : Type} {l : List α} (h : l.Nodup) : l.reverse.Nodup:=List.pairwise_reverse.2 (h.imp fun hne e=>hne e.symm)
theorem enc_dec {v : Int} (hv : v ≠ 0) : encS (decS v) = v:=by
 unfold decS encS
 by_cases h : 0 < v
 ·rw [if_pos h]; simp; omega
 ·rw [if_neg h]; simp; omega
def endW (A : List Ed) (u : Int) (l : List Stp) : Nat → Int
 | 0=>u
 | j + 1=>stT A (l.getD j (0,false))
theorem endW_cons {A : List Ed} {u : Int} {s : Stp} {l : List Stp} (j : Nat) : endW A u (s :: l) (j + 1) = endW A (stT A s) l j:=by
 cases j <;> rfl
theorem way_at {A : List Ed} : ∀ {l : List Stp} {u w : Int},WayS A u l w → ∀ j (hj : j < l.length),stF A l[j] = endW A u l j
 | s :: l,u,w,h,0,_=>h.2.1
 | s :: l,u,w,h,j + 1,hj=>by
   rw [endW_cons]
   exact way_at h.2.2 j (by simpa using hj)
theorem way_end {A : List Ed} : ∀ {l : List Stp} {u w : Int},WayS A u l w → endW A u l l.length = w
 | [],u,w,h=>h
 | s :: l,u,w,h=>by
   rw [List.length_cons,endW_cons]
   exact way_end h.2.2
variable {N : Nat} {A : List Ed} {f D b : List Int}
structure ChainS (N : Nat) (A : List Ed) (f b : List Int) (l : List Stp) : Prop where
 way : WayS A 0 l 1
 nodup : (l.map (·.1)).Nodup
 at_ : ∀ j (h : j < l.length),l[j].1 < A.length ∧ 0 < roomS A f l[j] ∧ stT A l[j] ≠ 0 ∧ 0 ≤ stT A l[j] ∧ stT A l[j] < N ∧ b.getD (stT A l[j]).toNat 0 = encS l[j]
theorem Bfs.chain (h : Bfs N A f D b) (h1 : (1 : Int) ∈ D) : ∃ l,ChainS N A f b l:=by
 obtain ⟨j,hj,hx⟩:=List.mem_iff_getElem.1 h1
 obtain ⟨l,l1,l2,l3⟩:=h.tree.way j j hj (Nat.le_refl _)
 rw [hx] at l1
 refine ⟨l,l1,l2,fun i hi=>?_⟩
 obtain ⟨q1,q2,q3,q4,_,q5⟩:=l3 _ (List.getElem_mem hi)
 have hm:=List.mem_of_mem_take q5
 have hr:=h.rng _ hm
 have hne:=h.inn _ hm q4
 refine ⟨q1,q2,q4,hr.1,hr.2,?_⟩
 rw [← enc_dec hne,q3]
theorem ChainS.from_ {l : List Stp} (h : ChainS N A f b l) (j : Nat) (hj : j < l.length) : stF A l[j] = endW A 0 l j:=way_at h.way j hj
def pushB (v : Int) (f : List Int) (l : List Stp) (j : Nat) : List Int:=pushL v f (l.drop j).reverse
theorem pushB_end (v : Int) (f : List Int) (l : List Stp) : pushB v f l l.length = f:=by simp [pushB,pushL]
theorem pushB_len (v : Int) (f : List Int) (l : List Stp) (j : Nat) : (pushB v f l j).length = f.length:=pushL_len
theorem pushB_step {v : Int} {f : List Int} {l : List Stp} (j : Nat) (hj : j < l.length) : pushB v f l j = pushS v (pushB v f l (j + 1)) l[j]:=by
 unfold pushB pushL
 rw [List.drop_eq_getElem_cons hj,List.reverse_cons,List.foldl_append]
 rfl
theorem pushB_get {v : Int} {l : List Stp} (hn : (l.map (·.1)).Nodup) (hr : ∀ s ∈ l,s.1 < f.length) (j : Nat) (hj : j < l.length) : (pushB v f l (j + 1)).getD l[j].1 0 = f.getD l[j].1 0:=by
 refine (pushL_get (δ:=v) (f:=f) (i:=l[j].1) (l:=(l.drop (j + 1)).reverse) ?_ ?_).1 ?_
 ·rw [List.map_reverse]
  refine nodup_rev ?_
  exact hn.sublist ((List.drop_sublist _ _).map _)
 ·intro s hs
  exact hr s (List.mem_of_mem_drop (List.mem_reverse.1 hs))
 ·rw [List.map_reverse,List.mem_reverse]
  intro hm
  obtain ⟨s,hs,he⟩:=List.mem_map.1 hm
  obtain ⟨i,hi,rfl⟩:=List.mem_iff_getElem.1 hs
  rw [List.length_drop] at hi
  rw [List.getElem_drop] at he
  have h1:=(List.pairwise_iff_getElem.1 hn) j (j + 1 + i) (by rw [List.length_map]; exact hj) (by rw [List.length_map]; omega) (by omega)
  rw [List.getElem_map,List.getElem_map] at h1
  exact h1 he.symm
theorem pushB_all {v : Int} {l : List Stp} (hn : (l.map (·.1)).Nodup) (hr : ∀ s ∈ l,s.1 < f.length) : pushB v f l 0 = pushL v f l:=by
 unfold pushB
 rw [List.drop_zero]
 have hn' : (l.reverse.map (·.1)).Nodup:=by rw [List.map_reverse]; exact nodup_rev hn
 have hr' : ∀ s ∈ l.reverse,s.1 < f.length:=fun s hs=>hr s (List.mem_reverse.1 hs)
 apply List.ext_getElem (by rw [pushL_len,pushL_len])
 intro i h1 h2
 have e : ∀ (L : List Int) (h : i < L.length),L[i] = L.getD i 0:=fun L h=>by rw [List.getD_eq_getElem?_getD,List.getElem?_eq_getElem h,Option.getD_some]
 rw [e _ h1,e _ h2]
 have g1:=pushL_get (δ:=v) (f:=f) (i:=i) hn' hr'
 have g2:=pushL_get (δ:=v) (f:=f) (i:=i) hn hr
 by_cases hm : i ∈ l.map (·.1)
 ·obtain ⟨s,hs,rfl⟩:=List.mem_map.1 hm
  rw [g1.2 s.2 (List.mem_reverse.2 hs),g2.2 s.2 hs]
 ·rw [g1.1 (by rw [List.map_reverse,List.mem_reverse]; exact hm),g2.1 hm]
theorem ChainS.push {l : List Stp} (hn : NetOk N A) (hf : FlowOk N A f) (h : ChainS N A f b l) {v : Int} (h0 : 0 ≤ v) (hv : ∀ s ∈ l,v ≤ roomS A f s) : FlowOk N A (pushB v f l 0) ∧ valF A (pushB v f l 0) = valF A f + v:=by
 have hr : ∀ s ∈ l,s.1 < A.length:=fun s hs=>by
  obtain ⟨i,hi,rfl⟩:=List.mem_iff_getElem.1 hs
  exact (h.at_ i hi).1
 rw [pushB_all h.nodup fun s hs=>by rw [hf.fit.len]; exact hr s hs]
 exact push_ok hn hf h0 h.way h.nodup fun s hs=>⟨hr s hs,hv s hs⟩
theorem netOk_of {A : List Ed} {N : Nat} (h : NetVal ⟨N,A⟩) : NetOk N A:=by
 obtain ⟨h1,_,_,h4⟩:=h
 simp only at h1 h4
 refine ⟨by omega,fun e he=>?_⟩
 obtain ⟨q1,q2,q3,q4,q5,q6,q7,q8,_⟩:=h4 e he
 exact ⟨q1,by omega,q3,by omega,q5,q6,q7,q8⟩
theorem begC_sub {P Q : List (List Int)} (h : P.Sublist Q) (k : Int) : begC P k ≤ begC Q k:=h.countP_le
theorem useC_sub {P Q : List (List Int)} (h : P.Sublist Q) (k : Int) : useC P k ≤ useC Q k:=by
 unfold useC
 induction h with
 | slnil=>exact Nat.le_refl _
 | cons a _ ih=>rw [List.flatMap_cons,List.count_append]; omega
 | cons_cons a _ ih=>rw [List.flatMap_cons,List.flatMap_cons,List.count_append,List.count_append]; omega
theorem RoomP.sub {c : List Int} {P Q : List (List Int)} (h : RoomP c Q) (hs : P.Sublist Q) : RoomP c P:=fun k hk=>by
 have h1:=h k hk
 have h2:=begC_sub hs k
 have h3:=useC_sub hs k
 omega
theorem flow_zero {N : Nat} {A : List Ed} (hn : NetOk N A) : FlowOk N A (A.map fun _=>0):=by
 have hs : ∀ (φ : Ed → Int → Int),(∀ e,φ e 0 = 0) → ∀ A : List Ed,sumF φ A (A.map fun _=>0) = 0:=by
  intro φ hφ A
  induction A with
  | nil=>simp [sumF]
  | cons e A ih=>simp only [List.map_cons,sumF]; rw [hφ,ih]; omega
 refine ⟨?_,fun x _ _=>?_⟩
 ·have h0 : ∀ B : List Ed,(∀ e ∈ B,0 ≤ e.v) → Fit2 B (B.map fun _=>0):=by
   intro B
   induction B with
   | nil=>intro _; exact True.intro
   | cons e B ih=>intro h; exact ⟨⟨Int.le_refl _,h e (List.mem_cons_self ..)⟩,ih fun x hx=>h x (List.mem_cons_of_mem _ hx)⟩
  exact h0 A fun e he=>(hn.arc e he).2.2.2.2.2.2.2
 ·unfold outF inF
  rw [hs _ fun e=>by split <;> rfl,hs _ fun e=>by split <;> rfl]
theorem ex_greatest {N : Nat} {A : List Ed} (hn : NetOk N A) : ∃ f,FlowOk N A f ∧ ∀ f',FlowOk N A f' → valF A f' ≤ valF A f:=by
 have hb : ∀ f,FlowOk N A f → valF A f ≤ capS (fun x=>decide (x = 0)) A:=fun f hf=>val_le_cut hn hf (by simp) (by simp)
 have key : ∀ (n : Nat) (f : List Int),FlowOk N A f → capS (fun x=>decide (x = 0)) A - valF A f ≤ n → ∃ f,FlowOk N A f ∧ ∀ f',FlowOk N A f' → valF A f' ≤ valF A f:=by
  intro n
  induction n with
  | zero =>
    intro f hf h
    exact ⟨f,hf,fun f' hf'=>by have:=hb f' hf'; omega⟩
  | succ n ih =>
    intro f hf h
    by_cases hm : ∀ f',FlowOk N A f' → valF A f' ≤ valF A f
    ·exact ⟨f,hf,hm⟩
    ·obtain ⟨f',hf'⟩:=Classical.not_forall.1 hm
     obtain ⟨h1,h2⟩:=Classical.not_imp.1 hf'
     exact ih f' h1 (by omega)
 exact key _ _ (flow_zero hn) (Int.self_le_toNat _)
noncomputable def maxF (N : Nat) (A : List Ed) : Int:=open Classical in if h : ∃ f,FlowOk N A f ∧ ∀ f',FlowOk N A f' → valF A f' ≤ valF A f then valF A h.choose else 0
theorem maxF_of {N : Nat} {A : List Ed} {f : List Int} (hf : FlowOk N A f) (hm : ∀ f',FlowOk N A f' → valF A f' ≤ valF A f) : maxF N A = valF A f:=by
 have h : ∃ f,FlowOk N A f ∧ ∀ f',FlowOk N A f' → valF A f' ≤ valF A f:=⟨f,hf,hm⟩
 unfold maxF
 rw [dif_pos h]
 have h1:=h.choose_spec
 have h2:=hm _ h1.1
 have h3:=h1.2 _ hf
 omega
theorem maxF_has {N : Nat} {A : List Ed} (hn : NetOk N A) : ∃ f,FlowOk N A f ∧ valF A f = maxF N A:=by
 obtain ⟨m,h1,h2⟩:=ex_greatest hn
 exact ⟨m,h1,(maxF_of h1 h2).symm⟩
structure MSt where
 j : Nat
 v : Int
def RoomB (A : List Ed) (f : List Int) (l : List Stp) (j : Nat) (v : Int) : Prop:=∀ t ∈ l.drop j,v ≤ roomS A f t
set_option maxRecDepth 100000 in
set_option maxHeartbeats 4000000 in
theorem Max_a (N : Nat) (A : List Ed) (hn : NetVal ⟨N,A⟩) :
  ∃ f : List Int,(FlowOk N A f ∧ ∀ f',FlowOk N A f' → valF A f' ≤ valF A f) ∧ ACalls Tryz.prog nref15_Max [eN ⟨N,A⟩] [] (.tup [.rs 0 0 A.length,.I 0]) [some ⟨1,rowsI f,0⟩]:=by
 refine sref15_Max.acallsX (args:=[eN ⟨N,A⟩]) (hs:=[]) (fun f=>.tup [.rs 0 0 A.length,.I 0]) (fun f=>[some ⟨1,rowsI f,0⟩]) (fun f : List Int=>FlowOk N A f ∧ ∀ f',FlowOk N A f' → valF A f' ≤ valF A f) (Nat.le_of_ble_eq_true rfl) (Nat.le_of_ble_eq_true rfl) (fun _=>by simp) ?_
 show awp _ 0 _ _ ⟨112,[(0,eN ⟨N,A⟩)],[],16⟩
 have hno:=netOk_of hn
 have hchk:=ref15_Check_ok ⟨N,A⟩ (by have:=hn.2.2.1; simp only at this ⊢; omega)
 rw [if_pos hn] at hchk
 have hres:=fun f hf=>Residual_a N A f hn hf
 obtain ⟨hn0,hn1,hal,hav⟩:=hn
 simp only at hn0 hn1 hal hav
 refine rx (s:=?s1) [1] [] [16] rfl ?o1 ?q1
 case o1=>simp; rfl
 refine awp_seq ?_
 refine rx (s:=?s2) [1,13] [] [] rfl ?o2 ?q2
 case o2=>simp; refine call0e hchk (by simp) ?_; simp; rfl
 refine awp_cond _ rfl (fun h3=>by cases h3) fun h3=>?_
 refine awp_skip ?_
 refine awp_regc ⟨112,[(1,.pv (nC ⟨N,A⟩)),(4,.rs 88 0 A.length)],[(88,some ⟨1,rowsI (A.map fun _=>0),0⟩)],104⟩ rfl ?_ ?_
 ·simp
  refine ⟨by omega,by omega,?_⟩
  exact Le.go [(88,88)] [] rfl rfl (by simp) (by simp [List.map_const',fcd])
 refine awp_block ?_
 refine awp_loop (ι:=List Int) (fun f=>⟨112,[(1,.pv (nC ⟨N,A⟩)),(4,.rs 88 0 A.length)],[(88,some ⟨1,rowsI f,0⟩)],104⟩) (fun f=>FlowOk N A f) (fun f=>(capS (fun x=>decide (x = 0)) A - valF A f).toNat) (A.map fun _=>0) (flow_zero hno) (Le.go [(88,88)] [] rfl rfl (by simp) (by simp [fcd])) ?_
 intro f hf
 have hfl:=hf.fit.len
 obtain ⟨⟨D,b⟩,⟨hb,hcl⟩,hcall⟩:=hres f hfl
 simp only at hb hcl hcall
 have hblen:=hb.len
 have htake : ∀ g : Int → List AV,List.take A.length (List.map g f) = List.map g f:=fun g=>List.take_of_length_le (by simp; omega)
 refine awp_block ?_
 refine awp_regc ⟨112,[(1,.pv (nC ⟨N,A⟩)),(4,.rs 88 0 A.length),(5,.rs 90 0 N)],[(88,some ⟨1,rowsI f,0⟩),(90,some ⟨1,rowsI b,0⟩)],200⟩ rfl ?_ ?_
 ·simp
  refine callN1r [88] hcall (by simp [fcd,htake,hfl]) (.rs _ _ _) plainI ?_
  simp
  exact Le.go [(88,88),(120,90)] [] rfl rfl (by simp) (by simp [fcd])
 obtain ⟨y1,hy1⟩ : ∃ y,y = b.getD 1 0:=⟨_,rfl⟩
 have hb1 : b[1]? = some y1:=by rw [hy1,List.getD_eq_getElem?_getD,List.getElem?_eq_getElem (by omega),Option.getD_some]
 refine awp_seq ?_
 refine awp_regc ⟨112,[(1,.pv (nC ⟨N,A⟩)),(4,.rs 88 0 A.length),(5,.rs 90 0 N),(24,.B (y1 == 0))],[(88,some ⟨1,rowsI f,0⟩),(90,some ⟨1,rowsI b,0⟩)],300⟩ rfl ?_ ?_
 ·have h1N : (1 : Int) < N:=by omega
  simp [hb1,h1N]
  exact Le.go [(88,88),(90,90)] [] rfl rfl (by simp) (by simp [fcd])
 have hcode : ∀ k : Nat,k < N → b[k]? = some (b.getD k 0):=fun k hk=>by rw [List.getD_eq_getElem?_getD,List.getElem?_eq_getElem (by omega),Option.getD_some]
 refine awp_cond _ rfl (fun h8=>?_) fun h8=>?_
 ·simp at h8
  refine awp_regc ⟨112,[(2,.rs 88 0 A.length),(3,.I 0)],[(88,some ⟨1,rowsI f,0⟩)],400⟩ rfl ?_ ?_
  ·simp
   exact Le.go [(88,88)] [] rfl rfl (by simp) (by simp [fcd])
  have h1D : (1 : Int) ∉ D:=fun hm=>by
   have h2:=hb.inn 1 hm (by decide)
   exact h2 (by rw [show b.getD (Int.toNat 1) 0 = y1 from hy1.symm,h8])
  refine awp_ret ?_
  exact PostX.mk (.inr rfl) f ⟨hf,(greatest hno hf hb.mem0 h1D hcl).2⟩ (RetOk.out [88] [] rfl (by simp) (by simp) (by simp) (by simp [fcd]))
 simp at h8
 have h1D : (1 : Int) ∈ D:=Decidable.byContradiction fun hm=>h8 (by rw [hy1]; exact hb.out 1 (by decide) hm)
 obtain ⟨l,hl⟩:=hb.chain h1D
 have hle:=way_end hl.way
 have hfit:=fit2_iff.1 hf.fit
 have hlr : ∀ s ∈ l,s.1 < f.length:=fun s hs=>by
  obtain ⟨i,hi,rfl⟩:=List.mem_iff_getElem.1 hs
  have:=(hl.at_ i hi).1
  omega
 have hl0 : 0 < l.length:=by
  cases hll : l with
  | nil=>rw [hll] at hle; cases hle
  | cons=>simp
 refine awp_skip ?_
 refine awp_regc ⟨112,[(1,.pv (nC ⟨N,A⟩)),(4,.rs 88 0 A.length),(5,.rs 90 0 N),(6,.I 1048576)],[(88,some ⟨1,rowsI f,0⟩),(90,some ⟨1,rowsI b,0⟩)],400⟩ rfl ?_ ?_
 ·simp
  exact Le.go [(88,88),(90,90)] [] rfl rfl (by simp) (by simp [fcd])
 refine awp_cut (ι:=Int) (fun v=>⟨112,[(1,.pv (nC ⟨N,A⟩)),(4,.rs 88 0 A.length),(5,.rs 90 0 N),(6,.I v)],[(88,some ⟨1,rowsI f,0⟩),(90,some ⟨1,rowsI b,0⟩)],600⟩) (fun v=>1 ≤ v ∧ v ≤ 1048576 ∧ RoomB A f l 0 v) ?_ fun v hv=>?_
 ·refine awp_regc ⟨112,[(1,.pv (nC ⟨N,A⟩)),(4,.rs 88 0 A.length),(5,.rs 90 0 N),(6,.I 1048576),(7,.I 1)],[(88,some ⟨1,rowsI f,0⟩),(90,some ⟨1,rowsI b,0⟩)],500⟩ rfl ?_ ?_
  ·simp
   exact Le.go [(88,88),(90,90)] [] rfl rfl (by simp) (by simp [fcd])
  refine awp_block ?_
  refine awp_loop (ι:=MSt) (fun s=>⟨112,[(1,.pv (nC ⟨N,A⟩)),(4,.rs 88 0 A.length),(5,.rs 90 0 N),(6,.I s.v),(7,.I (endW A 0 l s.j))],[(88,some ⟨1,rowsI f,0⟩),(90,some ⟨1,rowsI b,0⟩)],600⟩)
   (fun s=>s.j ≤ l.length ∧ 1 ≤ s.v ∧ s.v ≤ 1048576 ∧ RoomB A f l s.j s.v) (fun s=>s.j) ⟨l.length,1048576⟩ ⟨Nat.le_refl _,by simp,by simp,by simp [RoomB]⟩ (Le.go [(88,88),(90,90)] [] rfl rfl (by simp [hle]) (by simp [fcd])) ?_
  rintro ⟨j,v⟩ ⟨hj,hv1,hv2,hv3⟩
  simp only at hj hv1 hv2 hv3
  refine awp_seq ?_
  refine rk (s:=?s12) [1,4,5,6,7,27] [88,90] rfl ?o12 ?q12
  case o12=>simp; rfl
  refine awp_cond _ rfl (fun h13=>?_) fun h13=>?_
  ·simp at h13
   obtain ⟨i,rfl⟩ : ∃ i,j = i + 1:=by
    cases j with
    | zero=>exact absurd rfl h13
    | succ i=>exact ⟨i,rfl⟩
   have hi : i < l.length:=by omega
   obtain ⟨q1,q2,q3,q4,q5,q6⟩:=hl.at_ i hi
   have hfr:=hl.from_ i hi
   obtain ⟨s,hs⟩ : ∃ s,s = l[i]:=⟨_,rfl⟩
   have hk : endW A 0 l (i + 1) = stT A s:=by
    show stT A (l.getD i (0,false)) = _
    rw [List.getD_eq_getElem?_getD,List.getElem?_eq_getElem hi,hs]
    rfl
   have hvn : ∀ v' : Int,v' ≤ v → v' ≤ roomS A f s → RoomB A f l i v':=fun v' h1 h2 t ht=>by
    rw [List.drop_eq_getElem_cons hi,← hs] at ht
    rcases List.mem_cons.1 ht with rfl | ht
    ·exact h2
    ·exact Int.le_trans h1 (hv3 t ht)
   rw [← hs] at q1 q2 q3 q4 q5 q6 hfr
   rw [hk]
   obtain ⟨k,hkd⟩ : ∃ k,k = stT A s:=⟨_,rfl⟩
   rw [← hkd] at q4 q5 q6 ⊢
   have hbk:=hcode k.toNat (by omega)
   obtain ⟨x,hx⟩ : ∃ x,x = encS s:=⟨_,rfl⟩
   rw [q6,← hx] at hbk
   refine awp_skip ?_
   refine awp_block ?_
   refine rk (s:=?s14) [1,4,5,6,8] [88,90] rfl ?o14 ?q14
   case o14=>simp [hbk,q4,q5]; rfl
   have hfa:=hfit.2 s.1 q1
   have heo:=hav _ (arcD_mem q1)
   obtain ⟨e,he⟩ : ∃ e,e = arcD A s.1:=⟨_,rfl⟩
   obtain ⟨w,hw⟩ : ∃ w,w = f.getD s.1 0:=⟨_,rfl⟩
   have hg1 : A[s.1]? = some e:=by rw [he]; unfold arcD; rw [List.getD_eq_getElem?_getD,List.getElem?_eq_getElem q1,Option.getD_some]
   have hg2 : f[s.1]? = some w:=by rw [hw,List.getD_eq_getElem?_getD,List.getElem?_eq_getElem (by omega),Option.getD_some]
   rw [← he,← hw] at hfa
   rw [← he] at heo
   obtain ⟨e1,e2,e3,e4,e5,e6,e7,e8,e9⟩:=heo
   obtain ⟨a,c⟩:=s
   simp only at q1 hg1 hg2 he hw
   have hal' : a < A.length:=q1
   have ha0 : (0 : Int) ≤ a ∧ (a : Int) < A.length:=by omega
   have hafl : a < f.length:=by omega
   have hAe : A[a] = e:=by rw [List.getElem?_eq_getElem hal'] at hg1; exact Option.some.inj hg1
   have hfw : f[a] = w:=by rw [List.getElem?_eq_getElem hafl] at hg2; exact Option.some.inj hg2
   cases c with
   | false =>
     have hen : encS (a,false) = (a : Int) + 1:=rfl
     have hro : roomS A f (a,false) = e.v - w:=by unfold roomS; simp [he,hw]
     have hst : stF A (a,false) = e.f:=by unfold stF; simp [he]
     rw [hen] at hx
     rw [hst] at hfr
     rw [hro] at q2 hvn
     have hw1 : IntKind.i64.wrap (x - 1) = (a : Int):=by rw [w64 (by omega) (by omega)]; omega
     have hw2 : IntKind.i64.wrap (e.v - w) = e.v - w:=w64 (by omega) (by omega)
     refine rk (s:=?s15) [1,4,5,6,8,33] [88,90] rfl ?o15 ?q15
     case o15=>simp; rfl
     refine awp_cond _ rfl (fun h16=>?_) fun h16=>?_
     ·refine awp_drw rfl ?_
      simp [hw1,hw2,ha0,hal',hafl,hAe,hfw]
      refine ⟨rfl,⟨i,if e.v - w < v then e.v - w else v⟩,⟨by simp only; omega,by simp only; split <;> omega,by simp only; split <;> omega,hvn (if e.v - w < v then e.v - w else v) (by split <;> omega) (by split <;> omega)⟩,Nat.lt_succ_self i,Le.go [(88,88),(90,90)] [] rfl rfl (by simp [hfr]) (by simp [fcd])⟩
     ·simp at h16
      omega
   | true =>
     have hen : encS (a,true) = -((a : Int) + 1):=rfl
     have hro : roomS A f (a,true) = w:=by unfold roomS; simp [hw]
     have hst : stF A (a,true) = e.t:=by unfold stF; simp [he]
     rw [hen] at hx
     rw [hst] at hfr
     rw [hro] at q2 hvn
     have hw0 : IntKind.i64.wrap (-x) = (a : Int) + 1:=by rw [w64 (by omega) (by omega)]; omega
     have hw1 : IntKind.i64.wrap (a : Int) = (a : Int):=w64 (by omega) (by omega)
     refine rk (s:=?s25) [1,4,5,6,8,33] [88,90] rfl ?o25 ?q25
     case o25=>simp; rfl
     refine awp_cond _ rfl (fun h16=>?_) fun h16=>?_
     ·simp at h16
      omega
     ·refine awp_drw rfl ?_
      simp [hw0,hw1,ha0,hal',hafl,hAe,hfw]
      refine ⟨rfl,⟨i,if w < v then w else v⟩,⟨by simp only; omega,by simp only; split <;> omega,by simp only; split <;> omega,hvn (if w < v then w else v) (by split <;> omega) (by split <;> omega)⟩,Nat.lt_succ_self i,Le.go [(88,88),(90,90)] [] rfl rfl (by simp [hfr]) (by simp [fcd])⟩
  simp at h13
  obtain rfl : j = 0:=by
   cases j with
   | zero=>rfl
   | succ i =>
     have h2:=(hl.at_ i (by omega)).2.2.1
     refine absurd ?_ h2
     have h3 : endW A 0 l (i + 1) = stT A (l.getD i (0,false)):=rfl
     rw [h3,List.getD_eq_getElem?_getD,List.getElem?_eq_getElem (by omega)] at h13
     exact h13
  refine awp_exit ?_
  refine hit ?_
  exact ⟨v,⟨hv1,hv2,hv3⟩,Le.go [(88,88),(90,90)] [] rfl rfl (by simp) (by simp [fcd])⟩
 obtain ⟨hv1,hv2,hv3⟩:=hv
 have hv3' : ∀ s ∈ l,v ≤ roomS A f s:=fun s hs=>hv3 s (by simpa using hs)
 obtain ⟨hf2,hval⟩:=hl.push hno hf (by omega) hv3'
 have hbnd:=val_le_cut (S:=fun x=>decide (x = 0)) hno hf2 (by simp) (by simp)
 refine awp_regc ⟨112,[(1,.pv (nC ⟨N,A⟩)),(4,.rs 88 0 A.length),(5,.rs 90 0 N),(6,.I v),(9,.I 1)],[(88,some ⟨1,rowsI f,0⟩),(90,some ⟨1,rowsI b,0⟩)],700⟩ rfl ?_ ?_
 ·simp
  exact Le.go [(88,88),(90,90)] [] rfl rfl (by simp) (by simp [fcd])
 refine awp_block ?_
 refine awp_loop (ι:=Nat) (fun j=>⟨112,[(1,.pv (nC ⟨N,A⟩)),(4,.rs 88 0 A.length),(5,.rs 90 0 N),(6,.I v),(9,.I (endW A 0 l j))],[(88,some ⟨1,rowsI (pushB v f l j),0⟩),(90,some ⟨1,rowsI b,0⟩)],800⟩)
  (fun j=>j ≤ l.length) (fun j=>j) l.length (Nat.le_refl _) (Le.go [(88,88),(90,90)] [] rfl rfl (by simp [hle]) (by simp [fcd,pushB_end])) ?_
 intro j hj
 refine awp_seq ?_
 refine awp_regc ⟨112,[(1,.pv (nC ⟨N,A⟩)),(4,.rs 88 0 A.length),(5,.rs 90 0 N),(6,.I v),(9,.I (endW A 0 l j)),(73,.B (!decide (endW A 0 l j = 0)))],[(88,some ⟨1,rowsI (pushB v f l j),0⟩),(90,some ⟨1,rowsI b,0⟩)],900⟩ rfl ?_ ?_
 ·simp
  exact Le.go [(88,88),(90,90)] [] rfl rfl (by simp <;> exact wkB (by rw [Bool.eq_iff_iff]; simp)) (by simp [fcd])
 refine awp_cond _ rfl (fun h19=>?_) fun h19=>?_
 ·simp at h19
  obtain ⟨i,rfl⟩ : ∃ i,j = i + 1:=by
   cases j with
   | zero=>exact absurd rfl h19
   | succ i=>exact ⟨i,rfl⟩
  have hi : i < l.length:=by omega
  obtain ⟨q1,q2,q3,q4,q5,q6⟩:=hl.at_ i hi
  have hfr:=hl.from_ i hi
  have hstep:=pushB_step (v:=v) (f:=f) i hi
  have hget:=pushB_get (v:=v) hl.nodup hlr i hi
  have hroom:=hv3' _ (List.getElem_mem hi)
  obtain ⟨s,hs⟩ : ∃ s,s = l[i]:=⟨_,rfl⟩
  have hk : endW A 0 l (i + 1) = stT A s:=by
   show stT A (l.getD i (0,false)) = _
   rw [List.getD_eq_getElem?_getD,List.getElem?_eq_getElem hi,hs]
   rfl
  rw [← hs] at q1 q2 q3 q4 q5 q6 hfr hstep hget hroom
  rw [hk]
  obtain ⟨k,hkd⟩ : ∃ k,k = stT A s:=⟨_,rfl⟩
  rw [← hkd] at q4 q5 q6 ⊢
  have hbk:=hcode k.toNat (by omega)
  obtain ⟨x,hx⟩ : ∃ x,x = encS s:=⟨_,rfl⟩
  rw [q6,← hx] at hbk
  have hFl : (pushB v f l (i + 1)).length = A.length:=by rw [pushB_len,hfl]
  obtain ⟨F,hF⟩ : ∃ F,F = pushB v f l (i + 1):=⟨_,rfl⟩
  rw [← hF] at hFl hget hstep ⊢
  have hfa:=hfit.2 s.1 q1
  have heo:=hav _ (arcD_mem q1)
  obtain ⟨e,he⟩ : ∃ e,e = arcD A s.1:=⟨_,rfl⟩
  obtain ⟨w,hw⟩ : ∃ w,w = f.getD s.1 0:=⟨_,rfl⟩
  have hg1 : A[s.1]? = some e:=by rw [he]; unfold arcD; rw [List.getD_eq_getElem?_getD,List.getElem?_eq_getElem q1,Option.getD_some]
  have hg2 : F[s.1]? = some w:=by rw [hw,← hget,List.getD_eq_getElem?_getD,List.getElem?_eq_getElem (by omega),Option.getD_some]
  rw [← he,← hw] at hfa
  rw [← he] at heo
  obtain ⟨e1,e2,e3,e4,e5,e6,e7,e8,e9⟩:=heo
  obtain ⟨a,c⟩:=s
  simp only at q1 hg1 hg2 he hw
  have hal' : a < A.length:=q1
  have ha0 : (0 : Int) ≤ a ∧ (a : Int) < A.length:=by omega
  have hafl : a < F.length:=by omega
  have hAe : A[a] = e:=by rw [List.getElem?_eq_getElem hal'] at hg1; exact Option.some.inj hg1
  have hfw : F[a] = w:=by rw [List.getElem?_eq_getElem hafl] at hg2; exact Option.some.inj hg2
  have hset : pushB v f l i = F.set a (w + if c then -v else v):=by rw [hstep]; unfold pushS; simp only [hget]; rw [hw]
  refine awp_skip ?_
  refine awp_block ?_
  refine awp_regc ⟨112,[(1,.pv (nC ⟨N,A⟩)),(4,.rs 88 0 A.length),(5,.rs 90 0 N),(6,.I v),(10,.I x)],[(88,some ⟨1,rowsI F,0⟩),(90,some ⟨1,rowsI b,0⟩)],1000⟩ rfl ?_ ?_
  ·simp [hbk,q4,q5]
   exact Le.go [(88,88),(90,90)] [] rfl rfl (by simp) (by simp [fcd])
  refine awp_regc ⟨112,[(1,.pv (nC ⟨N,A⟩)),(4,.rs 88 0 A.length),(5,.rs 90 0 N),(6,.I v),(10,.I x),(79,.B (decide (0 < x)))],[(88,some ⟨1,rowsI F,0⟩),(90,some ⟨1,rowsI b,0⟩)],1100⟩ rfl ?_ ?_
  ·simp
   exact Le.go [(88,88),(90,90)] [] rfl rfl (by simp) (by simp [fcd])
  cases c with
  | false =>
    have hen : encS (a,false) = (a : Int) + 1:=rfl
    have hro : roomS A f (a,false) = e.v - w:=by unfold roomS; simp [he,hw]
    have hst : stF A (a,false) = e.f:=by unfold stF; simp [he]
    rw [hen] at hx
    rw [hst] at hfr
    rw [hro] at hroom
    have hw1 : IntKind.i64.wrap (x - 1) = (a : Int):=by rw [w64 (by omega) (by omega)]; omega
    have hw2 : IntKind.i64.wrap (w + v) = w + v:=w64 (by omega) (by omega)
    refine awp_cond _ rfl (fun h16=>?_) fun h16=>?_
    ·refine awp_regc ⟨112,[(1,.pv (nC ⟨N,A⟩)),(4,.rs 88 0 A.length),(5,.rs 90 0 N),(6,.I v),(10,.I x)],[(88,some ⟨1,rowsI (F.set a (w + v)),0⟩),(90,some ⟨1,rowsI b,0⟩)],1300⟩ rfl ?_ ?_
     ·simp [hw1,hw2,ha0,hal',hafl,hAe,hfw,splice]
      exact Le.go [(88,88),(90,90)] [] rfl rfl (by simp) (by simp [fcd])
     refine awp_reg rfl ?_
     simp [hw1,ha0,hal',hAe]
     exact ⟨i,by omega,by omega,Le.go [(88,88),(90,90)] [] rfl rfl (by simp [hfr]) (by simp [fcd,hset])⟩
    ·simp at h16
     omega
  | true =>
    have hen : encS (a,true) = -((a : Int) + 1):=rfl
    have hro : roomS A f (a,true) = w:=by unfold roomS; simp [hw]
    have hst : stF A (a,true) = e.t:=by unfold stF; simp [he]
    rw [hen] at hx
    rw [hst] at hfr
    rw [hro] at hroom
    have hw0 : IntKind.i64.wrap (-x) = (a : Int) + 1:=by rw [w64 (by omega) (by omega)]; omega
    have hw1 : IntKind.i64.wrap (a : Int) = (a : Int):=w64 (by omega) (by omega)
    have hw2 : IntKind.i64.wrap (w - v) = w + -v:=by rw [w64 (by omega) (by omega)]; omega
    refine awp_cond _ rfl (fun h16=>?_) fun h16=>?_
    ·simp at h16
     omega
    ·refine awp_regc ⟨112,[(1,.pv (nC ⟨N,A⟩)),(4,.rs 88 0 A.length),(5,.rs 90 0 N),(6,.I v),(10,.I x)],[(88,some ⟨1,rowsI (F.set a (w + -v)),0⟩),(90,some ⟨1,rowsI b,0⟩)],1300⟩ rfl ?_ ?_
     ·simp [hw0,hw1,hw2,ha0,hal',hafl,hAe,hfw,splice]
      exact Le.go [(88,88),(90,90)] [] rfl rfl (by simp) (by simp [fcd])
     refine awp_reg rfl ?_
     simp [hw0,hw1,ha0,hal',hAe]
     exact ⟨i,by omega,by omega,Le.go [(88,88),(90,90)] [] rfl rfl (by simp [hfr]) (by simp [fcd,hset])⟩
 simp at h19
 obtain rfl : j = 0:=by
  cases j with
  | zero=>rfl
  | succ i =>
    have h2:=(hl.at_ i (by omega)).2.2.1
    refine absurd ?_ h2
    have h3 : endW A 0 l (i + 1) = stT A (l.getD i (0,false)):=rfl
    rw [h3,List.getD_eq_getElem?_getD,List.getElem?_eq_getElem (by omega)] at h19
    exact h19
 refine awp_exit ?_
 refine hit ?_
 exact ⟨pushB v f l 0,hf2,by rw [hval]; omega,Le.go [(88,88)] [] rfl rfl (by simp) (by simp [fcd])⟩
theorem sumF_take {φ : Ed → Int → Int} : ∀ {A : List Ed} {f : List Int} (i : Nat) (h1 : i < A.length) (h2 : i < f.length),sumF φ (A.take (i + 1)) (f.take (i + 1)) = sumF φ (A.take i) (f.take i) + φ A[i] f[i]
 | e :: A,v :: f,0,_,_=>by simp [sumF]
 | e :: A,v :: f,i + 1,h1,h2=>by
   have:=sumF_take (φ:=φ) (A:=A) (f:=f) i (by simpa using h1) (by simpa using h2)
   simp only [List.take_succ_cons,sumF,this,List.getElem_cons_succ]
   omega
def netG (A : List Ed) (f : List Int) (i : Nat) (x : Int) : Int:=inF (A.take i) (f.take i) x - outF (A.take i) (f.take i) x
variable {N : Nat} {A : List Ed} {f : List Int}
theorem netG_zero (x : Int) : netG A f 0 x = 0:=by simp [netG,inF,outF,sumF]
theorem netG_succ {i : Nat} (h1 : i < A.length) (h2 : i < f.length) (x : Int) : netG A f (i + 1) x = netG A f i x + (if A[i].t = x then f[i] else 0) - if A[i].f = x then f[i] else 0:=by
 unfold netG inF outF
 rw [sumF_take i h1 h2,sumF_take i h1 h2]
 omega
theorem netG_all (hl : f.length = A.length) (x : Int) : netG A f A.length x = - exF A f x:=by
 unfold netG exF
 rw [List.take_of_length_le (Nat.le_refl _),List.take_of_length_le (by omega)]
 omega
theorem netG_bound (hl : f.length = A.length) (hb : ∀ j (h : j < f.length),0 ≤ f[j] ∧ f[j] ≤ 1048576) (x : Int) : ∀ i,i ≤ A.length → -(1048576 * (i : Int)) ≤ netG A f i x ∧ netG A f i x ≤ 1048576 * (i : Int)
 | 0,_=>by rw [netG_zero]; omega
 | i + 1,h=>by
   have ih:=netG_bound hl hb x i (by omega)
   have h2:=hb i (by omega)
   rw [netG_succ (by omega) (by omega)]
   split <;> split <;> omega
theorem outF_succ {i : Nat} (h1 : i < A.length) (h2 : i < f.length) (x : Int) : outF (A.take (i + 1)) (f.take (i + 1)) x = outF (A.take i) (f.take i) x + if A[i].f = x then f[i] else 0:=by
 unfold outF
 rw [sumF_take i h1 h2]
theorem outF_bound (hl : f.length = A.length) (hb : ∀ j (h : j < f.length),0 ≤ f[j] ∧ f[j] ≤ 1048576) (x : Int) : ∀ i,i ≤ A.length → 0 ≤ outF (A.take i) (f.take i) x ∧ outF (A.take i) (f.take i) x ≤ 1048576 * (i : Int)
 | 0,_=>by simp [outF,sumF]
 | i + 1,h=>by
   have ih:=outF_bound hl hb x i (by omega)
   have h2:=hb i (by omega)
   rw [outF_succ (by omega) (by omega)]
   split <;> omega
def rowR (N : Nat) (g : Int → Int) : List Int:=(List.range N).map fun k : Nat=>g k
theorem rowR_len (N : Nat) (g : Int → Int) : (rowR N g).length = N:=by simp [rowR]
theorem rowR_get {g : Int → Int} {x : Int} (h0 : 0 ≤ x) (h1 : x < N) : (rowR N g)[x.toNat]? = some (g x):=by
 unfold rowR
 rw [List.getElem?_map,List.getElem?_range (by omega)]
 simp only [Option.map_some,Int.toNat_of_nonneg h0]
theorem rowR_set {g : Int → Int} {x v : Int} (h0 : 0 ≤ x) (h1 : x < N) : (rowR N g).set x.toNat v = rowR N fun y=>if y = x then v else g y:=by
 apply List.ext_getElem?
 intro j
 by_cases hj : j < N
 ·have e1:=rowR_get (N:=N) (g:=fun y=>if y = x then v else g y) (x:=(j : Int)) (by omega) (by omega)
  have e2:=rowR_get (N:=N) (g:=g) (x:=(j : Int)) (by omega) (by omega)
  simp only [Int.toNat_natCast] at e1 e2
  rw [List.getElem?_set,e1,e2,rowR_len]
  by_cases hx : x.toNat = j
  ·rw [if_pos hx,if_pos (by omega),if_pos (by omega)]
  ·rw [if_neg hx,if_neg (by omega)]
 ·rw [List.getElem?_eq_none (by rw [List.length_set,rowR_len]; omega),List.getElem?_eq_none (by rw [rowR_len]; omega)]
theorem rowR_congr {g h : Int → Int} (e : ∀ x,g x = h x) : rowR N g = rowR N h:=by
 obtain rfl : g = h:=funext e
 rfl
set_option maxRecDepth 100000 in
set_option maxHeartbeats 4000000 in
theorem ref15_Valid_flow (hn : NetVal ⟨N,A⟩) (hf : FlowOk N A f) : ACalls Tryz.prog nref15_Valid [eN ⟨N,A⟩,ints f] [] (.B true) []:=by
 refine sref15_Valid.acalls (Nat.le_of_ble_eq_true rfl) (Nat.le_of_ble_eq_true rfl) (Nat.le_refl _) ?_
 show awp _ 0 _ _ ⟨87,[(0,eN ⟨N,A⟩),(1,ints f)],[],16⟩
 have hfl:=hf.fit.len
 have hfit:=fit2_iff.1 hf.fit
 have hchk:=ref15_Check_ok ⟨N,A⟩ (by have:=hn.2.2.1; simp only at this ⊢; omega)
 rw [if_pos hn] at hchk
 obtain ⟨hn0,hn1,hal,hav⟩:=hn
 simp only at hn0 hn1 hal hav
 have hfb : ∀ j (h : j < f.length),0 ≤ f[j] ∧ f[j] ≤ (A[j]'(by omega)).v ∧ (A[j]'(by omega)).v ≤ 1048576:=fun j hj=>by
  have h1:=hfit.2 j (by omega)
  have e1 : f.getD j 0 = f[j]:=by rw [List.getD_eq_getElem?_getD,List.getElem?_eq_getElem hj,Option.getD_some]
  have e2 : arcD A j = A[j]'(by omega):=by unfold arcD; rw [List.getD_eq_getElem?_getD,List.getElem?_eq_getElem (by omega),Option.getD_some]
  rw [e1,e2] at h1
  exact ⟨h1.1,h1.2,(hav _ (List.getElem_mem (by omega))).2.2.2.2.2.2.2.2⟩
 have hbd:=netG_bound hfl fun j hj=>⟨(hfb j hj).1,by have:=hfb j hj; omega⟩
 refine rx (s:=?s1) [1,2] [] [16] rfl ?o1 ?q1
 case o1=>simp; rfl
 refine awp_seq ?_
 refine awp_regc ⟨87,[(1,ints f),(2,.pv (nC ⟨N,A⟩)),(18,.B false)],[],120⟩ rfl ?_ ?_
 ·simp
  refine call0e hchk (by simp) ?_
  simp
  exact Le.snap [] rfl rfl (by simp <;> exact wkB (by simp [hfl]))
 refine awp_cond _ rfl (fun h3=>by cases h3) fun _=>?_
 refine awp_skip ?_
 refine awp_regc ⟨87,[(1,ints f),(2,.pv (nC ⟨N,A⟩)),(5,.rs 136 0 N)],[(136,some ⟨1,rowsI (rowR N (netG A f 0)),0⟩)],144⟩ rfl ?_ ?_
 ·simp
  refine ⟨by omega,by omega,?_⟩
  have : rowR N (netG A f 0) = List.replicate N 0:=by
   unfold rowR
   simp only [netG_zero]
   simp [List.map_const']
  rw [this]
  exact Le.go [(136,136)] [] rfl rfl (by simp) (by simp)
 refine awp_seq ?_
 refine awp_regc ⟨87,[(1,ints f),(2,.pv (nC ⟨N,A⟩)),(5,.rs 136 0 N),(6,.I 0)],[(136,some ⟨1,rowsI (rowR N (netG A f 0)),0⟩)],160⟩ rfl ?_ ?_
 ·simp
  exact Le.go [(136,136)] [] rfl rfl (by simp) (by simp [fcd])
 refine awp_block ?_
 refine awp_loop (ι:=Nat) (fun i=>⟨87,[(1,ints f),(2,.pv (nC ⟨N,A⟩)),(5,.rs 136 0 N),(6,.I i)],[(136,some ⟨1,rowsI (rowR N (netG A f i)),0⟩)],160⟩) (fun i=>i ≤ A.length) (fun i=>A.length - i) 0 (Nat.zero_le _) (Le.go [(136,136)] [] rfl rfl (by simp) (by simp [fcd])) ?_
 intro i hi
 refine awp_seq ?_
 refine awp_regc ⟨87,[(1,ints f),(2,.pv (nC ⟨N,A⟩)),(5,.rs 136 0 N),(6,.I i),(25,.B (decide (i < f.length)))],[(136,some ⟨1,rowsI (rowR N (netG A f i)),0⟩)],192⟩ rfl ?_ ?_
 ·simp
  exact Le.go [(136,136)] [] rfl rfl (by simp) (by simp [fcd])
 refine awp_cond _ rfl (fun h8=>?_) fun h8=>?_
 ·simp at h8
  have hiA : i < A.length:=by omega
  have hw1 : IntKind.i64.wrap ((i : Int) + 1) = (i : Int) + 1:=w64 (by omega) (by omega)
  obtain ⟨b1,b2,b3⟩:=hfb i h8
  have heo:=hav _ (List.getElem_mem hiA)
  have hsucc:=netG_succ hiA h8
  have hbe:=fun x=>hbd x i (by omega)
  obtain ⟨e,he⟩ : ∃ e,e = A[i]:=⟨_,rfl⟩
  obtain ⟨w,hw⟩ : ∃ w,w = f[i]:=⟨_,rfl⟩
  rw [← he,← hw] at hsucc b2
  rw [← hw] at b1
  rw [← he] at b3 heo
  obtain ⟨e1,e2,e3,e4,e5,_⟩:=heo
  have hg1 : A[i]? = some e:=by rw [List.getElem?_eq_getElem hiA,he]
  have hg2 : f[i]? = some w:=by rw [List.getElem?_eq_getElem h8,hw]
  have h2N : e.f < (N : Int) ∧ e.t < (N : Int):=by omega
  have h1:=hbe e.f
  have h2:=hbe e.t
  have hwx : IntKind.i64.wrap (netG A f i e.f - w) = netG A f i e.f - w:=w64 (by omega) (by omega)
  have hwy : IntKind.i64.wrap (netG A f i e.t + w) = netG A f i e.t + w:=w64 (by omega) (by omega)
  have hr1:=rowR_get (N:=N) (g:=netG A f i) (x:=e.f) e1 (by omega)
  have hs1:=rowR_set (N:=N) (g:=netG A f i) (x:=e.f) (v:=netG A f i e.f - w) e1 (by omega)
  obtain ⟨g1,hg1d⟩ : ∃ g1 : Int → Int,g1 = fun y=>if y = e.f then netG A f i e.f - w else netG A f i y:=⟨_,rfl⟩
  rw [← hg1d] at hs1
  have hg1t : g1 e.t = netG A f i e.t:=by rw [hg1d]; exact if_neg fun h=>e5 h.symm
  have hr2:=rowR_get (N:=N) (g:=g1) (x:=e.t) e3 (by omega)
  rw [hg1t] at hr2
  have hs2:=rowR_set (N:=N) (g:=g1) (x:=e.t) (v:=netG A f i e.t + w) e3 (by omega)
  have hend : (rowR N fun y=>if y = e.t then netG A f i e.t + w else g1 y) = rowR N (netG A f (i + 1)):=rowR_congr fun x=>by
   rw [hsucc,hg1d]
   simp only
   by_cases h3 : x = e.t
   ·rw [h3,if_pos rfl,if_pos rfl,if_neg e5]
    omega
   ·by_cases h4 : x = e.f
    ·rw [if_neg h3,if_pos h4,if_neg fun h=>h3 h.symm,if_pos h4.symm,h4]
     omega
    ·rw [if_neg h3,if_neg h4,if_neg fun h=>h3 h.symm,if_neg fun h=>h4 h.symm]
     omega
  rw [hend] at hs2
  refine awp_skip ?_
  refine awp_cut (ι:=Unit) (fun _=>⟨87,[(1,ints f),(2,.pv (nC ⟨N,A⟩)),(5,.rs 136 0 N),(6,.I i)],[(136,some ⟨1,rowsI (rowR N (netG A f (i + 1))),0⟩)],1000⟩) (fun _=>True) ?_ fun _ _=>?_
  ·refine awp_block ?_
   refine awp_seq ?_
   refine awp_dregc ⟨87,[(1,ints f),(2,.pv (nC ⟨N,A⟩)),(5,.rs 136 0 N),(6,.I i),(45,.B false)],[(136,some ⟨1,rowsI (rowR N (netG A f i)),0⟩)],500⟩ rfl ?_ ?_
   ·have hc1 : ¬ w < 0:=by omega
    have hc2 : ¬ e.v < w:=by omega
    simp [hg1,hg2,hiA,h8,← he,← hw,hc1,hc2]
    exact ⟨rfl,Le.go [(136,136)] [] rfl rfl (by simp [hc2]) (by simp [fcd])⟩
   refine awp_cond _ rfl (fun h=>by cases h) fun _=>?_
   refine awp_skip ?_
   refine awp_dregc ⟨87,[(1,ints f),(2,.pv (nC ⟨N,A⟩)),(5,.rs 136 0 N),(6,.I i)],[(136,some ⟨1,rowsI (rowR N g1),0⟩)],700⟩ rfl ?_ ?_
   ·simp [hg1,hg2,hiA,h8,← he,← hw,hr1,e1,h2N,hwx,splice]
    exact ⟨rfl,Le.go [(136,136)] [] rfl rfl (by simp) (by simp [fcd,← hs1])⟩
   refine awp_drw rfl ?_
   simp [hg1,hg2,hiA,h8,← he,← hw,hr2,e3,h2N,hwy,splice]
   exact ⟨rfl,Le.go [(136,136)] [] rfl rfl (by simp) (by simp [fcd,← hs2])⟩
  refine awp_run (s:=?s20) rfl ?o20 ?q20
  case o20=>simp; rfl
  exact ⟨i + 1,by omega,by omega,Le.go [(136,136)] [] rfl rfl (by simp [hw1]) (by simp [fcd])⟩
 simp at h8
 obtain rfl : i = A.length:=by omega
 refine awp_exit ?_
 refine hit ?_
 refine awp_seq ?_
 refine awp_regc ⟨87,[(2,.pv (nC ⟨N,A⟩)),(5,.rs 136 0 N),(7,.I 2)],[(136,some ⟨1,rowsI (rowR N (netG A f A.length)),0⟩)],200⟩ rfl ?_ ?_
 ·simp
  exact Le.go [(136,136)] [] rfl rfl (by simp) (by simp [fcd])
 refine awp_block ?_
 refine awp_loop (ι:=Nat) (fun k=>⟨87,[(2,.pv (nC ⟨N,A⟩)),(5,.rs 136 0 N),(7,.I k)],[(136,some ⟨1,rowsI (rowR N (netG A f A.length)),0⟩)],200⟩) (fun k=>2 ≤ k ∧ k ≤ N) (fun k=>N - k) 2 (by omega) (Le.go [(136,136)] [] rfl rfl (by simp) (by simp [fcd])) ?_
 rintro k ⟨hk1,hk2⟩
 refine awp_seq ?_
 refine awp_regc ⟨87,[(2,.pv (nC ⟨N,A⟩)),(5,.rs 136 0 N),(7,.I k),(79,.B (decide (k < N)))],[(136,some ⟨1,rowsI (rowR N (netG A f A.length)),0⟩)],300⟩ rfl ?_ ?_
 ·simp
  exact Le.go [(136,136)] [] rfl rfl (by simp) (by simp [fcd])
 refine awp_cond _ rfl (fun h15=>?_) fun h15=>?_
 ·simp at h15
  have hz : netG A f A.length k = 0:=by
   rw [netG_all hfl]
   have:=hf.bal k hk1 h15
   unfold exF
   omega
  have hr:=rowR_get (N:=N) (g:=netG A f A.length) (x:=(k : Int)) (by omega) (by omega)
  rw [hz] at hr
  simp only [Int.toNat_natCast] at hr
  have hw1 : IntKind.i64.wrap ((k : Int) + 1) = (k : Int) + 1:=w64 (by omega) (by omega)
  refine awp_skip ?_
  refine awp_seq ?_
  refine awp_block ?_
  refine awp_regc ⟨87,[(2,.pv (nC ⟨N,A⟩)),(5,.rs 136 0 N),(7,.I k),(86,.B false)],[(136,some ⟨1,rowsI (rowR N (netG A f A.length)),0⟩)],400⟩ rfl ?_ ?_
  ·simp [hr,h15]
   exact Le.go [(136,136)] [] rfl rfl (by simp) (by simp [fcd])
  refine awp_cond _ rfl (fun h=>by cases h) fun _=>?_
  refine awp_skip ?_
  refine awp_run (s:=?s21) rfl ?o21 ?q21
  case o21=>simp; rfl
  exact ⟨k + 1,by omega,by omega,Le.go [(136,136)] [] rfl rfl (by simp [hw1]) (by simp [fcd])⟩
 simp at h15
 refine awp_exit ?_
 refine hit ?_
 refine awp_regc ⟨87,[(4,.B true)],[],400⟩ rfl ?_ ?_
 ·simp
  exact Le.go [] [] rfl rfl (by simp) (by simp)
 refine awp_ret ?_
 exact ⟨.inr rfl,RetOk.one (by simp)⟩
theorem ref15_Value_flow (hn : NetVal ⟨N,A⟩) (hf : FlowOk N A f) : ACalls Tryz.prog nref15_Value [eN ⟨N,A⟩,ints f] [] (.I (valF A f)) []:=by
 refine sref15_Value.acalls (Nat.le_of_ble_eq_true rfl) (Nat.le_of_ble_eq_true rfl) (Nat.le_refl _) ?_
 show awp _ 0 _ _ ⟨31,[(0,eN ⟨N,A⟩),(1,ints f)],[],16⟩
 have hchk:=ref15_Valid_flow hn hf
 have hfl:=hf.fit.len
 have hfit:=fit2_iff.1 hf.fit
 obtain ⟨hn0,hn1,hal,hav⟩:=hn
 simp only at hn0 hn1 hal hav
 have hfb : ∀ j (h : j < f.length),0 ≤ f[j] ∧ f[j] ≤ 1048576:=fun j hj=>by
  have h1:=hfit.2 j (by omega)
  have e1 : f.getD j 0 = f[j]:=by rw [List.getD_eq_getElem?_getD,List.getElem?_eq_getElem hj,Option.getD_some]
  have e2 : arcD A j = A[j]'(by omega):=by unfold arcD; rw [List.getD_eq_getElem?_getD,List.getElem?_eq_getElem (by omega),Option.getD_some]
  rw [e1,e2] at h1
  have h2:=(hav _ (List.getElem_mem (show j < A.length by omega))).2.2.2.2.2.2.2.2
  omega
 have hbd:=outF_bound hfl hfb 0
 have hall : outF (A.take A.length) (f.take A.length) 0 = valF A f:=by
  unfold valF
  rw [List.take_of_length_le (Nat.le_refl _),List.take_of_length_le (by omega)]
 refine rx (s:=?s1) [1,2] [] [16] rfl ?o1 ?q1
 case o1=>simp; rfl
 refine awp_seq ?_
 refine rx (s:=?s2) [1,2,10] [] [] rfl ?o2 ?q2
 case o2=>simp; refine call0e hchk (by simp) ?_; simp; rfl
 refine awp_cond _ rfl (fun h=>by cases h) fun _=>?_
 refine awp_skip ?_
 refine rx (s:=?s5) [1,2,5] [] [] rfl ?o5 ?q5
 case o5=>simp; rfl
 refine awp_seq ?_
 refine rx (s:=?s6) [1,2,5,6] [] [] rfl ?o6 ?q6
 case o6=>simp; rfl
 refine awp_block ?_
 refine awp_loop (ι:=Nat) (fun i=>⟨31,[(1,ints f),(2,.pv (nC ⟨N,A⟩)),(5,.I (outF (A.take i) (f.take i) 0)),(6,.I i)],[],80⟩) (fun i=>i ≤ A.length) (fun i=>A.length - i) 0 (Nat.zero_le _) (Le.go [] [] rfl rfl (by simp [outF,sumF]) (by simp)) ?_
 intro i hi
 have hbi:=hbd i hi
 refine awp_seq ?_
 refine rx (s:=?s7) [1,2,5,6,14] [] [] rfl ?o7 ?q7
 case o7=>simp; rfl
 refine awp_cond _ rfl (fun h8=>?_) fun h8=>?_
 ·simp at h8
  have hiA : i < A.length:=by omega
  have hw1 : IntKind.i64.wrap ((i : Int) + 1) = (i : Int) + 1:=w64 (by omega) (by omega)
  have hsucc:=outF_succ hiA h8 0
  have hb:=hfb i h8
  refine awp_skip ?_
  refine awp_cut (ι:=Unit) (fun _=>⟨31,[(1,ints f),(2,.pv (nC ⟨N,A⟩)),(5,.I (outF (A.take (i + 1)) (f.take (i + 1)) 0)),(6,.I i)],[],400⟩) (fun _=>True) ?_ fun _ _=>?_
  ·refine awp_block ?_
   refine awp_regc ⟨31,[(1,ints f),(2,.pv (nC ⟨N,A⟩)),(5,.I (outF (A.take i) (f.take i) 0)),(6,.I i),(23,.B (decide (A[i].f = 0)))],[],200⟩ rfl ?_ ?_
   ·simp [hiA]
    exact Le.go [] [] rfl rfl (by simp <;> exact wkB (by rw [Bool.eq_iff_iff]; simp)) (by simp)
   refine awp_cond _ rfl (fun h10=>?_) fun h10=>?_
   ·rw [decide_eq_true_eq] at h10
    rw [if_pos h10] at hsucc
    have hw2 : IntKind.i64.wrap (outF (A.take i) (f.take i) 0 + f[i]) = outF (A.take i) (f.take i) 0 + f[i]:=w64 (by omega) (by omega)
    refine awp_run (s:=?s9) rfl ?o9 ?q9
    case o9=>simp [h8]; rfl
    exact ⟨(),trivial,Le.go [] [] rfl rfl (by simp [hsucc,hw2]) (by simp)⟩
   ·rw [decide_eq_false_iff_not] at h10
    rw [if_neg h10,Int.add_zero] at hsucc
    refine awp_skip ?_
    exact ⟨(),trivial,Le.go [] [] rfl rfl (by simp [hsucc]) (by simp)⟩
  refine awp_run (s:=?s10) rfl ?o10 ?q10
  case o10=>simp; rfl
  exact ⟨i + 1,by omega,by omega,Le.go [] [] rfl rfl (by simp [hw1]) (by simp)⟩
 simp at h8
 obtain rfl : i = A.length:=by omega
 rw [hall]
 refine awp_exit ?_
 refine hit ?_
 refine rx (s:=?s11) [4] [] [] rfl ?o11 ?q11
 case o11=>simp; rfl
 refine awp_ret ?_
 exact ⟨.inr rfl,RetOk.one (by simp)⟩
theorem netArcs_ok {g : Gr} {p : Pol} {sinks : List Int} (hg : GrOk g) (hp : PolOk g.size p) (hk : ∀ x ∈ sinks,0 ≤ x ∧ x < g.size) : NetOk (2 + 2 * g.size).toNat (netArcs g p (capsL g p) sinks):=by
 have hs0:=hg.1.1
 have hse:=hp.2.1.nodup
 have hle:=level_ends hg p.lv
 have hcl : (capsL g p).length = g.size.toNat:=by unfold capsL; rw [List.length_map,distL_len]; rfl
 refine ⟨by omega,fun a ha=>?_⟩
 unfold netArcs at ha
 rcases List.mem_append.1 ha with ha | ha
 ·rcases List.mem_append.1 ha with ha | ha
  ·rcases List.mem_append.1 ha with ha | ha
   ·obtain ⟨x,hx,rfl⟩:=List.mem_map.1 ha
    have h1:=List.mem_filter.1 hx
    have h2:=hse.2 x h1.1
    have h3 : 0 < (capsL g p).getD x.toNat 0:=by simpa using h1.2
    simp only
    omega
   ·obtain ⟨i,hx,rfl⟩:=List.mem_map.1 ha
    have h1:=List.mem_filter.1 hx
    have h2:=List.mem_range.1 h1.1
    have h3 : 0 < (capsL g p).getD i 0:=by simpa using h1.2
    simp only
    omega
  ·obtain ⟨x,hx,rfl⟩:=List.mem_map.1 ha
   have h2:=hk x (List.mem_filter.1 hx).1
   simp only
   omega
 ·obtain ⟨e,hx,rfl⟩:=List.mem_map.1 ha
  have h2:=hle.2 e (List.mem_filter.1 hx).1
  simp only
  omega
end Go.Proofs.YtlhjelookgjmpaaGreat
