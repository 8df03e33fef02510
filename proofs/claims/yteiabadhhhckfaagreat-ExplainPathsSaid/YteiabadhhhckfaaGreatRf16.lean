/- Texts of this claim,merged. -/
import Derived.Test.YteiabadhhhckfaaGreatRf15
import Derived.Test.YteiabadhhhckfaaGreatRf13
import Derived.Test.YteiabadhhhckfaaGreatRf9
import Derived.Test.YteiabadhhhckfaaGreatRf14
set_option linter.unusedSimpArgs false
set_option linter.unusedVariables false
set_option linter.unusedSectionVars false
namespace Go.Proofs.YteiabadhhhckfaaGreat
open Go
abbrev eRf (r : Int × List Int) : AV:=.agg [.I r.1,ints r.2]
theorem zmT (f : FuncId) (capt : List AV) (q : Int × List Int → Bool) (l : List (Int × List Int)) (hl : l.length ≤ 1099511627776) (hs : zhx capt) (hc : ∀ e ∈ l,zaj Tryz.prog f (eRf e :: capt) [] (.B (q e)) []) : zaj Tryz.prog zaL [.vs 2 false (zbb l),.fn (.func f) [] capt] [] (.I (idxQ l q)) []:=by
 have hs2 : ∀ ρ sn h,capt.map (conv ρ sn h 2) = capt:=fun _ _ _=>hs _ _ _ 1
 have hs3 : ∀ ρ sn h,capt.map (conv ρ sn h 3) = capt:=fun _ _ _=>hs _ _ _ 2
 have hs4 : ∀ ρ sn h,capt.map (conv ρ sn h 4) = capt:=fun _ _ _=>hs _ _ _ 3
 refine zbS.acalls (nbz rfl) (nbz rfl) (Nat.le_refl _) ?_
 show awp _ 0 _ _ ⟨19,[(0,.vs 2 false (zbb l)),(1,.fn (.func f) [] capt)],[],16⟩
 refine zab ?_
 refine zag (s:=?s1) rfl ?o1 ?q1
 case o1=>simp; rfl
 refine zab ?_
 refine zab ?_
 refine zag (s:=?s2) rfl ?o2 ?q2
 case o2=>simp; rfl
 refine zae ?_
 refine zao (ι:=Nat) (fun k=>⟨19,[(0,.vs 2 false (zbb l)),(1,.fn (.func f) [] capt),(7,.I l.length),(8,.I k)],[],16⟩) (fun k=>k ≤ l.length ∧ ∀ i,i < k → ∀ h : i < l.length,q l[i] = false) (fun k=>l.length - k) (0) ?_ (Le.snap [] rfl rfl (by simp [hs2,hs3,hs4])) ?_
 ·simp
 rintro k ⟨hk,hp⟩
 refine zab ?_
 refine zag (s:=?s3) rfl ?o3 ?q3
 case o3=>simp; rfl
 refine zab ?_
 refine zac _ rfl (fun h4=>?_) fun h4=>?_
 ·try simp at h4
  have hw2 : IntKind.i64.wrap ((k : Int) + 1) = (k : Int) + 1:=w64 (by omega) (by omega)
  have hck:=hc l[k] (List.getElem_mem h4)
  refine zad ?_
  refine zab ?_
  refine zae ?_
  refine zab ?_
  refine zag (s:=?s5) rfl ?o5 ?q5
  case o5=>simp [h4,hw2]; rfl
  refine zab ?_
  refine zag (s:=?s6) rfl ?o6 ?q6
  case o6 =>
   simp [h4,hw2]
   refine zal hck ?_ ?_
   ·simp [hs2,hs3,hs4]
   simp [h4,hw2]; rfl
  refine zac _ rfl (fun h7=>?_) fun h7=>?_
  ·try simp at h7
   refine zab ?_
   refine zag (s:=?s8) rfl ?o8 ?q8
   case o8=>simp [h4,hw2]; rfl
   refine zah ?_
   exact ⟨.inr rfl,zan.one (by simp [zm8 h4 hp h7])⟩
  try simp at h7
  refine zad ?_
  refine zag (s:=?s9) rfl ?o9 ?q9
  case o9=>simp [h4,hw2]; rfl
  refine ⟨k + 1,⟨h4,fun i hi=>?_⟩,by omega,Le.snap [] rfl rfl (by simp [h4,hw2,hs2,hs3,hs4])⟩
  rcases Nat.lt_succ_iff_lt_or_eq.1 hi with h | rfl
  ·exact hp i h
  ·exact fun _=>h7
 try simp at h4
 have hall : ∀ i,i < l.length → ∀ h : i < l.length,q l[i] = false:=fun i hi=>hp i (by omega)
 refine zam ?_
 refine hit ?_
 refine zab ?_
 refine zag (s:=?s10) rfl ?o10 ?q10
 case o10=>simp; rfl
 refine zah ?_
 exact ⟨.inr rfl,zan.one (by simp [zmr hall])⟩
theorem zkn (r : Int × List Int) (k : Int) : zaj Tryz.prog zbz [eRf r,.pv [.I k]] [] (.B (decide (r.1 = k))) []:=by
 refine zfC.acalls (nbz rfl) (nbz rfl) (Nat.zero_le _) ?_
 show awp _ 0 _ _ ⟨8,[(0,eRf r),(1,.pv [.I k])],[],16⟩
 refine zaa ⟨8,[(1,.pv [.I k]),(2,.pv [.I r.1,ints r.2])],[],100⟩ rfl ?_ ?_
 ·simp
  exact LeH [] [16]
 refine zaa ⟨8,[(3,.B (decide (r.1 = k)))],[],200⟩ rfl ?_ ?_
 ·simp
  exact Le.go [] [] rfl rfl (by simp <;> exact wkB (by rw [Bool.eq_iff_iff]; simp)) (by simp)
 refine zah ?_
 exact ⟨.inr rfl,zan.one (by simp)⟩
theorem zoo (g : Gr) (N : Int) (A : List Ed) (w : List Int) (hA : A.length ≤ 1000000) (hw : w.length ≤ 1000000) : zaj Tryz.prog zbC [ints w,.pv (gC g),.pv (nC ⟨N,A⟩)] [] (.tup [ints (zhM g.size A w),.I (zkV g.size A w)]) []:=by
 refine zia.acalls (nbz rfl) (nbz rfl) (Nat.zero_le _) ?_
 show awp _ 0 _ _ ⟨14,[(0,ints w),(1,.pv (gC g)),(2,.pv (nC ⟨N,A⟩))],[],16⟩
 have hk:=zkm g.size A w hA hw
 refine zaa ⟨14,[(0,ints w),(1,.pv (gC g)),(2,.pv (nC ⟨N,A⟩))],[],100⟩ rfl ?_ ?_
 ·simp
  exact LeH [] []
 refine zaa ⟨14,[(4,ints (zhM g.size A w)),(5,.I (zkV g.size A w))],[],200⟩ rfl ?_ ?_
 ·simp
  refine zal hk (by simp) ?_
  simp
  exact LeH [] []
 refine zah ?_
 exact ⟨.inr rfl,zan.out [] [] rfl (by simp) (by simp) (by simp) (by simp)⟩
def tkL {α : Type} (l : List α) (i : Nat) : List α:=l.take i
theorem zqn {α : Type} (l : List α) : tkL l 0 = []:=rfl
theorem zqB {α : Type} {l : List α} {i : Nat} (h : i < l.length) : tkL l (i + 1) = tkL l i ++ [l[i]]:=List.take_succ_eq_append_getElem h
theorem zo5 {α : Type} {l : List α} {i : Nat} (h : i ≤ l.length) : (tkL l i).length = i:=by unfold tkL; rw [List.length_take]; omega
theorem zsB {α : Type} (l : List α) : tkL l l.length = l:=List.take_length
set_option maxRecDepth 100000 in
set_option maxHeartbeats 2000000 in
theorem zrw (f : FuncId) (capt : List AV) (F : List Int → List Int) (W : List (List Int)) (hW : W.length ≤ 1000000000000) (hs : zhx capt) (hc : ∀ w ∈ W,zaj Tryz.prog f (ints w :: capt) [] (.tup [ints (F w),.I 0]) []) :
  zaj Tryz.prog zbD [za1 W,.fn (.func f) [] capt] [] (.tup [za1 (W.map F),.I 0]) []:=by
 have hs2 : ∀ ρ sn h,capt.map (conv ρ sn h 2) = capt:=fun _ _ _=>hs _ _ _ 1
 have hs3 : ∀ ρ sn h,capt.map (conv ρ sn h 3) = capt:=fun _ _ _=>hs _ _ _ 2
 have hs4 : ∀ ρ sn h,capt.map (conv ρ sn h 4) = capt:=fun _ _ _=>hs _ _ _ 3
 refine zew.acalls (nbz rfl) (nbz rfl) (Nat.zero_le _) ?_
 show awp _ 0 _ _ ⟨32,[(0,za1 W),(1,.fn (.func f) [] capt)],[],16⟩
 refine zaa ⟨32,[(0,za1 W),(1,.fn (.func f) [] capt)],[],100⟩ rfl ?_ ?_
 ·simp
  exact Le.go [] [] rfl rfl (by simp [hs3]) (by simp)
 refine zaa ⟨32,[(0,za1 W),(1,.fn (.func f) [] capt),(6,.nilS)],[],200⟩ rfl ?_ ?_
 ·simp
  exact Le.go [] [] rfl rfl (by simp [hs3]) (by simp)
 refine zab ?_
 refine zaa ⟨32,[(1,.fn (.func f) [] capt),(6,.nilS),(11,za1 W),(12,.I W.length),(13,.I 0)],[],300⟩ rfl ?_ ?_
 ·simp
  exact Le.go [] [] rfl rfl (by simp [hs3]) (by simp)
 refine zae ?_
 refine zao (ι:=Nat) (fun i=>⟨32,[(1,.fn (.func f) [] capt),(6,.rs 17 0 i),(11,za1 W),(12,.I W.length),(13,.I i)],[(17,some ⟨1,(tkL W i).map fun w=>[ints (F w)],0⟩)],300⟩)
  (fun i=>i ≤ W.length) (fun i=>W.length - i) 0 (Nat.zero_le _) (Le.lst [] [] [(17,1)] rfl (by simp) (by simp) (by simp) (by simp) (by simp) (by simp) (by simp) (by simp [Up,hs3]) (by simp [zqn])) ?_
 intro i hi
 have hlt : (tkL W i).length = i:=zo5 hi
 refine zaa ⟨32,[(1,.fn (.func f) [] capt),(6,.rs 17 0 i),(11,za1 W),(12,.I W.length),(13,.I i),(14,.B (decide (i < W.length)))],[(17,some ⟨1,(tkL W i).map fun w=>[ints (F w)],0⟩)],400⟩ rfl ?_ ?_
 ·simp
  exact Le.go [(17,17)] [] rfl rfl (by simp [hs3]) (by simp [fcd])
 refine zab ?_
 refine zac _ rfl (fun h5=>?_) fun h5=>?_
 ·rw [decide_eq_true_eq] at h5
  have hwi : IntKind.i64.wrap ((i : Int) + 1) = ((i + 1 : Nat) : Int):=by rw [w64 (by omega) (by omega)]; omega
  have hck:=hc W[i] (List.getElem_mem h5)
  have htk:=zqB h5
  obtain ⟨w,hw⟩ : ∃ w,w = W[i]:=⟨_,rfl⟩
  rw [← hw] at hck htk
  obtain ⟨T,hT⟩ : ∃ T,T = tkL W i:=⟨_,rfl⟩
  rw [← hT] at hlt htk ⊢
  have hTt : ∀ h : List Int → List AV,List.take i (List.map h T) = List.map h T:=fun h=>List.take_of_length_le (by simp; omega)
  refine zad ?_
  refine zab ?_
  refine zae ?_
  refine zaa ⟨32,[(1,.fn (.func f) [] capt),(6,.rs 17 0 i),(8,ints w),(11,za1 W),(12,.I W.length),(13,.I i)],[(17,some ⟨1,T.map fun w=>[ints (F w)],0⟩)],500⟩ rfl ?_ ?_
  ·simp [h5,← hw]
   exact Le.go [(17,17)] [] rfl rfl (by simp [hs3]) (by simp [fcd])
  refine zaa ⟨32,[(1,.fn (.func f) [] capt),(6,.rs 17 0 i),(9,ints (F w)),(10,.I 0),(11,za1 W),(12,.I W.length),(13,.I i)],[(17,some ⟨1,T.map fun w=>[ints (F w)],0⟩)],600⟩ rfl ?_ ?_
  ·simp
   refine zal hck ?_ ?_
   ·simp [hs2,hs3,hs4]
   simp
   exact Le.go [(17,17)] [] rfl rfl (by simp [hs3]) (by simp [fcd])
  refine zab ?_
  refine zaa ⟨32,[(1,.fn (.func f) [] capt),(6,.rs 17 0 i),(9,ints (F w)),(11,za1 W),(12,.I W.length),(13,.I i),(24,.B false)],[(17,some ⟨1,T.map fun w=>[ints (F w)],0⟩)],700⟩ rfl ?_ ?_
  ·simp
   exact Le.go [(17,17)] [] rfl rfl (by simp [hs3]) (by simp [fcd])
  refine zac _ rfl (fun h=>by cases h) fun _=>?_
  refine zad ?_
  refine zaq rfl ?_
  simp [hTt,hlt]
  refine ⟨by omega,by omega,?_⟩
  refine zaq rfl ?_
  simp
  exact ⟨i + 1,h5,by omega,Le.go [(724,17)] [] rfl rfl (by simp [hs3,hwi]) (by simp [htk,fcd])⟩
 rw [decide_eq_false_iff_not] at h5
 obtain rfl : i = W.length:=by omega
 rw [zsB]
 refine zam ?_
 refine hit ?_
 have htW : ∀ h : List Int → List AV,List.take W.length (List.map h W) = List.map h W:=fun h=>List.take_of_length_le (by simp)
 refine zaa ⟨32,[(4,.vs 1 false (W.map fun w=>[ints (F w)])),(5,.I 0)],[],600⟩ rfl ?_ ?_
 ·simp
  exact Le.go [] [17] rfl rfl (by simp [htW,fcd]) (by simp)
 refine zah ?_
 exact ⟨.inr rfl,zan.out [] [] rfl (by simp) (by simp) (by rw [show za1 (W.map F) = .vs 1 false (W.map fun w=>[ints (F w)]) from by simp [fcd]]; simp) (by simp)⟩
set_option maxRecDepth 100000 in
set_option maxHeartbeats 2000000 in
theorem zrl (f : FuncId) (capt : List AV) (F : Int → Expl) (W : List Int) (hW : W.length ≤ 1000000000000) (hs : zhx capt) (hc : ∀ w ∈ W,zaj Tryz.prog f (.I w :: capt) [] (.tup [eX (F w),.I 0]) []) :
  zaj Tryz.prog zaV [ints W,.fn (.func f) [] capt] [] (.tup [eXs (W.map F),.I 0]) []:=by
 have hs2 : ∀ ρ sn h,capt.map (conv ρ sn h 2) = capt:=fun _ _ _=>hs _ _ _ 1
 have hs3 : ∀ ρ sn h,capt.map (conv ρ sn h 3) = capt:=fun _ _ _=>hs _ _ _ 2
 have hs4 : ∀ ρ sn h,capt.map (conv ρ sn h 4) = capt:=fun _ _ _=>hs _ _ _ 3
 refine zcF.acalls (nbz rfl) (nbz rfl) (Nat.zero_le _) ?_
 show awp _ 0 _ _ ⟨32,[(0,ints W),(1,.fn (.func f) [] capt)],[],16⟩
 refine zaa ⟨32,[(0,ints W),(1,.fn (.func f) [] capt)],[],100⟩ rfl ?_ ?_
 ·simp
  exact Le.go [] [] rfl rfl (by simp [hs3]) (by simp)
 refine zaa ⟨32,[(0,ints W),(1,.fn (.func f) [] capt),(6,.nilS)],[],200⟩ rfl ?_ ?_
 ·simp
  exact Le.go [] [] rfl rfl (by simp [hs3]) (by simp)
 refine zab ?_
 refine zaa ⟨32,[(1,.fn (.func f) [] capt),(6,.nilS),(11,ints W),(12,.I W.length),(13,.I 0)],[],300⟩ rfl ?_ ?_
 ·simp
  exact Le.go [] [] rfl rfl (by simp [hs3]) (by simp)
 refine zae ?_
 refine zao (ι:=Nat) (fun i=>⟨32,[(1,.fn (.func f) [] capt),(6,.rs 17 0 i),(11,ints W),(12,.I W.length),(13,.I i)],[(17,some ⟨5,(tkL W i).map fun w=>xE (F w),0⟩)],300⟩)
  (fun i=>i ≤ W.length) (fun i=>W.length - i) 0 (Nat.zero_le _) (Le.lst [] [] [(17,5)] rfl (by simp) (by simp) (by simp) (by simp) (by simp) (by simp) (by simp) (by simp [Up,hs3]) (by simp [zqn])) ?_
 intro i hi
 have hlt : (tkL W i).length = i:=zo5 hi
 refine zaa ⟨32,[(1,.fn (.func f) [] capt),(6,.rs 17 0 i),(11,ints W),(12,.I W.length),(13,.I i),(14,.B (decide (i < W.length)))],[(17,some ⟨5,(tkL W i).map fun w=>xE (F w),0⟩)],400⟩ rfl ?_ ?_
 ·simp
  exact Le.go [(17,17)] [] rfl rfl (by simp [hs3]) (by simp [fcd])
 refine zab ?_
 refine zac _ rfl (fun h5=>?_) fun h5=>?_
 ·rw [decide_eq_true_eq] at h5
  have hwi : IntKind.i64.wrap ((i : Int) + 1) = ((i + 1 : Nat) : Int):=by rw [w64 (by omega) (by omega)]; omega
  have hck:=hc W[i] (List.getElem_mem h5)
  have htk:=zqB h5
  obtain ⟨w,hw⟩ : ∃ w,w = W[i]:=⟨_,rfl⟩
  rw [← hw] at hck htk
  obtain ⟨T,hT⟩ : ∃ T,T = tkL W i:=⟨_,rfl⟩
  rw [← hT] at hlt htk ⊢
  have hTt : ∀ h : Int → List AV,List.take i (List.map h T) = List.map h T:=fun h=>List.take_of_length_le (by simp; omega)
  refine zad ?_
  refine zab ?_
  refine zae ?_
  refine zaa ⟨32,[(1,.fn (.func f) [] capt),(6,.rs 17 0 i),(8,.I w),(11,ints W),(12,.I W.length),(13,.I i)],[(17,some ⟨5,T.map fun w=>xE (F w),0⟩)],500⟩ rfl ?_ ?_
  ·simp [h5,← hw]
   exact Le.go [(17,17)] [] rfl rfl (by simp [hs3]) (by simp [fcd])
  refine zaa ⟨32,[(1,.fn (.func f) [] capt),(6,.rs 17 0 i),(9,.pv (xE (F w))),(10,.I 0),(11,ints W),(12,.I W.length),(13,.I i)],[(17,some ⟨5,T.map fun w=>xE (F w),0⟩)],600⟩ rfl ?_ ?_
  ·simp
   refine zal hck ?_ ?_
   ·simp [hs2,hs3,hs4]
   simp [zaE]
   exact Le.go [(17,17)] [548] rfl rfl (by simp [hs3]) (by simp [fcd])
  refine zab ?_
  refine zaa ⟨32,[(1,.fn (.func f) [] capt),(6,.rs 17 0 i),(9,.pv (xE (F w))),(11,ints W),(12,.I W.length),(13,.I i),(24,.B false)],[(17,some ⟨5,T.map fun w=>xE (F w),0⟩)],700⟩ rfl ?_ ?_
  ·simp
   exact Le.go [(17,17)] [] rfl rfl (by simp [hs3]) (by simp [fcd])
  refine zac _ rfl (fun h=>by cases h) fun _=>?_
  refine zad ?_
  refine zaq rfl ?_
  simp [hTt,hlt]
  refine ⟨by omega,by omega,?_⟩
  refine zaq rfl ?_
  simp
  exact ⟨i + 1,h5,by omega,Le.go [(724,17)] [] rfl rfl (by simp [hs3,hwi]) (by simp [htk,fcd])⟩
 rw [decide_eq_false_iff_not] at h5
 obtain rfl : i = W.length:=by omega
 rw [zsB]
 refine zam ?_
 refine hit ?_
 have htW : ∀ h : Int → List AV,List.take W.length (List.map h W) = List.map h W:=fun h=>List.take_of_length_le (by simp)
 refine zaa ⟨32,[(4,.vs 5 false (W.map fun w=>xE (F w))),(5,.I 0)],[],600⟩ rfl ?_ ?_
 ·simp
  exact Le.go [] [17] rfl rfl (by simp [htW,fcd]) (by simp)
 refine zah ?_
 exact ⟨.inr rfl,zan.out [] [] rfl (by simp) (by simp) (by rw [show eXs (W.map F) = .vs 5 false (W.map fun w=>xE (F w)) from by simp [fcd]]; simp) (by simp)⟩
set_option maxRecDepth 100000 in
set_option maxHeartbeats 2000000 in
theorem zjb (g : Gr) (p : Pol) (ks : List Int) (hg : GrOk g) (hp : za9 g.size p) (hs : p.seeds.length ≤ 64) (hk : ks.Nodup) (hr : ∀ k ∈ ks,0 ≤ k ∧ k < g.size) :
  ∃ W,zqw g p ks W ∧ zaj Tryz.prog zdU [eG g,eP p,ints ks] [] (.tup [za1 (W.map (zbM (netA g p (zat ks)))),.I 0]) []:=by
 have hsz:=hg.1.1
 have hsz2:=hg.1.2.1
 have hr64 : ∀ k ∈ ks,0 ≤ k ∧ k < 64:=fun k h=>by have:=hr k h; omega
 have hlen:=zmd hk hr64
 have hJl:=zb3 ks
 have hkl : ks.length ≤ 64:=by omega
 have hJk:=zmQ (zd5 hr)
 have hsort : zaj Tryz.prog zbh [seqF ks] [] (.rs 0 0 ks.length) [some ⟨1,zaf (srt ks),0⟩]:=znq ks (by omega)
 rw [zjI hk hr64,← hlen] at hsort
 have hnet:=zfu g p (zat ks) hg hp (zd5 hr) hs hJl
 rw [← zgp hg,show zaW g p (zax g p) (zat ks) = netA g p (zat ks) from rfl] at hnet
 have hnv:=zgi hg hp hJk hs hJl
 have hno:=zkr hg hp hJk
 obtain ⟨f,hf,hmx⟩:=zlY _ _ hnv
 have hgf : zkb g p (zat ks) f:=⟨hf.1,hf.2,(zfS hf.1 hf.2).symm⟩
 obtain ⟨W,⟨⟨g',hT⟩,hWl,hWb⟩,hpaths⟩:=znW _ _ f hnv hf.1 (by unfold netN; omega)
 have hR : zqw g p ks W:=⟨f,g',hgf,hT,by rw [hWl,hgf.val],hWb⟩
 have hW64 : W.length ≤ 64:=by
  have:=zhI hg hp hJk
  have h2:=hgf.val
  omega
 refine ⟨W,hR,?_⟩
 have hfl:=hf.1.fit.len
 have hal:=hnv.2.2.1
 simp only at hal
 have hkeys : ∀ w ∈ W.map natL,zaj Tryz.prog zbC [ints w,.pv (gC g),.pv (nC ⟨(netN g : Nat),netA g p (zat ks)⟩)] [] (.tup [ints (zhM g.size (netA g p (zat ks)) w),.I 0]) []:=fun w hw=>by
  obtain ⟨v,hv,rfl⟩:=List.mem_map.1 hw
  have h1:=zoo g (netN g : Nat) (netA g p (zat ks)) (natL v) (by omega) (by rw [zfp]; have:=hWb v hv; omega)
  rw [(znu hsz hsz2 hno (hT.ways v hv).1).1] at h1
  exact h1
 have hturn:=zrw zbC [.pv (gC g),.pv (nC ⟨(netN g : Nat),netA g p (zat ks)⟩)] (zhM g.size (netA g p (zat ks))) (W.map natL) (by rw [List.length_map]; omega) (fun ρ sn h k=>by simp) hkeys
 have hmm : (W.map natL).map (zhM g.size (netA g p (zat ks))) = W.map (zbM (netA g p (zat ks))):=by
  rw [List.map_map]
  exact List.map_congr_left fun w hw=>(znu hsz hsz2 hno (hT.ways w hw).1).2
 rw [hmm] at hturn
 rw [show AV.vs 1 false (W.map fun w=>[ints (natL w)]) = za1 (W.map natL) from by simp [fcd]] at hpaths
 obtain ⟨X,hX⟩ : ∃ X,X = W.map natL:=⟨_,rfl⟩
 rw [← hX] at hturn hpaths
 obtain ⟨J,hJ⟩ : ∃ J,J = zat ks:=⟨_,rfl⟩
 obtain ⟨A,hA⟩ : ∃ A,A = netA g p (zat ks):=⟨_,rfl⟩
 obtain ⟨N,hN⟩ : ∃ N,N = netN g:=⟨_,rfl⟩
 rw [← hA,← hN] at hnet hmx hpaths hturn
 rw [← hA] at hfl ⊢
 rw [← hJ] at hnet hsort
 have htf : ∀ h : Int → List AV,List.take A.length (List.map h f) = List.map h f:=fun h=>List.take_of_length_le (by simp; omega)
 refine zky.acalls (nbz rfl) (nbz rfl) (Nat.zero_le _) ?_
 show awp _ 0 _ _ ⟨46,[(0,eG g),(1,eP p),(2,ints ks)],[],16⟩
 refine rx (s:=?s1) [2,3,4] [] [16,24] rfl ?o1 ?q1
 case o1=>simp; rfl
 refine zar ⟨46,[(3,.pv (gC g)),(8,.pv (nC ⟨N,A⟩)),(9,.I 0)],[],300⟩ rfl ?_ ?_
 ·simp
  refine zal (znj ks) (by simp) ?_
  simp
  refine zaN hsort (by simp [conv]) ?_
  simp
  refine zk0 [80] (by simp) hnet (by simp [fcd,zak]) ?_
  simp [zaE]
  exact ⟨rfl,LeH [] [120]⟩
 refine zab ?_
 refine zaa ⟨46,[(3,.pv (gC g)),(8,.pv (nC ⟨N,A⟩)),(22,.B false)],[],400⟩ rfl ?_ ?_
 ·simp
  exact LeH [] []
 refine zac _ rfl (fun h=>by cases h) fun _=>?_
 refine zad ?_
 refine zaa ⟨46,[(3,.pv (gC g)),(8,.pv (nC ⟨N,A⟩)),(9,.I 0),(10,.rs 33 0 A.length)],[(33,some ⟨1,zaf f,0⟩)],500⟩ rfl ?_ ?_
 ·simp
  refine zaN hmx (by simp) ?_
  simp
  exact LeI [(408,33)] []
 refine zab ?_
 refine zaa ⟨46,[(3,.pv (gC g)),(8,.pv (nC ⟨N,A⟩)),(10,.rs 33 0 A.length),(30,.B false)],[(33,some ⟨1,zaf f,0⟩)],600⟩ rfl ?_ ?_
 ·simp
  exact LeI [(33,33)] []
 refine zac _ rfl (fun h=>by cases h) fun _=>?_
 refine zad ?_
 refine zaa ⟨46,[(3,.pv (gC g)),(8,.pv (nC ⟨N,A⟩)),(9,.I 0),(11,za1 X)],[],700⟩ rfl ?_ ?_
 ·simp
  refine zk0 [33] (by simp) hpaths (by simp [fcd,htf,hfl]) ?_
  simp
  exact Le.go [] [] rfl rfl (by simp [fcd]) (by simp)
 refine zab ?_
 refine zaa ⟨46,[(3,.pv (gC g)),(8,.pv (nC ⟨N,A⟩)),(11,za1 X),(39,.B false)],[],800⟩ rfl ?_ ?_
 ·simp
  exact LeH [] []
 refine zac _ rfl (fun h=>by cases h) fun _=>?_
 refine zad ?_
 obtain ⟨Y,hY⟩ : ∃ Y,Y = W.map (zbM A):=⟨_,rfl⟩
 rw [← hY] at hturn ⊢
 refine zaa ⟨46,[(6,za1 Y),(7,.I 0)],[],900⟩ rfl ?_ ?_
 ·simp
  refine zal hturn (by simp) ?_
  simp
  exact LeH [] []
 refine zah ?_
 exact ⟨.inr rfl,zan.out [] [] rfl (by simp) (by simp) (by simp) (by simp)⟩
theorem zcU (g : Gr) (p : Pol) (hg : GrOk g) (hN : g.size < 20) (hs : p.seeds.length ≤ 1099511627776) : zaj Tryz.prog zcz [eG g,eP p] [] (.rs 0 0 (ordL (zai g p.lv) p.seeds).length) [some ⟨1,zaf (ordL (zai g p.lv) p.seeds),0⟩]:=by
 refine zjq.acalls (nbz rfl) (nbz rfl) (Nat.zero_le _) ?_
 show awp _ 0 _ _ ⟨12,[(0,eG g),(1,eP p)],[],16⟩
 have hel:=hg.edges_le
 have hgl:=hg.gone_le
 have hsz:=hg.1.2.1
 have hlev:=zdn g p.lv (by omega) (by omega)
 have hord:=zeK (g:=zai g p.lv) (S:=p.seeds) (hg.level p.lv) hN hs
 obtain ⟨o,ho⟩ : ∃ o,o = ordL (zai g p.lv) p.seeds:=⟨_,rfl⟩
 rw [← ho] at hord ⊢
 refine rx (s:=?s1) [2,3] [] [16,24] rfl ?o1 ?q1
 case o1=>simp; rfl
 refine zar ⟨12,[(4,.rs 50 0 o.length)],[(50,some ⟨1,zaf o,0⟩)],200⟩ rfl ?_ ?_
 ·simp
  refine zal hlev (by simp) ?_
  simp
  refine zaN hord (by simp) ?_
  simp
  exact ⟨rfl,LeI [(88,50)] []⟩
 refine zah ?_
 exact ⟨.inr rfl,zan.out [50] [] rfl (by simp) (by simp) (by simp) (by simp [fcd])⟩
theorem zqq (g : Gr) (p : Pol) : ∀ (n : Nat) (o : List Int),o.length = n → (refR g p o).length ≤ n
 | 0,o,h=>by
   obtain rfl:=List.eq_nil_of_length_eq_zero h
   exact Nat.le_refl _
 | n + 1,o,h=>by
   have hne : o ≠ []:=fun e=>by rw [e] at h; cases h
   rw [← List.dropLast_concat_getLast hne]
   have ih:=zqq g p n o.dropLast (by rw [List.length_dropLast,h]; rfl)
   by_cases hc : zau g p (zat (accR g p o.dropLast ++ [o.getLast hne]))
   ·rw [zl9 hc]; omega
   ·rw [zpE hc,List.length_append,List.length_singleton]; omega
theorem ztc (N : Nat) (A : List Ed) : (zg9 N A).length ≤ N:=by
 unfold zg9
 exact Nat.le_trans (List.length_filter_le ..) (by simp)
set_option maxRecDepth 100000 in
set_option maxHeartbeats 8000000 in
theorem zi5 (g : Gr) (p : Pol) (hg : GrOk g) (hp : za9 g.size p) (hs : p.seeds.length ≤ 64) (hN : g.size < 20) :
  ∃ f : List Int,zkb g p (zat (accR g p (ordL (zai g p.lv) p.seeds))) f ∧
    zaj Tryz.prog ze1 [eG g,eP p] [] (.tup [eAcc (accR g p (ordL (zai g p.lv) p.seeds)) f (refR g p (ordL (zai g p.lv) p.seeds)),.I 0]) []:=by
 have hsz:=hg.1.1
 have hsz2:=hg.1.2.1
 have hel:=hg.edges_le
 have hgl:=hg.gone_le
 have hchk:=zcj g p (by omega) (by omega) (by omega) (by have:=hp.2.2.2.1; omega)
 rw [if_pos hg,if_pos hp] at hchk
 have hord:=zjN g p hg hN (by omega)
 obtain ⟨o,ho⟩ : ∃ o,o = ordL (zai g p.lv) p.seeds:=⟨_,rfl⟩
 have hor : ∀ k ∈ o,0 ≤ k ∧ k < g.size:=fun k hk=>by rw [ho] at hk; have h:=zb0 hk; exact h
 have hon : o.Nodup:=by rw [ho]; exact zbu _ _
 rw [← ho] at hord ⊢
 have hol : o.length ≤ 64:=by
  have:=zba (b:=(List.range g.size.toNat).map fun i : Nat=>(i : Int)) hon fun x hx=>by
   have:=hor x hx
   exact List.mem_map.2 ⟨x.toNat,List.mem_range.2 (by omega),by omega⟩
  simp at this
  omega
 have h64 : ∀ a : List Int,(∀ x ∈ a,0 ≤ x ∧ x < g.size) → ∀ x ∈ a,0 ≤ x ∧ x < 64:=fun a h x hx=>by have:=h x hx; omega
 have hnv : ∀ a : List Int,(∀ x ∈ a,0 ≤ x ∧ x < g.size) → zbf ⟨netN g,netA g p (zat a)⟩:=fun a h=>zgi hg hp (zmQ (zd5 h)) hs (zb3 a)
 have hserve : ∀ a : List Int,a.Nodup → (∀ x ∈ a,0 ≤ x ∧ x < g.size) → ∃ f,zkb g p (zat a) f ∧ zaj Tryz.prog zcV [eN ⟨netN g,netA g p (zat a)⟩,.I (a.length : Nat)] [] (.tup [.rs 0 0 (netA g p (zat a)).length,.B (@decide (zau g p (zat a)) (Classical.propDecidable _))]) [some ⟨1,zaf f,0⟩]:=fun a h1 h2=>by
  obtain ⟨f,hf,hc⟩:=zlz _ _ (a.length : Nat) (hnv a h2)
  have hmf:=zfS hf.1 hf.2
  refine ⟨f,⟨hf.1,hf.2,hmf.symm⟩,?_⟩
  have hjl:=zmd h1 (h64 a h2)
  have : decide (valF (netA g p (zat a)) f = (a.length : Nat)) = @decide (zau g p (zat a)) (Classical.propDecidable _):=by
   rw [decide_eq_decide]
   unfold zau
   rw [hmf,hjl]
  rw [this] at hc
  exact hc
 have haccn : ∀ i,(accR g p (o.take i)).Nodup:=fun i=>(hon.sublist ((zhV _ _ rfl).trans (List.take_sublist _ _)))
 have haccr : ∀ i,∀ x ∈ accR g p (o.take i),0 ≤ x ∧ x < g.size:=fun i x hx=>hor x (List.mem_of_mem_take (zhR hx))
 obtain ⟨f,hf,hlast⟩:=hserve (accR g p o) (by have:=haccn o.length; rwa [List.take_length] at this) (by have:=haccr o.length; rwa [List.take_length] at this)
 refine ⟨f,hf,?_⟩
 have hnl:=zeD g p (accR g p o) hg hp (by have:=haccn o.length; rwa [List.take_length] at this) (by have:=haccr o.length; rwa [List.take_length] at this) hs
 have hlf:=hf.ok.fit.len
 refine zoW.acalls (nbz rfl) (nbz rfl) (Nat.zero_le _) ?_
 show awp _ 0 _ _ ⟨72,[(0,eG g),(1,eP p)],[],16⟩
 refine rx (s:=?s1) [2,3,4] [32] [16,24] rfl ?o1 ?q1
 case o1=>simp; rfl
 refine zab ?_
 refine rx (s:=?s2) [2,3,4,6] [32] [] rfl ?o2 ?q2
 case o2=>simp; refine zal hchk (by simp) ?_; simp; rfl
 refine rx (s:=?s3) [2,3,4,18] [32] [] rfl ?o3 ?q3
 case o3=>simp; rfl
 refine zac _ rfl (fun h=>by cases h) fun _=>?_
 refine zad ?_
 refine zaa ⟨72,[(2,.pv (gC g)),(3,.pv (pC p)),(4,.pt 32 0 0),(7,.pt 40 0 0)],[(32,some ⟨3,[[.nilS,.nilS,.nilS]],0⟩),(40,some ⟨3,[[.nilS,.nilS,.nilS]],0⟩)],200⟩ rfl ?_ ?_
 ·simp
  exact LeH [(32,32),(96,40)] []
 refine zab ?_
 refine zaa ⟨72,[(2,.pv (gC g)),(3,.pv (pC p)),(4,.pt 32 0 0),(7,.pt 40 0 0),(23,ints o),(24,.I o.length),(25,.I 0)],[(32,some ⟨3,[[.nilS,.nilS,.nilS]],0⟩),(40,some ⟨3,[[.nilS,.nilS,.nilS]],0⟩)],400⟩ rfl ?_ ?_
 ·simp
  refine zaN hord (by simp) ?_
  simp
  exact Le.go [(32,32),(40,40)] [216] rfl rfl (by simp [fcd,zak]) (by simp)
 refine zae ?_
 have hR0 : refR g p [] = []:=rfl
 refine zao (ι:=Nat) (fun i=>⟨72,[(2,.pv (gC g)),(3,.pv (pC p)),(4,.pt 32 0 0),(7,.pt 40 0 0),(23,ints o),(24,.I o.length),(25,.I i)],
   [(32,some ⟨3,[[.nilS,.nilS,.nilS]],0⟩),(40,some ⟨3,[[ints (accR g p (o.take i)),.nilS,.rs 42 0 (refR g p (o.take i)).length]],0⟩),(42,some ⟨2,zbb (refR g p (o.take i)),0⟩)],500⟩)
  (fun i=>i ≤ o.length) (fun i=>o.length - i) 0 (Nat.zero_le _)
  (Le.lst [(32,32),(40,40)] [] [(42,2)] rfl (by simp) (by simp) (by simp) (by simp) (by simp) (by simp) (by simp) (by simp [Up]) (by simp [zjJ,hR0,fcd]; exact ⟨zaB.rfl' (by simp),zaB.row rfl (by omega) (by simp [UpL,Up,Wk.refl]; exact Wk.nil _ _)⟩)) ?_
 intro i hi
 have haN:=haccn i
 have haR:=haccr i
 have hal : (accR g p (o.take i)).length ≤ 64:=Nat.le_trans (zh9 _) (Nat.le_trans (List.length_take_le' i o) hol)
 have hRl:=zqq g p _ (o.take i) rfl
 have hRl2:=List.length_take_le' i o
 have hyes:=fun k=>zdG (g:=g) (p:=p) (o:=o.take i) (k:=k)
 have hno:=fun k=>zgN (g:=g) (p:=p) (o:=o.take i) (k:=k)
 have hryes:=fun k=>zl9 (g:=g) (p:=p) (o:=o.take i) (k:=k)
 have hrno:=fun k=>zpE (g:=g) (p:=p) (o:=o.take i) (k:=k)
 have hmem : ∀ x ∈ accR g p (o.take i),x ∈ o.take i:=fun x hx=>zhR hx
 obtain ⟨acc,hacc⟩ : ∃ acc,acc = accR g p (o.take i):=⟨_,rfl⟩
 obtain ⟨R,hR⟩ : ∃ R,R = refR g p (o.take i):=⟨_,rfl⟩
 rw [← hacc] at haN haR hal hmem hyes hno hryes hrno
 rw [← hR] at hRl hryes hrno
 rw [← hacc,← hR]
 refine zaa ⟨72,[(2,.pv (gC g)),(3,.pv (pC p)),(4,.pt 32 0 0),(7,.pt 40 0 0),(23,ints o),(24,.I o.length),(25,.I i),(26,.B (decide (i < o.length)))],
   [(32,some ⟨3,[[.nilS,.nilS,.nilS]],0⟩),(40,some ⟨3,[[ints acc,.nilS,.rs 42 0 R.length]],0⟩),(42,some ⟨2,zbb R,0⟩)],600⟩ rfl ?_ ?_
 ·simp
  exact LeI [(32,32),(40,40),(42,42)] []
 refine zab ?_
 refine zac _ rfl (fun h11=>?_) fun h11=>?_
 ·simp at h11
  have hw1 : IntKind.i64.wrap ((i : Int) + 1) = (i : Int) + 1:=w64 (by omega) (by omega)
  obtain ⟨k,hk⟩ : ∃ k,k = o[i]:=⟨_,rfl⟩
  have hkr:=hor _ (List.getElem_mem h11)
  rw [← hk] at hkr
  have hts : o.take (i + 1) = o.take i ++ [k]:=by rw [List.take_succ_eq_append_getElem h11,hk]
  have hkacc : k ∉ acc:=fun h=>by
   have h2:=hmem k h
   obtain ⟨j,hj,hjk⟩:=List.mem_iff_getElem.1 h2
   rw [List.getElem_take] at hjk
   rw [List.length_take] at hj
   have:=(List.pairwise_iff_getElem.1 hon) j i (by omega) h11 (by omega)
   exact this (hjk.trans hk)
  have hks : ∀ x ∈ acc ++ [k],0 ≤ x ∧ x < g.size:=fun x hx=>by
   rcases List.mem_append.1 hx with h | h
   ·exact haR x h
   ·rw [List.mem_singleton] at h; subst h; exact hkr
  have hkn : (acc ++ [k]).Nodup:=List.nodup_append.2 ⟨haN,by simp,fun a ha b hb=>by
   rw [List.mem_singleton] at hb
   subst hb
   rintro rfl
   exact hkacc ha⟩
  have hwith:=zlu acc k (by omega)
  have hnet:=zeD g p (acc ++ [k]) hg hp hkn hks hs
  obtain ⟨fl,hfl,hsv⟩:=hserve (acc ++ [k]) hkn hks
  have hreach:=zkB _ _ fl (hnv _ hks) hfl.ok hfl.most
  have hflen:=hfl.ok.fit.len
  have hnl2:=ztc (netN g) (netA g p (zat (acc ++ [k])))
  have hyes:=hyes k
  have hno:=hno k
  have hryes:=hryes k
  have hrno:=hrno k
  rw [← hts] at hyes hno hryes hrno
  obtain ⟨A,hA⟩ : ∃ A,A = netA g p (zat (acc ++ [k])):=⟨_,rfl⟩
  obtain ⟨side,hside⟩ : ∃ side,side = zg9 (netN g) A:=⟨_,rfl⟩
  rw [← hA] at hnet hsv hreach hflen hrno
  rw [← hside] at hreach hrno
  have htf : ∀ h : Int → List AV,List.take A.length (List.map h fl) = List.map h fl:=fun h=>List.take_of_length_le (by simp; omega)
  obtain ⟨W,hW⟩ : ∃ W,W = acc ++ [k]:=⟨_,rfl⟩
  have hWl : W.length = acc.length + 1:=by rw [hW]; simp
  rw [← hW] at hwith hnet hsv hyes hno hryes hrno
  rw [← hWl] at hwith
  refine zad ?_
  refine zaJ (ι:=Unit) (fun _=>⟨72,[(2,.pv (gC g)),(3,.pv (pC p)),(4,.pt 32 0 0),(7,.pt 40 0 0),(23,ints o),(24,.I o.length),(25,.I i)],
   [(32,some ⟨3,[[.nilS,.nilS,.nilS]],0⟩),(40,some ⟨3,[[ints (accR g p (o.take (i + 1))),.nilS,.rs 42 0 (refR g p (o.take (i + 1))).length]],0⟩),(42,some ⟨2,zbb (refR g p (o.take (i + 1))),0⟩)],3000⟩) (fun _=>True) ?_ fun _ _=>?_
  ·refine zae ?_
   refine zaa ⟨72,[(2,.pv (gC g)),(3,.pv (pC p)),(4,.pt 32 0 0),(7,.pt 40 0 0),(9,.I k),(23,ints o),(24,.I o.length),(25,.I i)],
    [(32,some ⟨3,[[.nilS,.nilS,.nilS]],0⟩),(40,some ⟨3,[[ints acc,.nilS,.rs 42 0 R.length]],0⟩),(42,some ⟨2,zbb R,0⟩)],700⟩ rfl ?_ ?_
   ·simp [h11,← hk]
    exact LeI [(32,32),(40,40),(42,42)] []
   refine zaa ⟨72,[(2,.pv (gC g)),(3,.pv (pC p)),(4,.pt 32 0 0),(7,.pt 40 0 0),(9,.I k),(10,ints W),(23,ints o),(24,.I o.length),(25,.I i)],
    [(32,some ⟨3,[[.nilS,.nilS,.nilS]],0⟩),(40,some ⟨3,[[ints acc,.nilS,.rs 42 0 R.length]],0⟩),(42,some ⟨2,zbb R,0⟩)],800⟩ rfl ?_ ?_
   ·simp
    refine zaN hwith (by simp) ?_
    simp
    exact Le.go [(32,32),(40,40),(42,42)] [724] rfl rfl (by simp [fcd,zak]) (by simp [fcd])
   refine zaa ⟨72,[(2,.pv (gC g)),(3,.pv (pC p)),(4,.pt 32 0 0),(7,.pt 40 0 0),(9,.I k),(10,ints W),(11,.pv (nC ⟨netN g,A⟩)),(23,ints o),(24,.I o.length),(25,.I i)],
    [(32,some ⟨3,[[.nilS,.nilS,.nilS]],0⟩),(40,some ⟨3,[[ints acc,.nilS,.rs 42 0 R.length]],0⟩),(42,some ⟨2,zbb R,0⟩)],900⟩ rfl ?_ ?_
   ·simp
    refine zal hnet (by simp) ?_
    simp
    exact LeI [(32,32),(40,40),(42,42)] [832]
   refine zaa ⟨72,[(2,.pv (gC g)),(3,.pv (pC p)),(4,.pt 32 0 0),(7,.pt 40 0 0),(9,.I k),(10,ints W),(11,.pv (nC ⟨netN g,A⟩)),(12,.rs 43 0 A.length),(13,.B (@decide (zau g p (zat W)) (Classical.propDecidable _))),(23,ints o),(24,.I o.length),(25,.I i)],
    [(32,some ⟨3,[[.nilS,.nilS,.nilS]],0⟩),(40,some ⟨3,[[ints acc,.nilS,.rs 42 0 R.length]],0⟩),(42,some ⟨2,zbb R,0⟩),(43,some ⟨1,zaf fl,0⟩)],1000⟩ rfl ?_ ?_
   ·simp
    refine zaN hsv (by simp) ?_
    simp
    exact LeI [(32,32),(40,40),(42,42),(924,43)] []
   refine zab ?_
   refine zaa ⟨72,[(2,.pv (gC g)),(3,.pv (pC p)),(4,.pt 32 0 0),(7,.pt 40 0 0),(9,.I k),(10,ints W),(11,.pv (nC ⟨netN g,A⟩)),(12,.rs 43 0 A.length),(44,.B (@decide (zau g p (zat W)) (Classical.propDecidable _))),(23,ints o),(24,.I o.length),(25,.I i)],
    [(32,some ⟨3,[[.nilS,.nilS,.nilS]],0⟩),(40,some ⟨3,[[ints acc,.nilS,.rs 42 0 R.length]],0⟩),(42,some ⟨2,zbb R,0⟩),(43,some ⟨1,zaf fl,0⟩)],1100⟩ rfl ?_ ?_
   ·simp
    exact LeI [(32,32),(40,40),(42,42),(43,43)] []
   refine zac _ rfl (fun h15=>?_) fun h15=>?_
   ·have h15' : zau g p (zat W):=@of_decide_eq_true _ (Classical.propDecidable _) h15
    have hy:=hyes h15'
    have hry:=hryes h15'
    refine zaa ⟨72,[(2,.pv (gC g)),(3,.pv (pC p)),(4,.pt 32 0 0),(7,.pt 40 0 0),(23,ints o),(24,.I o.length),(25,.I i)],
     [(32,some ⟨3,[[.nilS,.nilS,.nilS]],0⟩),(40,some ⟨3,[[ints W,.nilS,.rs 42 0 R.length]],0⟩),(42,some ⟨2,zbb R,0⟩)],1200⟩ rfl ?_ ?_
    ·simp [zaE]
     exact LeI [(32,32),(40,40),(42,42)] []
    refine zam ?_
    refine hit ?_
    exact ⟨(),trivial,Le.go [(32,32),(40,40),(42,42)] [] rfl rfl (by simp) (by simp [hy,hry,fcd])⟩
   ·have h15' : ¬ zau g p (zat W):=@of_decide_eq_false _ (Classical.propDecidable _) h15
    have hn':=hno h15'
    have hrn:=hrno h15'
    have htR : ∀ h : Int × List Int → List AV,List.take R.length (List.map h R) = List.map h R:=fun h=>List.take_of_length_le (by simp)
    refine zad ?_
    refine zbO rfl ?_
    simp
    refine zbp (i:=43) rfl (by simp [fcd]) hreach (by simp) (by simp) ?_
    simp [htR,zaE]
    exact ⟨by omega,by omega,rfl,Le.go [(32,32),(40,40),(1164,42)] [1140] rfl rfl (by simp) (by simp [hn',hrn,fcd,zak])⟩
  refine zaq rfl ?_
  simp [hw1]
  exact ⟨i + 1,by omega,by omega,Le.go [(32,32),(40,40),(42,42)] [] rfl rfl (by simp [hw1]) (by simp [fcd])⟩
 simp at h11
 obtain rfl : i = o.length:=by omega
 rw [List.take_length] at hacc hR
 rw [← hacc] at hlast hnl hlf
 have hl1 : ((acc.length : Nat) : Int) = acc.length:=rfl
 obtain ⟨A,hA⟩ : ∃ A,A = netA g p (zat acc):=⟨_,rfl⟩
 rw [← hA] at hnl hlast hlf
 have htf : ∀ h : Int → List AV,List.take A.length (List.map h f) = List.map h f:=fun h=>List.take_of_length_le (by simp; omega)
 refine zam ?_
 refine hit ?_
 refine zar ⟨72,[(4,.pt 32 0 0),(7,.pt 40 0 0)],
   [(32,some ⟨3,[[.nilS,.nilS,.nilS]],0⟩),(40,some ⟨3,[[ints acc,ints f,.vs 2 false (zbb R)]],0⟩)],1200⟩ rfl ?_ ?_
 ·simp
  refine zal hnl (by simp) ?_
  simp
  refine zaN hlast (by simp) ?_
  simp [zaE]
  exact ⟨rfl,Le.go [(32,32),(40,40)] [42,664] rfl rfl (by simp) (by simp [fcd,zak,htf,hlf])⟩
 refine zaa ⟨72,[(4,.pt 32 0 0),(5,.I 0)],[(32,some ⟨3,[[ints acc,ints f,.vs 2 false (zbb R)]],0⟩)],1400⟩ rfl ?_ ?_
 ·simp [zaE]
  exact LeI [(32,32)] []
 refine zah ?_
 rw [← hacc,← hR]
 exact ⟨.inr rfl,zan.out [] [32] rfl (by simp) (by simp) (by simp) (by simp)⟩
section
variable {P : Program} {np id : Nat} {h : Nat → Option Ent} {K : AV → List Nat → List (Nat × Option Ent) → Prop} {f : FuncId} {first capt args args' : List AV} {res : AV}
end
theorem zqc (L : List Int) (hl : L.length ≤ 400) : ∃ (g : Gr) (b : Nat),(GrOk g ∧ 2 ≤ g.size ∧ g.size ≤ 9 ∧ b ≤ L.length) ∧ zaj Tryz.prog zbj [.pt 0 0 0] [dice L 0] (eG g) [some (dice L b)] :=
 have h:=zoR L 0 (Nat.zero_le _)
 ⟨_,_,⟨h.ok,h.lo,h.hi,h.at_⟩,ztw L 0 hl (Nat.zero_le _)⟩
variable {g : Gr} {p : Pol}
theorem Rise.pair {l : List Int} {lo hi : Int} (h : Rise l lo hi) : l.Pairwise (· < ·):=by
 have hlt : ∀ (j i : Nat) (hj : j < l.length) (hij : i < j),l[i] < l[j]:=by
  intro j
  induction j with
  | zero=>intro i _ hij; omega
  | succ j ih =>
    intro i hj hij
    have h1:=(h (j + 1) hj).2.2 (by omega)
    simp only [Nat.add_sub_cancel] at h1
    rcases Nat.lt_or_ge i j with h2 | h2
    ·have:=ih i (by omega) h2
     omega
    ·have : i = j:=by omega
     subst this
     exact h1
 exact List.pairwise_iff_getElem.2 fun i j hi hj hij=>hlt j i hj hij
theorem ziS (acc f : List Int) (R : List (Int × List Int)) (k : Int) (hl : acc.length ≤ 140737488355328) : zaj Tryz.prog zc0 [eAcc acc f R,.I k] [] (.B (decide (k ∈ acc))) []:=by
 refine zkf.acalls (nbz rfl) (nbz rfl) (Nat.zero_le _) ?_
 show awp _ 0 _ _ ⟨9,[(0,eAcc acc f R),(1,.I k)],[],16⟩
 refine zaa ⟨9,[(1,.I k),(2,.pv [ints acc,ints f,.vs 2 false (zbb R)])],[],100⟩ rfl ?_ ?_
 ·simp
  exact LeH [] [16]
 refine zaa ⟨9,[(4,.B (decide (k ∈ acc)))],[],200⟩ rfl ?_ ?_
 ·simp
  refine zal (zda acc k hl) (by simp) ?_
  simp
  exact LeH [] []
 refine zah ?_
 exact ⟨.inr rfl,zan.one (by simp)⟩
theorem zq3 {R : List (Int × List Int)} {key : Int} {side : List Int} (h : (key,side) ∈ R) : ∃ j,∃ hj : j < R.length,idxQ R (fun r=>decide (r.1 = key)) = (j : Int) ∧ R[j].1 = key:=by
 have hlt : R.findIdx (fun r=>decide (r.1 = key)) < R.length:=List.findIdx_lt_length_of_exists ⟨_,h,by simp⟩
 refine ⟨_,hlt,by unfold idxQ; rw [if_pos hlt],?_⟩
 have:=List.findIdx_getElem (w:=hlt)
 simpa using this
set_option maxRecDepth 100000 in
set_option maxHeartbeats 8000000 in
open Classical in
theorem zj1 (g : Gr) (p : Pol) (fl : List Int) (key : Int) (hg : GrOk g) (hp : za9 g.size p) (hs : p.seeds.length ≤ 64) (hkey : key ∈ ordL (zai g p.lv) p.seeds) :
  ∃ x,ForR g p (ordL (zai g p.lv) p.seeds) key x ∧ zaj Tryz.prog zbi [eG g,eP p,eAcc (accR g p (ordL (zai g p.lv) p.seeds)) fl (refR g p (ordL (zai g p.lv) p.seeds)),ints (ordL (zai g p.lv) p.seeds),.I key] [] (.tup [eX x,.I 0]) []:=by
 refine zhp.acallsX (args:=[eG g,eP p,eAcc (accR g p (ordL (zai g p.lv) p.seeds)) fl (refR g p (ordL (zai g p.lv) p.seeds)),ints (ordL (zai g p.lv) p.seeds),.I key]) (hs:=[]) (fun x=>.tup [eX x,.I 0]) (fun _=>[]) (fun x : Expl=>ForR g p (ordL (zai g p.lv) p.seeds) key x) (nbz rfl) (nbz rfl) (fun _=>Nat.le_refl _) ?_
 have hsz:=hg.1.1
 have hsz2:=hg.1.2.1
 obtain ⟨⟨R',fl'⟩,⟨hR,_⟩,_⟩:=zvo g p hg hp hs
 simp only at hR
 have hReq:=hR.eq
 subst hReq
 have hon:=zbu (zai g p.lv) p.seeds
 have hsrv:=fun ks=>zjb g p ks hg hp hs
 obtain ⟨o,ho⟩ : ∃ o,o = ordL (zai g p.lv) p.seeds:=⟨_,rfl⟩
 have hor : ∀ k ∈ o,0 ≤ k ∧ k < g.size:=fun k hk=>by rw [ho] at hk; have h:=zb0 hk; exact h
 have hol : o.length ≤ 64:=by
  have h1:=zem (g:=zai g p.lv) (S:=p.seeds) hsz
  have h2 : (zai g p.lv).size = g.size:=rfl
  rw [← ho] at h1
  omega
 rw [← ho] at hR hkey hon ⊢
 obtain ⟨R,hRd⟩ : ∃ R,R = refR g p o:=⟨_,rfl⟩
 rw [← hRd] at hR ⊢
 have hRl:=hR.len
 obtain ⟨acc,hacc⟩ : ∃ acc,acc = accR g p o:=⟨_,rfl⟩
 rw [← hacc]
 have hal : acc.length ≤ 64:=by rw [hacc]; exact Nat.le_trans (zh9 o) hol
 have hA:=fun k=>ziS acc fl R k (by omega)
 obtain ⟨i0,hi0d⟩ : ∃ i0,i0 = o.idxOf key:=⟨_,rfl⟩
 have hi0 : i0 < o.length:=by rw [hi0d]; exact List.idxOf_lt_length_of_mem hkey
 have hok : o[i0] = key:=by
  have : o[o.idxOf key]'(List.idxOf_lt_length_of_mem hkey) = key:=List.getElem_idxOf _
  simp only [hi0d]
  exact this
 have hidx:=zeI o key (by omega)
 rw [show idxI o key = (i0 : Int) by unfold idxI; rw [if_pos hkey,hi0d]] at hidx
 obtain ⟨T,hT⟩ : ∃ T,T = tkL o i0:=⟨_,rfl⟩
 have hTl : T.length = i0:=by rw [hT]; exact zo5 (by omega)
 have hTo : ∀ (i : Nat) (h : i < T.length),∃ h2 : i < o.length,T[i] = o[i]:=fun i h=>by
  have h2 : i < o.length:=by omega
  refine ⟨h2,?_⟩
  have e : T[i]? = o[i]?:=by rw [hT]; unfold tkL; rw [List.getElem?_take_of_lt (by omega)]
  rw [List.getElem?_eq_getElem h,List.getElem?_eq_getElem h2] at e
  exact Option.some.inj e
 have htT : ∀ h : Int → List AV,List.take i0 (List.map h o) = List.map h T:=fun h=>by rw [hT]; unfold tkL; rw [List.map_take]
 obtain ⟨ac,hac⟩ : ∃ ac,ac = decide (key ∈ acc):=⟨_,rfl⟩
 have hAk:=hA key
 rw [show @decide (key ∈ acc) (List.instDecidableMemOfLawfulBEq key acc) = ac by rw [hac]] at hAk
 show awp _ 0 _ _ ⟨76,[(0,eG g),(1,eP p),(2,eAcc acc fl R),(3,ints o),(4,.I key)],[],16⟩
 refine zaa ⟨76,[(3,ints o),(5,.pv (gC g)),(6,.pv (pC p)),(7,.pv [ints acc,ints fl,.vs 2 false (zbb R)]),(9,.pv [.I key]),(10,.pt 48 0 0)],[(48,some ⟨5,[[.I 0,.B false,.nilS,.nilS,.nilS]],0⟩)],100⟩ rfl ?_ ?_
 ·simp
  exact LeH [(48,48)] [16,24,32,40]
 refine zar ⟨76,[(3,ints o),(5,.pv (gC g)),(6,.pv (pC p)),(7,.pv [ints acc,ints fl,.vs 2 false (zbb R)]),(9,.pv [.I key]),(10,.pt 48 0 0),(12,.pt 50 0 0)],[(48,some ⟨5,[[.I 0,.B false,.nilS,.nilS,.nilS]],0⟩),(50,some ⟨5,[[.I key,.B ac,.nilS,.nilS,.nilS]],0⟩)],200⟩ rfl ?_ ?_
 ·simp
  refine zal hAk (by simp) ?_
  simp [zaE]
  exact ⟨rfl,LeH [(48,48),(140,50)] []⟩
 refine zab ?_
 refine zaa ⟨76,[(5,.pv (gC g)),(6,.pv (pC p)),(7,.pv [ints acc,ints fl,.vs 2 false (zbb R)]),(9,.pv [.I key]),(10,.pt 48 0 0),(12,.pt 50 0 0),(27,ints T),(28,.I T.length),(29,.I 0)],[(48,some ⟨5,[[.I 0,.B false,.nilS,.nilS,.nilS]],0⟩),(50,some ⟨5,[[.I key,.B ac,.nilS,.nilS,.nilS]],0⟩)],300⟩ rfl ?_ ?_
 ·simp
  refine zal hidx (by simp) ?_
  simp [hi0]
  exact ⟨by omega,Le.go [(48,48),(50,50)] [] rfl rfl (by simp [htT,hTl,Nat.le_of_lt hi0]) (by simp)⟩
 refine zae ?_
 refine zao (ι:=Nat) (fun i=>⟨76,[(5,.pv (gC g)),(6,.pv (pC p)),(7,.pv [ints acc,ints fl,.vs 2 false (zbb R)]),(9,.pv [.I key]),(10,.pt 48 0 0),(12,.pt 50 0 0),(27,ints T),(28,.I T.length),(29,.I i)],[(48,some ⟨5,[[.I 0,.B false,.nilS,.nilS,.nilS]],0⟩),(50,some ⟨5,[[.I key,.B ac,.rs 51 0 (befL o acc i).length,.nilS,.nilS]],0⟩),(51,some ⟨1,zaf (befL o acc i),0⟩)],300⟩)
  (fun i=>i ≤ T.length) (fun i=>T.length - i) 0 (Nat.zero_le _)
  (Le.lst [(48,48),(50,50)] [] [(51,1)] rfl (by simp) (by simp) (by simp) (by simp) (by simp) (by simp) (by simp) (by simp [Up]) (by simp [befL,fcd]; exact ⟨zaB.rfl' (by simp),zaB.row rfl (by omega) (by simp [UpL,Up,Wk.refl])⟩)) ?_
 intro i hi
 have hbl:=zt4 o acc i
 refine zaa ⟨76,[(5,.pv (gC g)),(6,.pv (pC p)),(7,.pv [ints acc,ints fl,.vs 2 false (zbb R)]),(9,.pv [.I key]),(10,.pt 48 0 0),(12,.pt 50 0 0),(27,ints T),(28,.I T.length),(29,.I i),(30,.B (decide (i < T.length)))],[(48,some ⟨5,[[.I 0,.B false,.nilS,.nilS,.nilS]],0⟩),(50,some ⟨5,[[.I key,.B ac,.rs 51 0 (befL o acc i).length,.nilS,.nilS]],0⟩),(51,some ⟨1,zaf (befL o acc i),0⟩)],400⟩ rfl ?_ ?_
 ·simp
  exact LeI [(48,48),(50,50),(51,51)] []
 refine zab ?_
 refine zac _ rfl (fun h5=>?_) fun h5=>?_
 ·rw [decide_eq_true_eq] at h5
  have hwi : IntKind.i64.wrap ((i : Int) + 1) = ((i + 1 : Nat) : Int):=by rw [w64 (by omega) (by omega)]; omega
  obtain ⟨hio,hTi⟩:=hTo i h5
  have hsu:=znK (o:=o) (acc:=acc) hio
  obtain ⟨k,hk⟩ : ∃ k,k = o[i]:=⟨_,rfl⟩
  rw [← hk] at hsu hTi
  have hha:=hA k
  refine zad ?_
  refine zaJ (ι:=Unit) (fun _=>⟨76,[(5,.pv (gC g)),(6,.pv (pC p)),(7,.pv [ints acc,ints fl,.vs 2 false (zbb R)]),(9,.pv [.I key]),(10,.pt 48 0 0),(12,.pt 50 0 0),(27,ints T),(28,.I T.length),(29,.I i)],[(48,some ⟨5,[[.I 0,.B false,.nilS,.nilS,.nilS]],0⟩),(50,some ⟨5,[[.I key,.B ac,.rs 51 0 (befL o acc (i + 1)).length,.nilS,.nilS]],0⟩),(51,some ⟨1,zaf (befL o acc (i + 1)),0⟩)],2000⟩) (fun _=>True) ?_ fun _ _=>?_
  ·refine zae ?_
   refine zaa ⟨76,[(5,.pv (gC g)),(6,.pv (pC p)),(7,.pv [ints acc,ints fl,.vs 2 false (zbb R)]),(9,.pv [.I key]),(10,.pt 48 0 0),(12,.pt 50 0 0),(14,.I k),(27,ints T),(28,.I T.length),(29,.I i)],[(48,some ⟨5,[[.I 0,.B false,.nilS,.nilS,.nilS]],0⟩),(50,some ⟨5,[[.I key,.B ac,.rs 51 0 (befL o acc i).length,.nilS,.nilS]],0⟩),(51,some ⟨1,zaf (befL o acc i),0⟩)],500⟩ rfl ?_ ?_
   ·simp [h5,hTi]
    exact LeI [(48,48),(50,50),(51,51)] []
   refine zaa ⟨76,[(5,.pv (gC g)),(6,.pv (pC p)),(7,.pv [ints acc,ints fl,.vs 2 false (zbb R)]),(9,.pv [.I key]),(10,.pt 48 0 0),(12,.pt 50 0 0),(14,.I k),(27,ints T),(28,.I T.length),(29,.I i),(35,.B (decide (k ∈ acc)))],[(48,some ⟨5,[[.I 0,.B false,.nilS,.nilS,.nilS]],0⟩),(50,some ⟨5,[[.I key,.B ac,.rs 51 0 (befL o acc i).length,.nilS,.nilS]],0⟩),(51,some ⟨1,zaf (befL o acc i),0⟩)],600⟩ rfl ?_ ?_
   ·simp
    refine zal hha (by simp) ?_
    simp
    exact LeI [(48,48),(50,50),(51,51)] []
   refine zac _ rfl (fun h19=>?_) fun h19=>?_
   ·rw [decide_eq_true_eq] at h19
    rw [if_pos h19] at hsu
    rw [hsu]
    obtain ⟨E,hE⟩ : ∃ E,E = befL o acc i:=⟨_,rfl⟩
    rw [← hE] at hbl ⊢
    refine zaq rfl ?_
    simp [zak,zaE]
    exact ⟨by omega,by omega,LeI [(48,48),(50,50),(632,51)] []⟩
   ·rw [decide_eq_false_iff_not] at h19
    rw [if_neg h19,List.append_nil] at hsu
    rw [hsu]
    refine zad ?_
    exact ⟨(),trivial,LeI [(48,48),(50,50),(51,51)] []⟩
  refine zaq rfl ?_
  simp
  exact ⟨i + 1,h5,by omega,Le.go [(48,48),(50,50),(51,51)] [] rfl rfl (by simp [hwi]) (by simp [fcd])⟩
 rw [decide_eq_false_iff_not] at h5
 obtain rfl : i = i0:=by omega
 refine zam ?_
 refine hit ?_
 have hEm : ∀ x ∈ befL o acc i,x ∈ o:=fun x hx=>ztH hx
 have hsub : (befL o acc i ++ [key]).Sublist o:=by
  have h1 : (befL o acc i).Sublist (o.take i):=List.filter_sublist
  have h2 : o.take i ++ [key] = o.take (i + 1):=by rw [List.take_succ_eq_append_getElem hi0,hok]
  have h3:=h1.append (List.Sublist.refl [key])
  rw [h2] at h3
  exact h3.trans (List.take_sublist _ _)
 have hEn : (befL o acc i ++ [key]).Nodup:=hon.sublist hsub
 have hEr : ∀ x ∈ befL o acc i ++ [key],0 ≤ x ∧ x < g.size:=fun x hx=>hor x (hsub.subset hx)
 obtain ⟨E,hE⟩ : ∃ E,E = befL o acc i:=⟨_,rfl⟩
 rw [← hE] at hbl hEm hEn hEr ⊢
 refine zab ?_
 refine zaa ⟨76,[(5,.pv (gC g)),(6,.pv (pC p)),(7,.pv [ints acc,ints fl,.vs 2 false (zbb R)]),(9,.pv [.I key]),(10,.pt 48 0 0),(12,.pt 50 0 0),(44,.B ac)],[(48,some ⟨5,[[.I 0,.B false,.nilS,.nilS,.nilS]],0⟩),(50,some ⟨5,[[.I key,.B ac,.rs 51 0 E.length,.nilS,.nilS]],0⟩),(51,some ⟨1,zaf E,0⟩)],700⟩ rfl ?_ ?_
 ·simp
  exact LeI [(48,48),(50,50),(51,51)] []
 refine zac _ rfl (fun h10=>?_) fun h10=>?_
 ·have hin : key ∈ acc:=by rw [h10] at hac; exact of_decide_eq_true hac.symm
  obtain ⟨W,hW,hcall⟩:=hsrv (E ++ [key]) hEn hEr
  have hcl:=zeL E (by omega)
  obtain ⟨Y,hY⟩ : ∃ Y,Y = W.map (zbM (netA g p (zat (E ++ [key])))):=⟨_,rfl⟩
  rw [← hY] at hcall
  refine zar ⟨76,[(10,.pt 48 0 0),(12,.pt 50 0 0),(15,za1 Y),(16,.I 0)],[(48,some ⟨5,[[.I 0,.B false,.nilS,.nilS,.nilS]],0⟩),(50,some ⟨5,[[.I key,.B true,ints E,.nilS,.nilS]],0⟩)],900⟩ rfl ?_ ?_
  ·simp
   refine zeS [51] hcl (by simp [fcd,zak]) (.rs _ _ _) zjQ ?_
   simp [zak]
   refine ⟨by omega,by omega,?_⟩
   refine zk0 [756] (by simp) hcall (by simp [fcd,zak]; exact List.take_of_length_le (by simp)) ?_
   simp
   exact ⟨rfl,Le.go [(48,48),(50,50)] [51] rfl rfl (by simp) (by simp [fcd,zak,h10])⟩
  refine zaa ⟨76,[(10,.pt 48 0 0),(12,.pt 50 0 0),(16,.I 0)],[(48,some ⟨5,[[.I 0,.B false,.nilS,.nilS,.nilS]],0⟩),(50,some ⟨5,[[.I key,.B true,ints E,za1 Y,.nilS]],0⟩)],1000⟩ rfl ?_ ?_
  ·simp [zaE]
   exact LeI [(48,48),(50,50)] []
  refine zaa ⟨76,[(10,.pt 48 0 0),(11,.I 0)],[(48,some ⟨5,[[.I key,.B true,ints E,za1 Y,.nilS]],0⟩)],1100⟩ rfl ?_ ?_
  ·simp [zaE]
   exact LeI [(48,48)] []
  refine zah ?_
  rw [hacc] at hin
  refine zh3.mk (.inr rfl) ⟨key,true,E,Y,[]⟩ ⟨rfl,⟨i,hi0,hok,by rw [← hacc]; exact hE⟩,fun _=>⟨rfl,rfl,W,hW,hY⟩,fun h=>absurd hin h⟩ (zan.out [] [] rfl (by simp) (by simp) (by simp; exact wkX (.refl _) (.nil _ _)) (by simp))
 have hnin : key ∉ acc:=by rw [h10] at hac; exact of_decide_eq_false hac.symm
 have hnin' : key ∉ accR g p o:=by rw [← hacc]; exact hnin
 obtain ⟨side,hside⟩:=hR.all i hi0 (fun hm=>hnin' (by rw [← hok]; exact zr3 hm))
 rw [hok] at hside
 obtain ⟨j,hj,hij,hRj⟩:=zq3 hside
 have hixc:=zmT zbz [.pv [.I key]] (fun r=>decide (r.1 = key)) R (by omega) (fun ρ sn h k=>by simp) fun r _=>zkn r key
 rw [hij] at hixc
 obtain ⟨sd,hsd⟩ : ∃ sd,sd = R[j].2:=⟨_,rfl⟩
 have hgR : R[j]? = some (key,sd):=by rw [List.getElem?_eq_getElem hj,hsd,← hRj]
 have hgR' : R[j] = (key,sd):=by rw [hsd,← hRj]
 have hmem : (key,sd) ∈ R:=by rw [← hgR']; exact List.getElem_mem hj
 have hsl : sd.length ≤ 130:=by
  obtain ⟨_,_,_,hnear⟩:=hR.right _ hmem
  exact hnear.len
 have hcl:=zeL sd (by omega)
 refine zad ?_
 refine zab ?_
 refine zaa ⟨76,[(7,.pv [ints acc,ints fl,.vs 2 false (zbb R)]),(10,.pt 48 0 0),(12,.pt 50 0 0),(17,.I j)],[(48,some ⟨5,[[.I 0,.B false,.nilS,.nilS,.nilS]],0⟩),(50,some ⟨5,[[.I key,.B false,ints E,.nilS,.nilS]],0⟩)],900⟩ rfl ?_ ?_
 ·simp
  refine zal hixc (by simp) ?_
  simp [h10]
  exact Le.go [(48,48),(50,50)] [51] rfl rfl (by simp) (by simp [fcd,zak,h10])
 refine zaa ⟨76,[(7,.pv [ints acc,ints fl,.vs 2 false (zbb R)]),(10,.pt 48 0 0),(12,.pt 50 0 0),(17,.I j),(66,.B true)],[(48,some ⟨5,[[.I 0,.B false,.nilS,.nilS,.nilS]],0⟩),(50,some ⟨5,[[.I key,.B false,ints E,.nilS,.nilS]],0⟩)],1000⟩ rfl ?_ ?_
 ·simp
  exact LeI [(48,48),(50,50)] []
 refine zac _ rfl (fun _=>?_) fun h=>by cases h
 refine zaq rfl ?_
 simp [hgR,hgR',hj]
 refine zaN hcl (by simp) ?_
 simp [zaE]
 refine zaa ⟨76,[(10,.pt 48 0 0),(11,.I 0)],[(48,some ⟨5,[[.I key,.B false,ints E,.nilS,ints sd]],0⟩)],1500⟩ rfl ?_ ?_
 ·simp [zaE]
  exact Le.go [(48,48)] [1048] rfl rfl (by simp) (by simp [fcd,zak])
 refine zah ?_
 refine zh3.mk (.inr rfl) ⟨key,false,E,[],sd⟩ ⟨rfl,⟨i,hi0,hok,by rw [← hacc]; exact hE⟩,fun h=>absurd h hnin',fun _=>⟨rfl,rfl,R,hR,hmem⟩⟩ (zan.out [] [] rfl (by simp) (by simp) (by simp; exact wkX (.nil _ _) (.refl _)) (by simp))
set_option maxRecDepth 100000 in
set_option maxHeartbeats 4000000 in
theorem ze3 (g : Gr) (p : Pol) (key : Int) (hg : GrOk g) (hp : za9 g.size p) (hs : p.seeds.length ≤ 64) (hN : g.size < 20) (hkey : key ∈ ordL (zai g p.lv) p.seeds) :
  ∃ x,ForR g p (ordL (zai g p.lv) p.seeds) key x ∧ zaj Tryz.prog zb9 [eG g,eP p,.I key] [] (.tup [eX x,.I 0]) []:=by
 have hsz:=hg.1.1
 have hsz2:=hg.1.2.1
 have hel:=hg.edges_le
 have hgl:=hg.gone_le
 obtain ⟨fl,_,hrun⟩:=zi5 g p hg hp hs hN
 obtain ⟨x,hx,hexp⟩:=zj1 g p fl key hg hp hs hkey
 refine ⟨x,hx,?_⟩
 have hchk:=zcj g p (by omega) (by omega) (by omega) (by have:=hp.2.2.2.1; omega)
 rw [if_pos hg,if_pos hp] at hchk
 have hre:=zcU g p hg hN (by omega)
 have hol : (ordL (zai g p.lv) p.seeds).length ≤ 64:=by
  have h1:=zem (g:=zai g p.lv) (S:=p.seeds) hsz
  have h2 : (zai g p.lv).size = g.size:=rfl
  omega
 have hcon:=zda (ordL (zai g p.lv) p.seeds) key (by omega)
 rw [decide_eq_true hkey] at hcon
 obtain ⟨o,ho⟩ : ∃ o,o = ordL (zai g p.lv) p.seeds:=⟨_,rfl⟩
 rw [← ho] at hrun hexp hre hcon
 obtain ⟨acc,hacc⟩ : ∃ acc,acc = accR g p o:=⟨_,rfl⟩
 obtain ⟨R,hRd⟩ : ∃ R,R = refR g p o:=⟨_,rfl⟩
 rw [← hacc,← hRd] at hrun hexp
 refine ziZ.acalls (nbz rfl) (nbz rfl) (Nat.zero_le _) ?_
 show awp _ 0 _ _ ⟨45,[(0,eG g),(1,eP p),(2,.I key)],[],16⟩
 refine zaa ⟨45,[(2,.I key),(3,.pv (gC g)),(4,.pv (pC p)),(6,.pt 32 0 0)],[(32,some ⟨5,[[.I 0,.B false,.nilS,.nilS,.nilS]],0⟩)],100⟩ rfl ?_ ?_
 ·simp
  exact LeH [(32,32)] [16,24]
 refine zab ?_
 refine zaa ⟨45,[(2,.I key),(3,.pv (gC g)),(4,.pv (pC p)),(6,.pt 32 0 0),(8,.I 0)],[(32,some ⟨5,[[.I 0,.B false,.nilS,.nilS,.nilS]],0⟩)],200⟩ rfl ?_ ?_
 ·simp
  refine zal hchk (by simp) ?_
  simp
  exact LeH [(32,32)] []
 refine zaa ⟨45,[(2,.I key),(3,.pv (gC g)),(4,.pv (pC p)),(6,.pt 32 0 0),(16,.B false)],[(32,some ⟨5,[[.I 0,.B false,.nilS,.nilS,.nilS]],0⟩)],300⟩ rfl ?_ ?_
 ·simp
  exact LeH [(32,32)] []
 refine zac _ rfl (fun h=>by cases h) fun _=>?_
 refine zad ?_
 refine zaa ⟨45,[(2,.I key),(3,.pv (gC g)),(4,.pv (pC p)),(6,.pt 32 0 0),(9,ints o)],[(32,some ⟨5,[[.I 0,.B false,.nilS,.nilS,.nilS]],0⟩)],400⟩ rfl ?_ ?_
 ·simp
  refine zaN hre (by simp) ?_
  simp
  exact Le.go [(32,32)] [316] rfl rfl (by simp [zak,fcd]) (by simp)
 refine zab ?_
 refine zaa ⟨45,[(2,.I key),(3,.pv (gC g)),(4,.pv (pC p)),(6,.pt 32 0 0),(9,ints o),(25,.B false)],[(32,some ⟨5,[[.I 0,.B false,.nilS,.nilS,.nilS]],0⟩)],500⟩ rfl ?_ ?_
 ·simp
  refine zal hcon (by simp) ?_
  simp
  exact LeH [(32,32)] []
 refine zac _ rfl (fun h=>by cases h) fun _=>?_
 refine zad ?_
 refine zaa ⟨45,[(2,.I key),(3,.pv (gC g)),(4,.pv (pC p)),(6,.pt 32 0 0),(9,ints o),(10,.pv [ints acc,ints fl,.vs 2 false (zbb R)]),(11,.I 0)],[(32,some ⟨5,[[.I 0,.B false,.nilS,.nilS,.nilS]],0⟩)],600⟩ rfl ?_ ?_
 ·simp
  refine zal hrun (by simp) ?_
  simp
  exact LeH [(32,32)] [548]
 refine zab ?_
 refine zaa ⟨45,[(2,.I key),(3,.pv (gC g)),(4,.pv (pC p)),(6,.pt 32 0 0),(9,ints o),(10,.pv [ints acc,ints fl,.vs 2 false (zbb R)]),(34,.B false)],[(32,some ⟨5,[[.I 0,.B false,.nilS,.nilS,.nilS]],0⟩)],700⟩ rfl ?_ ?_
 ·simp
  exact LeH [(32,32)] []
 refine zac _ rfl (fun h=>by cases h) fun _=>?_
 refine zad ?_
 refine zaa ⟨45,[(6,.pt 32 0 0),(7,.I 0)],[(32,some ⟨5,[xE x],0⟩)],800⟩ rfl ?_ ?_
 ·simp
  refine zal hexp (by simp) ?_
  simp [zaE]
  exact LeI [(32,32)] []
 refine zah ?_
 exact ⟨.inr rfl,zan.out [] [] rfl (by simp) (by simp) (by simp) (by simp)⟩
theorem znM (g : Gr) (p : Pol) (acc fl : List Int) (R : List (Int × List Int)) (o : List Int) (key : Int) (x : Expl)
  (hexp : zaj Tryz.prog zbi [eG g,eP p,eAcc acc fl R,ints o,.I key] [] (.tup [eX x,.I 0]) []) :
  zaj Tryz.prog zcZ [.I key,.pv (gC g),.pv (pC p),.pv [ints acc,ints fl,.vs 2 false (zbb R)],.pv [ints o]] [] (.tup [eX x,.I 0]) []:=by
 refine zkA.acalls (nbz rfl) (nbz rfl) (Nat.zero_le _) ?_
 show awp _ 0 _ _ ⟨16,[(0,.I key),(1,.pv (gC g)),(2,.pv (pC p)),(3,.pv [ints acc,ints fl,.vs 2 false (zbb R)]),(4,.pv [ints o])],[],16⟩
 refine rk (s:=?s1) [0,1,2,3,4,6] [16] rfl ?o1 ?q1
 case o1=>simp; rfl
 refine zaa ⟨16,[(6,.pt 16 0 0),(7,.I 0)],[(16,some ⟨5,[xE x],0⟩)],800⟩ rfl ?_ ?_
 ·simp
  refine zal hexp (by simp) ?_
  simp [zaE]
  exact LeI [(16,16)] []
 refine zah ?_
 exact ⟨.inr rfl,zan.out [] [] rfl (by simp) (by simp) (by simp) (by simp)⟩
set_option maxRecDepth 100000 in
set_option maxHeartbeats 4000000 in
theorem ze5 (g : Gr) (p : Pol) (hg : GrOk g) (hp : za9 g.size p) (hs : p.seeds.length ≤ 64) (hN : g.size < 20) :
  ∃ X,AllR g p (ordL (zai g p.lv) p.seeds) X ∧ zaj Tryz.prog zds [eG g,eP p] [] (.tup [eXs X,.I 0]) []:=by
 obtain ⟨fl,_,hrun⟩:=zi5 g p hg hp hs hN
 have hexp:=fun key h=>zj1 g p fl key hg hp hs h
 have hre:=zcU g p hg hN (by omega)
 have hol : (ordL (zai g p.lv) p.seeds).length ≤ 64:=by
  have h1:=zem (g:=zai g p.lv) (S:=p.seeds) hg.1.1
  have h2 : (zai g p.lv).size = g.size:=rfl
  have h3:=hg.1.2.1
  omega
 obtain ⟨o,ho⟩ : ∃ o,o = ordL (zai g p.lv) p.seeds:=⟨_,rfl⟩
 rw [← ho] at hrun hexp hre hol ⊢
 obtain ⟨F,hF⟩ : ∃ F : Int → Expl,∀ k,k ∈ o → ForR g p o k (F k) ∧ zaj Tryz.prog zbi [eG g,eP p,eAcc (accR g p o) fl (refR g p o),ints o,.I k] [] (.tup [eX (F k),.I 0]) []:=by
  refine ⟨fun k=>if h : k ∈ o then (hexp k h).choose else ⟨0,false,[],[],[]⟩,fun k hk=>?_⟩
  simp only [dif_pos hk]
  exact (hexp k hk).choose_spec
 refine ⟨o.map F,⟨by simp,fun i h1 h2=>by rw [List.getElem_map]; exact (hF _ (List.getElem_mem h2)).1⟩,?_⟩
 obtain ⟨acc,hacc⟩ : ∃ acc,acc = accR g p o:=⟨_,rfl⟩
 obtain ⟨R,hRd⟩ : ∃ R,R = refR g p o:=⟨_,rfl⟩
 rw [← hacc,← hRd] at hrun hF
 have hturn:=zrl zcZ [.pv (gC g),.pv (pC p),.pv [ints acc,ints fl,.vs 2 false (zbb R)],.pv [ints o]] F o (by omega) (fun ρ sn h k=>by simp) fun k hk=>znM g p acc fl R o k (F k) (hF k hk).2
 obtain ⟨Y,hY⟩ : ∃ Y,Y = o.map F:=⟨_,rfl⟩
 rw [← hY] at hturn ⊢
 refine zn2.acalls (nbz rfl) (nbz rfl) (Nat.zero_le _) ?_
 show awp _ 0 _ _ ⟨26,[(0,eG g),(1,eP p)],[],16⟩
 refine zaa ⟨26,[(2,.pv (gC g)),(3,.pv (pC p))],[],100⟩ rfl ?_ ?_
 ·simp
  exact LeH [] [16,24]
 refine zaa ⟨26,[(2,.pv (gC g)),(3,.pv (pC p)),(6,.pv [ints acc,ints fl,.vs 2 false (zbb R)]),(7,.I 0)],[],200⟩ rfl ?_ ?_
 ·simp
  refine zal hrun (by simp) ?_
  simp [zaE]
  exact LeH [] [148]
 refine zab ?_
 refine zaa ⟨26,[(2,.pv (gC g)),(3,.pv (pC p)),(6,.pv [ints acc,ints fl,.vs 2 false (zbb R)]),(16,.B false)],[],300⟩ rfl ?_ ?_
 ·simp
  exact LeH [] []
 refine zac _ rfl (fun h=>by cases h) fun _=>?_
 refine zad ?_
 refine zaa ⟨26,[(2,.pv (gC g)),(3,.pv (pC p)),(6,.pv [ints acc,ints fl,.vs 2 false (zbb R)]),(8,.pv [ints o])],[],400⟩ rfl ?_ ?_
 ·simp
  refine zaN hre (by simp) ?_
  simp
  exact Le.go [] [316,324] rfl rfl (by simp [zak,fcd]) (by simp)
 refine zaa ⟨26,[(4,eXs Y),(5,.I 0)],[],500⟩ rfl ?_ ?_
 ·simp
  refine zal hturn (by simp) ?_
  simp
  exact LeH [] []
 refine zah ?_
 exact ⟨.inr rfl,zan.out [] [] rfl (by simp) (by simp) (by simp) (by simp)⟩
section
variable {g : Gr} {p : Pol}
theorem zqO (hg : GrOk g) (hp : za9 g.size p) {a : List Int} (h : ∀ x ∈ a,x ∈ ordL (zai g p.lv) p.seeds) : zcb g p a:=by
 refine ⟨fun x hx=>?_,fun x hx=>?_⟩
 ·have h2:=zb0 (h x hx)
  exact h2
 ·have h2:=(zjE (hg.level p.lv)).1 (h x hx)
  exact (zgq hp h2.1.1).2 ⟨h2.1.2,h2.2⟩
theorem zcb.join {a : List Int} (h : zcb g p a) : zcb g p (zat a):=h.sub fun _ hx=>(zb7.1 hx).1
theorem zq4 (hg : GrOk g) (hp : za9 g.size p) : zcb g p (ordL (zai g p.lv) p.seeds):=zqO hg hp fun _ h=>h
end
variable {g : Gr} {p : Pol}
theorem h64 (hg : GrOk g) {a : List Int} (h : ∀ x ∈ a,0 ≤ x ∧ x < g.size) : ∀ x ∈ a,0 ≤ x ∧ x < 64:=fun x hx=>by
 have:=h x hx
 have:=hg.1.2.1
 omega
variable {g : Gr} {p : Pol}
def zeG (g : Gr) (p : Pol) : List Int:=p.seeds.filter fun k=>!g.gone.contains k
theorem zrH (w : Int → Int) (hw : ∀ x,0 ≤ w x) : ∀ {s a : List Int},s.Nodup → (∀ x ∈ s,x ∈ a) → (s.map w).sum ≤ (a.map w).sum
 | [],a,_,_=>by
   have : ∀ a : List Int,0 ≤ (a.map w).sum:=fun a=>by
    induction a with
    | nil=>exact Int.le_refl _
    | cons x a ih=>simp only [List.map_cons,List.sum_cons]; have:=hw x; omega
   exact this a
 | x :: s,a,hn,h=>by
   rw [List.nodup_cons] at hn
   have h1:=List.perm_cons_erase (h x (List.mem_cons_self ..))
   have ih:=zrH w hw (s:=s) (a:=a.erase x) hn.2 fun y hy=>(List.mem_erase_of_ne (by rintro rfl; exact hn.1 hy)).2 (h y (List.mem_cons_of_mem _ hy))
   have h2 : (a.map w).sum = ((x :: a.erase x).map w).sum:=by
    have hp : ∀ {a b : List Int},a.Perm b → (a.map w).sum = (b.map w).sum:=fun h=>by
     induction h with
     | nil=>rfl
     | cons x _ ih=>simp only [List.map_cons,List.sum_cons,ih]
     | swap x y l=>simp only [List.map_cons,List.sum_cons]; omega
     | trans _ _ i1 i2=>exact i1.trans i2
    exact hp h1
   rw [h2]
   simp only [List.map_cons,List.sum_cons]
   omega
theorem zih {α : Type} {w : α → Int} : ∀ {l : List α},(∀ x ∈ l,0 ≤ w x) → 0 ≤ (l.map w).sum
 | [],_=>Int.le_refl _
 | x :: l,h=>by
   have:=zih (l:=l) fun y hy=>h y (List.mem_cons_of_mem _ hy)
   have:=h x (List.mem_cons_self ..)
   simp only [List.map_cons,List.sum_cons]
   omega
theorem zrm (hp : za9 g.size p) (S : Int → Bool) (h0 : S 0 = true) : ((p.seeds.filter fun x=>decide (0 < (zax g p).getD x.toNat 0)).map fun x=>if S (2 + 2 * x) = false then (zax g p).getD x.toNat 0 else 0).sum ≤ zr5 g p S:=by
 unfold zr5
 simp only [zjF,netA,zaW,List.map_append,List.sum_append,List.map_map,List.filter_nil,List.map_nil,List.sum_nil]
 have h1 : 0 ≤ (((List.range (zax g p).length).filter fun i=>decide (0 < (zax g p).getD i 0)).map ((fun e : Ed=>if S e.f = true ∧ S e.t = false then e.v else 0) ∘ fun i : Nat=>(⟨2 + 2 * (i : Int),3 + 2 * (i : Int),(zax g p).getD i 0 - 1⟩ : Ed))).sum:=zih fun i hi=>by
  have : 0 < (zax g p).getD i 0:=by simpa using (List.mem_filter.1 hi).2
  simp only [Function.comp]
  split <;> omega
 have h2 : 0 ≤ (((zai g p.lv).edges.filter fun e=>decide (0 < (zax g p).getD e.f.toNat 0)).map ((fun e : Ed=>if S e.f = true ∧ S e.t = false then e.v else 0) ∘ fun e : Ed=>(⟨3 + 2 * e.f,2 + 2 * e.t,64⟩ : Ed))).sum:=zih fun e _=>by
  simp only [Function.comp]
  split <;> omega
 have h3 : ((p.seeds.filter fun x=>decide (0 < (zax g p).getD x.toNat 0)).map ((fun e : Ed=>if S e.f = true ∧ S e.t = false then e.v else 0) ∘ fun x : Int=>(⟨0,2 + 2 * x,(zax g p).getD x.toNat 0⟩ : Ed))) = (p.seeds.filter fun x=>decide (0 < (zax g p).getD x.toNat 0)).map fun x=>if S (2 + 2 * x) = false then (zax g p).getD x.toNat 0 else 0:=by
  refine List.map_congr_left fun x _=>?_
  simp only [Function.comp,h0,true_and]
 rw [h3]
 omega
theorem zsk (hg : GrOk g) (hp : za9 g.size p) {ks : List Int} (hn : ks.Nodup) (hs : ∀ k ∈ ks,k ∈ p.seeds) (hk : zcb g p ks) : zau g p ks:=by
 rw [zdp hg hp hk]
 intro S h0 h1
 have hb:=zrm (g:=g) hp S h0
 have hcn:=zi6 (g:=g) hp
 have hc0 : ∀ x : Int,0 ≤ (zax g p).getD x.toNat 0:=fun x=>by
  rw [List.getD_eq_getElem?_getD]
  cases hh : (zax g p)[x.toNat]? with
  | none=>simp
  | some v=>exact hcn v (List.mem_of_getElem? hh)
 have h2:=zrH (fun x=>if S (2 + 2 * x) = false then (zax g p).getD x.toNat 0 else 0) (fun x=>by have:=hc0 x; split <;> omega) hn (a:=p.seeds.filter fun x=>decide (0 < (zax g p).getD x.toNat 0)) fun x hx=>List.mem_filter.2 ⟨hs x hx,decide_eq_true (hk.reach x hx)⟩
 have h3 : (ks.length : Int) ≤ (ks.map fun x=>if S (2 + 2 * x) = false then (zax g p).getD x.toNat 0 else 0).sum + zfV S ks:=by
  have key : ∀ l : List Int,(∀ x ∈ l,zse g p x) → (l.length : Int) ≤ (l.map fun x=>if S (2 + 2 * x) = false then (zax g p).getD x.toNat 0 else 0).sum + zfV S l:=by
   intro l
   induction l with
   | nil=>intro _; exact Int.le_refl _
   | cons x l ih =>
     intro h
     have ih:=ih fun y hy=>h y (List.mem_cons_of_mem _ hy)
     have hx : 0 < (zax g p).getD x.toNat 0:=h x (List.mem_cons_self ..)
     have hs : zfV S (x :: l) = (if S (2 + 2 * x) = true then 1 else 0) + zfV S l:=by
      unfold zfV
      rfl
     rw [hs]
     simp only [List.map_cons,List.sum_cons,List.length_cons]
     cases hS : S (2 + 2 * x)
     ·rw [if_pos rfl,if_neg (by simp)]
      omega
     ·rw [if_neg (by simp),if_pos rfl]
      omega
  exact key ks hk.reach
 omega
theorem zqz (g : Gr) (S : List Int) : ∀ n,0 < n → ∃ l,ordN g S n = ordN g S 1 ++ l
 | 1,_=>⟨[],(List.append_nil _).symm⟩
 | n + 2,_=>by
   obtain ⟨l,hl⟩:=zqz g S (n + 1) (by omega)
   exact ⟨l ++ zbe g.size.toNat fun k=>decide (dist g S k = ((n + 1 : Nat) : Int)),by rw [ordN,hl,List.append_assoc]⟩
theorem zsm (hg : GrOk g) (hp : za9 g.size p) : ∃ l,ordL (zai g p.lv) p.seeds = zeG g p ++ l:=by
 by_cases hn : 0 < g.size.toNat
 ·obtain ⟨l,hl⟩:=zqz (zai g p.lv) p.seeds g.size.toNat hn
  refine ⟨l,?_⟩
  have h1 : ordN (zai g p.lv) p.seeds 1 = zeG g p:=by
   refine zgs ?_ ?_ fun x=>?_
   ·exact zgU g.size.toNat _
   ·exact (hp.2.1.pair).filter _
   ·rw [zh8]
    have h2 : (0 ≤ dist (zai g p.lv) p.seeds x ∧ dist (zai g p.lv) p.seeds x < (1 : Nat)) ↔ zdv g p.seeds x = true:=by
     rw [show zdv g p.seeds x = zdv (zai g p.lv) p.seeds x from rfl,← zsI (hg.level p.lv)]
     omega
    rw [h2]
    unfold zdv zeG
    rw [List.mem_filter]
    simp only [Bool.and_eq_true,List.contains_iff_mem]
    constructor
    ·exact fun h=>h.2
    ·intro h
     have h3:=hp.2.1.nodup.2 x h.1
     exact ⟨⟨by omega,by show x < g.size.toNat; omega⟩,h⟩
  rw [← h1]
  exact hl
 ·have h0 : g.size.toNat = 0:=by omega
  refine ⟨[],?_⟩
  have h1 : zeG g p = []:=by
   unfold zeG
   rw [List.filter_eq_nil_iff]
   intro x hx
   have h3:=hp.2.1.nodup.2 x hx
   omega
  rw [h1]
  show ordN _ _ (g.size.toNat) = _
  rw [h0]
  rfl
theorem ztq {o : List Int} (h : ∀ n,n < o.length → zau g p (zat (o.take (n + 1)))) : ∀ n,n ≤ o.length → accR g p (o.take n) = o.take n
 | 0,_=>rfl
 | n + 1,hn=>by
   have ih:=ztq h n (by omega)
   rw [List.take_succ_eq_append_getElem (by omega)]
   have h1:=h n (by omega)
   rw [List.take_succ_eq_append_getElem (by omega)] at h1
   rw [zdG (by rw [ih]; exact h1),ih]
theorem zti (hg : GrOk g) (hp : za9 g.size p) : ∃ l,accR g p (ordL (zai g p.lv) p.seeds) = zeG g p ++ l:=by
 obtain ⟨l,hl⟩:=zsm hg hp
 have hon:=zbu (zai g p.lv) p.seeds
 have hok:=zq4 hg hp
 rw [hl] at hon hok
 have hsn:=(List.nodup_append.1 hon).1
 have hsk : zcb g p (zeG g p):=hok.sub fun x hx=>List.mem_append_left _ hx
 have h1 : accR g p (zeG g p) = zeG g p:=by
  have:=ztq (g:=g) (p:=p) (o:=zeG g p) (fun n hn=>by
   have hk : zcb g p ((zeG g p).take (n + 1)):=hsk.sub fun x hx=>List.mem_of_mem_take hx
   have hnn : ((zeG g p).take (n + 1)).Nodup:=hsn.sublist (List.take_sublist _ _)
   refine (zsk hg hp hnn (fun k hk2=>(List.mem_filter.1 (List.mem_of_mem_take hk2)).1) hk).perm hg hp hk (zkW hnn (h64 hg hk.rng))) _ (Nat.le_refl _)
  rwa [List.take_length] at this
 obtain ⟨l2,hl2,_⟩:=zmz (g:=g) (p:=p) l (zeG g p)
 exact ⟨l2,by rw [hl,hl2,h1]⟩
variable {g : Gr} {p : Pol}
theorem ForR.uniq {key : Int} {x y : Expl} (hg : GrOk g) (hx : ForR g p (ordL (zai g p.lv) p.seeds) key x) (hy : ForR g p (ordL (zai g p.lv) p.seeds) key y) :
  x.key = y.key ∧ x.acc = y.acc ∧ x.before = y.before ∧ x.side = y.side ∧ x.paths.length = y.paths.length:=by
 obtain ⟨hx1,hx2,i,hi,hik,hib⟩:=hx.at_ hg
 obtain ⟨hy1,hy2,j,hj,hjk,hjb⟩:=hy.at_ hg
 have hij : i = j:=(List.getElem_inj (zbu (zai g p.lv) p.seeds)).1 (hik.trans hjk.symm)
 subst hij
 have hb : x.before = y.before:=hib.trans hjb.symm
 refine ⟨hx1.trans hy1.symm,?_⟩
 by_cases hacc : key ∈ accR g p (ordL (zai g p.lv) p.seeds)
 ·obtain ⟨x1,x2,W,⟨f,g',_,_,hl,_⟩,x3⟩:=hx.yes hacc
  obtain ⟨y1,y2,V,⟨f',g'',_,_,hl',_⟩,y3⟩:=hy.yes hacc
  refine ⟨x1.trans y1.symm,hb,x2.trans y2.symm,?_⟩
  rw [x3,y3,List.length_map,List.length_map]
  rw [hb] at hl
  omega
 ·obtain ⟨x1,x2,R,hR,hs⟩:=hx.no hacc
  obtain ⟨y1,y2,R',hR',hs'⟩:=hy.no hacc
  refine ⟨x1.trans y1.symm,hb,?_,by rw [x2,y2]⟩
  obtain ⟨a,ha,hak,hn⟩:=hR.right _ hs
  obtain ⟨b,hb',hbk,hn'⟩:=hR'.right _ hs'
  simp only at hak hbk hn hn'
  have h1 : a = i:=(List.getElem_inj (zbu (zai g p.lv) p.seeds)).1 (hak.trans hik.symm)
  have h2 : b = i:=(List.getElem_inj (zbu (zai g p.lv) p.seeds)).1 (hbk.trans hik.symm)
  subst h1
  subst h2
  rw [hn.eq,hn'.eq]
theorem ForR.acc_iff' {key : Int} {x : Expl} (h : ForR g p (ordL (zai g p.lv) p.seeds) key x) : x.acc = true ↔ key ∈ accR g p (ordL (zai g p.lv) p.seeds):=by
 by_cases hk : key ∈ accR g p (ordL (zai g p.lv) p.seeds)
 ·simp [hk,(h.yes hk).1]
 ·simp [hk,(h.no hk).1]
structure zpX (g : Gr) (p : Pol) (w : List Int) : Prop where
 len : w.length ≤ 64
 ne : 0 < w.length
 seed : w[0] ∈ p.seeds
 rng : ∀ (i : Nat) (h : i < w.length),0 ≤ w[i] ∧ w[i] < g.size
 cap : ∀ (i : Nat) (h : i < w.length),1 ≤ (zax g p).getD w[i].toNat 0
 once : ∀ (i : Nat) (h : i < w.length),w[i] ∉ w.take i
 edge : ∀ (i : Nat) (h : i + 1 < w.length),w[i + 1] ∈ outs (zai g p.lv).edges w[i]
theorem zqM.steps (hg : GrOk g) (hp : za9 g.size p) {w : List Int} (h : zqM g p.lv p.seeds (ordL (zai g p.lv) p.seeds) w) : zpX g p w:=by
 have hne:=h.ne
 have hpos : 0 < w.length:=List.length_pos_iff.2 hne
 have hrng : ∀ k ∈ w,0 ≤ k ∧ k < g.size:=fun k hk=>by have h2:=zb0 (h.2.1 k hk); exact h2
 have h64:=hg.1.2.1
 refine ⟨?_,hpos,?_,fun i hi=>hrng _ (List.getElem_mem hi),fun i hi=>?_,fun i hi hm=>?_,fun i hi=>zk5.2 (h.2.2.2 i hi)⟩
 ·have:=zba (a:=w) (b:=(List.range 64).map Int.ofNat) h.2.2.1 fun x hx=>by
   have:=hrng x hx
   exact List.mem_map.2 ⟨x.toNat,List.mem_range.2 (by omega),by simp; omega⟩
  simpa using this
 ·obtain ⟨k,hk,hks⟩:=h.1
  rw [List.head?_eq_getElem?,List.getElem?_eq_getElem hpos] at hk
  rw [Option.some.inj hk]
  exact hks
 ·have h1:=h.2.1 _ (List.getElem_mem hi)
  have h2:=(zjE (hg.level p.lv)).1 h1
  have h3:=(zgq (g:=g) hp h2.1.1).2 ⟨h2.1.2,h2.2⟩
  omega
 ·obtain ⟨j,hj,e⟩:=List.mem_take_iff_getElem.1 hm
  have:=(List.getElem_inj h.2.2.1).1 e
  omega
structure zvm (g : Gr) (p : Pol) (P : List (List Int)) (ends : List Int) : Prop where
 len : P.length ≤ 64
 steps : ∀ (i : Nat) (h : i < P.length),zpX g p P[i]
 fresh : ∀ (i : Nat) (h : i < P.length) (hn : P[i] ≠ []),P[i].getLast hn ∉ lasts (P.take i)
 room : zlm (zax g p) P
 same : zat (lasts P) = zat ends
 ends : P.length = ends.length
 lasts : (lasts P).length = P.length
theorem zge.facts (hg : GrOk g) (hp : za9 g.size p) {P : List (List Int)} {ends : List Int} (h : zge g p.lv p.seeds (ordL (zai g p.lv) p.seeds) (zax g p) P ends) : zvm g p P ends:=by
 obtain ⟨h1,h2,h3,h4,h5,h6⟩:=h
 have hl:=zfW fun w hw=>(h3 w hw).ne
 have hp2 : (lasts P).Perm ends:=zcg h5 h4 (by omega)
 have h64:=hg.1.2.1
 refine ⟨?_,fun i hi=>(h3 _ (List.getElem_mem hi)).steps hg hp,fun i hi hn hm=>?_,h6,?_,h1,hl⟩
 ·have:=zba (a:=lasts P) (b:=(List.range 64).map Int.ofNat) h5 fun x hx=>by
   obtain ⟨w,hw,hxw⟩:=zrR hx
   have:=zb0 ((h3 w hw).2.1 x hxw)
   have e : (zai g p.lv).size = g.size:=rfl
   exact List.mem_map.2 ⟨x.toNat,List.mem_range.2 (by omega),by simp; omega⟩
  rw [← hl]
  simpa using this
 ·have hs:=zii P i hi hn
  have hsub : (lasts (P.take (i + 1))).Sublist (lasts P):=(List.take_sublist _ _).filterMap _
  have hnd:=h5.sublist hsub
  rw [hs,List.nodup_append] at hnd
  exact hnd.2.2 _ hm _ (by simp) rfl
 ·exact zgs (zef _) (zef _) fun x=>by rw [zb7,zb7,hp2.mem_iff]
def g1 : Gr:=⟨1,[],[]⟩
def p1 : Pol:=⟨[0],[2],1⟩
theorem ztk : GrOk g1:=⟨⟨by decide +revert,by decide +revert,by decide +revert,fun i h=>by simp [g1] at h⟩,fun i h=>by simp [g1] at h⟩
theorem ztQ : za9 g1.size p1:=by
 refine ⟨by decide +revert,fun i h=>?_,by decide +revert,by decide +revert,by decide +revert,by decide +revert,fun i h=>?_⟩
 ·obtain rfl : i = 0:=by simp [p1] at h; omega
  exact ⟨by decide +revert,by decide +revert,fun h=>by cases h⟩
 ·obtain rfl : i = 0:=by simp [p1] at h; omega
  exact ⟨by decide +revert,by decide +revert,fun h=>by cases h⟩
theorem zqa : ordL (zai g1 p1.lv) p1.seeds = [0]:=by decide
theorem zuQ {x : Expl} (h : ForR g1 p1 (ordL (zai g1 p1.lv) p1.seeds) 0 x) : x.acc = true ∧ x.paths = [[0]] ∧ x.before = []:=by
 obtain ⟨l,hl⟩:=zti ztk ztQ
 have hm : (0 : Int) ∈ accR g1 p1 (ordL (zai g1 p1.lv) p1.seeds):=by
  rw [hl]
  exact List.mem_append_left _ (by decide)
 obtain ⟨_,_,i,hi,hik,hib⟩:=h.at_ ztk
 have hb : x.before = []:=by
  have hi0 : i = 0:=by
   have:=hi
   rw [zqa] at this
   simp at this
   exact this
  rw [hib,hi0]
  rfl
 refine ⟨(h.yes hm).1,?_,hb⟩
 have hs:=h.yes_serves ztk ztQ hm
 rw [hb] at hs
 have hf:=hs.facts ztk ztQ
 have h1 : x.paths.length = 1:=hf.ends
 obtain ⟨w,hw⟩:=List.length_eq_one_iff.1 h1
 have hst:=hf.steps 0 (by omega)
 have hw0 : x.paths[0] = w:=by simp [hw]
 rw [hw0] at hst
 have hr : ∀ (j : Nat) (hj : j < w.length),w[j] = 0:=fun j hj=>by
  have:=hst.rng j hj
  have e : g1.size = 1:=rfl
  omega
 have hlen : w.length = 1:=by
  have h2:=hst.ne
  rcases Nat.lt_or_ge 1 w.length with h3 | h3
  ·exfalso
   have h4:=hst.once 1 h3
   apply h4
   rw [hr 1 h3,← hr 0 hst.ne]
   exact List.mem_take_iff_getElem.2 ⟨0,by omega,rfl⟩
  ·omega
 obtain ⟨a,ha⟩:=List.length_eq_one_iff.1 hlen
 have:=hr 0 hst.ne
 simp [ha] at this
 rw [hw,ha,this]
def begF (P : List (List Int)) (i : Nat) (k : Int) : Int:=(begC (P.take i) k : Nat)
def useF (P : List (List Int)) (i : Nat) (k : Int) : Int:=(useC (P.take i) k : Nat)
def useJ (P : List (List Int)) (i : Nat) (d : List Int) (j : Nat) (k : Int) : Int:=useF P i k + ((d.take j).count k : Nat)
def zaU (P : List (List Int)) (i : Nat) : List Int:=lasts (P.take i)
theorem zs3 (P : List (List Int)) : begF P 0 = fun _=>0:=by funext k; simp [begF,begC]
theorem znS (P : List (List Int)) : useF P 0 = fun _=>0:=by funext k; simp [useF,useC]
theorem zhi (P : List (List Int)) (i : Nat) (d : List Int) : useJ P i d 0 = useF P i:=by funext k; simp [useJ]
theorem zkK (P : List (List Int)) : zaU P 0 = []:=rfl
theorem zsd {P : List (List Int)} {i : Nat} (h : i < P.length) {w : List Int} (hw : P[i] = w) (hl : 0 < w.length) : (fun y=>if y = w[0] then begF P i w[0] + 1 else begF P i y) = begF P (i + 1):=by
 funext y
 unfold begF
 rw [zs6 P i h y,hw,List.head?_eq_getElem?,List.getElem?_eq_getElem hl]
 by_cases hy : y = w[0]
 ·subst hy; simp
 ·simp [hy,Ne.symm hy]
theorem zn5 {P : List (List Int)} {i : Nat} {d : List Int} {j : Nat} (h : j < d.length) : (fun y=>if y = d[j] then useJ P i d j d[j] + 1 else useJ P i d j y) = useJ P i d (j + 1):=by
 funext y
 unfold useJ
 rw [zfz d j h y]
 by_cases hy : y = d[j]
 ·subst hy; simp; omega
 ·simp [hy,Ne.symm hy]
theorem zeO {P : List (List Int)} {i : Nat} {d : List Int} {j : Nat} (h : d.length ≤ j) : useJ P i d j = useJ P i d d.length:=by
 funext y
 unfold useJ
 rw [List.take_of_length_le h,List.take_length]
theorem zpV {P : List (List Int)} {i : Nat} (h : i < P.length) {w : List Int} (hw : P[i] = w) : useJ P i w.dropLast w.dropLast.length = useF P (i + 1):=by
 funext y
 unfold useJ useF
 rw [zsY P i h y,hw,List.take_length]
 omega
theorem zgm {P : List (List Int)} {i : Nat} {d : List Int} (hP : P.length ≤ 64) (hw : ∀ w ∈ P,w.length ≤ 64) (hd : d.length ≤ 64) (j : Nat) (k : Int) : 0 ≤ useJ P i d j k ∧ useJ P i d j k ≤ 10000:=by
 have h1:=ztB (P:=P.take i) (m:=64) (fun x hx=>hw x (List.mem_of_mem_take hx)) k
 have h2:=List.length_take_le' i P
 have h3 : (d.take j).count k ≤ d.length:=Nat.le_trans List.count_le_length (List.length_take_le' j d)
 unfold useJ useF
 omega
theorem zrE {P : List (List Int)} (hP : P.length ≤ 64) (i : Nat) (k : Int) : 0 ≤ begF P i k ∧ begF P i k ≤ 64:=by
 have h1:=ztW (P.take i) k
 have h2:=List.length_take_le' i P
 unfold begF
 omega
theorem zoA (N : Nat) : rowR N (fun _=>0) = List.replicate N 0:=by unfold rowR; simp [List.map_const']
set_option maxRecDepth 100000 in
set_option maxHeartbeats 16000000 in
theorem zgG (g : Gr) (p : Pol) (P : List (List Int)) (ends : List Int) (hg : GrOk g) (hp : za9 g.size p) (hs : p.seeds.length ≤ 64) (h : zge g p.lv p.seeds (ordL (zai g p.lv) p.seeds) (zax g p) P ends) :
  zaj Tryz.prog zeo [eG g,eP p,za1 P,ints ends] [] (.B true) []:=by
 refine znz.acalls (nbz rfl) (nbz rfl) (Nat.zero_le _) ?_
 show awp _ 0 _ _ ⟨189,[(0,eG g),(1,eP p),(2,za1 P),(3,ints ends)],[],16⟩
 have hf:=h.facts hg hp
 clear h
 have hsz:=hg.1.1
 have hsz2:=hg.1.2.1
 have hel:=hg.edges_le
 have hgl:=hg.gone_le
 have hall:=zfY g p hg (by omega)
 have hcl : (zax g p).length = g.size.toNat:=by unfold zax; rw [List.length_map,zfT]; rfl
 have hcb : ∀ k,0 ≤ (zax g p).getD k 0 ∧ (zax g p).getD k 0 ≤ 1000000:=fun k=>by
  rw [List.getD_eq_getElem?_getD]
  cases hh : (zax g p)[k]? with
  | none=>simp
  | some v =>
    have hm:=List.mem_of_getElem? hh
    unfold zax at hm
    obtain ⟨d,_,rfl⟩:=List.mem_map.1 hm
    have:=zdW hp d
    simp only [Option.getD_some]
    omega
 obtain ⟨N,hN⟩ : ∃ N : Nat,g.size = N:=⟨g.size.toNat,by omega⟩
 have hlev:=zbZ g p.lv (by omega) (by omega)
 have hlel : (zai g p.lv).edges.length ≤ 1000:=Nat.le_trans (List.length_filter_le _ _) (by omega)
 have hst:=hf.steps
 have hPl:=hf.len
 have hroom:=hf.room
 obtain ⟨C,hC⟩ : ∃ C,C = zax g p:=⟨_,rfl⟩
 rw [← hC,hN] at hall hcl
 rw [← hC] at hcb hroom
 rw [Int.toNat_natCast] at hall hcl
 have hcap : ∀ (i : Nat) (hi : i < P.length) (j : Nat) (hj : j < P[i].length),1 ≤ C.getD P[i][j].toNat 0:=fun i hi j hj=>by rw [hC]; exact (hst i hi).cap j hj
 have hPw : ∀ w ∈ P,w.length ≤ 64:=fun w hw=>by obtain ⟨i,hi,rfl⟩:=List.mem_iff_getElem.1 hw; exact (hst i hi).len
 refine rx (s:=?s1) [2,3,4,5] [] [16,24] rfl ?o1 ?q1
 case o1=>simp; rfl
 refine zaa ⟨189,[(2,za1 P),(3,ints ends),(4,.pv (gC g)),(5,.pv (pC p)),(9,ints C)],[],100⟩ rfl ?_ ?_
 ·simp
  refine zaN hall (by simp) ?_
  simp
  exact Le.go [] [56] rfl rfl (by simp [fcd,← hcl,zak]) (by simp)
 refine zar ⟨189,[(2,za1 P),(3,ints ends),(4,.pv (gC g)),(5,.pv (pC p)),(9,ints C),(10,.rs 30 0 N),(11,.rs 31 0 N)],[(30,some ⟨1,zaf (rowR N (begF P 0)),0⟩),(31,some ⟨1,zaf (rowR N (useF P 0)),0⟩)],200⟩ rfl ?_ ?_
 ·rw [zs3,znS,zoA]
  simp [hN]
  refine ⟨by omega,by omega,by omega,by omega,rfl,LeH [(116,30),(140,31)] []⟩
 refine zaa ⟨189,[(2,za1 P),(3,ints ends),(4,.pv (gC g)),(5,.pv (pC p)),(9,ints C),(10,.rs 30 0 N),(11,.rs 31 0 N),(12,.nilS)],[(30,some ⟨1,zaf (rowR N (begF P 0)),0⟩),(31,some ⟨1,zaf (rowR N (useF P 0)),0⟩)],300⟩ rfl ?_ ?_
 ·simp
  exact LeI [(30,30),(31,31)] []
 refine zab ?_
 refine zaa ⟨189,[(2,za1 P),(3,ints ends),(4,.pv (gC g)),(5,.pv (pC p)),(9,ints C),(10,.rs 30 0 N),(11,.rs 31 0 N),(12,.nilS),(13,.I 0)],[(30,some ⟨1,zaf (rowR N (begF P 0)),0⟩),(31,some ⟨1,zaf (rowR N (useF P 0)),0⟩)],400⟩ rfl ?_ ?_
 ·simp
  exact LeI [(30,30),(31,31)] []
 refine zae ?_
 refine zao (ι:=Nat) (fun i=>⟨189,[(2,za1 P),(3,ints ends),(4,.pv (gC g)),(5,.pv (pC p)),(9,ints C),(10,.rs 30 0 N),(11,.rs 31 0 N),(12,.rs 32 0 i),(13,.I i)],[(30,some ⟨1,zaf (rowR N (begF P i)),0⟩),(31,some ⟨1,zaf (rowR N (useF P i)),0⟩),(32,some ⟨1,zaf (zaU P i),0⟩)],400⟩)
  (fun i=>i ≤ P.length) (fun i=>P.length - i) 0 (Nat.zero_le _)
  (Le.lst [(30,30),(31,31)] [] [(32,1)] rfl (by simp) (by simp) (by simp) (by simp) (by simp) (by simp) (by simp) (by simp [Up]) (by simp [fcd,zkK]; exact ⟨zaB.rfl' (by simp),zaB.rfl' (by simp)⟩)) ?_
 intro i hi
 have hLl : (zaU P i).length = i:=by
  unfold zaU
  rw [zfW fun w hw=>by
   obtain ⟨j,hj,rfl⟩:=List.mem_take_iff_getElem.1 hw
   exact List.length_pos_iff.1 (hst j (by omega)).ne,List.length_take]
  omega
 refine zab ?_
 refine zaa ⟨189,[(2,za1 P),(3,ints ends),(4,.pv (gC g)),(5,.pv (pC p)),(9,ints C),(10,.rs 30 0 N),(11,.rs 31 0 N),(12,.rs 32 0 i),(13,.I i),(29,.B (decide (i < P.length)))],[(30,some ⟨1,zaf (rowR N (begF P i)),0⟩),(31,some ⟨1,zaf (rowR N (useF P i)),0⟩),(32,some ⟨1,zaf (zaU P i),0⟩)],500⟩ rfl ?_ ?_
 ·simp
  exact LeI [(30,30),(31,31),(32,32)] []
 refine zac _ rfl (fun h7=>?_) fun h7=>?_
 ·rw [decide_eq_true_eq] at h7
  have hwi : IntKind.i64.wrap ((i : Int) + 1) = ((i + 1 : Nat) : Int):=by rw [w64 (by omega) (by omega)]; omega
  obtain ⟨w,hw⟩ : ∃ w,w = P[i]:=⟨_,rfl⟩
  have hsw : zpX g p w:=hw ▸ hst i h7
  have hcw : ∀ (j : Nat) (hj : j < w.length),1 ≤ C.getD w[j].toNat 0:=fun j hj=>by subst hw; exact hcap i h7 j hj
  have hfr:=hf.fresh i h7
  have hPi : P[i]? = some w:=by rw [List.getElem?_eq_getElem h7,hw]
  have hwl:=hsw.len
  have hpos:=hsw.ne
  have hwne : w ≠ []:=List.length_pos_iff.1 hpos
  obtain ⟨w0,hw0⟩ : ∃ w0,w0 = w[0]:=⟨_,rfl⟩
  have hwg0 : w[0]? = some w0:=by rw [List.getElem?_eq_getElem hpos,hw0]
  have hr0:=hsw.rng 0 hpos
  rw [← hw0] at hr0
  have hhas0:=zcy p.seeds w0 (by omega)
  rw [decide_eq_true (by rw [hw0]; exact hsw.seed)] at hhas0
  have hwm : IntKind.i64.wrap ((w.length : Int) - 1) = ((w.length - 1 : Nat) : Int):=by rw [w64 (by omega) (by omega)]; omega
  refine zad ?_
  refine zab ?_
  refine zae ?_
  refine zaa ⟨189,[(2,za1 P),(3,ints ends),(4,.pv (gC g)),(5,.pv (pC p)),(9,ints C),(10,.rs 30 0 N),(11,.rs 31 0 N),(12,.rs 32 0 i),(13,.I i),(14,ints w)],[(30,some ⟨1,zaf (rowR N (begF P i)),0⟩),(31,some ⟨1,zaf (rowR N (useF P i)),0⟩),(32,some ⟨1,zaf (zaU P i),0⟩)],600⟩ rfl ?_ ?_
  ·simp [h7,← hw]
   exact LeI [(30,30),(31,31),(32,32)] []
  refine zab ?_
  refine zar ⟨189,[(2,za1 P),(3,ints ends),(4,.pv (gC g)),(5,.pv (pC p)),(9,ints C),(10,.rs 30 0 N),(11,.rs 31 0 N),(12,.rs 32 0 i),(13,.I i),(14,ints w),(47,.B false)],[(30,some ⟨1,zaf (rowR N (begF P i)),0⟩),(31,some ⟨1,zaf (rowR N (useF P i)),0⟩),(32,some ⟨1,zaf (zaU P i),0⟩)],800⟩ rfl ?_ ?_
  ·have hne0 : ((w.length : Int) == 0) = false:=by simp; omega
   simp [hne0,hpos,← hw0]
   refine zal hhas0 (by simp) ?_
   simp
   exact ⟨rfl,LeI [(30,30),(31,31),(32,32)] []⟩
  refine zac _ rfl (fun h=>by cases h) fun _=>?_
  refine zad ?_
  obtain ⟨d,hd⟩ : ∃ d,d = w.dropLast:=⟨_,rfl⟩
  have hdl : d.length = w.length - 1:=by rw [hd,List.length_dropLast]
  have hdw : ∀ (j : Nat) (hj : j < d.length),d[j] = w[j]'(by omega):=fun j hj=>by subst hd; rw [List.getElem_dropLast]
  have hdl64 : d.length ≤ 64:=by omega
  refine zab ?_
  refine zaa ⟨189,[(2,za1 P),(3,ints ends),(4,.pv (gC g)),(5,.pv (pC p)),(9,ints C),(10,.rs 30 0 N),(11,.rs 31 0 N),(12,.rs 32 0 i),(13,.I i),(14,ints w),(15,.I 0)],[(30,some ⟨1,zaf (rowR N (begF P i)),0⟩),(31,some ⟨1,zaf (rowR N (useJ P i d 0)),0⟩),(32,some ⟨1,zaf (zaU P i),0⟩)],900⟩ rfl ?_ ?_
  ·rw [zhi]
   simp
   exact LeI [(30,30),(31,31),(32,32)] []
  refine zae ?_
  refine zao (ι:=Nat) (fun j=>⟨189,[(2,za1 P),(3,ints ends),(4,.pv (gC g)),(5,.pv (pC p)),(9,ints C),(10,.rs 30 0 N),(11,.rs 31 0 N),(12,.rs 32 0 i),(13,.I i),(14,ints w),(15,.I j)],[(30,some ⟨1,zaf (rowR N (begF P i)),0⟩),(31,some ⟨1,zaf (rowR N (useJ P i d j)),0⟩),(32,some ⟨1,zaf (zaU P i),0⟩)],900⟩)
   (fun j=>j ≤ w.length) (fun j=>w.length - j) 0 (Nat.zero_le _) (LeI [(30,30),(31,31),(32,32)] []) ?_
  intro j hj
  refine zab ?_
  refine zaa ⟨189,[(2,za1 P),(3,ints ends),(4,.pv (gC g)),(5,.pv (pC p)),(9,ints C),(10,.rs 30 0 N),(11,.rs 31 0 N),(12,.rs 32 0 i),(13,.I i),(14,ints w),(15,.I j),(51,.B (decide (j < w.length)))],[(30,some ⟨1,zaf (rowR N (begF P i)),0⟩),(31,some ⟨1,zaf (rowR N (useJ P i d j)),0⟩),(32,some ⟨1,zaf (zaU P i),0⟩)],1000⟩ rfl ?_ ?_
  ·simp
   exact LeI [(30,30),(31,31),(32,32)] []
  refine zac _ rfl (fun h14=>?_) fun h14=>?_
  ·rw [decide_eq_true_eq] at h14
   have hwj : IntKind.i64.wrap ((j : Int) + 1) = ((j + 1 : Nat) : Int):=by rw [w64 (by omega) (by omega)]; omega
   obtain ⟨k,hk⟩ : ∃ k,k = w[j]:=⟨_,rfl⟩
   have hwg : w[j]? = some k:=by rw [List.getElem?_eq_getElem h14,hk]
   have hkr:=hsw.rng j h14
   rw [← hk,hN] at hkr
   have hkc:=hcw j h14
   rw [← hk] at hkc
   have hkn : k.toNat < C.length:=by omega
   obtain ⟨c,hc⟩ : ∃ c,c = C.getD k.toNat 0:=⟨_,rfl⟩
   rw [← hc] at hkc
   have hCk : C[k.toNat]? = some c:=by rw [hc,List.getD_eq_getElem?_getD,List.getElem?_eq_getElem hkn,Option.getD_some]
   have hCk' : C[k.toNat] = c:=by rw [List.getElem?_eq_getElem hkn] at hCk; exact Option.some.inj hCk
   have hhas1:=zcy (w.take j) k (by rw [List.length_take]; omega)
   rw [decide_eq_false (by rw [hk]; exact hsw.once j h14)] at hhas1
   have hk0 : ¬ k < 0:=by omega
   have hk1 : ¬ (N : Int) ≤ k:=by omega
   have hk2 : ¬ c < 1:=by omega
   have hkC : (0 : Int) ≤ k ∧ k < C.length:=by omega
   refine zad ?_
   refine zab ?_
   refine zae ?_
   refine zab ?_
   refine zar ⟨189,[(2,za1 P),(3,ints ends),(4,.pv (gC g)),(5,.pv (pC p)),(9,ints C),(10,.rs 30 0 N),(11,.rs 31 0 N),(12,.rs 32 0 i),(13,.I i),(14,ints w),(15,.I j),(109,.B false)],[(30,some ⟨1,zaf (rowR N (begF P i)),0⟩),(31,some ⟨1,zaf (rowR N (useJ P i d j)),0⟩),(32,some ⟨1,zaf (zaU P i),0⟩)],1800⟩ rfl ?_ ?_
   ·by_cases hj0 : 0 < j
    ·have hjm : IntKind.i64.wrap ((j : Int) - 1) = ((j - 1 : Nat) : Int):=by rw [w64 (by omega) (by omega)]; omega
     have hj1 : j - 1 < w.length:=by omega
     have hed:=hsw.edge (j - 1) (by omega)
     obtain ⟨q,hq⟩ : ∃ q,q = w[j - 1]'(by omega):=⟨_,rfl⟩
     have hwq : w[j - 1]? = some q:=by rw [List.getElem?_eq_getElem hj1,hq]
     have hout:=zi2 (zai g p.lv) q (by omega)
     have hedk : k ∈ outs (zai g p.lv).edges q:=by
      rw [hk,hq]
      have e : w[j] = w[j - 1 + 1]'(by omega):=by congr 1; omega
      rw [e]
      exact hed
     obtain ⟨O,hO⟩ : ∃ O,O = outs (zai g p.lv).edges q:=⟨_,rfl⟩
     have hOl : O.length ≤ 1000:=by rw [hO]; exact Nat.le_trans (ziL _ _) hlel
     have hhas2:=zcy O k (by omega)
     rw [← hO] at hout hedk
     rw [decide_eq_true hedk] at hhas2
     simp [h14,← hk,hN,hk0,hk1,hkC,hkn,hCk',hk2]
     refine ⟨by omega,?_⟩
     refine zal hhas1 (by simp [List.map_take]) ?_
     simp [hj0,h14,← hk,hN]
     refine zal hlev (by simp [hN]) ?_
     simp [hjm,hj1,← hq]
     refine zaN hout (by simp) ?_
     simp [h14,← hk]
     refine zdq [1376] hhas2 (by simp [zak,fcd]) (.sc _) ?_
     simp
     exact ⟨rfl,LeI [(30,30),(31,31),(32,32)] []⟩
    ·simp [h14,← hk,hN,hk0,hk1,hkC,hkn,hCk',hk2]
     refine ⟨by omega,?_⟩
     refine zal hhas1 (by simp [List.map_take]) ?_
     simp [hj0]
     exact ⟨rfl,LeI [(30,30),(31,31),(32,32)] []⟩
   refine zac _ rfl (fun h=>by cases h) fun _=>?_
   refine zad ?_
   refine zaa ⟨189,[(2,za1 P),(3,ints ends),(4,.pv (gC g)),(5,.pv (pC p)),(9,ints C),(10,.rs 30 0 N),(11,.rs 31 0 N),(12,.rs 32 0 i),(13,.I i),(14,ints w),(15,.I j),(114,.B (decide (j < d.length)))],[(30,some ⟨1,zaf (rowR N (begF P i)),0⟩),(31,some ⟨1,zaf (rowR N (useJ P i d j)),0⟩),(32,some ⟨1,zaf (zaU P i),0⟩)],2000⟩ rfl ?_ ?_
   ·simp [hwm]
    exact Le.go [(30,30),(31,31),(32,32)] [] rfl rfl (by simp <;> exact wkB (by rw [Bool.eq_iff_iff]; simp; omega)) (by simp [fcd])
   refine zac _ rfl (fun h19=>?_) fun h19=>?_
   ·rw [decide_eq_true_eq] at h19
    have hdk : d[j] = k:=by rw [hk]; exact hdw j h19
    have hub:=zgm (P:=P) (i:=i) hPl hPw hdl64 j k
    have hsu:=zn5 (P:=P) (i:=i) h19
    rw [hdk] at hsu
    obtain ⟨V,hV⟩ : ∃ V,V = useJ P i d j:=⟨_,rfl⟩
    rw [← hV] at hub hsu ⊢
    have hrg:=zb2 (N:=N) (g:=V) hkr.1 hkr.2
    have hrs:=ze4 (N:=N) (g:=V) (v:=V k + 1) hkr.1 hkr.2
    rw [hsu] at hrs
    have hwv : IntKind.i64.wrap (V k + 1) = V k + 1:=w64 (by omega) (by omega)
    refine zaq rfl ?_
    simp [h14,← hk,hkr,hrg,hwv,zaE]
    refine zaq rfl ?_
    simp
    exact ⟨j + 1,h14,by omega,Le.go [(30,30),(31,31),(32,32)] [] rfl rfl (by simp [hwj]) (by simp [fcd,← hrs])⟩
   rw [decide_eq_false_iff_not] at h19
   have hfu : useJ P i d (j + 1) = useJ P i d j:=by rw [zeO (j:=j + 1) (by omega),zeO (j:=j) (by omega)]
   refine zad ?_
   refine zaq rfl ?_
   simp
   exact ⟨j + 1,h14,by omega,Le.go [(30,30),(31,31),(32,32)] [] rfl rfl (by simp [hwj]) (by simp [fcd,hfu])⟩
  rw [decide_eq_false_iff_not] at h14
  obtain rfl : j = w.length:=by omega
  have hua : useJ P i d w.length = useF P (i + 1):=by rw [zeO (j:=w.length) (by omega),hd]; exact zpV h7 hw.symm
  rw [hua]
  have hbs:=zsd h7 hw.symm hpos
  rw [← hw0] at hbs
  have hbb:=zrE hPl i w0
  have hwb : IntKind.i64.wrap (begF P i w0 + 1) = begF P i w0 + 1:=w64 (by omega) (by omega)
  have hr0' : 0 ≤ w0 ∧ w0 < N:=by omega
  have hrg:=zb2 (N:=N) (g:=begF P i) hr0'.1 hr0'.2
  have hrs:=ze4 (N:=N) (g:=begF P i) (v:=begF P i w0 + 1) hr0'.1 hr0'.2
  rw [hbs] at hrs
  refine zam ?_
  refine hit ?_
  refine zaa ⟨189,[(2,za1 P),(3,ints ends),(4,.pv (gC g)),(5,.pv (pC p)),(9,ints C),(10,.rs 30 0 N),(11,.rs 31 0 N),(12,.rs 32 0 i),(13,.I i),(14,ints w)],[(30,some ⟨1,zaf (rowR N (begF P (i + 1))),0⟩),(31,some ⟨1,zaf (rowR N (useF P (i + 1))),0⟩),(32,some ⟨1,zaf (zaU P i),0⟩)],2000⟩ rfl ?_ ?_
  ·simp [hpos,← hw0,hr0',hrg,hwb,zaE]
   exact Le.go [(30,30),(31,31),(32,32)] [] rfl rfl (by simp) (by simp [fcd,← hrs])
  obtain ⟨wl,hwlD⟩ : ∃ wl,wl = w.getLast hwne:=⟨_,rfl⟩
  have hwgl : w[w.length - 1]? = some wl:=by rw [hwlD,List.getLast_eq_getElem,List.getElem?_eq_getElem]
  have hwgl' : w[w.length - 1]'(by omega) = wl:=by rw [hwlD,List.getLast_eq_getElem]
  have hwl1 : w.length - 1 < w.length:=by omega
  have hls : zaU P (i + 1) = zaU P i ++ [wl]:=by
   unfold zaU
   have hwne2 : P[i] ≠ []:=by rw [← hw]; exact hwne
   rw [zii P i h7 hwne2]
   subst hw
   rw [hwlD]
  have hnl : wl ∉ zaU P i:=by
   subst hw
   rw [hwlD]
   exact hfr hwne
  obtain ⟨Z,hZ⟩ : ∃ Z,Z = zaU P i:=⟨_,rfl⟩
  rw [← hZ] at hLl hls hnl ⊢
  have hhas3:=zcy Z wl (by omega)
  rw [decide_eq_false hnl] at hhas3
  have htZ : ∀ h : Int → List AV,List.take i (List.map h Z) = List.map h Z:=fun h=>List.take_of_length_le (by simp; omega)
  refine zab ?_
  refine zaa ⟨189,[(2,za1 P),(3,ints ends),(4,.pv (gC g)),(5,.pv (pC p)),(9,ints C),(10,.rs 30 0 N),(11,.rs 31 0 N),(12,.rs 32 0 i),(13,.I i),(14,ints w),(139,.B false)],[(30,some ⟨1,zaf (rowR N (begF P (i + 1))),0⟩),(31,some ⟨1,zaf (rowR N (useF P (i + 1))),0⟩),(32,some ⟨1,zaf Z,0⟩)],3000⟩ rfl ?_ ?_
  ·simp [hwm,hwl1,hwgl']
   refine zdq [32] hhas3 (by simp [htZ,hLl,fcd]) (.sc _) ?_
   simp
   exact LeI [(30,30),(31,31),(32,32)] []
  refine zac _ rfl (fun h=>by cases h) fun _=>?_
  refine zad ?_
  refine zaq rfl ?_
  simp [hwm,hwl1,hwgl',htZ,hLl]
  refine ⟨by omega,by omega,?_⟩
  refine zaq rfl ?_
  simp
  exact ⟨i + 1,h7,by omega,Le.go [(30,30),(31,31),(3064,32)] [] rfl rfl (by simp [hwi]) (by simp [fcd,hls])⟩
 rw [decide_eq_false_iff_not] at h7
 obtain rfl : i = P.length:=by omega
 have hBF : ∀ k : Nat,k < N → begF P P.length k ≤ C.getD k 0 ∧ useF P P.length k ≤ max 0 (C.getD k 0 - 1):=fun k hk=>by
  have h1:=hroom k (by omega)
  have e : C.getD k 0 = C[k]'(by omega):=by rw [List.getD_eq_getElem?_getD,List.getElem?_eq_getElem (by omega),Option.getD_some]
  unfold begF useF
  rw [List.take_length,e]
  exact h1
 have hZl : (zaU P P.length).length = ends.length:=by unfold zaU; rw [List.take_length,hf.lasts,hf.ends]
 have hZj : zat (zaU P P.length) = zat ends:=by unfold zaU; rw [List.take_length]; exact hf.same
 have hel2:=hf.ends
 obtain ⟨Z,hZ⟩ : ∃ Z,Z = zaU P P.length:=⟨_,rfl⟩
 have hub:=fun k : Int=>zgm (P:=P) (i:=P.length) (d:=[]) hPl hPw (by simp) 0 k
 rw [zhi] at hub
 obtain ⟨B,hB⟩ : ∃ B,B = begF P P.length:=⟨_,rfl⟩
 obtain ⟨U,hU⟩ : ∃ U,U = useF P P.length:=⟨_,rfl⟩
 rw [← hZ] at hZl hZj hLl ⊢
 rw [← hB,← hU] at hBF
 rw [← hU] at hub
 rw [← hB,← hU]
 have htZ : ∀ h : Int → List AV,List.take P.length (List.map h Z) = List.map h Z:=fun h=>List.take_of_length_le (by simp; omega)
 refine zam ?_
 refine hit ?_
 refine zab ?_
 refine zaa ⟨189,[(3,ints ends),(4,.pv (gC g)),(9,ints C),(10,.rs 30 0 N),(11,.rs 31 0 N),(12,ints Z),(16,.I 0)],[(30,some ⟨1,zaf (rowR N B),0⟩),(31,some ⟨1,zaf (rowR N U),0⟩)],1000⟩ rfl ?_ ?_
 ·simp
  exact Le.go [(30,30),(31,31)] [32] rfl rfl (by simp [htZ,fcd,hLl]) (by simp [fcd])
 refine zae ?_
 refine zao (ι:=Nat) (fun k=>⟨189,[(3,ints ends),(4,.pv (gC g)),(9,ints C),(10,.rs 30 0 N),(11,.rs 31 0 N),(12,ints Z),(16,.I k)],[(30,some ⟨1,zaf (rowR N B),0⟩),(31,some ⟨1,zaf (rowR N U),0⟩)],1000⟩) (fun k=>k ≤ N) (fun k=>N - k) 0 (Nat.zero_le _) (LeI [(30,30),(31,31)] []) ?_
 intro k hk
 refine zab ?_
 refine zaa ⟨189,[(3,ints ends),(4,.pv (gC g)),(9,ints C),(10,.rs 30 0 N),(11,.rs 31 0 N),(12,ints Z),(16,.I k),(152,.B (decide (k < N)))],[(30,some ⟨1,zaf (rowR N B),0⟩),(31,some ⟨1,zaf (rowR N U),0⟩)],1100⟩ rfl ?_ ?_
 ·simp [hN]
  exact Le.go [(30,30),(31,31)] [] rfl rfl (by simp [hN]) (by simp [fcd])
 refine zac _ rfl (fun h26=>?_) fun h26=>?_
 ·rw [decide_eq_true_eq] at h26
  have hwk : IntKind.i64.wrap ((k : Int) + 1) = ((k + 1 : Nat) : Int):=by rw [w64 (by omega) (by omega)]; omega
  obtain ⟨h1,h2⟩:=hBF k h26
  have hkN : (0 : Int) ≤ k ∧ (k : Int) < N:=by omega
  have hrb:=zb2 (N:=N) (g:=B) hkN.1 hkN.2
  have hru:=zb2 (N:=N) (g:=U) hkN.1 hkN.2
  rw [Int.toNat_natCast] at hrb hru
  have hkn : k < C.length:=by omega
  have hcb':=hcb k
  obtain ⟨c,hc⟩ : ∃ c,c = C.getD k 0:=⟨_,rfl⟩
  rw [← hc] at h1 h2 hcb'
  have hCk' : C[k]'(by omega) = c:=by rw [hc,List.getD_eq_getElem?_getD,List.getElem?_eq_getElem hkn,Option.getD_some]
  have hwc : IntKind.i64.wrap (c - 1) = c - 1:=w64 (by omega) (by omega)
  have hb1 : ¬ c < B k:=by omega
  have hb3 : ¬ (if 1 < c then c - 1 else 0) < U k:=by split <;> omega
  refine zad ?_
  refine zab ?_
  refine zae ?_
  refine zar ⟨189,[(3,ints ends),(4,.pv (gC g)),(9,ints C),(10,.rs 30 0 N),(11,.rs 31 0 N),(12,ints Z),(16,.I k),(176,.B false)],[(30,some ⟨1,zaf (rowR N B),0⟩),(31,some ⟨1,zaf (rowR N U),0⟩)],1400⟩ rfl ?_ ?_
  ·simp [hrb,hru,h26,hkn,hCk',hb1,hwc]
   exact ⟨rfl,Le.go [(30,30),(31,31)] [] rfl rfl (by simp [hb3]) (by simp [fcd])⟩
  refine zac _ rfl (fun h=>by cases h) fun _=>?_
  refine zad ?_
  refine zaq rfl ?_
  simp
  exact ⟨k + 1,h26,by omega,Le.go [(30,30),(31,31)] [] rfl rfl (by simp [hwk]) (by simp [fcd])⟩
 have hj1:=zeC Z [] (by omega) (by simp)
 have hj2:=zeC ends [] (by omega) (by simp)
 rw [List.append_nil] at hj1 hj2
 rw [hZj] at hj1
 have hJl:=zb3 ends
 have hsm:=za7 (zat ends) (zat ends) (by omega) (by omega)
 rw [decide_eq_true rfl] at hsm
 obtain ⟨J,hJ⟩ : ∃ J,J = zat ends:=⟨_,rfl⟩
 rw [← hJ] at hj1 hj2 hsm
 refine zam ?_
 refine hit ?_
 refine zaa ⟨189,[(8,.B true)],[],2000⟩ rfl ?_ ?_
 ·simp
  refine zjH hj1 (by simp [Wk.refl,ints,Wk.nil]) ?_
  simp
  refine zjH hj2 (by simp [Wk.refl,ints,Wk.nil]) ?_
  simp
  refine zdq [1108,1124] hsm (by simp [zak,fcd]) (.sc _) ?_
  simp [hZl]
  exact LeH [] []
 refine zah ?_
 exact ⟨.inr rfl,zan.one (by simp)⟩
end Go.Proofs.YteiabadhhhckfaaGreat
