/- Texts of this claim,merged. -/
import Derived.Test.YteiabadhhhckfaaGreatRi15
import Derived.Test.YteiabadhhhckfaaGreatRi13
import Derived.Test.YteiabadhhhckfaaGreatRi9
import Derived.Test.YteiabadhhhckfaaGreatRi14
import Derived.Test.YteiabadhhhckfaaGreatRi6
set_option linter.unusedSimpArgs false
set_option linter.unusedVariables false
set_option linter.unusedSectionVars false
namespace Go.Proofs.YteiabadhhhckfaaGreat
open Go
abbrev eRf (r : Int × List Int) : AV:=.agg [.I r.1,ints r.2]
theorem zlf (f : FuncId) (capt : List AV) (q : Int × List Int → Bool) (l : List (Int × List Int)) (hl : l.length ≤ 1099511627776) (hs : zhN capt) (hc : ∀ e ∈ l,zaj Tryz.prog f (eRf e :: capt) [] (.B (q e)) []) : zaj Tryz.prog zaL [.vs 2 false (zbD l),.fn (.func f) [] capt] [] (.I (idxQ l q)) []:=by
 have hs2 : ∀ ρ sn h,capt.map (conv ρ sn h 2) = capt:=fun _ _ _=>hs _ _ _ 1
 have hs3 : ∀ ρ sn h,capt.map (conv ρ sn h 3) = capt:=fun _ _ _=>hs _ _ _ 2
 have hs4 : ∀ ρ sn h,capt.map (conv ρ sn h 4) = capt:=fun _ _ _=>hs _ _ _ 3
 refine zbM.acalls (nbz rfl) (nbz rfl) (Nat.le_refl _) ?_
 show awp _ 0 _ _ ⟨19,[(0,.vs 2 false (zbD l)),(1,.fn (.func f) [] capt)],[],16⟩
 refine zab ?_
 refine zae (s:=?s1) rfl ?o1 ?q1
 case o1=>simp; rfl
 refine zab ?_
 refine zab ?_
 refine zae (s:=?s2) rfl ?o2 ?q2
 case o2=>simp; rfl
 refine zag ?_
 refine zao (ι:=Nat) (fun k=>⟨19,[(0,.vs 2 false (zbD l)),(1,.fn (.func f) [] capt),(7,.I l.length),(8,.I k)],[],16⟩) (fun k=>k ≤ l.length ∧ ∀ i,i < k → ∀ h : i < l.length,q l[i] = false) (fun k=>l.length - k) (0) ?_ (Le.snap [] rfl rfl (by simp [hs2,hs3,hs4])) ?_
 ·simp
 rintro k ⟨hk,hp⟩
 refine zab ?_
 refine zae (s:=?s3) rfl ?o3 ?q3
 case o3=>simp; rfl
 refine zab ?_
 refine zac _ rfl (fun h4=>?_) fun h4=>?_
 ·try simp at h4
  have hw2 : IntKind.i64.wrap ((k : Int) + 1) = (k : Int) + 1:=w64 (by omega) (by omega)
  have hck:=hc l[k] (List.getElem_mem h4)
  refine zad ?_
  refine zab ?_
  refine zag ?_
  refine zab ?_
  refine zae (s:=?s5) rfl ?o5 ?q5
  case o5=>simp [h4,hw2]; rfl
  refine zab ?_
  refine zae (s:=?s6) rfl ?o6 ?q6
  case o6 =>
   simp [h4,hw2]
   refine zap hck ?_ ?_
   ·simp [hs2,hs3,hs4]
   simp [h4,hw2]; rfl
  refine zac _ rfl (fun h7=>?_) fun h7=>?_
  ·try simp at h7
   refine zab ?_
   refine zae (s:=?s8) rfl ?o8 ?q8
   case o8=>simp [h4,hw2]; rfl
   refine zah ?_
   exact ⟨.inr rfl,zal.one (by simp [zkZ h4 hp h7])⟩
  try simp at h7
  refine zad ?_
  refine zae (s:=?s9) rfl ?o9 ?q9
  case o9=>simp [h4,hw2]; rfl
  refine ⟨k + 1,⟨h4,fun i hi=>?_⟩,by omega,Le.snap [] rfl rfl (by simp [h4,hw2,hs2,hs3,hs4])⟩
  rcases Nat.lt_succ_iff_lt_or_eq.1 hi with h | rfl
  ·exact hp i h
  ·exact fun _=>h7
 try simp at h4
 have hall : ∀ i,i < l.length → ∀ h : i < l.length,q l[i] = false:=fun i hi=>hp i (by omega)
 refine zan ?_
 refine hit ?_
 refine zab ?_
 refine zae (s:=?s10) rfl ?o10 ?q10
 case o10=>simp; rfl
 refine zah ?_
 exact ⟨.inr rfl,zal.one (by simp [zlP hall])⟩
theorem zjx (r : Int × List Int) (k : Int) : zaj Tryz.prog zbm [eRf r,.pv [.I k]] [] (.B (decide (r.1 = k))) []:=by
 refine zfc.acalls (nbz rfl) (nbz rfl) (Nat.zero_le _) ?_
 show awp _ 0 _ _ ⟨8,[(0,eRf r),(1,.pv [.I k])],[],16⟩
 refine zaa ⟨8,[(1,.pv [.I k]),(2,.pv [.I r.1,ints r.2])],[],100⟩ rfl ?_ ?_
 ·simp
  exact LeH [] [16]
 refine zaa ⟨8,[(3,.B (decide (r.1 = k)))],[],200⟩ rfl ?_ ?_
 ·simp
  exact Le.go [] [] rfl rfl (by simp <;> exact wkB (by rw [Bool.eq_iff_iff]; simp)) (by simp)
 refine zah ?_
 exact ⟨.inr rfl,zal.one (by simp)⟩
theorem zmM (g : Gr) (N : Int) (A : List Ed) (w : List Int) (hA : A.length ≤ 1000000) (hw : w.length ≤ 1000000) : zaj Tryz.prog zbl [ints w,.pv (gC g),.pv (nC ⟨N,A⟩)] [] (.tup [ints (zdi g.size A w),.I (zem g.size A w)]) []:=by
 refine zgO.acalls (nbz rfl) (nbz rfl) (Nat.zero_le _) ?_
 show awp _ 0 _ _ ⟨14,[(0,ints w),(1,.pv (gC g)),(2,.pv (nC ⟨N,A⟩))],[],16⟩
 have hk:=zdC g.size A w hA hw
 refine zaa ⟨14,[(0,ints w),(1,.pv (gC g)),(2,.pv (nC ⟨N,A⟩))],[],100⟩ rfl ?_ ?_
 ·simp
  exact LeH [] []
 refine zaa ⟨14,[(4,ints (zdi g.size A w)),(5,.I (zem g.size A w))],[],200⟩ rfl ?_ ?_
 ·simp
  refine zap hk (by simp) ?_
  simp
  exact LeH [] []
 refine zah ?_
 exact ⟨.inr rfl,zal.out [] [] rfl (by simp) (by simp) (by simp) (by simp)⟩
def tkL {α : Type} (l : List α) (i : Nat) : List α:=l.take i
theorem zsD {α : Type} (l : List α) : tkL l 0 = []:=rfl
theorem zso {α : Type} {l : List α} {i : Nat} (h : i < l.length) : tkL l (i + 1) = tkL l i ++ [l[i]]:=List.take_succ_eq_append_getElem h
theorem zr2 {α : Type} {l : List α} {i : Nat} (h : i ≤ l.length) : (tkL l i).length = i:=by unfold tkL; rw [List.length_take]; omega
theorem ztm {α : Type} (l : List α) : tkL l l.length = l:=List.take_length
set_option maxRecDepth 100000 in
set_option maxHeartbeats 2000000 in
theorem zpB (f : FuncId) (capt : List AV) (F : List Int → List Int) (W : List (List Int)) (hW : W.length ≤ 1000000000000) (hs : zhN capt) (hc : ∀ w ∈ W,zaj Tryz.prog f (ints w :: capt) [] (.tup [ints (F w),.I 0]) []) :
  zaj Tryz.prog zbu [zcd W,.fn (.func f) [] capt] [] (.tup [zcd (W.map F),.I 0]) []:=by
 have hs2 : ∀ ρ sn h,capt.map (conv ρ sn h 2) = capt:=fun _ _ _=>hs _ _ _ 1
 have hs3 : ∀ ρ sn h,capt.map (conv ρ sn h 3) = capt:=fun _ _ _=>hs _ _ _ 2
 have hs4 : ∀ ρ sn h,capt.map (conv ρ sn h 4) = capt:=fun _ _ _=>hs _ _ _ 3
 refine zec.acalls (nbz rfl) (nbz rfl) (Nat.zero_le _) ?_
 show awp _ 0 _ _ ⟨32,[(0,zcd W),(1,.fn (.func f) [] capt)],[],16⟩
 refine zaa ⟨32,[(0,zcd W),(1,.fn (.func f) [] capt)],[],100⟩ rfl ?_ ?_
 ·simp
  exact Le.go [] [] rfl rfl (by simp [hs3]) (by simp)
 refine zaa ⟨32,[(0,zcd W),(1,.fn (.func f) [] capt),(6,.nilS)],[],200⟩ rfl ?_ ?_
 ·simp
  exact Le.go [] [] rfl rfl (by simp [hs3]) (by simp)
 refine zab ?_
 refine zaa ⟨32,[(1,.fn (.func f) [] capt),(6,.nilS),(11,zcd W),(12,.I W.length),(13,.I 0)],[],300⟩ rfl ?_ ?_
 ·simp
  exact Le.go [] [] rfl rfl (by simp [hs3]) (by simp)
 refine zag ?_
 refine zao (ι:=Nat) (fun i=>⟨32,[(1,.fn (.func f) [] capt),(6,.rs 17 0 i),(11,zcd W),(12,.I W.length),(13,.I i)],[(17,some ⟨1,(tkL W i).map fun w=>[ints (F w)],0⟩)],300⟩)
  (fun i=>i ≤ W.length) (fun i=>W.length - i) 0 (Nat.zero_le _) (Le.lst [] [] [(17,1)] rfl (by simp) (by simp) (by simp) (by simp) (by simp) (by simp) (by simp) (by simp [Up,hs3]) (by simp [zsD])) ?_
 intro i hi
 have hlt : (tkL W i).length = i:=zr2 hi
 refine zaa ⟨32,[(1,.fn (.func f) [] capt),(6,.rs 17 0 i),(11,zcd W),(12,.I W.length),(13,.I i),(14,.B (decide (i < W.length)))],[(17,some ⟨1,(tkL W i).map fun w=>[ints (F w)],0⟩)],400⟩ rfl ?_ ?_
 ·simp
  exact Le.go [(17,17)] [] rfl rfl (by simp [hs3]) (by simp [fcd])
 refine zab ?_
 refine zac _ rfl (fun h5=>?_) fun h5=>?_
 ·rw [decide_eq_true_eq] at h5
  have hwi : IntKind.i64.wrap ((i : Int) + 1) = ((i + 1 : Nat) : Int):=by rw [w64 (by omega) (by omega)]; omega
  have hck:=hc W[i] (List.getElem_mem h5)
  have htk:=zso h5
  obtain ⟨w,hw⟩ : ∃ w,w = W[i]:=⟨_,rfl⟩
  rw [← hw] at hck htk
  obtain ⟨T,hT⟩ : ∃ T,T = tkL W i:=⟨_,rfl⟩
  rw [← hT] at hlt htk ⊢
  have hTt : ∀ h : List Int → List AV,List.take i (List.map h T) = List.map h T:=fun h=>List.take_of_length_le (by simp; omega)
  refine zad ?_
  refine zab ?_
  refine zag ?_
  refine zaa ⟨32,[(1,.fn (.func f) [] capt),(6,.rs 17 0 i),(8,ints w),(11,zcd W),(12,.I W.length),(13,.I i)],[(17,some ⟨1,T.map fun w=>[ints (F w)],0⟩)],500⟩ rfl ?_ ?_
  ·simp [h5,← hw]
   exact Le.go [(17,17)] [] rfl rfl (by simp [hs3]) (by simp [fcd])
  refine zaa ⟨32,[(1,.fn (.func f) [] capt),(6,.rs 17 0 i),(9,ints (F w)),(10,.I 0),(11,zcd W),(12,.I W.length),(13,.I i)],[(17,some ⟨1,T.map fun w=>[ints (F w)],0⟩)],600⟩ rfl ?_ ?_
  ·simp
   refine zap hck ?_ ?_
   ·simp [hs2,hs3,hs4]
   simp
   exact Le.go [(17,17)] [] rfl rfl (by simp [hs3]) (by simp [fcd])
  refine zab ?_
  refine zaa ⟨32,[(1,.fn (.func f) [] capt),(6,.rs 17 0 i),(9,ints (F w)),(11,zcd W),(12,.I W.length),(13,.I i),(24,.B false)],[(17,some ⟨1,T.map fun w=>[ints (F w)],0⟩)],700⟩ rfl ?_ ?_
  ·simp
   exact Le.go [(17,17)] [] rfl rfl (by simp [hs3]) (by simp [fcd])
  refine zac _ rfl (fun h=>by cases h) fun _=>?_
  refine zad ?_
  refine zaq rfl ?_
  simp [hTt,hlt]
  refine ⟨by omega,by omega,?_⟩
  refine zaq rfl ?_
  simp
  exact ⟨i + 1,h5,by omega,Le.go [(724,17)] [] rfl rfl (by simp [hs3,hwi]) (by simp [htk,fcd])⟩
 rw [decide_eq_false_iff_not] at h5
 obtain rfl : i = W.length:=by omega
 rw [ztm]
 refine zan ?_
 refine hit ?_
 have htW : ∀ h : List Int → List AV,List.take W.length (List.map h W) = List.map h W:=fun h=>List.take_of_length_le (by simp)
 refine zaa ⟨32,[(4,.vs 1 false (W.map fun w=>[ints (F w)])),(5,.I 0)],[],600⟩ rfl ?_ ?_
 ·simp
  exact Le.go [] [17] rfl rfl (by simp [htW,fcd]) (by simp)
 refine zah ?_
 exact ⟨.inr rfl,zal.out [] [] rfl (by simp) (by simp) (by rw [show zcd (W.map F) = .vs 1 false (W.map fun w=>[ints (F w)]) from by simp [fcd]]; simp) (by simp)⟩
set_option maxRecDepth 100000 in
set_option maxHeartbeats 2000000 in
theorem zid (g : Gr) (p : Pol) (ks : List Int) (hg : GrOk g) (hp : za8 g.size p) (hs : p.seeds.length ≤ 64) (hk : ks.Nodup) (hr : ∀ k ∈ ks,0 ≤ k ∧ k < g.size) :
  ∃ W,zo1 g p ks W ∧ zaj Tryz.prog zdH [eG g,eP p,ints ks] [] (.tup [zcd (W.map (zbG (netA g p (zax ks)))),.I 0]) []:=by
 have hsz:=hg.1.1
 have hsz2:=hg.1.2.1
 have hr64 : ∀ k ∈ ks,0 ≤ k ∧ k < 64:=fun k h=>by have:=hr k h; omega
 have hlen:=zlk hk hr64
 have hJl:=zdN ks
 have hkl : ks.length ≤ 64:=by omega
 have hJk:=zjs (zdP hr)
 have hsort : zaj Tryz.prog za5 [seqF ks] [] (.rs 0 0 ks.length) [some ⟨1,zaf (srt ks),0⟩]:=zm4 ks (by omega)
 rw [ziF hk hr64,← hlen] at hsort
 have hnet:=ze4 g p (zax ks) hg hp (zdP hr) hs hJl
 rw [← zg2 hg,show zaT g p (zaG g p) (zax ks) = netA g p (zax ks) from rfl] at hnet
 have hnv:=zgU hg hp hJk hs hJl
 have hno:=zja hg hp hJk
 obtain ⟨f,hf,hmx⟩:=zkw _ _ hnv
 have hgf : zjH g p (zax ks) f:=⟨hf.1,hf.2,(zfA hf.1 hf.2).symm⟩
 obtain ⟨W,⟨⟨g',hT⟩,hWl,hWb⟩,hpaths⟩:=zmQ _ _ f hnv hf.1 (by unfold netN; omega)
 have hR : zo1 g p ks W:=⟨f,g',hgf,hT,by rw [hWl,hgf.val],hWb⟩
 have hW64 : W.length ≤ 64:=by
  have:=ziI hg hp hJk
  have h2:=hgf.val
  omega
 refine ⟨W,hR,?_⟩
 have hfl:=hf.1.fit.len
 have hal:=hnv.2.2.1
 simp only at hal
 have hkeys : ∀ w ∈ W.map natL,zaj Tryz.prog zbl [ints w,.pv (gC g),.pv (nC ⟨(netN g : Nat),netA g p (zax ks)⟩)] [] (.tup [ints (zdi g.size (netA g p (zax ks)) w),.I 0]) []:=fun w hw=>by
  obtain ⟨v,hv,rfl⟩:=List.mem_map.1 hw
  have h1:=zmM g (netN g : Nat) (netA g p (zax ks)) (natL v) (by omega) (by rw [zeV]; have:=hWb v hv; omega)
  rw [(zl5 hsz hsz2 hno (hT.ways v hv).1).1] at h1
  exact h1
 have hturn:=zpB zbl [.pv (gC g),.pv (nC ⟨(netN g : Nat),netA g p (zax ks)⟩)] (zdi g.size (netA g p (zax ks))) (W.map natL) (by rw [List.length_map]; omega) (fun ρ sn h k=>by simp) hkeys
 have hmm : (W.map natL).map (zdi g.size (netA g p (zax ks))) = W.map (zbG (netA g p (zax ks))):=by
  rw [List.map_map]
  exact List.map_congr_left fun w hw=>(zl5 hsz hsz2 hno (hT.ways w hw).1).2
 rw [hmm] at hturn
 rw [show AV.vs 1 false (W.map fun w=>[ints (natL w)]) = zcd (W.map natL) from by simp [fcd]] at hpaths
 obtain ⟨X,hX⟩ : ∃ X,X = W.map natL:=⟨_,rfl⟩
 rw [← hX] at hturn hpaths
 obtain ⟨J,hJ⟩ : ∃ J,J = zax ks:=⟨_,rfl⟩
 obtain ⟨A,hA⟩ : ∃ A,A = netA g p (zax ks):=⟨_,rfl⟩
 obtain ⟨N,hN⟩ : ∃ N,N = netN g:=⟨_,rfl⟩
 rw [← hA,← hN] at hnet hmx hpaths hturn
 rw [← hA] at hfl ⊢
 rw [← hJ] at hnet hsort
 have htf : ∀ h : Int → List AV,List.take A.length (List.map h f) = List.map h f:=fun h=>List.take_of_length_le (by simp; omega)
 refine zjp.acalls (nbz rfl) (nbz rfl) (Nat.zero_le _) ?_
 show awp _ 0 _ _ ⟨46,[(0,eG g),(1,eP p),(2,ints ks)],[],16⟩
 refine rx (s:=?s1) [2,3,4] [] [16,24] rfl ?o1 ?q1
 case o1=>simp; rfl
 refine zaw ⟨46,[(3,.pv (gC g)),(8,.pv (nC ⟨N,A⟩)),(9,.I 0)],[],300⟩ rfl ?_ ?_
 ·simp
  refine zap (znk ks) (by simp) ?_
  simp
  refine zaU hsort (by simp [conv]) ?_
  simp
  refine zkS [80] (by simp) hnet (by simp [fcd,zak]) ?_
  simp [zaJ]
  exact ⟨rfl,LeH [] [120]⟩
 refine zab ?_
 refine zaa ⟨46,[(3,.pv (gC g)),(8,.pv (nC ⟨N,A⟩)),(22,.B false)],[],400⟩ rfl ?_ ?_
 ·simp
  exact LeH [] []
 refine zac _ rfl (fun h=>by cases h) fun _=>?_
 refine zad ?_
 refine zaa ⟨46,[(3,.pv (gC g)),(8,.pv (nC ⟨N,A⟩)),(9,.I 0),(10,.rs 33 0 A.length)],[(33,some ⟨1,zaf f,0⟩)],500⟩ rfl ?_ ?_
 ·simp
  refine zaU hmx (by simp) ?_
  simp
  exact LeI [(408,33)] []
 refine zab ?_
 refine zaa ⟨46,[(3,.pv (gC g)),(8,.pv (nC ⟨N,A⟩)),(10,.rs 33 0 A.length),(30,.B false)],[(33,some ⟨1,zaf f,0⟩)],600⟩ rfl ?_ ?_
 ·simp
  exact LeI [(33,33)] []
 refine zac _ rfl (fun h=>by cases h) fun _=>?_
 refine zad ?_
 refine zaa ⟨46,[(3,.pv (gC g)),(8,.pv (nC ⟨N,A⟩)),(9,.I 0),(11,zcd X)],[],700⟩ rfl ?_ ?_
 ·simp
  refine zkS [33] (by simp) hpaths (by simp [fcd,htf,hfl]) ?_
  simp
  exact Le.go [] [] rfl rfl (by simp [fcd]) (by simp)
 refine zab ?_
 refine zaa ⟨46,[(3,.pv (gC g)),(8,.pv (nC ⟨N,A⟩)),(11,zcd X),(39,.B false)],[],800⟩ rfl ?_ ?_
 ·simp
  exact LeH [] []
 refine zac _ rfl (fun h=>by cases h) fun _=>?_
 refine zad ?_
 obtain ⟨Y,hY⟩ : ∃ Y,Y = W.map (zbG A):=⟨_,rfl⟩
 rw [← hY] at hturn ⊢
 refine zaa ⟨46,[(6,zcd Y),(7,.I 0)],[],900⟩ rfl ?_ ?_
 ·simp
  refine zap hturn (by simp) ?_
  simp
  exact LeH [] []
 refine zah ?_
 exact ⟨.inr rfl,zal.out [] [] rfl (by simp) (by simp) (by simp) (by simp)⟩
theorem zgW (g : Gr) (p : Pol) (hg : GrOk g) (hN : g.size < 20) (hs : p.seeds.length ≤ 1099511627776) : zaj Tryz.prog zdk [eG g,eP p] [] (.rs 0 0 (ordL (zai g p.lv) p.seeds).length) [some ⟨1,zaf (ordL (zai g p.lv) p.seeds),0⟩]:=by
 refine zil.acalls (nbz rfl) (nbz rfl) (Nat.zero_le _) ?_
 show awp _ 0 _ _ ⟨12,[(0,eG g),(1,eP p)],[],16⟩
 have hel:=hg.edges_le
 have hgl:=hg.gone_le
 have hsz:=hg.1.2.1
 have hlev:=zc1 g p.lv (by omega) (by omega)
 have hord:=zeq (g:=zai g p.lv) (S:=p.seeds) (hg.level p.lv) hN hs
 obtain ⟨o,ho⟩ : ∃ o,o = ordL (zai g p.lv) p.seeds:=⟨_,rfl⟩
 rw [← ho] at hord ⊢
 refine rx (s:=?s1) [2,3] [] [16,24] rfl ?o1 ?q1
 case o1=>simp; rfl
 refine zaw ⟨12,[(4,.rs 50 0 o.length)],[(50,some ⟨1,zaf o,0⟩)],200⟩ rfl ?_ ?_
 ·simp
  refine zap hlev (by simp) ?_
  simp
  refine zaU hord (by simp) ?_
  simp
  exact ⟨rfl,LeI [(88,50)] []⟩
 refine zah ?_
 exact ⟨.inr rfl,zal.out [50] [] rfl (by simp) (by simp) (by simp) (by simp [fcd])⟩
theorem zo7 (g : Gr) (p : Pol) : ∀ (n : Nat) (o : List Int),o.length = n → (refR g p o).length ≤ n
 | 0,o,h=>by
   obtain rfl:=List.eq_nil_of_length_eq_zero h
   exact Nat.le_refl _
 | n + 1,o,h=>by
   have hne : o ≠ []:=fun e=>by rw [e] at h; cases h
   rw [← List.dropLast_concat_getLast hne]
   have ih:=zo7 g p n o.dropLast (by rw [List.length_dropLast,h]; rfl)
   by_cases hc : zas g p (zax (accR g p o.dropLast ++ [o.getLast hne]))
   ·rw [zk5 hc]; omega
   ·rw [znB hc,List.length_append,List.length_singleton]; omega
theorem zrb (N : Nat) (A : List Ed) : (zgi N A).length ≤ N:=by
 unfold zgi
 exact Nat.le_trans (List.length_filter_le ..) (by simp)
set_option maxRecDepth 100000 in
set_option maxHeartbeats 8000000 in
theorem zmI (g : Gr) (p : Pol) (hg : GrOk g) (hp : za8 g.size p) (hs : p.seeds.length ≤ 64) (hN : g.size < 20) :
  ∃ f : List Int,zjH g p (zax (accR g p (ordL (zai g p.lv) p.seeds))) f ∧
    zaj Tryz.prog zf1 [eG g,eP p] [] (.tup [eAcc (accR g p (ordL (zai g p.lv) p.seeds)) f (refR g p (ordL (zai g p.lv) p.seeds)),.I 0]) []:=by
 have hsz:=hg.1.1
 have hsz2:=hg.1.2.1
 have hel:=hg.edges_le
 have hgl:=hg.gone_le
 have hchk:=zcZ g p (by omega) (by omega) (by omega) (by have:=hp.2.2.2.1; omega)
 rw [if_pos hg,if_pos hp] at hchk
 have hord:=zi7 g p hg hN (by omega)
 obtain ⟨o,ho⟩ : ∃ o,o = ordL (zai g p.lv) p.seeds:=⟨_,rfl⟩
 have hor : ∀ k ∈ o,0 ≤ k ∧ k < g.size:=fun k hk=>by rw [ho] at hk; have h:=zbN hk; exact h
 have hon : o.Nodup:=by rw [ho]; exact zbi _ _
 rw [← ho] at hord ⊢
 have hol : o.length ≤ 64:=by
  have:=za1 (b:=(List.range g.size.toNat).map fun i : Nat=>(i : Int)) hon fun x hx=>by
   have:=hor x hx
   exact List.mem_map.2 ⟨x.toNat,List.mem_range.2 (by omega),by omega⟩
  simp at this
  omega
 have h64 : ∀ a : List Int,(∀ x ∈ a,0 ≤ x ∧ x < g.size) → ∀ x ∈ a,0 ≤ x ∧ x < 64:=fun a h x hx=>by have:=h x hx; omega
 have hnv : ∀ a : List Int,(∀ x ∈ a,0 ≤ x ∧ x < g.size) → za4 ⟨netN g,netA g p (zax a)⟩:=fun a h=>zgU hg hp (zjs (zdP h)) hs (zdN a)
 have hserve : ∀ a : List Int,a.Nodup → (∀ x ∈ a,0 ≤ x ∧ x < g.size) → ∃ f,zjH g p (zax a) f ∧ zaj Tryz.prog zcz [eN ⟨netN g,netA g p (zax a)⟩,.I (a.length : Nat)] [] (.tup [.rs 0 0 (netA g p (zax a)).length,.B (@decide (zas g p (zax a)) (Classical.propDecidable _))]) [some ⟨1,zaf f,0⟩]:=fun a h1 h2=>by
  obtain ⟨f,hf,hc⟩:=zj8 _ _ (a.length : Nat) (hnv a h2)
  have hmf:=zfA hf.1 hf.2
  refine ⟨f,⟨hf.1,hf.2,hmf.symm⟩,?_⟩
  have hjl:=zlk h1 (h64 a h2)
  have : decide (valF (netA g p (zax a)) f = (a.length : Nat)) = @decide (zas g p (zax a)) (Classical.propDecidable _):=by
   rw [decide_eq_decide]
   unfold zas
   rw [hmf,hjl]
  rw [this] at hc
  exact hc
 have haccn : ∀ i,(accR g p (o.take i)).Nodup:=fun i=>(hon.sublist ((zha _ _ rfl).trans (List.take_sublist _ _)))
 have haccr : ∀ i,∀ x ∈ accR g p (o.take i),0 ≤ x ∧ x < g.size:=fun i x hx=>hor x (List.mem_of_mem_take (zg0 hx))
 obtain ⟨f,hf,hlast⟩:=hserve (accR g p o) (by have:=haccn o.length; rwa [List.take_length] at this) (by have:=haccr o.length; rwa [List.take_length] at this)
 refine ⟨f,hf,?_⟩
 have hnl:=zes g p (accR g p o) hg hp (by have:=haccn o.length; rwa [List.take_length] at this) (by have:=haccr o.length; rwa [List.take_length] at this) hs
 have hlf:=hf.ok.fit.len
 refine zny.acalls (nbz rfl) (nbz rfl) (Nat.zero_le _) ?_
 show awp _ 0 _ _ ⟨72,[(0,eG g),(1,eP p)],[],16⟩
 refine rx (s:=?s1) [2,3,4] [32] [16,24] rfl ?o1 ?q1
 case o1=>simp; rfl
 refine zab ?_
 refine rx (s:=?s2) [2,3,4,6] [32] [] rfl ?o2 ?q2
 case o2=>simp; refine zap hchk (by simp) ?_; simp; rfl
 refine rx (s:=?s3) [2,3,4,18] [32] [] rfl ?o3 ?q3
 case o3=>simp; rfl
 refine zac _ rfl (fun h=>by cases h) fun _=>?_
 refine zad ?_
 refine zaa ⟨72,[(2,.pv (gC g)),(3,.pv (pC p)),(4,.pt 32 0 0),(7,.pt 40 0 0)],[(32,some ⟨3,[[.nilS,.nilS,.nilS]],0⟩),(40,some ⟨3,[[.nilS,.nilS,.nilS]],0⟩)],200⟩ rfl ?_ ?_
 ·simp
  exact LeH [(32,32),(96,40)] []
 refine zab ?_
 refine zaa ⟨72,[(2,.pv (gC g)),(3,.pv (pC p)),(4,.pt 32 0 0),(7,.pt 40 0 0),(23,ints o),(24,.I o.length),(25,.I 0)],[(32,some ⟨3,[[.nilS,.nilS,.nilS]],0⟩),(40,some ⟨3,[[.nilS,.nilS,.nilS]],0⟩)],400⟩ rfl ?_ ?_
 ·simp
  refine zaU hord (by simp) ?_
  simp
  exact Le.go [(32,32),(40,40)] [216] rfl rfl (by simp [fcd,zak]) (by simp)
 refine zag ?_
 have hR0 : refR g p [] = []:=rfl
 refine zao (ι:=Nat) (fun i=>⟨72,[(2,.pv (gC g)),(3,.pv (pC p)),(4,.pt 32 0 0),(7,.pt 40 0 0),(23,ints o),(24,.I o.length),(25,.I i)],
   [(32,some ⟨3,[[.nilS,.nilS,.nilS]],0⟩),(40,some ⟨3,[[ints (accR g p (o.take i)),.nilS,.rs 42 0 (refR g p (o.take i)).length]],0⟩),(42,some ⟨2,zbD (refR g p (o.take i)),0⟩)],500⟩)
  (fun i=>i ≤ o.length) (fun i=>o.length - i) 0 (Nat.zero_le _)
  (Le.lst [(32,32),(40,40)] [] [(42,2)] rfl (by simp) (by simp) (by simp) (by simp) (by simp) (by simp) (by simp) (by simp [Up]) (by simp [ziH,hR0,fcd]; exact ⟨zaA.rfl' (by simp),zaA.row rfl (by omega) (by simp [UpL,Up,Wk.refl]; exact Wk.nil _ _)⟩)) ?_
 intro i hi
 have haN:=haccn i
 have haR:=haccr i
 have hal : (accR g p (o.take i)).length ≤ 64:=Nat.le_trans (zlx _) (Nat.le_trans (List.length_take_le' i o) hol)
 have hRl:=zo7 g p _ (o.take i) rfl
 have hRl2:=List.length_take_le' i o
 have hyes:=fun k=>zdw (g:=g) (p:=p) (o:=o.take i) (k:=k)
 have hno:=fun k=>zgd (g:=g) (p:=p) (o:=o.take i) (k:=k)
 have hryes:=fun k=>zk5 (g:=g) (p:=p) (o:=o.take i) (k:=k)
 have hrno:=fun k=>znB (g:=g) (p:=p) (o:=o.take i) (k:=k)
 have hmem : ∀ x ∈ accR g p (o.take i),x ∈ o.take i:=fun x hx=>zg0 hx
 obtain ⟨acc,hacc⟩ : ∃ acc,acc = accR g p (o.take i):=⟨_,rfl⟩
 obtain ⟨R,hR⟩ : ∃ R,R = refR g p (o.take i):=⟨_,rfl⟩
 rw [← hacc] at haN haR hal hmem hyes hno hryes hrno
 rw [← hR] at hRl hryes hrno
 rw [← hacc,← hR]
 refine zaa ⟨72,[(2,.pv (gC g)),(3,.pv (pC p)),(4,.pt 32 0 0),(7,.pt 40 0 0),(23,ints o),(24,.I o.length),(25,.I i),(26,.B (decide (i < o.length)))],
   [(32,some ⟨3,[[.nilS,.nilS,.nilS]],0⟩),(40,some ⟨3,[[ints acc,.nilS,.rs 42 0 R.length]],0⟩),(42,some ⟨2,zbD R,0⟩)],600⟩ rfl ?_ ?_
 ·simp
  exact LeI [(32,32),(40,40),(42,42)] []
 refine zab ?_
 refine zac _ rfl (fun h11=>?_) fun h11=>?_
 ·simp at h11
  have hw1 : IntKind.i64.wrap ((i : Int) + 1) = (i : Int) + 1:=w64 (by omega) (by omega)
  obtain ⟨k,hk⟩ : ∃ k,k = o[i]:=⟨_,rfl⟩
  have hkr:=hor _ (List.getElem_mem h11)
  rw [← hk] at hkr
  have hts : o.take (i + 1) = o.take i ++ [k]:=by rw [List.take_succ_eq_append_getElem h11,hk]
  have hkacc : k ∉ acc:=fun h=>by
   have h2:=hmem k h
   obtain ⟨j,hj,hjk⟩:=List.mem_iff_getElem.1 h2
   rw [List.getElem_take] at hjk
   rw [List.length_take] at hj
   have:=(List.pairwise_iff_getElem.1 hon) j i (by omega) h11 (by omega)
   exact this (hjk.trans hk)
  have hks : ∀ x ∈ acc ++ [k],0 ≤ x ∧ x < g.size:=fun x hx=>by
   rcases List.mem_append.1 hx with h | h
   ·exact haR x h
   ·rw [List.mem_singleton] at h; subst h; exact hkr
  have hkn : (acc ++ [k]).Nodup:=List.nodup_append.2 ⟨haN,by simp,fun a ha b hb=>by
   rw [List.mem_singleton] at hb
   subst hb
   rintro rfl
   exact hkacc ha⟩
  have hwith:=zj5 acc k (by omega)
  have hnet:=zes g p (acc ++ [k]) hg hp hkn hks hs
  obtain ⟨fl,hfl,hsv⟩:=hserve (acc ++ [k]) hkn hks
  have hreach:=zjm _ _ fl (hnv _ hks) hfl.ok hfl.most
  have hflen:=hfl.ok.fit.len
  have hnl2:=zrb (netN g) (netA g p (zax (acc ++ [k])))
  have hyes:=hyes k
  have hno:=hno k
  have hryes:=hryes k
  have hrno:=hrno k
  rw [← hts] at hyes hno hryes hrno
  obtain ⟨A,hA⟩ : ∃ A,A = netA g p (zax (acc ++ [k])):=⟨_,rfl⟩
  obtain ⟨side,hside⟩ : ∃ side,side = zgi (netN g) A:=⟨_,rfl⟩
  rw [← hA] at hnet hsv hreach hflen hrno
  rw [← hside] at hreach hrno
  have htf : ∀ h : Int → List AV,List.take A.length (List.map h fl) = List.map h fl:=fun h=>List.take_of_length_le (by simp; omega)
  obtain ⟨W,hW⟩ : ∃ W,W = acc ++ [k]:=⟨_,rfl⟩
  have hWl : W.length = acc.length + 1:=by rw [hW]; simp
  rw [← hW] at hwith hnet hsv hyes hno hryes hrno
  rw [← hWl] at hwith
  refine zad ?_
  refine zaI (ι:=Unit) (fun _=>⟨72,[(2,.pv (gC g)),(3,.pv (pC p)),(4,.pt 32 0 0),(7,.pt 40 0 0),(23,ints o),(24,.I o.length),(25,.I i)],
   [(32,some ⟨3,[[.nilS,.nilS,.nilS]],0⟩),(40,some ⟨3,[[ints (accR g p (o.take (i + 1))),.nilS,.rs 42 0 (refR g p (o.take (i + 1))).length]],0⟩),(42,some ⟨2,zbD (refR g p (o.take (i + 1))),0⟩)],3000⟩) (fun _=>True) ?_ fun _ _=>?_
  ·refine zag ?_
   refine zaa ⟨72,[(2,.pv (gC g)),(3,.pv (pC p)),(4,.pt 32 0 0),(7,.pt 40 0 0),(9,.I k),(23,ints o),(24,.I o.length),(25,.I i)],
    [(32,some ⟨3,[[.nilS,.nilS,.nilS]],0⟩),(40,some ⟨3,[[ints acc,.nilS,.rs 42 0 R.length]],0⟩),(42,some ⟨2,zbD R,0⟩)],700⟩ rfl ?_ ?_
   ·simp [h11,← hk]
    exact LeI [(32,32),(40,40),(42,42)] []
   refine zaa ⟨72,[(2,.pv (gC g)),(3,.pv (pC p)),(4,.pt 32 0 0),(7,.pt 40 0 0),(9,.I k),(10,ints W),(23,ints o),(24,.I o.length),(25,.I i)],
    [(32,some ⟨3,[[.nilS,.nilS,.nilS]],0⟩),(40,some ⟨3,[[ints acc,.nilS,.rs 42 0 R.length]],0⟩),(42,some ⟨2,zbD R,0⟩)],800⟩ rfl ?_ ?_
   ·simp
    refine zaU hwith (by simp) ?_
    simp
    exact Le.go [(32,32),(40,40),(42,42)] [724] rfl rfl (by simp [fcd,zak]) (by simp [fcd])
   refine zaa ⟨72,[(2,.pv (gC g)),(3,.pv (pC p)),(4,.pt 32 0 0),(7,.pt 40 0 0),(9,.I k),(10,ints W),(11,.pv (nC ⟨netN g,A⟩)),(23,ints o),(24,.I o.length),(25,.I i)],
    [(32,some ⟨3,[[.nilS,.nilS,.nilS]],0⟩),(40,some ⟨3,[[ints acc,.nilS,.rs 42 0 R.length]],0⟩),(42,some ⟨2,zbD R,0⟩)],900⟩ rfl ?_ ?_
   ·simp
    refine zap hnet (by simp) ?_
    simp
    exact LeI [(32,32),(40,40),(42,42)] [832]
   refine zaa ⟨72,[(2,.pv (gC g)),(3,.pv (pC p)),(4,.pt 32 0 0),(7,.pt 40 0 0),(9,.I k),(10,ints W),(11,.pv (nC ⟨netN g,A⟩)),(12,.rs 43 0 A.length),(13,.B (@decide (zas g p (zax W)) (Classical.propDecidable _))),(23,ints o),(24,.I o.length),(25,.I i)],
    [(32,some ⟨3,[[.nilS,.nilS,.nilS]],0⟩),(40,some ⟨3,[[ints acc,.nilS,.rs 42 0 R.length]],0⟩),(42,some ⟨2,zbD R,0⟩),(43,some ⟨1,zaf fl,0⟩)],1000⟩ rfl ?_ ?_
   ·simp
    refine zaU hsv (by simp) ?_
    simp
    exact LeI [(32,32),(40,40),(42,42),(924,43)] []
   refine zab ?_
   refine zaa ⟨72,[(2,.pv (gC g)),(3,.pv (pC p)),(4,.pt 32 0 0),(7,.pt 40 0 0),(9,.I k),(10,ints W),(11,.pv (nC ⟨netN g,A⟩)),(12,.rs 43 0 A.length),(44,.B (@decide (zas g p (zax W)) (Classical.propDecidable _))),(23,ints o),(24,.I o.length),(25,.I i)],
    [(32,some ⟨3,[[.nilS,.nilS,.nilS]],0⟩),(40,some ⟨3,[[ints acc,.nilS,.rs 42 0 R.length]],0⟩),(42,some ⟨2,zbD R,0⟩),(43,some ⟨1,zaf fl,0⟩)],1100⟩ rfl ?_ ?_
   ·simp
    exact LeI [(32,32),(40,40),(42,42),(43,43)] []
   refine zac _ rfl (fun h15=>?_) fun h15=>?_
   ·have h15' : zas g p (zax W):=@of_decide_eq_true _ (Classical.propDecidable _) h15
    have hy:=hyes h15'
    have hry:=hryes h15'
    refine zaa ⟨72,[(2,.pv (gC g)),(3,.pv (pC p)),(4,.pt 32 0 0),(7,.pt 40 0 0),(23,ints o),(24,.I o.length),(25,.I i)],
     [(32,some ⟨3,[[.nilS,.nilS,.nilS]],0⟩),(40,some ⟨3,[[ints W,.nilS,.rs 42 0 R.length]],0⟩),(42,some ⟨2,zbD R,0⟩)],1200⟩ rfl ?_ ?_
    ·simp [zaJ]
     exact LeI [(32,32),(40,40),(42,42)] []
    refine zan ?_
    refine hit ?_
    exact ⟨(),trivial,Le.go [(32,32),(40,40),(42,42)] [] rfl rfl (by simp) (by simp [hy,hry,fcd])⟩
   ·have h15' : ¬ zas g p (zax W):=@of_decide_eq_false _ (Classical.propDecidable _) h15
    have hn':=hno h15'
    have hrn:=hrno h15'
    have htR : ∀ h : Int × List Int → List AV,List.take R.length (List.map h R) = List.map h R:=fun h=>List.take_of_length_le (by simp)
    refine zad ?_
    refine zbf rfl ?_
    simp
    refine zbd (i:=43) rfl (by simp [fcd]) hreach (by simp) (by simp) ?_
    simp [htR,zaJ]
    exact ⟨by omega,by omega,rfl,Le.go [(32,32),(40,40),(1164,42)] [1140] rfl rfl (by simp) (by simp [hn',hrn,fcd,zak])⟩
  refine zaq rfl ?_
  simp [hw1]
  exact ⟨i + 1,by omega,by omega,Le.go [(32,32),(40,40),(42,42)] [] rfl rfl (by simp [hw1]) (by simp [fcd])⟩
 simp at h11
 obtain rfl : i = o.length:=by omega
 rw [List.take_length] at hacc hR
 rw [← hacc] at hlast hnl hlf
 have hl1 : ((acc.length : Nat) : Int) = acc.length:=rfl
 obtain ⟨A,hA⟩ : ∃ A,A = netA g p (zax acc):=⟨_,rfl⟩
 rw [← hA] at hnl hlast hlf
 have htf : ∀ h : Int → List AV,List.take A.length (List.map h f) = List.map h f:=fun h=>List.take_of_length_le (by simp; omega)
 refine zan ?_
 refine hit ?_
 refine zaw ⟨72,[(4,.pt 32 0 0),(7,.pt 40 0 0)],
   [(32,some ⟨3,[[.nilS,.nilS,.nilS]],0⟩),(40,some ⟨3,[[ints acc,ints f,.vs 2 false (zbD R)]],0⟩)],1200⟩ rfl ?_ ?_
 ·simp
  refine zap hnl (by simp) ?_
  simp
  refine zaU hlast (by simp) ?_
  simp [zaJ]
  exact ⟨rfl,Le.go [(32,32),(40,40)] [42,664] rfl rfl (by simp) (by simp [fcd,zak,htf,hlf])⟩
 refine zaa ⟨72,[(4,.pt 32 0 0),(5,.I 0)],[(32,some ⟨3,[[ints acc,ints f,.vs 2 false (zbD R)]],0⟩)],1400⟩ rfl ?_ ?_
 ·simp [zaJ]
  exact LeI [(32,32)] []
 refine zah ?_
 rw [← hacc,← hR]
 exact ⟨.inr rfl,zal.out [] [32] rfl (by simp) (by simp) (by simp) (by simp)⟩
section
variable {P : Program} {np id : Nat} {h : Nat → Option Ent} {K : AV → List Nat → List (Nat × Option Ent) → Prop} {f : FuncId} {first capt args args' : List AV} {res : AV}
end
theorem zum (L : List Int) (hl : L.length ≤ 400) : ∃ (g : Gr) (b : Nat),(GrOk g ∧ 2 ≤ g.size ∧ g.size ≤ 9 ∧ b ≤ L.length) ∧ zaj Tryz.prog zch [.pt 0 0 0] [dice L 0] (eG g) [some (dice L b)] :=
 have h:=zn6 L 0 (Nat.zero_le _)
 ⟨_,_,⟨h.ok,h.lo,h.hi,h.at_⟩,zsi L 0 hl (Nat.zero_le _)⟩
variable {g : Gr} {p : Pol}
theorem Rise.pair {l : List Int} {lo hi : Int} (h : Rise l lo hi) : l.Pairwise (· < ·):=by
 have hlt : ∀ (j i : Nat) (hj : j < l.length) (hij : i < j),l[i] < l[j]:=by
  intro j
  induction j with
  | zero=>intro i _ hij; omega
  | succ j ih =>
    intro i hj hij
    have h1:=(h (j + 1) hj).2.2 (by omega)
    simp only [Nat.add_sub_cancel] at h1
    rcases Nat.lt_or_ge i j with h2 | h2
    ·have:=ih i (by omega) h2
     omega
    ·have : i = j:=by omega
     subst this
     exact h1
 exact List.pairwise_iff_getElem.2 fun i j hi hj hij=>hlt j i hj hij
theorem zhy (acc f : List Int) (R : List (Int × List Int)) (k : Int) (hl : acc.length ≤ 140737488355328) : zaj Tryz.prog zcE [eAcc acc f R,.I k] [] (.B (decide (k ∈ acc))) []:=by
 refine ziV.acalls (nbz rfl) (nbz rfl) (Nat.zero_le _) ?_
 show awp _ 0 _ _ ⟨9,[(0,eAcc acc f R),(1,.I k)],[],16⟩
 refine zaa ⟨9,[(1,.I k),(2,.pv [ints acc,ints f,.vs 2 false (zbD R)])],[],100⟩ rfl ?_ ?_
 ·simp
  exact LeH [] [16]
 refine zaa ⟨9,[(4,.B (decide (k ∈ acc)))],[],200⟩ rfl ?_ ?_
 ·simp
  refine zap (zdI acc k hl) (by simp) ?_
  simp
  exact LeH [] []
 refine zah ?_
 exact ⟨.inr rfl,zal.one (by simp)⟩
theorem zqo {R : List (Int × List Int)} {key : Int} {side : List Int} (h : (key,side) ∈ R) : ∃ j,∃ hj : j < R.length,idxQ R (fun r=>decide (r.1 = key)) = (j : Int) ∧ R[j].1 = key:=by
 have hlt : R.findIdx (fun r=>decide (r.1 = key)) < R.length:=List.findIdx_lt_length_of_exists ⟨_,h,by simp⟩
 refine ⟨_,hlt,by unfold idxQ; rw [if_pos hlt],?_⟩
 have:=List.findIdx_getElem (w:=hlt)
 simpa using this
set_option maxRecDepth 100000 in
set_option maxHeartbeats 8000000 in
open Classical in
theorem zot (g : Gr) (p : Pol) (fl : List Int) (key : Int) (hg : GrOk g) (hp : za8 g.size p) (hs : p.seeds.length ≤ 64) (hkey : key ∈ ordL (zai g p.lv) p.seeds) :
  ∃ x,ForR g p (ordL (zai g p.lv) p.seeds) key x ∧ zaj Tryz.prog zcG [eG g,eP p,eAcc (accR g p (ordL (zai g p.lv) p.seeds)) fl (refR g p (ordL (zai g p.lv) p.seeds)),ints (ordL (zai g p.lv) p.seeds),.I key] [] (.tup [eX x,.I 0]) []:=by
 refine zhl.acallsX (args:=[eG g,eP p,eAcc (accR g p (ordL (zai g p.lv) p.seeds)) fl (refR g p (ordL (zai g p.lv) p.seeds)),ints (ordL (zai g p.lv) p.seeds),.I key]) (hs:=[]) (fun x=>.tup [eX x,.I 0]) (fun _=>[]) (fun x : Expl=>ForR g p (ordL (zai g p.lv) p.seeds) key x) (nbz rfl) (nbz rfl) (fun _=>Nat.le_refl _) ?_
 have hsz:=hg.1.1
 have hsz2:=hg.1.2.1
 obtain ⟨⟨R',fl'⟩,⟨hR,_⟩,_⟩:=zu9 g p hg hp hs
 simp only at hR
 have hReq:=hR.eq
 subst hReq
 have hon:=zbi (zai g p.lv) p.seeds
 have hsrv:=fun ks=>zid g p ks hg hp hs
 obtain ⟨o,ho⟩ : ∃ o,o = ordL (zai g p.lv) p.seeds:=⟨_,rfl⟩
 have hor : ∀ k ∈ o,0 ≤ k ∧ k < g.size:=fun k hk=>by rw [ho] at hk; have h:=zbN hk; exact h
 have hol : o.length ≤ 64:=by
  have h1:=zli (g:=zai g p.lv) (S:=p.seeds) hsz
  have h2 : (zai g p.lv).size = g.size:=rfl
  rw [← ho] at h1
  omega
 rw [← ho] at hR hkey hon ⊢
 obtain ⟨R,hRd⟩ : ∃ R,R = refR g p o:=⟨_,rfl⟩
 rw [← hRd] at hR ⊢
 have hRl:=hR.len
 obtain ⟨acc,hacc⟩ : ∃ acc,acc = accR g p o:=⟨_,rfl⟩
 rw [← hacc]
 have hal : acc.length ≤ 64:=by rw [hacc]; exact Nat.le_trans (zlx o) hol
 have hA:=fun k=>zhy acc fl R k (by omega)
 obtain ⟨i0,hi0d⟩ : ∃ i0,i0 = o.idxOf key:=⟨_,rfl⟩
 have hi0 : i0 < o.length:=by rw [hi0d]; exact List.idxOf_lt_length_of_mem hkey
 have hok : o[i0] = key:=by
  have : o[o.idxOf key]'(List.idxOf_lt_length_of_mem hkey) = key:=List.getElem_idxOf _
  simp only [hi0d]
  exact this
 have hidx:=zev o key (by omega)
 rw [show idxI o key = (i0 : Int) by unfold idxI; rw [if_pos hkey,hi0d]] at hidx
 obtain ⟨T,hT⟩ : ∃ T,T = tkL o i0:=⟨_,rfl⟩
 have hTl : T.length = i0:=by rw [hT]; exact zr2 (by omega)
 have hTo : ∀ (i : Nat) (h : i < T.length),∃ h2 : i < o.length,T[i] = o[i]:=fun i h=>by
  have h2 : i < o.length:=by omega
  refine ⟨h2,?_⟩
  have e : T[i]? = o[i]?:=by rw [hT]; unfold tkL; rw [List.getElem?_take_of_lt (by omega)]
  rw [List.getElem?_eq_getElem h,List.getElem?_eq_getElem h2] at e
  exact Option.some.inj e
 have htT : ∀ h : Int → List AV,List.take i0 (List.map h o) = List.map h T:=fun h=>by rw [hT]; unfold tkL; rw [List.map_take]
 obtain ⟨ac,hac⟩ : ∃ ac,ac = decide (key ∈ acc):=⟨_,rfl⟩
 have hAk:=hA key
 rw [show @decide (key ∈ acc) (List.instDecidableMemOfLawfulBEq key acc) = ac by rw [hac]] at hAk
 show awp _ 0 _ _ ⟨76,[(0,eG g),(1,eP p),(2,eAcc acc fl R),(3,ints o),(4,.I key)],[],16⟩
 refine zaa ⟨76,[(3,ints o),(5,.pv (gC g)),(6,.pv (pC p)),(7,.pv [ints acc,ints fl,.vs 2 false (zbD R)]),(9,.pv [.I key]),(10,.pt 48 0 0)],[(48,some ⟨5,[[.I 0,.B false,.nilS,.nilS,.nilS]],0⟩)],100⟩ rfl ?_ ?_
 ·simp
  exact LeH [(48,48)] [16,24,32,40]
 refine zaw ⟨76,[(3,ints o),(5,.pv (gC g)),(6,.pv (pC p)),(7,.pv [ints acc,ints fl,.vs 2 false (zbD R)]),(9,.pv [.I key]),(10,.pt 48 0 0),(12,.pt 50 0 0)],[(48,some ⟨5,[[.I 0,.B false,.nilS,.nilS,.nilS]],0⟩),(50,some ⟨5,[[.I key,.B ac,.nilS,.nilS,.nilS]],0⟩)],200⟩ rfl ?_ ?_
 ·simp
  refine zap hAk (by simp) ?_
  simp [zaJ]
  exact ⟨rfl,LeH [(48,48),(140,50)] []⟩
 refine zab ?_
 refine zaa ⟨76,[(5,.pv (gC g)),(6,.pv (pC p)),(7,.pv [ints acc,ints fl,.vs 2 false (zbD R)]),(9,.pv [.I key]),(10,.pt 48 0 0),(12,.pt 50 0 0),(27,ints T),(28,.I T.length),(29,.I 0)],[(48,some ⟨5,[[.I 0,.B false,.nilS,.nilS,.nilS]],0⟩),(50,some ⟨5,[[.I key,.B ac,.nilS,.nilS,.nilS]],0⟩)],300⟩ rfl ?_ ?_
 ·simp
  refine zap hidx (by simp) ?_
  simp [hi0]
  exact ⟨by omega,Le.go [(48,48),(50,50)] [] rfl rfl (by simp [htT,hTl,Nat.le_of_lt hi0]) (by simp)⟩
 refine zag ?_
 refine zao (ι:=Nat) (fun i=>⟨76,[(5,.pv (gC g)),(6,.pv (pC p)),(7,.pv [ints acc,ints fl,.vs 2 false (zbD R)]),(9,.pv [.I key]),(10,.pt 48 0 0),(12,.pt 50 0 0),(27,ints T),(28,.I T.length),(29,.I i)],[(48,some ⟨5,[[.I 0,.B false,.nilS,.nilS,.nilS]],0⟩),(50,some ⟨5,[[.I key,.B ac,.rs 51 0 (befL o acc i).length,.nilS,.nilS]],0⟩),(51,some ⟨1,zaf (befL o acc i),0⟩)],300⟩)
  (fun i=>i ≤ T.length) (fun i=>T.length - i) 0 (Nat.zero_le _)
  (Le.lst [(48,48),(50,50)] [] [(51,1)] rfl (by simp) (by simp) (by simp) (by simp) (by simp) (by simp) (by simp) (by simp [Up]) (by simp [befL,fcd]; exact ⟨zaA.rfl' (by simp),zaA.row rfl (by omega) (by simp [UpL,Up,Wk.refl])⟩)) ?_
 intro i hi
 have hbl:=zsu o acc i
 refine zaa ⟨76,[(5,.pv (gC g)),(6,.pv (pC p)),(7,.pv [ints acc,ints fl,.vs 2 false (zbD R)]),(9,.pv [.I key]),(10,.pt 48 0 0),(12,.pt 50 0 0),(27,ints T),(28,.I T.length),(29,.I i),(30,.B (decide (i < T.length)))],[(48,some ⟨5,[[.I 0,.B false,.nilS,.nilS,.nilS]],0⟩),(50,some ⟨5,[[.I key,.B ac,.rs 51 0 (befL o acc i).length,.nilS,.nilS]],0⟩),(51,some ⟨1,zaf (befL o acc i),0⟩)],400⟩ rfl ?_ ?_
 ·simp
  exact LeI [(48,48),(50,50),(51,51)] []
 refine zab ?_
 refine zac _ rfl (fun h5=>?_) fun h5=>?_
 ·rw [decide_eq_true_eq] at h5
  have hwi : IntKind.i64.wrap ((i : Int) + 1) = ((i + 1 : Nat) : Int):=by rw [w64 (by omega) (by omega)]; omega
  obtain ⟨hio,hTi⟩:=hTo i h5
  have hsu:=znp (o:=o) (acc:=acc) hio
  obtain ⟨k,hk⟩ : ∃ k,k = o[i]:=⟨_,rfl⟩
  rw [← hk] at hsu hTi
  have hha:=hA k
  refine zad ?_
  refine zaI (ι:=Unit) (fun _=>⟨76,[(5,.pv (gC g)),(6,.pv (pC p)),(7,.pv [ints acc,ints fl,.vs 2 false (zbD R)]),(9,.pv [.I key]),(10,.pt 48 0 0),(12,.pt 50 0 0),(27,ints T),(28,.I T.length),(29,.I i)],[(48,some ⟨5,[[.I 0,.B false,.nilS,.nilS,.nilS]],0⟩),(50,some ⟨5,[[.I key,.B ac,.rs 51 0 (befL o acc (i + 1)).length,.nilS,.nilS]],0⟩),(51,some ⟨1,zaf (befL o acc (i + 1)),0⟩)],2000⟩) (fun _=>True) ?_ fun _ _=>?_
  ·refine zag ?_
   refine zaa ⟨76,[(5,.pv (gC g)),(6,.pv (pC p)),(7,.pv [ints acc,ints fl,.vs 2 false (zbD R)]),(9,.pv [.I key]),(10,.pt 48 0 0),(12,.pt 50 0 0),(14,.I k),(27,ints T),(28,.I T.length),(29,.I i)],[(48,some ⟨5,[[.I 0,.B false,.nilS,.nilS,.nilS]],0⟩),(50,some ⟨5,[[.I key,.B ac,.rs 51 0 (befL o acc i).length,.nilS,.nilS]],0⟩),(51,some ⟨1,zaf (befL o acc i),0⟩)],500⟩ rfl ?_ ?_
   ·simp [h5,hTi]
    exact LeI [(48,48),(50,50),(51,51)] []
   refine zaa ⟨76,[(5,.pv (gC g)),(6,.pv (pC p)),(7,.pv [ints acc,ints fl,.vs 2 false (zbD R)]),(9,.pv [.I key]),(10,.pt 48 0 0),(12,.pt 50 0 0),(14,.I k),(27,ints T),(28,.I T.length),(29,.I i),(35,.B (decide (k ∈ acc)))],[(48,some ⟨5,[[.I 0,.B false,.nilS,.nilS,.nilS]],0⟩),(50,some ⟨5,[[.I key,.B ac,.rs 51 0 (befL o acc i).length,.nilS,.nilS]],0⟩),(51,some ⟨1,zaf (befL o acc i),0⟩)],600⟩ rfl ?_ ?_
   ·simp
    refine zap hha (by simp) ?_
    simp
    exact LeI [(48,48),(50,50),(51,51)] []
   refine zac _ rfl (fun h19=>?_) fun h19=>?_
   ·rw [decide_eq_true_eq] at h19
    rw [if_pos h19] at hsu
    rw [hsu]
    obtain ⟨E,hE⟩ : ∃ E,E = befL o acc i:=⟨_,rfl⟩
    rw [← hE] at hbl ⊢
    refine zaq rfl ?_
    simp [zak,zaJ]
    exact ⟨by omega,by omega,LeI [(48,48),(50,50),(632,51)] []⟩
   ·rw [decide_eq_false_iff_not] at h19
    rw [if_neg h19,List.append_nil] at hsu
    rw [hsu]
    refine zad ?_
    exact ⟨(),trivial,LeI [(48,48),(50,50),(51,51)] []⟩
  refine zaq rfl ?_
  simp
  exact ⟨i + 1,h5,by omega,Le.go [(48,48),(50,50),(51,51)] [] rfl rfl (by simp [hwi]) (by simp [fcd])⟩
 rw [decide_eq_false_iff_not] at h5
 obtain rfl : i = i0:=by omega
 refine zan ?_
 refine hit ?_
 have hEm : ∀ x ∈ befL o acc i,x ∈ o:=fun x hx=>zsY hx
 have hsub : (befL o acc i ++ [key]).Sublist o:=by
  have h1 : (befL o acc i).Sublist (o.take i):=List.filter_sublist
  have h2 : o.take i ++ [key] = o.take (i + 1):=by rw [List.take_succ_eq_append_getElem hi0,hok]
  have h3:=h1.append (List.Sublist.refl [key])
  rw [h2] at h3
  exact h3.trans (List.take_sublist _ _)
 have hEn : (befL o acc i ++ [key]).Nodup:=hon.sublist hsub
 have hEr : ∀ x ∈ befL o acc i ++ [key],0 ≤ x ∧ x < g.size:=fun x hx=>hor x (hsub.subset hx)
 obtain ⟨E,hE⟩ : ∃ E,E = befL o acc i:=⟨_,rfl⟩
 rw [← hE] at hbl hEm hEn hEr ⊢
 refine zab ?_
 refine zaa ⟨76,[(5,.pv (gC g)),(6,.pv (pC p)),(7,.pv [ints acc,ints fl,.vs 2 false (zbD R)]),(9,.pv [.I key]),(10,.pt 48 0 0),(12,.pt 50 0 0),(44,.B ac)],[(48,some ⟨5,[[.I 0,.B false,.nilS,.nilS,.nilS]],0⟩),(50,some ⟨5,[[.I key,.B ac,.rs 51 0 E.length,.nilS,.nilS]],0⟩),(51,some ⟨1,zaf E,0⟩)],700⟩ rfl ?_ ?_
 ·simp
  exact LeI [(48,48),(50,50),(51,51)] []
 refine zac _ rfl (fun h10=>?_) fun h10=>?_
 ·have hin : key ∈ acc:=by rw [h10] at hac; exact of_decide_eq_true hac.symm
  obtain ⟨W,hW,hcall⟩:=hsrv (E ++ [key]) hEn hEr
  have hcl:=zet E (by omega)
  obtain ⟨Y,hY⟩ : ∃ Y,Y = W.map (zbG (netA g p (zax (E ++ [key])))):=⟨_,rfl⟩
  rw [← hY] at hcall
  refine zaw ⟨76,[(10,.pt 48 0 0),(12,.pt 50 0 0),(15,zcd Y),(16,.I 0)],[(48,some ⟨5,[[.I 0,.B false,.nilS,.nilS,.nilS]],0⟩),(50,some ⟨5,[[.I key,.B true,ints E,.nilS,.nilS]],0⟩)],900⟩ rfl ?_ ?_
  ·simp
   refine zge [51] hcl (by simp [fcd,zak]) (.rs _ _ _) zmZ ?_
   simp [zak]
   refine ⟨by omega,by omega,?_⟩
   refine zkS [756] (by simp) hcall (by simp [fcd,zak]; exact List.take_of_length_le (by simp)) ?_
   simp
   exact ⟨rfl,Le.go [(48,48),(50,50)] [51] rfl rfl (by simp) (by simp [fcd,zak,h10])⟩
  refine zaa ⟨76,[(10,.pt 48 0 0),(12,.pt 50 0 0),(16,.I 0)],[(48,some ⟨5,[[.I 0,.B false,.nilS,.nilS,.nilS]],0⟩),(50,some ⟨5,[[.I key,.B true,ints E,zcd Y,.nilS]],0⟩)],1000⟩ rfl ?_ ?_
  ·simp [zaJ]
   exact LeI [(48,48),(50,50)] []
  refine zaa ⟨76,[(10,.pt 48 0 0),(11,.I 0)],[(48,some ⟨5,[[.I key,.B true,ints E,zcd Y,.nilS]],0⟩)],1100⟩ rfl ?_ ?_
  ·simp [zaJ]
   exact LeI [(48,48)] []
  refine zah ?_
  rw [hacc] at hin
  refine zhc.mk (.inr rfl) ⟨key,true,E,Y,[]⟩ ⟨rfl,⟨i,hi0,hok,by rw [← hacc]; exact hE⟩,fun _=>⟨rfl,rfl,W,hW,hY⟩,fun h=>absurd hin h⟩ (zal.out [] [] rfl (by simp) (by simp) (by simp; exact wkX (.refl _) (.nil _ _)) (by simp))
 have hnin : key ∉ acc:=by rw [h10] at hac; exact of_decide_eq_false hac.symm
 have hnin' : key ∉ accR g p o:=by rw [← hacc]; exact hnin
 obtain ⟨side,hside⟩:=hR.all i hi0 (fun hm=>hnin' (by rw [← hok]; exact zrs hm))
 rw [hok] at hside
 obtain ⟨j,hj,hij,hRj⟩:=zqo hside
 have hixc:=zlf zbm [.pv [.I key]] (fun r=>decide (r.1 = key)) R (by omega) (fun ρ sn h k=>by simp) fun r _=>zjx r key
 rw [hij] at hixc
 obtain ⟨sd,hsd⟩ : ∃ sd,sd = R[j].2:=⟨_,rfl⟩
 have hgR : R[j]? = some (key,sd):=by rw [List.getElem?_eq_getElem hj,hsd,← hRj]
 have hgR' : R[j] = (key,sd):=by rw [hsd,← hRj]
 have hmem : (key,sd) ∈ R:=by rw [← hgR']; exact List.getElem_mem hj
 have hsl : sd.length ≤ 130:=by
  obtain ⟨_,_,_,hnear⟩:=hR.right _ hmem
  exact hnear.len
 have hcl:=zet sd (by omega)
 refine zad ?_
 refine zab ?_
 refine zaa ⟨76,[(7,.pv [ints acc,ints fl,.vs 2 false (zbD R)]),(10,.pt 48 0 0),(12,.pt 50 0 0),(17,.I j)],[(48,some ⟨5,[[.I 0,.B false,.nilS,.nilS,.nilS]],0⟩),(50,some ⟨5,[[.I key,.B false,ints E,.nilS,.nilS]],0⟩)],900⟩ rfl ?_ ?_
 ·simp
  refine zap hixc (by simp) ?_
  simp [h10]
  exact Le.go [(48,48),(50,50)] [51] rfl rfl (by simp) (by simp [fcd,zak,h10])
 refine zaa ⟨76,[(7,.pv [ints acc,ints fl,.vs 2 false (zbD R)]),(10,.pt 48 0 0),(12,.pt 50 0 0),(17,.I j),(66,.B true)],[(48,some ⟨5,[[.I 0,.B false,.nilS,.nilS,.nilS]],0⟩),(50,some ⟨5,[[.I key,.B false,ints E,.nilS,.nilS]],0⟩)],1000⟩ rfl ?_ ?_
 ·simp
  exact LeI [(48,48),(50,50)] []
 refine zac _ rfl (fun _=>?_) fun h=>by cases h
 refine zaq rfl ?_
 simp [hgR,hgR',hj]
 refine zaU hcl (by simp) ?_
 simp [zaJ]
 refine zaa ⟨76,[(10,.pt 48 0 0),(11,.I 0)],[(48,some ⟨5,[[.I key,.B false,ints E,.nilS,ints sd]],0⟩)],1500⟩ rfl ?_ ?_
 ·simp [zaJ]
  exact Le.go [(48,48)] [1048] rfl rfl (by simp) (by simp [fcd,zak])
 refine zah ?_
 refine zhc.mk (.inr rfl) ⟨key,false,E,[],sd⟩ ⟨rfl,⟨i,hi0,hok,by rw [← hacc]; exact hE⟩,fun h=>absurd h hnin',fun _=>⟨rfl,rfl,R,hR,hmem⟩⟩ (zal.out [] [] rfl (by simp) (by simp) (by simp; exact wkX (.nil _ _) (.refl _)) (by simp))
set_option maxRecDepth 100000 in
set_option maxHeartbeats 4000000 in
theorem zlS (g : Gr) (p : Pol) (key : Int) (hg : GrOk g) (hp : za8 g.size p) (hs : p.seeds.length ≤ 64) (hN : g.size < 20) (hkey : key ∈ ordL (zai g p.lv) p.seeds) :
  ∃ x,ForR g p (ordL (zai g p.lv) p.seeds) key x ∧ zaj Tryz.prog zfe [eG g,eP p,.I key] [] (.tup [eX x,.I 0]) []:=by
 have hsz:=hg.1.1
 have hsz2:=hg.1.2.1
 have hel:=hg.edges_le
 have hgl:=hg.gone_le
 obtain ⟨fl,_,hrun⟩:=zmI g p hg hp hs hN
 obtain ⟨x,hx,hexp⟩:=zot g p fl key hg hp hs hkey
 refine ⟨x,hx,?_⟩
 have hchk:=zcZ g p (by omega) (by omega) (by omega) (by have:=hp.2.2.2.1; omega)
 rw [if_pos hg,if_pos hp] at hchk
 have hre:=zgW g p hg hN (by omega)
 have hol : (ordL (zai g p.lv) p.seeds).length ≤ 64:=by
  have h1:=zli (g:=zai g p.lv) (S:=p.seeds) hsz
  have h2 : (zai g p.lv).size = g.size:=rfl
  omega
 have hcon:=zdI (ordL (zai g p.lv) p.seeds) key (by omega)
 rw [decide_eq_true hkey] at hcon
 obtain ⟨o,ho⟩ : ∃ o,o = ordL (zai g p.lv) p.seeds:=⟨_,rfl⟩
 rw [← ho] at hrun hexp hre hcon
 obtain ⟨acc,hacc⟩ : ∃ acc,acc = accR g p o:=⟨_,rfl⟩
 obtain ⟨R,hRd⟩ : ∃ R,R = refR g p o:=⟨_,rfl⟩
 rw [← hacc,← hRd] at hrun hexp
 refine zna.acalls (nbz rfl) (nbz rfl) (Nat.zero_le _) ?_
 show awp _ 0 _ _ ⟨45,[(0,eG g),(1,eP p),(2,.I key)],[],16⟩
 refine zaa ⟨45,[(2,.I key),(3,.pv (gC g)),(4,.pv (pC p)),(6,.pt 32 0 0)],[(32,some ⟨5,[[.I 0,.B false,.nilS,.nilS,.nilS]],0⟩)],100⟩ rfl ?_ ?_
 ·simp
  exact LeH [(32,32)] [16,24]
 refine zab ?_
 refine zaa ⟨45,[(2,.I key),(3,.pv (gC g)),(4,.pv (pC p)),(6,.pt 32 0 0),(8,.I 0)],[(32,some ⟨5,[[.I 0,.B false,.nilS,.nilS,.nilS]],0⟩)],200⟩ rfl ?_ ?_
 ·simp
  refine zap hchk (by simp) ?_
  simp
  exact LeH [(32,32)] []
 refine zaa ⟨45,[(2,.I key),(3,.pv (gC g)),(4,.pv (pC p)),(6,.pt 32 0 0),(16,.B false)],[(32,some ⟨5,[[.I 0,.B false,.nilS,.nilS,.nilS]],0⟩)],300⟩ rfl ?_ ?_
 ·simp
  exact LeH [(32,32)] []
 refine zac _ rfl (fun h=>by cases h) fun _=>?_
 refine zad ?_
 refine zaa ⟨45,[(2,.I key),(3,.pv (gC g)),(4,.pv (pC p)),(6,.pt 32 0 0),(9,ints o)],[(32,some ⟨5,[[.I 0,.B false,.nilS,.nilS,.nilS]],0⟩)],400⟩ rfl ?_ ?_
 ·simp
  refine zaU hre (by simp) ?_
  simp
  exact Le.go [(32,32)] [316] rfl rfl (by simp [zak,fcd]) (by simp)
 refine zab ?_
 refine zaa ⟨45,[(2,.I key),(3,.pv (gC g)),(4,.pv (pC p)),(6,.pt 32 0 0),(9,ints o),(25,.B false)],[(32,some ⟨5,[[.I 0,.B false,.nilS,.nilS,.nilS]],0⟩)],500⟩ rfl ?_ ?_
 ·simp
  refine zap hcon (by simp) ?_
  simp
  exact LeH [(32,32)] []
 refine zac _ rfl (fun h=>by cases h) fun _=>?_
 refine zad ?_
 refine zaa ⟨45,[(2,.I key),(3,.pv (gC g)),(4,.pv (pC p)),(6,.pt 32 0 0),(9,ints o),(10,.pv [ints acc,ints fl,.vs 2 false (zbD R)]),(11,.I 0)],[(32,some ⟨5,[[.I 0,.B false,.nilS,.nilS,.nilS]],0⟩)],600⟩ rfl ?_ ?_
 ·simp
  refine zap hrun (by simp) ?_
  simp
  exact LeH [(32,32)] [548]
 refine zab ?_
 refine zaa ⟨45,[(2,.I key),(3,.pv (gC g)),(4,.pv (pC p)),(6,.pt 32 0 0),(9,ints o),(10,.pv [ints acc,ints fl,.vs 2 false (zbD R)]),(34,.B false)],[(32,some ⟨5,[[.I 0,.B false,.nilS,.nilS,.nilS]],0⟩)],700⟩ rfl ?_ ?_
 ·simp
  exact LeH [(32,32)] []
 refine zac _ rfl (fun h=>by cases h) fun _=>?_
 refine zad ?_
 refine zaa ⟨45,[(6,.pt 32 0 0),(7,.I 0)],[(32,some ⟨5,[xE x],0⟩)],800⟩ rfl ?_ ?_
 ·simp
  refine zap hexp (by simp) ?_
  simp [zaJ]
  exact LeI [(32,32)] []
 refine zah ?_
 exact ⟨.inr rfl,zal.out [] [] rfl (by simp) (by simp) (by simp) (by simp)⟩
section
variable {g : Gr} {p : Pol}
theorem zpS (hg : GrOk g) (hp : za8 g.size p) {a : List Int} (h : ∀ x ∈ a,x ∈ ordL (zai g p.lv) p.seeds) : zbW g p a:=by
 refine ⟨fun x hx=>?_,fun x hx=>?_⟩
 ·have h2:=zbN (h x hx)
  exact h2
 ·have h2:=(ziz (hg.level p.lv)).1 (h x hx)
  exact (zfH hp h2.1.1).2 ⟨h2.1.2,h2.2⟩
theorem zbW.join {a : List Int} (h : zbW g p a) : zbW g p (zax a):=h.sub fun _ hx=>(zca.1 hx).1
theorem zpA (hg : GrOk g) (hp : za8 g.size p) : zbW g p (ordL (zai g p.lv) p.seeds):=zpS hg hp fun _ h=>h
end
variable {g : Gr} {p : Pol}
theorem h64 (hg : GrOk g) {a : List Int} (h : ∀ x ∈ a,0 ≤ x ∧ x < g.size) : ∀ x ∈ a,0 ≤ x ∧ x < 64:=fun x hx=>by
 have:=h x hx
 have:=hg.1.2.1
 omega
variable {g : Gr} {p : Pol}
def zeo (g : Gr) (p : Pol) : List Int:=p.seeds.filter fun k=>!g.gone.contains k
theorem zr5 (w : Int → Int) (hw : ∀ x,0 ≤ w x) : ∀ {s a : List Int},s.Nodup → (∀ x ∈ s,x ∈ a) → (s.map w).sum ≤ (a.map w).sum
 | [],a,_,_=>by
   have : ∀ a : List Int,0 ≤ (a.map w).sum:=fun a=>by
    induction a with
    | nil=>exact Int.le_refl _
    | cons x a ih=>simp only [List.map_cons,List.sum_cons]; have:=hw x; omega
   exact this a
 | x :: s,a,hn,h=>by
   rw [List.nodup_cons] at hn
   have h1:=List.perm_cons_erase (h x (List.mem_cons_self ..))
   have ih:=zr5 w hw (s:=s) (a:=a.erase x) hn.2 fun y hy=>(List.mem_erase_of_ne (by rintro rfl; exact hn.1 hy)).2 (h y (List.mem_cons_of_mem _ hy))
   have h2 : (a.map w).sum = ((x :: a.erase x).map w).sum:=by
    have hp : ∀ {a b : List Int},a.Perm b → (a.map w).sum = (b.map w).sum:=fun h=>by
     induction h with
     | nil=>rfl
     | cons x _ ih=>simp only [List.map_cons,List.sum_cons,ih]
     | swap x y l=>simp only [List.map_cons,List.sum_cons]; omega
     | trans _ _ i1 i2=>exact i1.trans i2
    exact hp h1
   rw [h2]
   simp only [List.map_cons,List.sum_cons]
   omega
theorem zhp {α : Type} {w : α → Int} : ∀ {l : List α},(∀ x ∈ l,0 ≤ w x) → 0 ≤ (l.map w).sum
 | [],_=>Int.le_refl _
 | x :: l,h=>by
   have:=zhp (l:=l) fun y hy=>h y (List.mem_cons_of_mem _ hy)
   have:=h x (List.mem_cons_self ..)
   simp only [List.map_cons,List.sum_cons]
   omega
theorem zqe (hp : za8 g.size p) (S : Int → Bool) (h0 : S 0 = true) : ((p.seeds.filter fun x=>decide (0 < (zaG g p).getD x.toNat 0)).map fun x=>if S (2 + 2 * x) = false then (zaG g p).getD x.toNat 0 else 0).sum ≤ zqJ g p S:=by
 unfold zqJ
 simp only [ziG,netA,zaT,List.map_append,List.sum_append,List.map_map,List.filter_nil,List.map_nil,List.sum_nil]
 have h1 : 0 ≤ (((List.range (zaG g p).length).filter fun i=>decide (0 < (zaG g p).getD i 0)).map ((fun e : Ed=>if S e.f = true ∧ S e.t = false then e.v else 0) ∘ fun i : Nat=>(⟨2 + 2 * (i : Int),3 + 2 * (i : Int),(zaG g p).getD i 0 - 1⟩ : Ed))).sum:=zhp fun i hi=>by
  have : 0 < (zaG g p).getD i 0:=by simpa using (List.mem_filter.1 hi).2
  simp only [Function.comp]
  split <;> omega
 have h2 : 0 ≤ (((zai g p.lv).edges.filter fun e=>decide (0 < (zaG g p).getD e.f.toNat 0)).map ((fun e : Ed=>if S e.f = true ∧ S e.t = false then e.v else 0) ∘ fun e : Ed=>(⟨3 + 2 * e.f,2 + 2 * e.t,64⟩ : Ed))).sum:=zhp fun e _=>by
  simp only [Function.comp]
  split <;> omega
 have h3 : ((p.seeds.filter fun x=>decide (0 < (zaG g p).getD x.toNat 0)).map ((fun e : Ed=>if S e.f = true ∧ S e.t = false then e.v else 0) ∘ fun x : Int=>(⟨0,2 + 2 * x,(zaG g p).getD x.toNat 0⟩ : Ed))) = (p.seeds.filter fun x=>decide (0 < (zaG g p).getD x.toNat 0)).map fun x=>if S (2 + 2 * x) = false then (zaG g p).getD x.toNat 0 else 0:=by
  refine List.map_congr_left fun x _=>?_
  simp only [Function.comp,h0,true_and]
 rw [h3]
 omega
theorem zr1 (hg : GrOk g) (hp : za8 g.size p) {ks : List Int} (hn : ks.Nodup) (hs : ∀ k ∈ ks,k ∈ p.seeds) (hk : zbW g p ks) : zas g p ks:=by
 rw [zdb hg hp hk]
 intro S h0 h1
 have hb:=zqe (g:=g) hp S h0
 have hcn:=zh2 (g:=g) hp
 have hc0 : ∀ x : Int,0 ≤ (zaG g p).getD x.toNat 0:=fun x=>by
  rw [List.getD_eq_getElem?_getD]
  cases hh : (zaG g p)[x.toNat]? with
  | none=>simp
  | some v=>exact hcn v (List.mem_of_getElem? hh)
 have h2:=zr5 (fun x=>if S (2 + 2 * x) = false then (zaG g p).getD x.toNat 0 else 0) (fun x=>by have:=hc0 x; split <;> omega) hn (a:=p.seeds.filter fun x=>decide (0 < (zaG g p).getD x.toNat 0)) fun x hx=>List.mem_filter.2 ⟨hs x hx,decide_eq_true (hk.reach x hx)⟩
 have h3 : (ks.length : Int) ≤ (ks.map fun x=>if S (2 + 2 * x) = false then (zaG g p).getD x.toNat 0 else 0).sum + zfa S ks:=by
  have key : ∀ l : List Int,(∀ x ∈ l,zrU g p x) → (l.length : Int) ≤ (l.map fun x=>if S (2 + 2 * x) = false then (zaG g p).getD x.toNat 0 else 0).sum + zfa S l:=by
   intro l
   induction l with
   | nil=>intro _; exact Int.le_refl _
   | cons x l ih =>
     intro h
     have ih:=ih fun y hy=>h y (List.mem_cons_of_mem _ hy)
     have hx : 0 < (zaG g p).getD x.toNat 0:=h x (List.mem_cons_self ..)
     have hs : zfa S (x :: l) = (if S (2 + 2 * x) = true then 1 else 0) + zfa S l:=by
      unfold zfa
      rfl
     rw [hs]
     simp only [List.map_cons,List.sum_cons,List.length_cons]
     cases hS : S (2 + 2 * x)
     ·rw [if_pos rfl,if_neg (by simp)]
      omega
     ·rw [if_neg (by simp),if_pos rfl]
      omega
  exact key ks hk.reach
 omega
theorem zoO (g : Gr) (S : List Int) : ∀ n,0 < n → ∃ l,ordN g S n = ordN g S 1 ++ l
 | 1,_=>⟨[],(List.append_nil _).symm⟩
 | n + 2,_=>by
   obtain ⟨l,hl⟩:=zoO g S (n + 1) (by omega)
   exact ⟨l ++ za3 g.size.toNat fun k=>decide (dist g S k = ((n + 1 : Nat) : Int)),by rw [ordN,hl,List.append_assoc]⟩
theorem zq3 (hg : GrOk g) (hp : za8 g.size p) : ∃ l,ordL (zai g p.lv) p.seeds = zeo g p ++ l:=by
 by_cases hn : 0 < g.size.toNat
 ·obtain ⟨l,hl⟩:=zoO (zai g p.lv) p.seeds g.size.toNat hn
  refine ⟨l,?_⟩
  have h1 : ordN (zai g p.lv) p.seeds 1 = zeo g p:=by
   refine zel ?_ ?_ fun x=>?_
   ·exact zgn g.size.toNat _
   ·exact (hp.2.1.pair).filter _
   ·rw [zhd]
    have h2 : (0 ≤ dist (zai g p.lv) p.seeds x ∧ dist (zai g p.lv) p.seeds x < (1 : Nat)) ↔ zda g p.seeds x = true:=by
     rw [show zda g p.seeds x = zda (zai g p.lv) p.seeds x from rfl,← zrB (hg.level p.lv)]
     omega
    rw [h2]
    unfold zda zeo
    rw [List.mem_filter]
    simp only [Bool.and_eq_true,List.contains_iff_mem]
    constructor
    ·exact fun h=>h.2
    ·intro h
     have h3:=hp.2.1.nodup.2 x h.1
     exact ⟨⟨by omega,by show x < g.size.toNat; omega⟩,h⟩
  rw [← h1]
  exact hl
 ·have h0 : g.size.toNat = 0:=by omega
  refine ⟨[],?_⟩
  have h1 : zeo g p = []:=by
   unfold zeo
   rw [List.filter_eq_nil_iff]
   intro x hx
   have h3:=hp.2.1.nodup.2 x hx
   omega
  rw [h1]
  show ordN _ _ (g.size.toNat) = _
  rw [h0]
  rfl
theorem zqw {o : List Int} (h : ∀ n,n < o.length → zas g p (zax (o.take (n + 1)))) : ∀ n,n ≤ o.length → accR g p (o.take n) = o.take n
 | 0,_=>rfl
 | n + 1,hn=>by
   have ih:=zqw h n (by omega)
   rw [List.take_succ_eq_append_getElem (by omega)]
   have h1:=h n (by omega)
   rw [List.take_succ_eq_append_getElem (by omega)] at h1
   rw [zdw (by rw [ih]; exact h1),ih]
theorem zrI (hg : GrOk g) (hp : za8 g.size p) : ∃ l,accR g p (ordL (zai g p.lv) p.seeds) = zeo g p ++ l:=by
 obtain ⟨l,hl⟩:=zq3 hg hp
 have hon:=zbi (zai g p.lv) p.seeds
 have hok:=zpA hg hp
 rw [hl] at hon hok
 have hsn:=(List.nodup_append.1 hon).1
 have hsk : zbW g p (zeo g p):=hok.sub fun x hx=>List.mem_append_left _ hx
 have h1 : accR g p (zeo g p) = zeo g p:=by
  have:=zqw (g:=g) (p:=p) (o:=zeo g p) (fun n hn=>by
   have hk : zbW g p ((zeo g p).take (n + 1)):=hsk.sub fun x hx=>List.mem_of_mem_take hx
   have hnn : ((zeo g p).take (n + 1)).Nodup:=hsn.sublist (List.take_sublist _ _)
   refine (zr1 hg hp hnn (fun k hk2=>(List.mem_filter.1 (List.mem_of_mem_take hk2)).1) hk).perm hg hp hk (ziK hnn (h64 hg hk.rng))) _ (Nat.le_refl _)
  rwa [List.take_length] at this
 obtain ⟨l2,hl2,_⟩:=zla (g:=g) (p:=p) l (zeo g p)
 exact ⟨l2,by rw [hl,hl2,h1]⟩
variable {g : Gr} {p : Pol}
theorem ForR.uniq {key : Int} {x y : Expl} (hg : GrOk g) (hx : ForR g p (ordL (zai g p.lv) p.seeds) key x) (hy : ForR g p (ordL (zai g p.lv) p.seeds) key y) :
  x.key = y.key ∧ x.acc = y.acc ∧ x.before = y.before ∧ x.side = y.side ∧ x.paths.length = y.paths.length:=by
 obtain ⟨hx1,hx2,i,hi,hik,hib⟩:=hx.at_ hg
 obtain ⟨hy1,hy2,j,hj,hjk,hjb⟩:=hy.at_ hg
 have hij : i = j:=(List.getElem_inj (zbi (zai g p.lv) p.seeds)).1 (hik.trans hjk.symm)
 subst hij
 have hb : x.before = y.before:=hib.trans hjb.symm
 refine ⟨hx1.trans hy1.symm,?_⟩
 by_cases hacc : key ∈ accR g p (ordL (zai g p.lv) p.seeds)
 ·obtain ⟨x1,x2,W,⟨f,g',_,_,hl,_⟩,x3⟩:=hx.yes hacc
  obtain ⟨y1,y2,V,⟨f',g'',_,_,hl',_⟩,y3⟩:=hy.yes hacc
  refine ⟨x1.trans y1.symm,hb,x2.trans y2.symm,?_⟩
  rw [x3,y3,List.length_map,List.length_map]
  rw [hb] at hl
  omega
 ·obtain ⟨x1,x2,R,hR,hs⟩:=hx.no hacc
  obtain ⟨y1,y2,R',hR',hs'⟩:=hy.no hacc
  refine ⟨x1.trans y1.symm,hb,?_,by rw [x2,y2]⟩
  obtain ⟨a,ha,hak,hn⟩:=hR.right _ hs
  obtain ⟨b,hb',hbk,hn'⟩:=hR'.right _ hs'
  simp only at hak hbk hn hn'
  have h1 : a = i:=(List.getElem_inj (zbi (zai g p.lv) p.seeds)).1 (hak.trans hik.symm)
  have h2 : b = i:=(List.getElem_inj (zbi (zai g p.lv) p.seeds)).1 (hbk.trans hik.symm)
  subst h1
  subst h2
  rw [hn.eq,hn'.eq]
theorem ForR.acc_iff' {key : Int} {x : Expl} (h : ForR g p (ordL (zai g p.lv) p.seeds) key x) : x.acc = true ↔ key ∈ accR g p (ordL (zai g p.lv) p.seeds):=by
 by_cases hk : key ∈ accR g p (ordL (zai g p.lv) p.seeds)
 ·simp [hk,(h.yes hk).1]
 ·simp [hk,(h.no hk).1]
structure zs0 (g : Gr) (p : Pol) (w : List Int) : Prop where
 len : w.length ≤ 64
 ne : 0 < w.length
 seed : w[0] ∈ p.seeds
 rng : ∀ (i : Nat) (h : i < w.length),0 ≤ w[i] ∧ w[i] < g.size
 cap : ∀ (i : Nat) (h : i < w.length),1 ≤ (zaG g p).getD w[i].toNat 0
 once : ∀ (i : Nat) (h : i < w.length),w[i] ∉ w.take i
 edge : ∀ (i : Nat) (h : i + 1 < w.length),w[i + 1] ∈ outs (zai g p.lv).edges w[i]
theorem zpU.steps (hg : GrOk g) (hp : za8 g.size p) {w : List Int} (h : zpU g p.lv p.seeds (ordL (zai g p.lv) p.seeds) w) : zs0 g p w:=by
 have hne:=h.ne
 have hpos : 0 < w.length:=List.length_pos_iff.2 hne
 have hrng : ∀ k ∈ w,0 ≤ k ∧ k < g.size:=fun k hk=>by have h2:=zbN (h.2.1 k hk); exact h2
 have h64:=hg.1.2.1
 refine ⟨?_,hpos,?_,fun i hi=>hrng _ (List.getElem_mem hi),fun i hi=>?_,fun i hi hm=>?_,fun i hi=>zko.2 (h.2.2.2 i hi)⟩
 ·have:=za1 (a:=w) (b:=(List.range 64).map Int.ofNat) h.2.2.1 fun x hx=>by
   have:=hrng x hx
   exact List.mem_map.2 ⟨x.toNat,List.mem_range.2 (by omega),by simp; omega⟩
  simpa using this
 ·obtain ⟨k,hk,hks⟩:=h.1
  rw [List.head?_eq_getElem?,List.getElem?_eq_getElem hpos] at hk
  rw [Option.some.inj hk]
  exact hks
 ·have h1:=h.2.1 _ (List.getElem_mem hi)
  have h2:=(ziz (hg.level p.lv)).1 h1
  have h3:=(zfH (g:=g) hp h2.1.1).2 ⟨h2.1.2,h2.2⟩
  omega
 ·obtain ⟨j,hj,e⟩:=List.mem_take_iff_getElem.1 hm
  have:=(List.getElem_inj h.2.2.1).1 e
  omega
structure zt0 (g : Gr) (p : Pol) (P : List (List Int)) (ends : List Int) : Prop where
 len : P.length ≤ 64
 steps : ∀ (i : Nat) (h : i < P.length),zs0 g p P[i]
 fresh : ∀ (i : Nat) (h : i < P.length) (hn : P[i] ≠ []),P[i].getLast hn ∉ lasts (P.take i)
 room : zj3 (zaG g p) P
 same : zax (lasts P) = zax ends
 ends : P.length = ends.length
 lasts : (lasts P).length = P.length
theorem zf4.facts (hg : GrOk g) (hp : za8 g.size p) {P : List (List Int)} {ends : List Int} (h : zf4 g p.lv p.seeds (ordL (zai g p.lv) p.seeds) (zaG g p) P ends) : zt0 g p P ends:=by
 obtain ⟨h1,h2,h3,h4,h5,h6⟩:=h
 have hl:=ziL fun w hw=>(h3 w hw).ne
 have hp2 : (lasts P).Perm ends:=zb2 h5 h4 (by omega)
 have h64:=hg.1.2.1
 refine ⟨?_,fun i hi=>(h3 _ (List.getElem_mem hi)).steps hg hp,fun i hi hn hm=>?_,h6,?_,h1,hl⟩
 ·have:=za1 (a:=lasts P) (b:=(List.range 64).map Int.ofNat) h5 fun x hx=>by
   obtain ⟨w,hw,hxw⟩:=zqT hx
   have:=zbN ((h3 w hw).2.1 x hxw)
   have e : (zai g p.lv).size = g.size:=rfl
   exact List.mem_map.2 ⟨x.toNat,List.mem_range.2 (by omega),by simp; omega⟩
  rw [← hl]
  simpa using this
 ·have hs:=zpQ P i hi hn
  have hsub : (lasts (P.take (i + 1))).Sublist (lasts P):=(List.take_sublist _ _).filterMap _
  have hnd:=h5.sublist hsub
  rw [hs,List.nodup_append] at hnd
  exact hnd.2.2 _ hm _ (by simp) rfl
 ·exact zel (zdt _) (zdt _) fun x=>by rw [zca,zca,hp2.mem_iff]
def g1 : Gr:=⟨1,[],[]⟩
def p1 : Pol:=⟨[0],[2],1⟩
theorem zrQ : GrOk g1:=⟨⟨by decide +revert,by decide +revert,by decide +revert,fun i h=>by simp [g1] at h⟩,fun i h=>by simp [g1] at h⟩
theorem zsB : za8 g1.size p1:=by
 refine ⟨by decide +revert,fun i h=>?_,by decide +revert,by decide +revert,by decide +revert,by decide +revert,fun i h=>?_⟩
 ·obtain rfl : i = 0:=by simp [p1] at h; omega
  exact ⟨by decide +revert,by decide +revert,fun h=>by cases h⟩
 ·obtain rfl : i = 0:=by simp [p1] at h; omega
  exact ⟨by decide +revert,by decide +revert,fun h=>by cases h⟩
theorem zoE : ordL (zai g1 p1.lv) p1.seeds = [0]:=by decide
theorem ztb {x : Expl} (h : ForR g1 p1 (ordL (zai g1 p1.lv) p1.seeds) 0 x) : x.acc = true ∧ x.paths = [[0]] ∧ x.before = []:=by
 obtain ⟨l,hl⟩:=zrI zrQ zsB
 have hm : (0 : Int) ∈ accR g1 p1 (ordL (zai g1 p1.lv) p1.seeds):=by
  rw [hl]
  exact List.mem_append_left _ (by decide)
 obtain ⟨_,_,i,hi,hik,hib⟩:=h.at_ zrQ
 have hb : x.before = []:=by
  have hi0 : i = 0:=by
   have:=hi
   rw [zoE] at this
   simp at this
   exact this
  rw [hib,hi0]
  rfl
 refine ⟨(h.yes hm).1,?_,hb⟩
 have hs:=h.yes_serves zrQ zsB hm
 rw [hb] at hs
 have hf:=hs.facts zrQ zsB
 have h1 : x.paths.length = 1:=hf.ends
 obtain ⟨w,hw⟩:=List.length_eq_one_iff.1 h1
 have hst:=hf.steps 0 (by omega)
 have hw0 : x.paths[0] = w:=by simp [hw]
 rw [hw0] at hst
 have hr : ∀ (j : Nat) (hj : j < w.length),w[j] = 0:=fun j hj=>by
  have:=hst.rng j hj
  have e : g1.size = 1:=rfl
  omega
 have hlen : w.length = 1:=by
  have h2:=hst.ne
  rcases Nat.lt_or_ge 1 w.length with h3 | h3
  ·exfalso
   have h4:=hst.once 1 h3
   apply h4
   rw [hr 1 h3,← hr 0 hst.ne]
   exact List.mem_take_iff_getElem.2 ⟨0,by omega,rfl⟩
  ·omega
 obtain ⟨a,ha⟩:=List.length_eq_one_iff.1 hlen
 have:=hr 0 hst.ne
 simp [ha] at this
 rw [hw,ha,this]
section
variable {P : Program} {np id : Nat} {h : Nat → Option Ent} {K : AV → List Nat → List (Nat × Option Ent) → Prop} {f : FuncId} {first capt args args' : List AV} {res : AV}
theorem ztE (sn : List Nat) (hc : zaj P f args' [] res []) (hw : WkL ((first ++ args ++ capt).map (conv [] sn h 4)) args') (hnp : ∀ i ∈ sn,np ≤ i)
  (hk : K (conv (((List.range 8).map (id + ·)).zipIdx.map fun (a,b)=>(b,a)) [] (fun _=>none) 4 res) sn (sn.filterMap fun i=>(h i).map fun e=>(i,some { e with ro:=e.rows.length }))) : aK P np id .call (.fn (.func f) first capt :: args) h K :=
 ⟨[],sn,true,args',[],res,[],by simp,by simp,fun _=>hnp,by rw [List.zipIdx_nil]; exact hw,rfl,hc,by simp,.inl rfl,by simpa using hk⟩
end
set_option maxRecDepth 100000 in
set_option maxHeartbeats 4000000 in
theorem zku : zaj Tryz.prog zdY [] [] (.B true) []:=by
 obtain ⟨x,hx,hc⟩:=zlS g1 p1 0 zrQ zsB (by decide) (by decide) (by rw [zoE]; decide)
 obtain ⟨h1,h2,h3⟩:=ztb hx
 have hsm:=zcY [0] [0] (by decide) (by decide)
 rw [decide_eq_true rfl] at hsm
 obtain ⟨a1,a2,a3,a4,a5⟩:=x
 simp only at h1 h2 h3
 subst h1
 subst h2
 subst h3
 refine zne.acalls (nbz rfl) (nbz rfl) (Nat.zero_le _) ?_
 show awp _ 0 _ _ ⟨37,[],[],16⟩
 refine rx (s:=?s1) [] [] [] rfl ?o1 ?q1
 case o1=>simp; rfl
 refine zaa ⟨37,[(1,.pv (xE ⟨a1,true,[],[[0]],a5⟩)),(2,.I 0)],[],200⟩ rfl ?_ ?_
 ·simp
  refine ztE [32,40] hc (by simp [g1,p1,Wk.refl]; exact ⟨wkA3 (.refl _) (.nil _ _) (.nil _ _),.refl _⟩) (by simp) ?_
  simp [zaJ]
  exact Le.go [] [88] rfl rfl (by simp; exact .refl _) (by simp)
 refine zaa ⟨37,[(0,.B true)],[],500⟩ rfl ?_ ?_
 ·simp
  refine zg5 [336] hsm (by simp) (.sc _) ?_
  simp
  exact LeH [] []
 refine zah ?_
 exact ⟨.inr rfl,zal.one (by simp)⟩
variable {N : Nat} {A : List Ed} {f : List Int}
set_option maxRecDepth 100000
theorem ForR.step {g : Gr} {p : Pol} {x : Expl} {i : Nat} {o : List Int} (hg : GrOk g) (ho : o = ordL (zai g p.lv) p.seeds) (h : i < o.length) (hx : ForR g p o o[i] x) :
  x.key = o[i] ∧ x.before = accR g p (o.take i) ∧ accR g p (o.take (i + 1)) = accR g p (o.take i) ++ if x.acc = true then [o[i]] else []:=by
 subst ho
 have hn:=zbi (zai g p.lv) p.seeds
 obtain ⟨h1,h2,j,hj,hjk,hjb⟩:=hx.at_ hg
 have hji : j = i:=(List.getElem_inj hn).1 hjk
 subst hji
 refine ⟨h1,hjb,?_⟩
 have hai:=hx.acc_iff'
 have hac:=ziE (g:=g) (p:=p) hn h
 rw [List.take_succ_eq_append_getElem h]
 by_cases hc : zas g p (zax (accR g p ((ordL (zai g p.lv) p.seeds).take j) ++ [(ordL (zai g p.lv) p.seeds)[j]]))
 ·rw [zdw hc,if_pos (hai.2 (hac.2 hc))]
 ·rw [zgd hc,if_neg fun ha=>hc (hac.1 (hai.1 ha)),List.append_nil]
section
variable {P : Program} {np id : Nat} {h : Nat → Option Ent} {K : AV → List Nat → List (Nat × Option Ent) → Prop} {f : FuncId} {first capt args args' : List AV} {res : AV}
theorem zsj (sn : List Nat) {e : Ent} (hnp : ∀ i ∈ sn,np ≤ i) (hc : zaj P f args' [] res [some e]) (he : WkL ((first ++ args ++ capt).map (conv [] sn h 4)) args')
  (hk : K (conv (swp [] id) [] (fun _=>none) 4 res) sn ((id,some (zay (swp [] id) [] (fun _=>none) 4 e)) :: sn.filterMap fun i=>(h i).map fun e=>(i,some { e with ro:=e.rows.length }))) : aK P np id .call (.fn (.func f) first capt :: args) h K :=
 ⟨[],sn,true,args',[],res,[some e],by simp,by simp,fun _=>hnp,by rw [List.zipIdx_nil]; exact he,rfl,hc,by simp,.inl rfl,by simpa [swp] using hk⟩
end
theorem wkG2 {a b a' b' : AV} (h1 : Wk a a') (h2 : Wk b b') : Wk (.agg [a,b]) (.agg [a',b']) :=
 .agg _ _ rfl fun i=>match i with | 0=>h1 | 1=>h2 | _ + 2=>.refl _
set_option maxRecDepth 100000 in
set_option maxHeartbeats 4000000 in
open Classical in
theorem zhP (g : Gr) (p : Pol) (sinks : List Int) (hg : GrOk g) (hp : za8 g.size p) (hr : ¬ Rise sinks 0 (g.size - 1)) (hs : p.seeds.length ≤ 64) (hsl : sinks.length ≤ 64) :
  zaj Tryz.prog zbx [eG g,eP p,ints sinks] [] (.tup [eN ⟨0,[]⟩,.I 4]) []:=by
 refine zfV.acalls (nbz rfl) (nbz rfl) (Nat.le_refl _) ?_
 show awp _ 0 _ _ ⟨158,[(0,eG g),(1,eP p),(2,ints sinks)],[],16⟩
 have hsz:=hg.1.1
 have hsz2:=hg.1.2.1
 have hel:=hg.edges_le
 have hgl:=hg.gone_le
 have hchk:=zej g p (by omega) (by omega) (by omega) (by have:=hp.2.2.2.1; omega)
 rw [if_pos hg,if_pos hp] at hchk
 have hset:=zd6 sinks g.size (by omega)
 rw [decide_eq_false hr] at hset
 refine zaa ⟨158,[(2,ints sinks),(3,.pt 30 0 0),(4,.pv (pC p)),(6,.pt 32 0 0)],[(30,some ⟨3,[gC g],0⟩),(32,some ⟨2,[[.I 0,.nilS]],0⟩)],100⟩ rfl ?_ ?_
 ·simp
  exact LeH [(16,30),(32,32)] [24]
 refine zab ?_
 refine zaa ⟨158,[(2,ints sinks),(3,.pt 30 0 0),(4,.pv (pC p)),(6,.pt 32 0 0),(8,.I 0)],[(30,some ⟨3,[gC g],0⟩),(32,some ⟨2,[[.I 0,.nilS]],0⟩)],200⟩ rfl ?_ ?_
 ·simp
  refine zap hchk (by simp) ?_
  simp
  exact LeH [(30,30),(32,32)] []
 refine zaa ⟨158,[(2,ints sinks),(3,.pt 30 0 0),(4,.pv (pC p)),(6,.pt 32 0 0),(22,.B false)],[(30,some ⟨3,[gC g],0⟩),(32,some ⟨2,[[.I 0,.nilS]],0⟩)],300⟩ rfl ?_ ?_
 ·simp
  exact LeH [(30,30),(32,32)] []
 refine zac _ rfl (fun h=>by cases h) fun _=>?_
 refine zad ?_
 refine zab ?_
 refine zaa ⟨158,[(6,.pt 32 0 0),(29,.B true)],[(32,some ⟨2,[[.I 0,.nilS]],0⟩)],400⟩ rfl ?_ ?_
 ·simp
  refine zap hset (by simp) ?_
  simp
  exact LeH [(32,32)] []
 refine zac _ rfl (fun _=>?_) fun h=>by cases h
 refine zaa ⟨158,[(6,.pt 32 0 0),(7,.I 4)],[(32,some ⟨2,[[.I 0,.nilS]],0⟩)],500⟩ rfl ?_ ?_
 ·simp [zaJ]
  exact LeH [(32,32)] []
 refine zah ?_
 exact ⟨.inr rfl,zal.out [] [] rfl (by simp) (by simp) (by simp; exact wkT2 (wkG2 (.refl _) (.nil _ _)) (.refl _)) (by simp)⟩
structure EkSt where
 w : List Int
 a : Int
 i : Nat
 b : Nat
set_option maxRecDepth 100000 in
set_option maxHeartbeats 16000000 in
open Classical in
theorem zfP (L : List Int) (raw : List Ed) (way : List Int) : zaj Tryz.prog zdZ [ints L,eEs raw,ints way] [] (.B true) []:=by
 refine zhn.acalls (nbz rfl) (nbz rfl) (Nat.le_refl _) ?_
 show awp _ 0 _ _ ⟨213,[(0,ints L),(1,eEs raw),(2,ints way)],[],16⟩
 have hlight:=znS L
 refine zaa ⟨213,[(0,ints L),(1,eEs raw),(2,ints way)],[],100⟩ rfl ?_ ?_
 ·simp
  exact LeH [] []
 obtain ⟨bad,hbad⟩ : ∃ bad,bad = decide (¬ (L.length ≤ 400 ∧ raw.length ≤ 50 ∧ way.length ≤ 50)):=⟨_,rfl⟩
 refine zab ?_
 refine zaa ⟨213,[(0,ints L),(1,eEs raw),(2,ints way),(39,.B bad)],[],300⟩ rfl ?_ ?_
 ·by_cases c1 : L.length ≤ 400
  ·rw [decide_eq_true c1] at hlight
   by_cases c2 : raw.length ≤ 50
   ·have c2' : ¬ 50 < (raw.length : Int):=by omega
    have hb' : bad = decide (50 < (way.length : Int)):=by rw [hbad,decide_eq_decide]; omega
    simp
    refine zap hlight (by simp) ?_
    simp [c2']
    exact Le.go [] [] rfl rfl (by simp [hb']) (by simp)
   ·have c2' : 50 < (raw.length : Int):=by omega
    have hb' : bad = true:=by rw [hbad,decide_eq_true_eq]; omega
    simp
    refine zap hlight (by simp) ?_
    simp [c2']
    exact Le.go [] [] rfl rfl (by simp [hb']) (by simp)
  ·rw [decide_eq_false c1] at hlight
   have hb' : bad = true:=by rw [hbad,decide_eq_true_eq]; omega
   simp
   refine zap hlight (by simp) ?_
   simp
   exact Le.go [] [] rfl rfl (by simp [hb']) (by simp)
 refine zac _ rfl (fun hb=>?_) fun hb=>?_
 ·refine zaa ⟨213,[(6,.B true)],[],400⟩ rfl ?_ ?_
  ·simp
   refine zap zku (by simp) ?_
   simp
   exact LeH [] []
  refine zah ?_
  exact ⟨.inr rfl,zal.one (by simp)⟩
 rw [hb] at hbad
 obtain ⟨h3,hraw,hway⟩:=Decidable.not_not.1 (of_decide_eq_false hbad.symm)
 obtain ⟨g,b1,⟨hg,hg2,hg9,hb1⟩,hcg⟩:=zum L h3
 obtain ⟨⟨p,b2⟩,⟨hp1,hp2,hp3,hb2⟩,hcp⟩:=zsr L b1 g h3 hb1 (by omega) (by omega)
 simp only at hp1 hp2 hp3 hb2 hcp
 have hel:=hg.edges_le
 have hgl:=hg.gone_le
 have hlev:=zc7 g p.lv (by omega) (by omega)
 have hord:=zfT (g:=zai g p.lv) (S:=p.seeds) (hg.level p.lv) (by omega)
 have hol : (ordL (zai g p.lv) p.seeds).length ≤ 64:=by
  have h1:=zli (g:=zai g p.lv) (S:=p.seeds) hg.1.1
  have h2 : (zai g p.lv).size = g.size:=rfl
  omega
 obtain ⟨o,ho⟩ : ∃ o,o = ordL (zai g p.lv) p.seeds:=⟨_,rfl⟩
 have hor : ∀ k ∈ o,0 ≤ k ∧ k < g.size:=fun k hk=>by rw [ho] at hk; have h:=zbN hk; exact h
 rw [← ho] at hord hol
 have hJl:=zdN o
 have hnet2:=zdj g p (zax o) hg hp1 (zdP hor) (by omega) hJl
 have hnv:=zgU hg hp1 (ks:=zax o) (zjs (zdP hor)) (by omega) hJl
 have hjn:=zrz o [] (by omega) (by simp)
 rw [List.append_nil] at hjn
 have hnet1 : ∃ (n0 : Int) (A0 : List Ed) (e : Int),(e = 0 ∧ n0 = 2 + 2 * g.size ∧ A0 = zaT g p (zaG g p) (zax o) ∨ e ≠ 0) ∧ zaj Tryz.prog zbx [eG g,eP p,ints o] [] (.tup [eN ⟨n0,A0⟩,.I e]) []:=by
  by_cases hr : Rise o 0 (g.size - 1)
  ·have hjo : zax o = o:=zel (zdt _) hr.pair fun x=>by
    rw [zca]
    exact ⟨fun h=>h.1,fun h=>⟨h,by have:=hor x h; omega⟩⟩
   refine ⟨_,_,0,.inl ⟨rfl,rfl,rfl⟩,?_⟩
   rw [hjo]
   exact zdj g p o hg hp1 hr (by omega) hol
  ·exact ⟨_,_,4,.inr (by decide),zhP g p o hg hp1 hr (by omega) hol⟩
 obtain ⟨n0,A0,e,hne,hnet1⟩:=hnet1
 have hAl : (zaT g p (zaG g p) (zax o)).length ≤ 1200:=hnv.2.2.1
 obtain ⟨A,hA⟩ : ∃ A,A = zaT g p (zaG g p) (zax o):=⟨_,rfl⟩
 obtain ⟨N,hN⟩ : ∃ N,N = 2 + 2 * g.size:=⟨_,rfl⟩
 obtain ⟨J,hJ⟩ : ∃ J,J = zax o:=⟨_,rfl⟩
 rw [← hA,← hN] at hnet2 hne
 rw [← hA] at hAl
 rw [← hJ] at hnet2 hjn
 clear hnv
 refine zad ?_
 refine zaa ⟨213,[(1,eEs raw),(2,ints way),(7,.pt 20 0 0)],[(20,some (dice L 0))],400⟩ rfl ?_ ?_
 ·simp
  refine zaU (ztp L) (by simp) ?_
  simp
  exact LeH [(308,20)] []
 refine zaa ⟨213,[(1,eEs raw),(2,ints way),(7,.pt 20 0 0),(8,.pv (gC g))],[(20,some (dice L b1))],500⟩ rfl ?_ ?_
 ·simp
  refine zbd (i:=20) rfl (e':=dice L 0) (by simp) hcg (by simp) (by simp) ?_
  simp
  exact LeH [(20,20)] [416]
 refine zaa ⟨213,[(1,eEs raw),(2,ints way),(7,.pt 20 0 0),(8,.pv (gC g)),(9,.pv (pC p))],[(20,some (dice L b2))],600⟩ rfl ?_ ?_
 ·simp
  refine zbd (i:=20) rfl (e':=dice L b1) (by simp) hcp (by simp) (by simp) ?_
  simp
  exact LeH [(20,20)] [524]
 refine zaw ⟨213,[(1,eEs raw),(2,ints way),(7,.pt 20 0 0),(8,.pv (gC g)),(9,.pv (pC p)),(10,.pt 40 0 0),(11,.I e)],[(20,some (dice L b2)),(40,some ⟨2,[[.I n0,eEs A0]],0⟩)],800⟩ rfl ?_ ?_
 ·simp
  refine zap hlev (by simp) ?_
  simp
  refine zaU hord (by simp) ?_
  simp
  refine zkS [664] (by simp) hnet1 (by simp [fcd,zak]) ?_
  simp [zaJ]
  exact ⟨rfl,LeI [(20,20),(704,40)] []⟩
 refine zaI (ι:=Unit) (fun _=>⟨213,[(1,eEs raw),(2,ints way),(7,.pt 20 0 0),(8,.pv (gC g)),(10,.pv (nC ⟨N,A⟩))],[(20,some (dice L b2))],2000⟩) (fun _=>True) ?_ fun _ _=>?_
 ·obtain ⟨be,hbe⟩ : ∃ be,be = (e != 0):=⟨_,rfl⟩
  refine zaa ⟨213,[(1,eEs raw),(2,ints way),(7,.pt 20 0 0),(8,.pv (gC g)),(9,.pv (pC p)),(10,.pt 40 0 0),(62,.B be)],[(20,some (dice L b2)),(40,some ⟨2,[[.I n0,eEs A0]],0⟩)],900⟩ rfl ?_ ?_
  ·simp
   exact Le.go [(20,20),(40,40)] [] rfl rfl (by simp [hbe]) (by simp [fcd])
  refine zac _ rfl (fun hc=>?_) fun hc=>?_
  ·refine zbf rfl ?_
   simp
   refine zap hlev (by simp) ?_
   simp
   refine zaU hord (by simp) ?_
   simp
   refine zsj [964] (by simp) hjn (by simp [Wk.refl,zak,fcd]; exact .nil _ _) ?_
   simp
   refine zkS [972] (by simp) hnet2 (by simp [fcd,zak]) ?_
   simp [zaJ]
   exact ⟨rfl,LeH [(20,20)] [40]⟩
  ·rw [hc] at hbe
   have he0 : e = 0:=by simpa using hbe.symm
   obtain ⟨_,hn0,hA0⟩:=hne.resolve_right fun h=>h he0
   subst hn0 hA0
   refine zad ?_
   exact ⟨(),trivial,LeH [(20,20)] [40]⟩
 refine zaa ⟨213,[(1,eEs raw),(2,ints way),(7,.pt 20 0 0),(8,.pv (gC g)),(10,.pv (nC ⟨N,A⟩)),(12,.nilS)],[(20,some (dice L b2))],2100⟩ rfl ?_ ?_
 ·simp
  exact LeH [(20,20)] []
 refine zaa ⟨213,[(1,eEs raw),(2,ints way),(7,.pt 20 0 0),(8,.pv (gC g)),(10,.pv (nC ⟨N,A⟩)),(12,.nilS),(13,.I 0)],[(20,some (dice L b2))],2200⟩ rfl ?_ ?_
 ·simp
  exact LeH [(20,20)] []
 refine zaI (ι:=List Int × Nat) (fun s=>⟨213,[(1,eEs raw),(2,ints way),(7,.pt 20 0 0),(8,.pv (gC g)),(10,.pv (nC ⟨N,A⟩)),(12,.rs 32 0 s.1.length)],[(20,some (dice L s.2)),(32,some ⟨1,zaf s.1,0⟩)],4000⟩) (fun s=>s.1.length ≤ 12 ∧ s.2 ≤ L.length) ?_ ?_
 ·refine zaa ⟨213,[(1,eEs raw),(2,ints way),(7,.pt 20 0 0),(8,.pv (gC g)),(10,.pv (nC ⟨N,A⟩)),(12,.nilS),(13,.I 0),(14,.I 0)],[(20,some (dice L b2))],2300⟩ rfl ?_ ?_
  ·simp
   exact LeH [(20,20)] []
  refine zag ?_
  refine zao (ι:=EkSt) (fun s=>⟨213,[(1,eEs raw),(2,ints way),(7,.pt 20 0 0),(8,.pv (gC g)),(10,.pv (nC ⟨N,A⟩)),(12,.rs 32 0 s.w.length),(13,.I s.a),(14,.I s.i)],[(20,some (dice L s.b)),(32,some ⟨1,zaf s.w,0⟩)],2300⟩) (fun s=>s.w.length ≤ s.i ∧ s.i ≤ 12 ∧ s.b ≤ L.length) (fun s=>12 - s.i) ⟨[],0,0,b2⟩ ⟨Nat.zero_le _,by simp,hb2⟩
   (Le.lst [(20,20)] [] [(32,1)] rfl (by simp) (by simp) (by simp) (by simp) (by simp) (by simp) (by simp) (by simp [Up]) (by simp [fcd]; exact zaA.rfl' (by simp))) ?_
  rintro ⟨w,a,i,b⟩ ⟨hwi,hi,hb⟩
  simp only at hwi hi hb
  obtain ⟨go,hgo⟩ : ∃ go,go = decide (i < 12 ∧ a ≠ 1):=⟨_,rfl⟩
  refine zab ?_
  refine zaa ⟨213,[(1,eEs raw),(2,ints way),(7,.pt 20 0 0),(8,.pv (gC g)),(10,.pv (nC ⟨N,A⟩)),(12,.rs 32 0 w.length),(13,.I a),(14,.I i),(82,.B go)],[(20,some (dice L b)),(32,some ⟨1,zaf w,0⟩)],2400⟩ rfl ?_ ?_
  ·by_cases c1 : i < 12
   ·have c1' : (i : Int) < 12:=by omega
    simp [c1']
    exact Le.go [(20,20),(32,32)] [] rfl rfl (by simp <;> exact wkB (by rw [hgo,Bool.eq_iff_iff]; simp [c1])) (by simp [fcd])
   ·have c1' : ¬ (i : Int) < 12:=by omega
    simp [c1']
    exact Le.go [(20,20),(32,32)] [] rfl rfl (by simp [hgo,c1]) (by simp [fcd])
  refine zac _ rfl (fun hg1=>?_) fun hg1=>?_
  ·rw [hg1] at hgo
   obtain ⟨hi12,_⟩:=of_decide_eq_true hgo.symm
   have hwii : IntKind.i64.wrap ((i : Int) + 1) = ((i + 1 : Nat) : Int):=by rw [w64 (by omega) (by omega)]; omega
   refine zad ?_
   refine zab ?_
   refine zag ?_
   refine zaa ⟨213,[(1,eEs raw),(2,ints way),(7,.pt 20 0 0),(8,.pv (gC g)),(10,.pv (nC ⟨N,A⟩)),(12,.rs 32 0 w.length),(13,.I a),(14,.I i),(15,.nilS)],[(20,some (dice L b)),(32,some ⟨1,zaf w,0⟩)],2500⟩ rfl ?_ ?_
   ·simp
    exact LeI [(20,20),(32,32)] []
   refine zab ?_
   refine zaa ⟨213,[(1,eEs raw),(2,ints way),(7,.pt 20 0 0),(8,.pv (gC g)),(10,.pv (nC ⟨N,A⟩)),(12,.rs 32 0 w.length),(13,.I a),(14,.I i),(15,.nilS),(16,.I 0)],[(20,some (dice L b)),(32,some ⟨1,zaf w,0⟩)],2600⟩ rfl ?_ ?_
   ·simp
    exact LeI [(20,20),(32,32)] []
   refine zag ?_
   refine zao (ι:=List Int × Nat) (fun s=>⟨213,[(1,eEs raw),(2,ints way),(7,.pt 20 0 0),(8,.pv (gC g)),(10,.pv (nC ⟨N,A⟩)),(12,.rs 32 0 w.length),(13,.I a),(14,.I i),(15,.rs 33 0 s.1.length),(16,.I s.2)],[(20,some (dice L b)),(32,some ⟨1,zaf w,0⟩),(33,some ⟨1,zaf s.1,0⟩)],2600⟩) (fun s=>s.1.length ≤ s.2 ∧ s.2 ≤ A.length ∧ ∀ x ∈ s.1,0 ≤ x ∧ x < A.length) (fun s=>A.length - s.2) ([],0) ⟨Nat.zero_le _,Nat.zero_le _,by simp⟩
    (Le.lst [(20,20),(32,32)] [] [(33,1)] rfl (by simp) (by simp) (by simp) (by simp) (by simp) (by simp) (by simp) (by simp [Up]) (by simp [fcd]; exact ⟨zaA.rfl' (by simp),zaA.rfl' (by simp)⟩)) ?_
   rintro ⟨O,q⟩ ⟨hOq,hq,hO⟩
   simp only at hOq hq hO
   refine zab ?_
   refine zaa ⟨213,[(1,eEs raw),(2,ints way),(7,.pt 20 0 0),(8,.pv (gC g)),(10,.pv (nC ⟨N,A⟩)),(12,.rs 32 0 w.length),(13,.I a),(14,.I i),(15,.rs 33 0 O.length),(16,.I q),(89,.B (decide (q < A.length)))],[(20,some (dice L b)),(32,some ⟨1,zaf w,0⟩),(33,some ⟨1,zaf O,0⟩)],2700⟩ rfl ?_ ?_
   ·simp
    exact LeI [(20,20),(32,32),(33,33)] []
   refine zac _ rfl (fun h19=>?_) fun h19=>?_
   ·rw [decide_eq_true_eq] at h19
    have hwq : IntKind.i64.wrap ((q : Int) + 1) = ((q + 1 : Nat) : Int):=by rw [w64 (by omega) (by omega)]; omega
    obtain ⟨eq,heq⟩ : ∃ eq,eq = A[q]:=⟨_,rfl⟩
    refine zad ?_
    refine zab ?_
    refine zag ?_
    refine zaa ⟨213,[(1,eEs raw),(2,ints way),(7,.pt 20 0 0),(8,.pv (gC g)),(10,.pv (nC ⟨N,A⟩)),(12,.rs 32 0 w.length),(13,.I a),(14,.I i),(15,.rs 33 0 O.length),(16,.I q),(99,.B (decide (eq.f = a)))],[(20,some (dice L b)),(32,some ⟨1,zaf w,0⟩),(33,some ⟨1,zaf O,0⟩)],2800⟩ rfl ?_ ?_
    ·simp [h19,← heq]
     exact Le.go [(20,20),(32,32),(33,33)] [] rfl rfl (by simp <;> exact wkB (by rw [Bool.eq_iff_iff]; simp)) (by simp [fcd])
    refine zac _ rfl (fun _=>?_) fun _=>?_
    ·refine zaq rfl ?_
     simp [zak]
     refine ⟨by omega,by omega,?_⟩
     refine zaq rfl ?_
     simp
     refine ⟨O ++ [(q : Int)],q + 1,⟨by simp; omega,h19,fun x hx=>?_⟩,by omega,Le.go [(20,20),(32,32),(2824,33)] [] rfl rfl (by simp [hwq]) (by simp [fcd])⟩
     rcases List.mem_append.1 hx with h | h
     ·exact hO x h
     ·rw [List.mem_singleton.1 h]; omega
    ·refine zad ?_
     refine zaq rfl ?_
     simp
     exact ⟨O,q + 1,⟨by omega,h19,hO⟩,by omega,Le.go [(20,20),(32,32),(33,33)] [] rfl rfl (by simp [hwq]) (by simp [fcd])⟩
   rw [decide_eq_false_iff_not] at h19
   refine zan ?_
   refine hit ?_
   refine zab ?_
   refine zaa ⟨213,[(1,eEs raw),(2,ints way),(7,.pt 20 0 0),(8,.pv (gC g)),(10,.pv (nC ⟨N,A⟩)),(12,.rs 32 0 w.length),(14,.I i),(15,.rs 33 0 O.length),(106,.B (decide (O = [])))],[(20,some (dice L b)),(32,some ⟨1,zaf w,0⟩),(33,some ⟨1,zaf O,0⟩)],2800⟩ rfl ?_ ?_
   ·simp
    exact Le.go [(20,20),(32,32),(33,33)] [] rfl rfl (by simp <;> exact wkB (by rw [Bool.eq_iff_iff]; simp)) (by simp [fcd])
   refine zac _ rfl (fun h23=>?_) fun h23=>?_
   ·refine zan ?_
    refine miss (by decide) ?_
    refine hit ?_
    exact ⟨(w,b),⟨by simp only; omega,hb⟩,LeI [(20,20),(32,32)] []⟩
   rw [decide_eq_false_iff_not] at h23
   have hOp : 0 < O.length:=List.length_pos_iff.2 h23
   obtain ⟨x,b',⟨hb',hx⟩,hcx⟩:=zgs L b O.length h3 hb (by omega) (by omega)
   have hxl : x < O.length:=by omega
   obtain ⟨k,hk⟩ : ∃ k,k = O[x]:=⟨_,rfl⟩
   have hkr:=hO k (by rw [hk]; exact List.getElem_mem hxl)
   have hkn : k.toNat < A.length:=by omega
   obtain ⟨t,ht⟩ : ∃ t,t = A[k.toNat].t:=⟨_,rfl⟩
   refine zad ?_
   refine zaa ⟨213,[(1,eEs raw),(2,ints way),(7,.pt 20 0 0),(8,.pv (gC g)),(10,.pv (nC ⟨N,A⟩)),(12,.rs 32 0 w.length),(14,.I i),(17,.I k)],[(20,some (dice L b')),(32,some ⟨1,zaf w,0⟩)],2900⟩ rfl ?_ ?_
   ·simp
    refine zbd (i:=20) rfl (e':=dice L b) (by simp) hcx (by simp) (by simp) ?_
    simp [hxl,← hk]
    exact LeI [(20,20),(32,32)] []
   refine zbf rfl ?_
   simp [zak,hkr,hkn,← ht]
   refine ⟨by omega,by omega,rfl,?_⟩
   refine zaq rfl ?_
   simp
   exact ⟨⟨w ++ [k],t,i + 1,b'⟩,⟨by simp; omega,by simp only; omega,hb'⟩,by simp only; omega,Le.go [(20,20),(2924,32)] [] rfl rfl (by simp [hwii]) (by simp [fcd])⟩
  refine zan ?_
  refine hit ?_
  exact ⟨(w,b),⟨by simp only; omega,hb⟩,LeI [(20,20),(32,32)] []⟩
 rintro ⟨w,b3⟩ ⟨hwl,hb3⟩
 simp only at hwl hb3
 refine zaa ⟨213,[(1,eEs raw),(2,ints way),(7,.pt 20 0 0),(10,.pv (nC ⟨N,A⟩)),(12,.rs 32 0 w.length),(18,.I g.size)],[(20,some (dice L b3)),(32,some ⟨1,zaf w,0⟩)],4100⟩ rfl ?_ ?_
 ·simp
  exact LeI [(20,20),(32,32)] []
 refine zaI (ι:=List Int × Int) (fun s=>⟨213,[(1,eEs raw),(2,ints way),(10,.pv (nC ⟨N,A⟩)),(12,ints s.1),(18,.I s.2)],[],6000⟩) (fun s=>s.1.length ≤ 13) ?_ ?_
 ·obtain ⟨v,b4,⟨hb4,hv⟩,hcv⟩:=zgs L b3 7 h3 hb3 (by omega) (by omega)
  refine zaa ⟨213,[(1,eEs raw),(2,ints way),(7,.pt 20 0 0),(10,.pv (nC ⟨N,A⟩)),(12,.rs 32 0 w.length),(18,.I g.size),(127,.I v)],[(20,some (dice L b4)),(32,some ⟨1,zaf w,0⟩)],4200⟩ rfl ?_ ?_
  ·simp
   refine zbd (i:=20) rfl (e':=dice L b3) (by simp) hcv (by simp) (by simp) ?_
   simp
   exact LeI [(20,20),(32,32)] []
  refine zag ?_
  refine zaa ⟨213,[(1,eEs raw),(2,ints way),(7,.pt 20 0 0),(10,.pv (nC ⟨N,A⟩)),(12,.rs 32 0 w.length),(18,.I g.size),(127,.I v),(128,.B (decide (v = 0)))],[(20,some (dice L b4)),(32,some ⟨1,zaf w,0⟩)],4300⟩ rfl ?_ ?_
  ·simp
   exact Le.go [(20,20),(32,32)] [] rfl rfl (by simp <;> exact wkB (by rw [Bool.eq_iff_iff]; simp)) (by simp [fcd])
  refine zac _ rfl (fun _=>?_) fun _=>?_
  ·obtain ⟨sz,b5,⟨hb5,_⟩,hco⟩:=Of_a L b4 [-1,0,1,64,65] h3 hb4 (by simp) (by simp)
   refine zaq rfl ?_
   simp
   refine zlA (i:=20) (j:=4308) (by decide) (by decide) rfl rfl (e':=dice L b4) (by simp) hco (by simp) (by simp) ?_
   simp
   exact ⟨w,by omega,sz,Le.go [] [32] rfl rfl (by simp [fcd,zak]) (by simp)⟩
  refine zaa ⟨213,[(1,eEs raw),(2,ints way),(7,.pt 20 0 0),(10,.pv (nC ⟨N,A⟩)),(12,.rs 32 0 w.length),(18,.I g.size),(127,.I v),(133,.B (decide (v = 1)))],[(20,some (dice L b4)),(32,some ⟨1,zaf w,0⟩)],4400⟩ rfl ?_ ?_
  ·simp
   exact Le.go [(20,20),(32,32)] [] rfl rfl (by simp <;> exact wkB (by rw [Bool.eq_iff_iff]; simp; omega)) (by simp [fcd])
  refine zac _ rfl (fun _=>?_) fun _=>?_
  ·refine zaa ⟨213,[(1,eEs raw),(2,ints way),(7,.pt 20 0 0),(10,.pv (nC ⟨N,A⟩)),(12,.rs 32 0 w.length),(18,.I g.size),(137,.B (decide (0 < w.length)))],[(20,some (dice L b4)),(32,some ⟨1,zaf w,0⟩)],4500⟩ rfl ?_ ?_
   ·simp
    exact LeI [(20,20),(32,32)] []
   refine zac _ rfl (fun hw0=>?_) fun _=>?_
   ·rw [decide_eq_true_eq] at hw0
    obtain ⟨x,b5,⟨hb5,hx⟩,hcx⟩:=zgs L b4 w.length h3 hb4 (by omega) (by omega)
    obtain ⟨y,b6,⟨hb6,hy⟩,hcy⟩:=zgs L b5 ((A.length : Int) + 2) h3 hb5 (by omega) (by omega)
    have hxl : x < w.length:=by omega
    have hwA : IntKind.i64.wrap ((A.length : Int) + 2) = (A.length : Int) + 2:=w64 (by omega) (by omega)
    have hwy : IntKind.i64.wrap ((y : Int) - 1) = (y : Int) - 1:=w64 (by omega) (by omega)
    obtain ⟨yy,hyy⟩ : ∃ yy,yy = (y : Int) - 1:=⟨_,rfl⟩
    refine zbf rfl ?_
    simp
    refine zbd (i:=20) rfl (e':=dice L b4) (by simp) hcx (by simp) (by simp) ?_
    simp [hwA]
    refine zbd (i:=20) rfl (e':=dice L b5) (by simp) hcy (by simp) (by simp) ?_
    simp [hwy,hxl,zaJ]
    rw [← hyy]
    exact ⟨rfl,w.set x yy,by rw [List.length_set]; omega,g.size,Le.go [] [32] rfl rfl (by simp [fcd]; rw [List.take_of_length_le (by simp),← List.map_set]; exact .refl _) (by simp)⟩
   ·refine zad ?_
    exact ⟨(w,g.size),by simp only; omega,Le.go [] [32] rfl rfl (by simp [fcd,zak]) (by simp)⟩
  refine zaa ⟨213,[(1,eEs raw),(2,ints way),(7,.pt 20 0 0),(10,.pv (nC ⟨N,A⟩)),(12,.rs 32 0 w.length),(18,.I g.size),(151,.B (decide (v = 2)))],[(20,some (dice L b4)),(32,some ⟨1,zaf w,0⟩)],4500⟩ rfl ?_ ?_
  ·simp
   exact Le.go [(20,20),(32,32)] [] rfl rfl (by simp <;> exact wkB (by rw [Bool.eq_iff_iff]; simp; omega)) (by simp [fcd])
  refine zac _ rfl (fun _=>?_) fun _=>?_
  ·obtain ⟨y,b6,⟨hb6,hy⟩,hcy⟩:=zgs L b4 ((A.length : Int) + 1) h3 hb4 (by omega) (by omega)
   have hwA : IntKind.i64.wrap ((A.length : Int) + 1) = (A.length : Int) + 1:=w64 (by omega) (by omega)
   refine zaq rfl ?_
   simp [hwA]
   refine zbd (i:=20) rfl (e':=dice L b4) (by simp) hcy (by simp) (by simp) ?_
   simp [zak]
   exact ⟨by omega,by omega,w ++ [(y : Int)],by simp; omega,g.size,Le.go [] [4564] rfl rfl (by simp [fcd]; rw [List.take_of_length_le (by simp),show ints (w ++ [(y : Int)]) = .vs 1 false (w.map (fun x=>[AV.I x]) ++ [[AV.I y]]) by simp]; exact .refl _) (by simp)⟩
  refine zad ?_
  exact ⟨(w,g.size),by simp only; omega,Le.go [] [32] rfl rfl (by simp [fcd,zak]) (by simp)⟩
 rintro ⟨w',sz⟩ hw'
 simp only at hw'
 have hk1:=zdC sz A w' (by omega) (by omega)
 have hk2:=zgz sz A w' (by omega) (by omega)
 have hk3:=zdC sz raw way (by omega) (by omega)
 have hk4:=zgz sz raw way (by omega) (by omega)
 have hl1:=zmv sz A w'
 have hl2:=zmv sz raw way
 obtain ⟨O1,hO1⟩ : ∃ O1,O1 = zdi sz A w':=⟨_,rfl⟩
 obtain ⟨O2,hO2⟩ : ∃ O2,O2 = zdi sz raw way:=⟨_,rfl⟩
 obtain ⟨e1,he1⟩ : ∃ e1,e1 = zem sz A w':=⟨_,rfl⟩
 obtain ⟨e2,he2⟩ : ∃ e2,e2 = zem sz raw way:=⟨_,rfl⟩
 rw [← hO1,← he1] at hk1 hk2
 rw [← hO2,← he2] at hk3 hk4
 rw [← hO1] at hl1
 rw [← hO2] at hl2
 have hs1:=zcY O1 O1 (by omega) (by omega)
 have hs2:=zcY O2 O2 (by omega) (by omega)
 rw [decide_eq_true rfl] at hs1 hs2
 refine zaa ⟨213,[(1,eEs raw),(2,ints way),(10,.pv (nC ⟨N,A⟩)),(12,ints w'),(18,.I sz),(19,ints O1),(20,.I e1)],[],6200⟩ rfl ?_ ?_
 ·simp
  refine zap hk1 (by simp) ?_
  simp
  exact LeH [] []
 refine zaa ⟨213,[(1,eEs raw),(2,ints way),(18,.I sz),(19,ints O1),(20,.I e1),(21,ints O1),(22,.I e1)],[],6400⟩ rfl ?_ ?_
 ·simp
  refine zap hk2 (by simp) ?_
  simp
  exact LeH [] []
 refine zaa ⟨213,[(1,eEs raw),(2,ints way),(18,.I sz),(19,ints O1),(20,.I e1),(21,ints O1),(22,.I e1),(23,ints O2),(24,.I e2)],[],6600⟩ rfl ?_ ?_
 ·simp
  refine zap hk3 (by simp) ?_
  simp
  exact LeH [] []
 refine zaa ⟨213,[(19,ints O1),(20,.I e1),(21,ints O1),(22,.I e1),(23,ints O2),(24,.I e2),(25,ints O2),(26,.I e2)],[],6800⟩ rfl ?_ ?_
 ·simp
  refine zap hk4 (by simp) ?_
  simp
  exact LeH [] []
 refine zaa ⟨213,[(6,.B true)],[],7200⟩ rfl ?_ ?_
 ·simp
  refine zap hs1 (by simp) ?_
  simp
  refine zap hs2 (by simp) ?_
  simp
  refine zap zku (by simp) ?_
  simp
  exact LeH [] []
 refine zah ?_
 exact ⟨.inr rfl,zal.one (by simp)⟩
end Go.Proofs.YteiabadhhhckfaaGreat
