/- Texts of this claim,merged. -/
import Derived.Test.YtlhjelookgjmpaaGreatRe14
import Derived.Test.YtlhjelookgjmpaaGreatRe9
import Derived.Test.YtlhjelookgjmpaaGreatRe12
set_option linter.unusedSimpArgs false
set_option linter.unusedVariables false
set_option linter.unusedSectionVars false
namespace Go.Proofs.YtlhjelookgjmpaaGreat
open Go
theorem capS_sum (S : Int → Bool) : ∀ A : List Ed,capS S A = (A.map fun e=>if S e.f = true ∧ S e.t = false then e.v else 0).sum
 | []=>rfl
 | e :: A=>by
   have ih:=capS_sum S A
   unfold capS at ih ⊢
   simp only [List.map_cons,sumF,List.sum_cons]
   rw [ih]
theorem sum_zero {α : Type} {h : α → Int} : ∀ {l : List α},(∀ x ∈ l,h x = 0) → (l.map h).sum = 0
 | [],_=>rfl
 | x :: l,hx=>by
   rw [List.map_cons,List.sum_cons,hx x (List.mem_cons_self ..),sum_zero fun y hy=>hx y (List.mem_cons_of_mem _ hy)]
   rfl
theorem sum_one {α : Type} {h : α → Int} : ∀ {l : List α},(∀ x ∈ l,h x ≤ 1) → (l.map h).sum ≤ l.length
 | [],_=>Int.le_refl _
 | x :: l,hx=>by
   have ih:=sum_one (l:=l) fun y hy=>hx y (List.mem_cons_of_mem _ hy)
   have h1:=hx x (List.mem_cons_self ..)
   rw [List.map_cons,List.sum_cons,List.length_cons]
   omega
theorem maxF_few {g : Gr} {p : Pol} {ks : List Int} (hg : GrOk g) (hp : PolOk g.size p) (hk : ∀ x ∈ ks,0 ≤ x ∧ x < g.size) : maxF (netN g) (netA g p ks) ≤ ks.length:=by
 have hno:=netA_ok hg hp hk
 obtain ⟨f,hf,hv⟩:=maxF_has hno
 rw [← hv]
 refine Int.le_trans (val_le_cut (S:=fun x=>decide (x ≠ 1)) hno hf (by simp) (by simp)) ?_
 rw [capS_sum]
 simp only [netA,netArcs,List.map_append,List.sum_append,List.map_map]
 have hle:=level_ends hg p.lv
 rw [sum_zero,sum_zero,sum_zero (l:=(levelG g p.lv).edges.filter _)]
 ·have h1:=sum_one (h:=(fun e : Ed=>if (decide (e.f ≠ 1)) = true ∧ (decide (e.t ≠ 1)) = false then e.v else 0) ∘ fun x : Int=>(⟨2 + 2 * x,1,1⟩ : Ed)) (l:=ks.filter fun x=>decide (0 < (capsL g p).getD x.toNat 0)) fun x _=>by
   simp only [Function.comp]
   split <;> omega
  have h2:=List.length_filter_le (fun x=>decide (0 < (capsL g p).getD x.toNat 0)) ks
  omega
 ·intro e he
  have:=hle.2 e (List.mem_filter.1 he).1
  simp only [Function.comp]
  rw [if_neg]
  simp
  omega
 ·intro i _
  simp only [Function.comp]
  rw [if_neg]
  simp
  omega
 ·intro x _
  simp only [Function.comp]
  rw [if_neg]
  simp
  omega
theorem exF_val {N : Nat} {A : List Ed} {f : List Int} (hn : NetOk N A) : exF A f 0 = valF A f:=by
 unfold exF valF
 rw [in_source hn]
 omega
section
variable {P : Program} {np id : Nat} {h : Nat → Option Ent} {K : AV → List Nat → List (Nat × Option Ent) → Prop} {f : FuncId} {first capt args args' : List AV} {res : AV}
theorem call0sZ {j : Nat} {ej : Ent} (hnp : np ≤ j) (hj : h j = some ej) (hc : ACalls P f args' [] res []) (he : (first ++ args ++ capt).map (conv [] [j] h 4) = args')
  (hk : K (conv (swp [] id) [] (fun _=>none) 4 res) [j] [(j,some { ej with ro:=ej.rows.length })]) : aK P np id .call (.fn (.func f) first capt :: args) h K :=
 ⟨[],[j],true,args',[],res,[],by simp,by simp,by simpa using hnp,by rw [List.zipIdx_nil,he]; exact wkL_refl _,rfl,hc,by simp,.inl rfl,by simpa [swp,hj] using hk⟩
end
def PathsW (g : Gr) (p : Pol) (ks : List Int) (W : List (List Nat)) : Prop :=
 ∃ f g',GreatF g p (joinL ks) f ∧ TakenW (netN g) (netA g p (joinL ks)) f g' W ∧ (W.length : Int) = maxF (netN g) (netA g p (joinL ks)) ∧ ∀ w ∈ W,w.length ≤ 130
structure PSt where
 W : List (List Nat)
 g : List Int
set_option maxRecDepth 100000 in
set_option maxHeartbeats 4000000 in
theorem Paths43_a (g : Gr) (p : Pol) (ks : List Int) (hg : GrOk g) (hp : PolOk g.size p) (hs : p.seeds.length ≤ 64) (hk : ∀ x ∈ ks,0 ≤ x ∧ x < g.size) (hkl : ks.length ≤ 1000) :
  ∃ W,PathsW g p ks W ∧ ACalls Tryz.prog nref43_Paths [eG g,eP p,ints ks] [] (pathsV (W.map (keysA (netA g p (joinL ks))))) []:=by
 refine sref43_Paths.acallsX (args:=[eG g,eP p,ints ks]) (hs:=[]) (fun W=>pathsV (W.map (keysA (netA g p (joinL ks))))) (fun _=>[]) (fun W=>PathsW g p ks W) (Nat.le_of_ble_eq_true rfl) (Nat.le_of_ble_eq_true rfl) (fun _=>Nat.le_refl _) ?_
 show awp _ 0 _ _ ⟨55,[(0,eG g),(1,eP p),(2,ints ks)],[],16⟩
 have hJl:=joinL_len ks
 have hJr:=rise_join hk
 have hJk:=rise_in hJr
 have hjn:=join24_ok ks [] (by omega) (by simp)
 rw [List.append_nil] at hjn
 have hnet:=ref14_Network_ok g p (joinL ks) hg hp hJr hs hJl
 rw [← netN_int hg] at hnet
 have hnv:=netA_val hg hp hJk hs hJl
 have hno:=netA_ok hg hp hJk
 have hmx:=maxF_few hg hp hJk
 obtain ⟨f,⟨hf1,hf2⟩,hmax⟩:=Max_a _ _ hnv
 have hgf : GreatF g p (joinL ks) f:=⟨hf1,hf2,(maxF_of hf1 hf2).symm⟩
 have hfl:=hf1.fit.len
 have hsz:=hg.1.1
 have hsz2:=hg.1.2.1
 have hR : ∀ W g',TakenW (netN g) (netA g p (joinL ks)) f g' W → (W.length : Int) = maxF (netN g) (netA g p (joinL ks)) → (∀ w ∈ W,w.length ≤ 130) → PathsW g p ks W:=fun W g' h1 h2 h3=>⟨f,g',hgf,h1,h2,h3⟩
 have hval:=hgf.val
 rw [← exF_val hno] at hval
 have hN2:=netN_int hg
 have hNr : (2 + 2 * g.size).toNat = netN g:=rfl
 obtain ⟨A,hA⟩ : ∃ A,A = netA g p (joinL ks):=⟨_,rfl⟩
 obtain ⟨N,hN⟩ : ∃ N,N = netN g:=⟨_,rfl⟩
 obtain ⟨J,hJ⟩ : ∃ J,J = joinL ks:=⟨_,rfl⟩
 rw [show netArcs g p (capsL g p) (joinL ks) = A from hA.symm,← hN,← hJ] at hnet
 rw [← hA,← hN] at hmax hno hnv hf1 hmx hR hval
 rw [← hA] at hfl ⊢
 rw [← hJ] at hjn hJl hmx
 rw [← hN] at hNr
 have hal:=hnv.2.2.1
 simp only at hal
 have hfit:=fit2_iff.1 hf1.fit
 have hkeys:=fun l h1 h2=>keys_ok g.size A l hsz hsz2 (by rw [hNr]; exact hno) hal h1 h2
 have hfb : ∀ i,f.getD i 0 ≤ 1048576:=fun i=>by
  by_cases hi : i < A.length
  ·have h1:=hfit.2 i hi
   have h2 : (arcD A i).v ≤ 1048576:=(hnv.2.2.2 _ (arcD_mem hi)).2.2.2.2.2.2.2.2
   omega
  ·rw [List.getD_eq_getElem?_getD,List.getElem?_eq_none (by omega)]
   simp
 have htf : ∀ h : Int → List AV,List.take A.length (List.map h f) = List.map h f:=fun h=>List.take_of_length_le (by simp; omega)
 refine awp_regc ⟨55,[(2,ints ks),(3,.pv (gC g)),(4,.pv (pC p))],[],100⟩ rfl ?_ ?_
 ·simp
  exact Le.go [] [16,24] rfl rfl (by simp) (by simp)
 refine awp_dregc ⟨55,[(3,.pv (gC g)),(7,.pv (nC ⟨N,A⟩)),(8,.I 0)],[],300⟩ rfl ?_ ?_
 ·simp
  refine callN1w2 hjn (by simp [Wk.refl,ints,Wk.nil]) ?_
  simp
  refine call0sZ (j:=124) (by decide) rfl hnet (by simp [take_map_len,fcd]) ?_
  simp
  exact ⟨rfl,Le.go [] [164] rfl rfl (by simp) (by simp)⟩
 refine awp_seq ?_
 refine awp_regc ⟨55,[(3,.pv (gC g)),(7,.pv (nC ⟨N,A⟩)),(24,.B false)],[],400⟩ rfl ?_ ?_
 ·simp
  exact Le.go [] [] rfl rfl (by simp) (by simp)
 refine awp_cond _ rfl (fun h=>by cases h) fun _=>?_
 refine awp_skip ?_
 refine awp_regc ⟨55,[(3,.pv (gC g)),(7,.pv (nC ⟨N,A⟩)),(8,.I 0),(9,.rs 33 0 A.length)],[(33,some ⟨1,rowsI f,0⟩)],500⟩ rfl ?_ ?_
 ·simp
  refine callN1 hmax (by simp) ?_
  simp
  exact Le.go [(408,33)] [] rfl rfl (by simp) (by simp [fcd])
 refine awp_seq ?_
 refine awp_regc ⟨55,[(3,.pv (gC g)),(7,.pv (nC ⟨N,A⟩)),(9,.rs 33 0 A.length),(31,.B false)],[(33,some ⟨1,rowsI f,0⟩)],600⟩ rfl ?_ ?_
 ·simp
  exact Le.go [(33,33)] [] rfl rfl (by simp) (by simp [fcd])
 refine awp_cond _ rfl (fun h=>by cases h) fun _=>?_
 refine awp_skip ?_
 refine awp_regc ⟨55,[(3,.pv (gC g)),(7,.pv (nC ⟨N,A⟩)),(10,.rs 18 0 A.length)],[(18,some ⟨1,rowsI f,0⟩)],700⟩ rfl ?_ ?_
 ·simp [hfl,htf]
  refine ⟨by omega,by omega,?_⟩
  exact Le.go [(616,18)] [] rfl rfl (by simp) (by simp [fcd])
 refine awp_regc ⟨55,[(3,.pv (gC g)),(7,.pv (nC ⟨N,A⟩)),(10,.rs 18 0 A.length),(11,.nilS)],[(18,some ⟨1,rowsI f,0⟩)],800⟩ rfl ?_ ?_
 ·simp
  exact Le.go [(18,18)] [] rfl rfl (by simp) (by simp [fcd])
 refine awp_block ?_
 refine awp_loop (ι:=PSt) (fun s=>⟨55,[(3,.pv (gC g)),(7,.pv (nC ⟨N,A⟩)),(10,.rs 18 0 A.length),(11,.rs 17 0 s.W.length)],[(18,some ⟨1,rowsI s.g,0⟩),(17,some ⟨1,s.W.map fun w=>[ints (keysA A w)],0⟩)],800⟩)
  (fun s=>TakenW N A f s.g s.W ∧ ∀ w ∈ s.W,w.length ≤ 130) (fun s=>(exF A s.g 0).toNat) ⟨[],f⟩ ⟨TakenW.nil hf1.balF,by simp⟩
  (Le.lst [(18,18)] [] [(17,1)] rfl (by simp) (by simp) (by simp) (by simp) (by simp) (by simp) (by simp) (by simp [Up]) (by simp [fcd]; exact EntUp.rfl' (by simp))) ?_
 rintro ⟨W,g'⟩ ⟨hT,hWl⟩
 simp only at hT hWl
 have hgl:=hT.bal.len
 have hgb : ∀ i,g'.getD i 0 ≤ 1048576:=fun i=>by
  have h1:=hT.used i
  have h2:=hfb i
  omega
 obtain ⟨⟨l,g2⟩,hl,hcall⟩:=walk_a N A g' hnv hT.bal hgb
 simp only at hl hcall
 have he0:=ex0_nonneg hno hT.bal
 have hex:=hT.ex
 have htg : ∀ h : Int → List AV,List.take A.length (List.map h g') = List.map h g':=fun h=>List.take_of_length_le (by simp; omega)
 refine awp_block ?_
 refine awp_regc ⟨55,[(3,.pv (gC g)),(7,.pv (nC ⟨N,A⟩)),(10,.rs 18 0 A.length),(11,.rs 17 0 W.length),(12,ints (natL l))],[(18,some ⟨1,rowsI g2,0⟩),(17,some ⟨1,W.map fun w=>[ints (keysA A w)],0⟩)],900⟩ rfl ?_ ?_
 ·simp
  refine callM1 (i:=18) rfl (e':=⟨1,rowsI g',0⟩) (by simp [fcd]) hcall (by simp) (by simp [htg,hgl]) ?_
  simp
  exact Le.go [(18,18),(17,17)] [] rfl rfl (by simp) (by simp [fcd])
 refine awp_seq ?_
 refine awp_regc ⟨55,[(3,.pv (gC g)),(7,.pv (nC ⟨N,A⟩)),(10,.rs 18 0 A.length),(11,.rs 17 0 W.length),(12,ints (natL l)),(40,.B (decide (l = [])))],[(18,some ⟨1,rowsI g2,0⟩),(17,some ⟨1,W.map fun w=>[ints (keysA A w)],0⟩)],1000⟩ rfl ?_ ?_
 ·simp [natL_len]
  exact Le.go [(18,18),(17,17)] [] rfl rfl (by simp <;> exact wkB (by rw [Bool.eq_iff_iff]; simp [natL])) (by simp [fcd])
 refine awp_cond _ rfl (fun h5=>?_) fun h5=>?_
 ·rw [decide_eq_true_eq] at h5
  subst h5
  have hz : exF A g' 0 ≤ 0:=by
   rcases hl with h | h
   ·exact h.2
   ·have : (0 : Int) = 1:=h.way
    omega
  refine awp_regc ⟨55,[(6,.vs 1 false (W.map fun w=>[ints (keysA A w)]))],[],1100⟩ rfl ?_ ?_
  ·simp
   exact Le.go [] [17] rfl rfl (by simp [fcd,take_map_len]) (by simp)
  refine awp_ret ?_
  exact PostX.mk (.inr rfl) W (hR W g' hT (by omega) hWl) (RetOk.one (by rw [show pathsV (W.map (keysA A)) = .vs 1 false (W.map fun w=>[ints (keysA A w)]) from by simp [fcd]]; simp))
 rw [decide_eq_false_iff_not] at h5
 have hla : LeftA A g' g2 l 1:=by
  rcases hl with h | h
  ·exact absurd h.1 h5
  ·exact h
 have hfew:=hla.few hno
 have hn1:=hnv.2.1
 simp only at hn1
 have hky:=hkeys l hla.way (by omega)
 have hmo:=hT.more hla
 have hex2:=(hla.balF hT.bal).2
 have he2:=ex0_nonneg hno hmo.bal
 refine awp_skip ?_
 refine awp_regc ⟨55,[(3,.pv (gC g)),(7,.pv (nC ⟨N,A⟩)),(10,.rs 18 0 A.length),(11,.rs 17 0 W.length),(13,ints (keysA A l))],[(18,some ⟨1,rowsI g2,0⟩),(17,some ⟨1,W.map fun w=>[ints (keysA A w)],0⟩)],1200⟩ rfl ?_ ?_
 ·simp
  refine call0e hky (by simp) ?_
  simp
  exact Le.go [(18,18),(17,17)] [] rfl rfl (by simp) (by simp [fcd])
 have htW : ∀ h : List Nat → List AV,List.take W.length (List.map h W) = List.map h W:=fun h=>List.take_of_length_le (by simp)
 refine awp_reg rfl ?_
 simp [htW]
 refine ⟨by omega,by omega,⟨W ++ [l],g2⟩,⟨hmo,fun w hw=>?_⟩,?_,Le.go [(18,18),(1224,17)] [] rfl rfl (by simp) (by simp [fcd])⟩
 ·rcases List.mem_append.1 hw with h | h
  ·exact hWl w h
  ·rw [List.mem_singleton] at h
   subst h
   omega
 ·simp only
  omega
theorem Reached_ok (g : Gr) (p : Pol) (hg : GrOk g) (hs : p.seeds.length ≤ 1099511627776) :
  ACalls Tryz.prog nref43_Reached [eG g,eP p] [] (.rs 0 0 (ordL (levelG g p.lv) p.seeds).length) [some ⟨1,rowsI (ordL (levelG g p.lv) p.seeds),0⟩]:=by
 refine sref43_Reached.acalls (Nat.le_of_ble_eq_true rfl) (Nat.le_of_ble_eq_true rfl) (Nat.zero_le _) ?_
 show awp _ 0 _ _ ⟨12,[(0,eG g),(1,eP p)],[],16⟩
 have hel:=hg.edges_le
 have hgl:=hg.gone_le
 have hord:=ref12_Order_ok (g:=levelG g p.lv) (S:=p.seeds) (hg.level p.lv) hs
 refine rx (s:=?s1) [2,3] [] [16,24] rfl ?o1 ?q1
 case o1=>simp; rfl
 refine rkd (s:=?s2) [4] [88] rfl ?o2 ?q2
 case o2 =>
  simp
  refine call0e (ref11_Level_ok g p.lv (by omega) (by omega)) (by simp) ?_
  simp
  refine callN1 hord (by simp) ?_
  simp [fcd]
  refine ⟨rfl,?_⟩
  rfl
 refine awp_ret ?_
 exact ⟨.inr rfl,RetOk.out [88] [] rfl (by simp) (by simp) (by simp) (by simp [fcd])⟩
def befL (o acc : List Int) (i : Nat) : List Int:=(o.take i).filter fun k=>decide (k ∈ acc)
theorem befL_succ {o acc : List Int} {i : Nat} (h : i < o.length) : befL o acc (i + 1) = befL o acc i ++ if o[i] ∈ acc then [o[i]] else []:=by
 unfold befL
 rw [List.take_succ_eq_append_getElem h,List.filter_append]
 simp only [List.filter_cons,List.filter_nil,decide_eq_true_eq]
theorem befL_len (o acc : List Int) (i : Nat) : (befL o acc i).length ≤ o.length:=by
 unfold befL
 exact Nat.le_trans (List.length_filter_le ..) (List.length_take_le' ..)
theorem befL_mem {o acc : List Int} {i : Nat} {x : Int} (h : x ∈ befL o acc i) : x ∈ o:=List.mem_of_mem_take (List.mem_filter.1 h).1
structure ForR (g : Gr) (p : Pol) (o : List Int) (key : Int) (x : Expl) : Prop where
 key_ : x.key = key
 bef : ∃ i,∃ h : i < o.length,o[i] = key ∧ x.before = befL o (accR g p o) i
 yes : key ∈ accR g p o → x.acc = true ∧ x.side = [] ∧ ∃ W,PathsW g p (x.before ++ [key]) W ∧ x.paths = W.map (keysA (netA g p (joinL (x.before ++ [key]))))
 no : key ∉ accR g p o → x.acc = false ∧ x.paths = [] ∧ ∃ R,RefOk g p o R ∧ (key,x.side) ∈ R
theorem accR_pre {g : Gr} {p : Pol} : ∀ (b a : List Int),∃ l,accR g p (a ++ b) = accR g p a ++ l
 | [],a=>⟨[],by simp⟩
 | x :: b,a=>by
   obtain ⟨l,hl⟩:=accR_pre b (a ++ [x])
   rw [List.append_assoc] at hl
   have e : a ++ x :: b = a ++ ([x] ++ b):=rfl
   rw [e,hl]
   rcases accR_step (g:=g) (p:=p) a x with h | h
   ·exact ⟨l,by rw [h]⟩
   ·exact ⟨[x] ++ l,by rw [h,List.append_assoc]⟩
theorem accR_take {g : Gr} {p : Pol} {o : List Int} {n : Nat} {x : Int} (h : x ∈ accR g p (o.take n)) : x ∈ accR g p o:=by
 obtain ⟨l,hl⟩:=accR_pre (g:=g) (p:=p) (o.drop n) (o.take n)
 rw [List.take_append_drop] at hl
 rw [hl]
 exact List.mem_append_left _ h
theorem wkX {k a b p s p' s' c : AV} (hp : Wk p p') (hs : Wk s s') : Wk (.tup [.agg [k,a,b,p,s],c]) (.tup [.agg [k,a,b,p',s'],c]):=by
 refine .tup _ _ rfl fun i=>?_
 match i with
 | 0 =>
   refine .agg _ _ rfl fun j=>?_
   match j with
   | 0=>exact .refl _
   | 1=>exact .refl _
   | 2=>exact .refl _
   | 3=>exact hp
   | 4=>exact hs
   | _ + 5=>exact .refl _
 | 1=>exact .refl _
 | _ + 2=>exact .refl _
structure FSt where
 j : Nat
 sd : List Int
set_option maxRecDepth 100000 in
set_option maxHeartbeats 4000000 in
theorem For_a (g : Gr) (p : Pol) (key : Int) (hg : GrOk g) (hp : PolOk g.size p) (hs : p.seeds.length ≤ 64) (hkey : key ∈ ordL (levelG g p.lv) p.seeds) :
  ∃ x,ForR g p (ordL (levelG g p.lv) p.seeds) key x ∧ ACalls Tryz.prog nref43_For [eG g,eP p,.I key] [] (.tup [eX x,.I 0]) []:=by
 refine sref43_For.acallsX (args:=[eG g,eP p,.I key]) (hs:=[]) (fun x=>.tup [eX x,.I 0]) (fun _=>[]) (fun x : Expl=>ForR g p (ordL (levelG g p.lv) p.seeds) key x) (Nat.le_of_ble_eq_true rfl) (Nat.le_of_ble_eq_true rfl) (fun _=>Nat.le_refl _) ?_
 show awp _ 0 _ _ ⟨114,[(0,eG g),(1,eP p),(2,.I key)],[],16⟩
 have hsz:=hg.1.1
 have hsz2:=hg.1.2.1
 have hel:=hg.edges_le
 have hgl:=hg.gone_le
 have hchk:=ref13_Check_ok g p (by omega) (by omega) (by omega) (by have:=hp.2.2.2.1; omega)
 rw [if_pos hg,if_pos hp] at hchk
 have hre:=Reached_ok g p hg (by omega)
 obtain ⟨⟨R,fl⟩,⟨hR,_⟩,hrun⟩:=Run_a g p hg hp hs
 simp only at hR hrun
 obtain ⟨o,ho⟩ : ∃ o,o = ordL (levelG g p.lv) p.seeds:=⟨_,rfl⟩
 have hor : ∀ k ∈ o,0 ≤ k ∧ k < g.size:=fun k hk=>by rw [ho] at hk; have h:=ordL_range hk; exact h
 have hol : o.length ≤ 64:=by
  have h1:=ordL_len (g:=levelG g p.lv) (S:=p.seeds) hsz
  have h2 : (levelG g p.lv).size = g.size:=rfl
  rw [← ho] at h1
  omega
 rw [← ho] at hre hR hrun hkey ⊢
 obtain ⟨i0,hi0,hik⟩:=List.mem_iff_getElem.1 hkey
 have hRl:=hR.len
 obtain ⟨acc,hacc⟩ : ∃ acc,acc = accR g p o:=⟨_,rfl⟩
 rw [← hacc] at hrun
 have hal : acc.length ≤ 64:=by rw [hacc]; exact Nat.le_trans (accR_len o) hol
 have hh1:=has24_ok o key (by omega)
 rw [decide_eq_true hkey] at hh1
 refine awp_regc ⟨114,[(2,.I key),(3,.pv (gC g)),(4,.pv (pC p)),(6,.pt 32 0 0)],[(32,some ⟨5,[[.I 0,.B false,.nilS,.nilS,.nilS]],0⟩)],100⟩ rfl ?_ ?_
 ·simp
  exact Le.go [(32,32)] [16,24] rfl rfl (by simp) (by simp)
 refine awp_seq ?_
 refine awp_regc ⟨114,[(2,.I key),(3,.pv (gC g)),(4,.pv (pC p)),(6,.pt 32 0 0),(8,.I 0)],[(32,some ⟨5,[[.I 0,.B false,.nilS,.nilS,.nilS]],0⟩)],200⟩ rfl ?_ ?_
 ·simp
  refine call0e hchk (by simp) ?_
  simp
  exact Le.go [(32,32)] [] rfl rfl (by simp) (by simp)
 refine awp_regc ⟨114,[(2,.I key),(3,.pv (gC g)),(4,.pv (pC p)),(6,.pt 32 0 0),(19,.B false)],[(32,some ⟨5,[[.I 0,.B false,.nilS,.nilS,.nilS]],0⟩)],300⟩ rfl ?_ ?_
 ·simp
  exact Le.go [(32,32)] [] rfl rfl (by simp) (by simp)
 refine awp_cond _ rfl (fun h=>by cases h) fun _=>?_
 refine awp_skip ?_
 refine awp_regc ⟨114,[(2,.I key),(3,.pv (gC g)),(4,.pv (pC p)),(6,.pt 32 0 0),(9,ints o)],[(32,some ⟨5,[[.I 0,.B false,.nilS,.nilS,.nilS]],0⟩)],400⟩ rfl ?_ ?_
 ·simp
  refine callN1 hre (by simp) ?_
  simp
  exact Le.go [(32,32)] [316] rfl rfl (by simp [take_map_len,fcd]) (by simp)
 refine awp_seq ?_
 refine awp_regc ⟨114,[(2,.I key),(3,.pv (gC g)),(4,.pv (pC p)),(6,.pt 32 0 0),(9,ints o),(28,.B false)],[(32,some ⟨5,[[.I 0,.B false,.nilS,.nilS,.nilS]],0⟩)],500⟩ rfl ?_ ?_
 ·simp
  refine call0e hh1 (by simp) ?_
  simp
  exact Le.go [(32,32)] [] rfl rfl (by simp) (by simp)
 refine awp_cond _ rfl (fun h=>by cases h) fun _=>?_
 refine awp_skip ?_
 refine awp_regc ⟨114,[(2,.I key),(3,.pv (gC g)),(4,.pv (pC p)),(6,.pt 32 0 0),(9,ints o),(10,.pv [ints acc,ints fl,.vs 2 false (rowsR R)]),(11,.I 0)],[(32,some ⟨5,[[.I 0,.B false,.nilS,.nilS,.nilS]],0⟩)],600⟩ rfl ?_ ?_
 ·simp
  refine call0e hrun (by simp) ?_
  simp
  exact Le.go [(32,32)] [548] rfl rfl (by simp) (by simp)
 refine awp_seq ?_
 refine awp_regc ⟨114,[(2,.I key),(3,.pv (gC g)),(4,.pv (pC p)),(6,.pt 32 0 0),(9,ints o),(10,.pv [ints acc,ints fl,.vs 2 false (rowsR R)]),(37,.B false)],[(32,some ⟨5,[[.I 0,.B false,.nilS,.nilS,.nilS]],0⟩)],700⟩ rfl ?_ ?_
 ·simp
  exact Le.go [(32,32)] [] rfl rfl (by simp) (by simp)
 refine awp_cond _ rfl (fun h=>by cases h) fun _=>?_
 refine awp_skip ?_
 refine awp_regc ⟨114,[(2,.I key),(3,.pv (gC g)),(4,.pv (pC p)),(6,.pt 32 0 0),(9,ints o),(10,.pv [ints acc,ints fl,.vs 2 false (rowsR R)]),(12,.pt 50 0 0)],[(32,some ⟨5,[[.I 0,.B false,.nilS,.nilS,.nilS]],0⟩),(50,some ⟨5,[[.I key,.B false,.nilS,.nilS,.nilS]],0⟩)],800⟩ rfl ?_ ?_
 ·simp [splice]
  exact Le.go [(32,32),(716,50)] [] rfl rfl (by simp) (by simp)
 refine awp_seq ?_
 refine awp_regc ⟨114,[(2,.I key),(3,.pv (gC g)),(4,.pv (pC p)),(6,.pt 32 0 0),(9,ints o),(10,.pv [ints acc,ints fl,.vs 2 false (rowsR R)]),(12,.pt 50 0 0),(13,.I 0)],[(32,some ⟨5,[[.I 0,.B false,.nilS,.nilS,.nilS]],0⟩),(50,some ⟨5,[[.I key,.B false,.nilS,.nilS,.nilS]],0⟩)],900⟩ rfl ?_ ?_
 ·simp
  exact Le.go [(32,32),(50,50)] [] rfl rfl (by simp) (by simp)
 refine awp_block ?_
 refine awp_loop (ι:=Nat) (fun i=>⟨114,[(2,.I key),(3,.pv (gC g)),(4,.pv (pC p)),(6,.pt 32 0 0),(9,ints o),(10,.pv [ints acc,ints fl,.vs 2 false (rowsR R)]),(12,.pt 50 0 0),(13,.I i)],[(32,some ⟨5,[[.I 0,.B false,.nilS,.nilS,.nilS]],0⟩),(50,some ⟨5,[[.I key,.B false,.rs 51 0 (befL o acc i).length,.nilS,.nilS]],0⟩),(51,some ⟨1,rowsI (befL o acc i),0⟩)],900⟩)
  (fun i=>i < o.length ∧ ∀ q (h : q < o.length),q < i → o[q] ≠ key) (fun i=>o.length - i) 0 ⟨by omega,fun q _ h=>by omega⟩
  (Le.lst [(32,32),(50,50)] [] [(51,1)] rfl (by simp) (by simp) (by simp) (by simp) (by simp) (by simp) (by simp) (by simp [Up]) (by simp [befL,fcd]; exact ⟨EntUp.rfl' (by simp),EntUp.row rfl (by omega) (by simp [UpL,Up,Wk.refl])⟩)) ?_
 rintro i ⟨hi,hip⟩
 have hbl:=befL_len o acc i
 have hwi : IntKind.i64.wrap ((i : Int) + 1) = ((i + 1 : Nat) : Int):=by rw [w64 (by omega) (by omega)]; omega
 have hoi : o[i]? = some o[i]:=List.getElem?_eq_getElem hi
 obtain ⟨k,hk⟩ : ∃ k,k = o[i]:=⟨_,rfl⟩
 rw [← hk] at hoi
 refine awp_seq ?_
 refine awp_regc ⟨114,[(2,.I key),(3,.pv (gC g)),(4,.pv (pC p)),(6,.pt 32 0 0),(9,ints o),(10,.pv [ints acc,ints fl,.vs 2 false (rowsR R)]),(12,.pt 50 0 0),(13,.I i),(53,.B (!decide (k = key)))],[(32,some ⟨5,[[.I 0,.B false,.nilS,.nilS,.nilS]],0⟩),(50,some ⟨5,[[.I key,.B false,.rs 51 0 (befL o acc i).length,.nilS,.nilS]],0⟩),(51,some ⟨1,rowsI (befL o acc i),0⟩)],1100⟩ rfl ?_ ?_
 ·simp [hi,hoi,← hk]
  exact Le.go [(32,32),(50,50),(51,51)] [] rfl rfl (by simp <;> exact wkB (by rw [Bool.eq_iff_iff]; simp)) (by simp [fcd])
 refine awp_cond _ rfl (fun h17=>?_) fun h17=>?_
 ·simp at h17
  have hi2 : i + 1 < o.length:=by
   rcases Nat.lt_or_ge (i + 1) o.length with h | h
   ·exact h
   ·exfalso
    rcases Nat.lt_or_ge i0 i with h2 | h2
    ·exact hip i0 hi0 h2 hik
    ·obtain rfl : i0 = i:=by omega
     exact h17 (hk.trans hik)
  have hsu:=befL_succ (o:=o) (acc:=acc) hi
  rw [← hk] at hsu
  have hha:=has24_ok acc k (by omega)
  refine awp_skip ?_
  refine awp_cut (ι:=Unit) (fun _=>⟨114,[(2,.I key),(3,.pv (gC g)),(4,.pv (pC p)),(6,.pt 32 0 0),(9,ints o),(10,.pv [ints acc,ints fl,.vs 2 false (rowsR R)]),(12,.pt 50 0 0),(13,.I i)],[(32,some ⟨5,[[.I 0,.B false,.nilS,.nilS,.nilS]],0⟩),(50,some ⟨5,[[.I key,.B false,.rs 51 0 (befL o acc (i + 1)).length,.nilS,.nilS]],0⟩),(51,some ⟨1,rowsI (befL o acc (i + 1)),0⟩)],2000⟩) (fun _=>True) ?_ fun _ _=>?_
  ·refine awp_block ?_
   refine awp_dregc ⟨114,[(2,.I key),(3,.pv (gC g)),(4,.pv (pC p)),(6,.pt 32 0 0),(9,ints o),(10,.pv [ints acc,ints fl,.vs 2 false (rowsR R)]),(12,.pt 50 0 0),(13,.I i),(62,.B (decide (k ∈ acc)))],[(32,some ⟨5,[[.I 0,.B false,.nilS,.nilS,.nilS]],0⟩),(50,some ⟨5,[[.I key,.B false,.rs 51 0 (befL o acc i).length,.nilS,.nilS]],0⟩),(51,some ⟨1,rowsI (befL o acc i),0⟩)],1200⟩ rfl ?_ ?_
   ·simp [hi,hoi,← hk]
    refine call0e hha (by simp) ?_
    simp
    exact ⟨rfl,Le.go [(32,32),(50,50),(51,51)] [] rfl rfl (by simp) (by simp [fcd])⟩
   refine awp_cond _ rfl (fun h19=>?_) fun h19=>?_
   ·rw [decide_eq_true_eq] at h19
    rw [if_pos h19] at hsu
    rw [hsu]
    obtain ⟨E,hE⟩ : ∃ E,E = befL o acc i:=⟨_,rfl⟩
    rw [← hE] at hbl ⊢
    refine awp_drw rfl ?_
    simp [hi,hoi,← hk,take_map_len,splice]
    exact ⟨by omega,by omega,rfl,Le.go [(32,32),(50,50),(1256,51)] [] rfl rfl (by simp) (by simp [fcd])⟩
   ·rw [decide_eq_false_iff_not] at h19
    rw [if_neg h19,List.append_nil] at hsu
    rw [hsu]
    refine awp_skip ?_
    exact ⟨(),trivial,Le.go [(32,32),(50,50),(51,51)] [] rfl rfl (by simp) (by simp [fcd])⟩
  refine awp_run (s:=?s20) rfl ?o20 ?q20
  case o20=>simp; rfl
  refine ⟨i + 1,⟨hi2,fun q hq hlt=>?_⟩,by omega,Le.go [(32,32),(50,50),(51,51)] [] rfl rfl (by simp [hwi]) (by simp [fcd])⟩
  rcases Nat.lt_succ_iff_lt_or_eq.1 hlt with h | rfl
  ·exact hip q hq h
  ·exact fun e=>h17 (hk.trans e)
 simp at h17
 have hok : o[i] = key:=hk.symm.trans h17
 clear hoi
 refine awp_exit ?_
 refine hit ?_
 obtain ⟨E,hE⟩ : ∃ E,E = befL o acc i:=⟨_,rfl⟩
 rw [← hE] at hbl ⊢
 have hha:=has24_ok acc key (by omega)
 refine awp_seq ?_
 refine awp_regc ⟨114,[(2,.I key),(3,.pv (gC g)),(4,.pv (pC p)),(6,.pt 32 0 0),(10,.pv [ints acc,ints fl,.vs 2 false (rowsR R)]),(12,.pt 50 0 0),(75,.B (decide (key ∈ acc)))],[(32,some ⟨5,[[.I 0,.B false,.nilS,.nilS,.nilS]],0⟩),(50,some ⟨5,[[.I key,.B false,.rs 51 0 E.length,.nilS,.nilS]],0⟩),(51,some ⟨1,rowsI E,0⟩)],1200⟩ rfl ?_ ?_
 ·simp
  refine call0e hha (by simp) ?_
  simp
  exact Le.go [(32,32),(50,50),(51,51)] [] rfl rfl (by simp) (by simp [fcd])
 refine awp_cond _ rfl (fun h21=>?_) fun h21=>?_
 ·rw [decide_eq_true_eq] at h21
  obtain ⟨W,hW,hpa⟩:=Paths43_a g p (E ++ [key]) hg hp hs (fun x hx=>by
   rcases List.mem_append.1 hx with h | h
   ·rw [hE] at h; exact hor x (befL_mem h)
   ·rw [List.mem_singleton] at h; subst h; exact hor _ hkey) (by simp; omega)
  obtain ⟨Q,hQ⟩ : ∃ Q,Q = W.map (keysA (netA g p (joinL (E ++ [key])))):=⟨_,rfl⟩
  rw [← hQ] at hpa
  refine awp_regc ⟨114,[(2,.I key),(3,.pv (gC g)),(4,.pv (pC p)),(6,.pt 32 0 0),(12,.pt 50 0 0)],[(32,some ⟨5,[[.I 0,.B false,.nilS,.nilS,.nilS]],0⟩),(50,some ⟨5,[[.I key,.B true,.rs 51 0 E.length,.nilS,.nilS]],0⟩),(51,some ⟨1,rowsI E,0⟩)],1300⟩ rfl ?_ ?_
  ·simp [splice]
   exact Le.go [(32,32),(50,50),(51,51)] [] rfl rfl (by simp) (by simp [fcd])
  refine awp_dregc ⟨114,[(6,.pt 32 0 0),(12,.pt 50 0 0)],[(32,some ⟨5,[[.I 0,.B false,.nilS,.nilS,.nilS]],0⟩),(50,some ⟨5,[[.I key,.B true,ints E,pathsV Q,.nilS]],0⟩)],1600⟩ rfl ?_ ?_
  ·have htE : ∀ h : Int → List AV,List.take (E.length + 1) (List.map h E) = List.map h E:=fun h=>List.take_of_length_le (by simp)
   simp [take_map_len]
   refine ⟨by omega,by omega,by omega,by omega,call0sZ (j:=1364) (by decide) rfl hpa (by simp [fcd,List.take_append,take_map_len,htE]) ?_⟩
   simp [splice]
   exact ⟨rfl,Le.go [(32,32),(50,50)] [51,1364] rfl rfl (by simp) (by simp [fcd,take_map_len])⟩
  refine awp_regc ⟨114,[(6,.pt 32 0 0),(7,.I 0)],[(32,some ⟨5,[[.I key,.B true,ints E,pathsV Q,.nilS]],0⟩)],1700⟩ rfl ?_ ?_
  ·simp [splice]
   exact Le.go [(32,32)] [] rfl rfl (by simp) (by simp [fcd])
  refine awp_ret ?_
  rw [hacc] at h21
  refine PostX.mk (.inr rfl) ⟨key,true,E,Q,[]⟩ ⟨rfl,⟨i,hi,hok,by rw [← hacc]; exact hE⟩,fun _=>⟨rfl,rfl,W,hW,hQ⟩,fun h=>absurd h21 h⟩ (RetOk.out [] [] rfl (by simp) (by simp) (by simp; exact wkX (.refl _) (.nil _ _)) (by simp))
 rw [decide_eq_false_iff_not] at h21
 refine awp_skip ?_
 refine awp_seq ?_
 refine awp_regc ⟨114,[(2,.I key),(6,.pt 32 0 0),(10,.pv [ints acc,ints fl,.vs 2 false (rowsR R)]),(12,.pt 50 0 0),(14,.I 0)],[(32,some ⟨5,[[.I 0,.B false,.nilS,.nilS,.nilS]],0⟩),(50,some ⟨5,[[.I key,.B false,ints E,.nilS,.nilS]],0⟩)],1300⟩ rfl ?_ ?_
 ·simp
  exact Le.go [(32,32),(50,50)] [51] rfl rfl (by simp) (by simp [fcd,take_map_len])
 refine awp_block ?_
 refine awp_loop (ι:=FSt) (fun s=>⟨114,[(2,.I key),(6,.pt 32 0 0),(10,.pv [ints acc,ints fl,.vs 2 false (rowsR R)]),(12,.pt 50 0 0),(14,.I s.j)],[(32,some ⟨5,[[.I 0,.B false,.nilS,.nilS,.nilS]],0⟩),(50,some ⟨5,[[.I key,.B false,ints E,.nilS,ints s.sd]],0⟩)],1300⟩)
  (fun s=>s.j ≤ R.length ∧ s.sd.length ≤ 130 ∧ ((key,s.sd) ∈ R ∨ ∀ q (h : q < R.length),q < s.j → R[q].1 ≠ key)) (fun s=>R.length - s.j) ⟨0,[]⟩ ⟨Nat.zero_le _,by simp,.inr fun q _ h=>absurd h (Nat.not_lt_zero _)⟩
  (Le.lst [(32,32),(50,50)] [] [] rfl (by simp) (by simp) (by simp) (by simp) (by simp) (by simp) (by simp) (by simp [Up]) (by simp [fcd]; exact ⟨EntUp.rfl' (by simp),EntUp.row rfl (by omega) (by simp [UpL,Up,Wk.refl]; exact .nil _ _)⟩)) ?_
 rintro ⟨j,sd⟩ ⟨hj,hsl,hsd⟩
 simp only at hj hsl hsd
 refine awp_seq ?_
 refine awp_regc ⟨114,[(2,.I key),(6,.pt 32 0 0),(10,.pv [ints acc,ints fl,.vs 2 false (rowsR R)]),(12,.pt 50 0 0),(14,.I j),(93,.B (decide (j < R.length)))],[(32,some ⟨5,[[.I 0,.B false,.nilS,.nilS,.nilS]],0⟩),(50,some ⟨5,[[.I key,.B false,ints E,.nilS,ints sd]],0⟩)],1500⟩ rfl ?_ ?_
 ·simp
  exact Le.go [(32,32),(50,50)] [] rfl rfl (by simp) (by simp [fcd])
 refine awp_cond _ rfl (fun h27=>?_) fun h27=>?_
 ·simp at h27
  have hwj : IntKind.i64.wrap ((j : Int) + 1) = ((j + 1 : Nat) : Int):=by rw [w64 (by omega) (by omega)]; omega
  obtain ⟨⟨k,side⟩,hks⟩ : ∃ r,r = R[j]:=⟨_,rfl⟩
  have hRj : R[j]? = some (k,side):=by rw [List.getElem?_eq_getElem h27,← hks]
  have hkm : (k,side) ∈ R:=by rw [hks]; exact List.getElem_mem h27
  obtain ⟨_,_,_,hnear⟩:=hR.right _ hkm
  have hsl2:=hnear.len
  simp only at hsl2
  refine awp_skip ?_
  refine awp_cut (ι:=List Int) (fun sd=>⟨114,[(2,.I key),(6,.pt 32 0 0),(10,.pv [ints acc,ints fl,.vs 2 false (rowsR R)]),(12,.pt 50 0 0),(14,.I j)],[(32,some ⟨5,[[.I 0,.B false,.nilS,.nilS,.nilS]],0⟩),(50,some ⟨5,[[.I key,.B false,ints E,.nilS,ints sd]],0⟩)],2500⟩)
   (fun sd=>sd.length ≤ 130 ∧ ((key,sd) ∈ R ∨ ∀ q (h : q < R.length),q < j + 1 → R[q].1 ≠ key)) ?_ fun sd2 hsd2=>?_
  ·refine awp_block ?_
   refine awp_regc ⟨114,[(2,.I key),(6,.pt 32 0 0),(10,.pv [ints acc,ints fl,.vs 2 false (rowsR R)]),(12,.pt 50 0 0),(14,.I j),(103,.B (decide (k = key)))],[(32,some ⟨5,[[.I 0,.B false,.nilS,.nilS,.nilS]],0⟩),(50,some ⟨5,[[.I key,.B false,ints E,.nilS,ints sd]],0⟩)],1700⟩ rfl ?_ ?_
   ·simp [hRj]
    exact Le.go [(32,32),(50,50)] [] rfl rfl (by simp <;> exact wkB (by rw [Bool.eq_iff_iff]; simp)) (by simp [fcd])
   refine awp_cond _ rfl (fun h29=>?_) fun h29=>?_
   ·rw [decide_eq_true_eq] at h29
    refine awp_reg rfl ?_
    simp [hRj,splice]
    exact ⟨by omega,by omega,side,⟨hsl2,.inl (h29 ▸ hkm)⟩,Le.go [(32,32),(50,50)] [1756] rfl rfl (by simp) (by simp [fcd,take_map_len])⟩
   ·rw [decide_eq_false_iff_not] at h29
    refine awp_skip ?_
    refine ⟨sd,⟨hsl,?_⟩,Le.go [(32,32),(50,50)] [] rfl rfl (by simp) (by simp [fcd])⟩
    rcases hsd with h | h
    ·exact .inl h
    ·refine .inr fun q hq hlt=>?_
     rcases Nat.lt_succ_iff_lt_or_eq.1 hlt with h2 | rfl
     ·exact h q hq h2
     ·rw [← hks]; exact h29
  refine awp_run (s:=?s30) rfl ?o30 ?q30
  case o30=>simp; rfl
  exact ⟨⟨j + 1,sd2⟩,⟨h27,hsd2.1,hsd2.2⟩,Nat.sub_lt_sub_left h27 (Nat.lt_succ_self j),Le.go [(32,32),(50,50)] [] rfl rfl (by simp [hwj]) (by simp [fcd])⟩
 simp at h27
 have hin : (key,sd) ∈ R:=by
  rcases hsd with h | h
  ·exact h
  ·rw [hacc] at h21
   obtain ⟨side,hs2⟩:=hR.all i hi (fun hm=>h21 (by rw [← hok]; exact accR_take hm))
   rw [hok] at hs2
   obtain ⟨q,hq,he⟩:=List.mem_iff_getElem.1 hs2
   exact absurd (by rw [he]) (h q hq (by omega))
 refine awp_exit ?_
 refine hit ?_
 refine awp_regc ⟨114,[(6,.pt 32 0 0),(7,.I 0)],[(32,some ⟨5,[[.I key,.B false,ints E,.nilS,ints sd]],0⟩)],1700⟩ rfl ?_ ?_
 ·simp [splice]
  exact Le.go [(32,32)] [] rfl rfl (by simp) (by simp [fcd])
 refine awp_ret ?_
 rw [hacc] at h21
 refine PostX.mk (.inr rfl) ⟨key,false,E,[],sd⟩ ⟨rfl,⟨i,hi,hok,by rw [← hacc]; exact hE⟩,fun h=>absurd h h21,fun _=>⟨rfl,rfl,R,hR,hin⟩⟩ (RetOk.out [] [] rfl (by simp) (by simp) (by simp; exact wkX (.nil _ _) (.refl _)) (by simp))
abbrev eXs (X : List Expl) : AV:=.vs 5 false (X.map xE)
def AllR (g : Gr) (p : Pol) (o : List Int) (X : List Expl) : Prop:=X.length = o.length ∧ ∀ i (h1 : i < X.length) (h2 : i < o.length),ForR g p o o[i] X[i]
structure ASt where
 X : List Expl
set_option maxRecDepth 100000 in
set_option maxHeartbeats 4000000 in
theorem All43_a (g : Gr) (p : Pol) (hg : GrOk g) (hp : PolOk g.size p) (hs : p.seeds.length ≤ 64) :
  ∃ X,AllR g p (ordL (levelG g p.lv) p.seeds) X ∧ ACalls Tryz.prog nref43_All [eG g,eP p] [] (.tup [eXs X,.I 0]) []:=by
 refine sref43_All.acallsX (args:=[eG g,eP p]) (hs:=[]) (fun X=>.tup [eXs X,.I 0]) (fun _=>[]) (fun X : List Expl=>AllR g p (ordL (levelG g p.lv) p.seeds) X) (Nat.le_of_ble_eq_true rfl) (Nat.le_of_ble_eq_true rfl) (fun _=>Nat.le_refl _) ?_
 show awp _ 0 _ _ ⟨45,[(0,eG g),(1,eP p)],[],16⟩
 have hsz:=hg.1.1
 have hsz2:=hg.1.2.1
 have hel:=hg.edges_le
 have hgl:=hg.gone_le
 have hchk:=ref13_Check_ok g p (by omega) (by omega) (by omega) (by have:=hp.2.2.2.1; omega)
 rw [if_pos hg,if_pos hp] at hchk
 have hre:=Reached_ok g p hg (by omega)
 have hfor:=fun key h=>For_a g p key hg hp hs h
 obtain ⟨o,ho⟩ : ∃ o,o = ordL (levelG g p.lv) p.seeds:=⟨_,rfl⟩
 have hol : o.length ≤ 64:=by
  have h1:=ordL_len (g:=levelG g p.lv) (S:=p.seeds) hsz
  have h2 : (levelG g p.lv).size = g.size:=rfl
  rw [← ho] at h1
  omega
 rw [← ho] at hre hfor ⊢
 refine awp_regc ⟨45,[(2,.pv (gC g)),(3,.pv (pC p))],[],100⟩ rfl ?_ ?_
 ·simp
  exact Le.go [] [16,24] rfl rfl (by simp) (by simp)
 refine awp_seq ?_
 refine awp_regc ⟨45,[(2,.pv (gC g)),(3,.pv (pC p)),(6,.I 0)],[],200⟩ rfl ?_ ?_
 ·simp
  refine call0e hchk (by simp) ?_
  simp
  exact Le.go [] [] rfl rfl (by simp) (by simp)
 refine awp_regc ⟨45,[(2,.pv (gC g)),(3,.pv (pC p)),(16,.B false)],[],300⟩ rfl ?_ ?_
 ·simp
  exact Le.go [] [] rfl rfl (by simp) (by simp)
 refine awp_cond _ rfl (fun h=>by cases h) fun _=>?_
 refine awp_skip ?_
 refine awp_regc ⟨45,[(2,.pv (gC g)),(3,.pv (pC p)),(7,ints o)],[],400⟩ rfl ?_ ?_
 ·simp
  refine callN1 hre (by simp) ?_
  simp
  exact Le.go [] [316] rfl rfl (by simp [take_map_len,fcd]) (by simp)
 refine awp_regc ⟨45,[(2,.pv (gC g)),(3,.pv (pC p)),(7,ints o),(8,.nilS)],[],500⟩ rfl ?_ ?_
 ·simp
  exact Le.go [] [] rfl rfl (by simp) (by simp)
 refine awp_seq ?_
 refine awp_regc ⟨45,[(2,.pv (gC g)),(3,.pv (pC p)),(7,ints o),(8,.nilS),(9,.I 0)],[],600⟩ rfl ?_ ?_
 ·simp
  exact Le.go [] [] rfl rfl (by simp) (by simp)
 refine awp_block ?_
 refine awp_loop (ι:=ASt) (fun s=>⟨45,[(2,.pv (gC g)),(3,.pv (pC p)),(7,ints o),(8,.rs 17 0 s.X.length),(9,.I s.X.length)],[(17,some ⟨5,s.X.map xE,0⟩)],600⟩)
  (fun s=>s.X.length ≤ o.length ∧ ∀ i (h1 : i < s.X.length) (h2 : i < o.length),ForR g p o o[i] s.X[i]) (fun s=>o.length - s.X.length) ⟨[]⟩ ⟨Nat.zero_le _,fun i h=>absurd h (Nat.not_lt_zero _)⟩
  (Le.lst [] [] [(17,5)] rfl (by simp) (by simp) (by simp) (by simp) (by simp) (by simp) (by simp) (by simp [Up]) (by simp)) ?_
 rintro ⟨X⟩ ⟨hX,hXr⟩
 simp only at hX hXr
 refine awp_seq ?_
 refine awp_regc ⟨45,[(2,.pv (gC g)),(3,.pv (pC p)),(7,ints o),(8,.rs 17 0 X.length),(9,.I X.length),(24,.B (decide (X.length < o.length)))],[(17,some ⟨5,X.map xE,0⟩)],700⟩ rfl ?_ ?_
 ·simp
  exact Le.go [(17,17)] [] rfl rfl (by simp) (by simp [fcd])
 refine awp_cond _ rfl (fun h5=>?_) fun h5=>?_
 ·simp at h5
  have hwi : IntKind.i64.wrap ((X.length : Int) + 1) = ((X.length + 1 : Nat) : Int):=by rw [w64 (by omega) (by omega)]; omega
  have hoi : o[X.length]? = some o[X.length]:=List.getElem?_eq_getElem h5
  obtain ⟨x,hx,hc⟩:=hfor _ (List.getElem_mem h5)
  obtain ⟨k,hk⟩ : ∃ k,k = o[X.length]:=⟨_,rfl⟩
  rw [← hk] at hoi hc
  refine awp_skip ?_
  refine awp_seq ?_
  refine awp_block ?_
  refine awp_dregc ⟨45,[(2,.pv (gC g)),(3,.pv (pC p)),(7,ints o),(8,.rs 17 0 X.length),(9,.I X.length),(10,.pv (xE x)),(11,.I 0)],[(17,some ⟨5,X.map xE,0⟩)],900⟩ rfl ?_ ?_
  ·simp [hoi,← hk,h5]
   refine call0e hc (by simp) ?_
   simp
   exact ⟨rfl,Le.go [(17,17)] [780] rfl rfl (by simp) (by simp [fcd])⟩
  refine awp_seq ?_
  refine awp_regc ⟨45,[(2,.pv (gC g)),(3,.pv (pC p)),(7,ints o),(8,.rs 17 0 X.length),(9,.I X.length),(10,.pv (xE x)),(38,.B false)],[(17,some ⟨5,X.map xE,0⟩)],1000⟩ rfl ?_ ?_
  ·simp
   exact Le.go [(17,17)] [] rfl rfl (by simp) (by simp [fcd])
  refine awp_cond _ rfl (fun h=>by cases h) fun _=>?_
  refine awp_skip ?_
  have htX : ∀ h : Expl → List AV,List.take X.length (List.map h X) = List.map h X:=fun h=>List.take_of_length_le (by simp)
  refine awp_run (s:=?s19) rfl ?o19 ?q19
  case o19=>simp [htX]; refine ⟨by omega,by omega,?_⟩; rfl
  refine awp_run (s:=?s20) rfl ?o20 ?q20
  case o20=>simp; rfl
  have hxl : (X ++ [x]).length = X.length + 1:=by simp
  refine ⟨⟨X ++ [x]⟩,⟨by simp only [hxl]; omega,fun i h1 h2=>?_⟩,by simp only [hxl]; omega,Le.go [(1024,17)] [] rfl rfl (by simp [hwi]) (by simp [fcd])⟩
  have h1' : i < X.length + 1:=by rw [← hxl]; exact h1
  by_cases hi : i < X.length
  ·rw [List.getElem_append_left hi]
   exact hXr i hi h2
  ·obtain rfl : i = X.length:=by omega
   rw [List.getElem_concat_length rfl]
   exact hx
 simp at h5
 refine awp_exit ?_
 refine hit ?_
 have htX : ∀ h : Expl → List AV,List.take X.length (List.map h X) = List.map h X:=fun h=>List.take_of_length_le (by simp)
 refine awp_regc ⟨45,[(4,eXs X),(5,.I 0)],[],800⟩ rfl ?_ ?_
 ·simp
  exact Le.go [] [17] rfl rfl (by simp [fcd,htX]) (by simp)
 refine awp_ret ?_
 exact PostX.mk (.inr rfl) X ⟨by omega,hXr⟩ (RetOk.out [] [] rfl (by simp) (by simp) (by simp) (by simp))
set_option maxRecDepth 100000 in
theorem ref23_SameInts_ok (a b : List Int) (ha : a.length ≤ 140737488355328) (hb : b.length ≤ 140737488355328) : ACalls Tryz.prog nref23_SameInts [ints a,ints b] [] (.B (decide (a = b))) []:=by
 refine sref23_SameInts.acalls (Nat.le_of_ble_eq_true rfl) (Nat.le_of_ble_eq_true rfl) (Nat.le_refl _) ?_
 show awp _ 0 _ _ ⟨26,[(0,ints a),(1,ints b)],[],16⟩
 refine awp_regc ⟨26,[(0,ints a),(1,ints b)],[],100⟩ rfl ?_ ?_
 ·simp
  exact Le.go [] [] rfl rfl (by simp) (by simp)
 refine awp_seq ?_
 refine awp_regc ⟨26,[(0,ints a),(1,ints b),(10,.B (!decide (a.length = b.length)))],[],200⟩ rfl ?_ ?_
 ·simp
  exact Le.go [] [] rfl rfl (by simp <;> exact wkB (by rw [Bool.eq_iff_iff]; simp; omega)) (by simp)
 refine awp_cond _ rfl (fun h=>?_) fun h=>?_
 ·simp at h
  have hn : ¬ a = b:=fun e=>h (by rw [e])
  refine awp_regc ⟨26,[(4,.B false)],[],300⟩ rfl ?_ ?_
  ·simp
   exact Le.go [] [] rfl rfl (by simp) (by simp)
  refine awp_ret ?_
  exact ⟨.inr rfl,RetOk.one (by simp [hn])⟩
 simp at h
 refine awp_skip ?_
 refine awp_seq ?_
 refine awp_regc ⟨26,[(0,ints a),(1,ints b),(5,.I 0)],[],300⟩ rfl ?_ ?_
 ·simp
  exact Le.go [] [] rfl rfl (by simp) (by simp)
 refine awp_block ?_
 refine awp_loop (ι:=Nat) (fun i=>⟨26,[(0,ints a),(1,ints b),(5,.I i)],[],300⟩) (fun i=>i ≤ a.length ∧ a.take i = b.take i) (fun i=>a.length - i) 0 (by simp) (Le.go [] [] rfl rfl (by simp) (by simp)) ?_
 rintro i ⟨hi,hp⟩
 refine awp_seq ?_
 refine awp_regc ⟨26,[(0,ints a),(1,ints b),(5,.I i),(14,.B (decide (i < a.length)))],[],400⟩ rfl ?_ ?_
 ·simp
  exact Le.go [] [] rfl rfl (by simp) (by simp)
 refine awp_cond _ rfl (fun h7=>?_) fun h7=>?_
 ·simp at h7
  have hib : i < b.length:=by omega
  have hw : IntKind.i64.wrap ((i : Int) + 1) = (i : Int) + 1:=w64 (by omega) (by omega)
  refine awp_skip ?_
  refine awp_seq ?_
  refine awp_block ?_
  refine awp_dregc ⟨26,[(0,ints a),(1,ints b),(5,.I i),(25,.B (!decide (a[i] = b[i])))],[],600⟩ rfl ?_ ?_
  ·simp [h7,hib]
   exact ⟨rfl,Le.go [] [] rfl rfl (by simp <;> exact wkB (by rw [Bool.eq_iff_iff]; simp)) (by simp)⟩
  refine awp_cond _ rfl (fun h9=>?_) fun h9=>?_
  ·simp at h9
   have hn : ¬ a = b:=fun e=>by subst e; exact h9 rfl
   refine awp_regc ⟨26,[(4,.B false)],[],700⟩ rfl ?_ ?_
   ·simp
    exact Le.go [] [] rfl rfl (by simp) (by simp)
   refine awp_ret ?_
   exact ⟨.inr rfl,RetOk.one (by simp [hn])⟩
  simp at h9
  refine awp_skip ?_
  refine awp_run (s:=?s11) rfl ?o11 ?q11
  case o11=>simp; rfl
  refine ⟨i + 1,⟨h7,?_⟩,by omega,Le.go [] [] rfl rfl (by simp [hw]) (by simp)⟩
  rw [List.take_succ_eq_append_getElem h7,List.take_succ_eq_append_getElem hib,hp,h9]
 simp at h7
 have he : a = b:=by
  have h1 : i = a.length:=by omega
  rw [h1,List.take_length,h,List.take_length] at hp
  exact hp
 refine awp_exit ?_
 refine hit ?_
 refine awp_regc ⟨26,[(4,.B true)],[],700⟩ rfl ?_ ?_
 ·simp
  exact Le.go [] [] rfl rfl (by simp) (by simp)
 refine awp_ret ?_
 exact ⟨.inr rfl,RetOk.one (by simp [he])⟩
def accX (X : List Expl) : List Int:=(X.filter fun x=>x.acc).map fun x=>x.key
theorem accX_succ {X : List Expl} {i : Nat} (h : i < X.length) : accX (X.take (i + 1)) = accX (X.take i) ++ if X[i].acc = true then [X[i].key] else []:=by
 unfold accX
 rw [List.take_succ_eq_append_getElem h,List.filter_append,List.map_append]
 congr 1
 simp only [List.filter_cons,List.filter_nil]
 split <;> rfl
theorem accX_len (X : List Expl) : (accX X).length ≤ X.length:=by
 unfold accX
 rw [List.length_map]
 exact List.length_filter_le ..
def InOrder (order : List Int) (X : List Expl) (n : Nat) : Prop:=∀ i (h1 : i < X.length) (h2 : i < order.length),i < n → X[i].key = order[i] ∧ X[i].before = accX (X.take i)
def firstE (chk : Expl → Int) : List Expl → Int
 | []=>0
 | x :: X=>if chk x = 0 then firstE chk X else chk x
open Classical in
noncomputable def allV (order : List Int) (chk : Expl → Int) (X : List Expl) : List Int × Int :=
 if X.length = order.length ∧ InOrder order X X.length then (if firstE chk X = 0 then (accX X,0) else ([],firstE chk X)) else ([],1)
theorem firstE_at {chk : Expl → Int} : ∀ {X : List Expl} {i : Nat} (h : i < X.length),(∀ j (hj : j < X.length),j < i → chk X[j] = 0) → chk X[i] ≠ 0 → firstE chk X = chk X[i]
 | x :: X,0,_,_,h=>if_neg h
 | x :: X,i + 1,hi,hp,h=>by
   have h0 : chk x = 0:=hp 0 (by simp) (Nat.succ_pos i)
   show (if chk x = 0 then firstE chk X else chk x) = _
   rw [if_pos h0]
   exact firstE_at (by simpa using hi) (fun j hj hji=>hp (j + 1) (by simpa using hj) (by omega)) h
theorem firstE_none {chk : Expl → Int} : ∀ {X : List Expl},(∀ j (hj : j < X.length),chk X[j] = 0) → firstE chk X = 0
 | [],_=>rfl
 | x :: X,h=>by
   show (if chk x = 0 then firstE chk X else chk x) = _
   rw [if_pos (show chk x = 0 from h 0 (by simp))]
   exact firstE_none fun j hj=>h (j + 1) (by simpa using hj)
set_option maxRecDepth 100000 in
set_option maxHeartbeats 4000000 in
open Classical in
theorem ref44_All_ok (g : Gr) (p : Pol) (X : List Expl) (hg : GrOk g) (hp : PolOk g.size p) (hs : p.seeds.length ≤ 64) (hX : X.length ≤ 1000) (hXs : ∀ x ∈ X,SmallX x) :
  ACalls Tryz.prog nref44_All [eG g,eP p,eXs X] [] (.tup [ints (allV (ordL (levelG g p.lv) p.seeds) (checkAll g p) X).1,.I (allV (ordL (levelG g p.lv) p.seeds) (checkAll g p) X).2]) []:=by
 refine sref44_All.acalls (Nat.le_of_ble_eq_true rfl) (Nat.le_of_ble_eq_true rfl) (Nat.le_refl _) ?_
 show awp _ 0 _ _ ⟨84,[(0,eG g),(1,eP p),(2,eXs X)],[],16⟩
 have hsz:=hg.1.1
 have hsz2:=hg.1.2.1
 have hel:=hg.edges_le
 have hgl:=hg.gone_le
 have hpt:=hp.2.2.2.1
 have hchk:=ref13_Check_ok g p (by omega) (by omega) (by omega) (by omega)
 rw [if_pos hg,if_pos hp] at hchk
 have hre:=ref44_reached_ok g p hg (by omega)
 have hck:=fun x hx=>ref44_Check_ok g p x (by omega) (by omega) (by omega) (by omega) (hXs x hx)
 obtain ⟨o,ho⟩ : ∃ o,o = ordL (levelG g p.lv) p.seeds:=⟨_,rfl⟩
 obtain ⟨chk,hchkd⟩ : ∃ chk,chk = checkAll g p:=⟨_,rfl⟩
 have hol : o.length ≤ 64:=by
  have h1:=ordL_len (g:=levelG g p.lv) (S:=p.seeds) hsz
  have h2 : (levelG g p.lv).size = g.size:=rfl
  rw [← ho] at h1
  omega
 rw [← ho] at hre ⊢
 rw [← hchkd] at hck ⊢
 refine awp_regc ⟨84,[(2,eXs X),(3,.pv (gC g)),(4,.pv (pC p))],[],100⟩ rfl ?_ ?_
 ·simp
  exact Le.go [] [16,24] rfl rfl (by simp) (by simp)
 refine awp_seq ?_
 refine awp_regc ⟨84,[(2,eXs X),(3,.pv (gC g)),(4,.pv (pC p)),(8,.I 0)],[],200⟩ rfl ?_ ?_
 ·simp
  refine call0e hchk (by simp) ?_
  simp
  exact Le.go [] [] rfl rfl (by simp) (by simp)
 refine awp_regc ⟨84,[(2,eXs X),(3,.pv (gC g)),(4,.pv (pC p)),(18,.B false)],[],300⟩ rfl ?_ ?_
 ·simp
  exact Le.go [] [] rfl rfl (by simp) (by simp)
 refine awp_cond _ rfl (fun h=>by cases h) fun _=>?_
 refine awp_skip ?_
 refine awp_regc ⟨84,[(2,eXs X),(3,.pv (gC g)),(4,.pv (pC p)),(9,ints o)],[],400⟩ rfl ?_ ?_
 ·simp
  refine callN1 hre (by simp) ?_
  simp
  exact Le.go [] [316] rfl rfl (by simp [take_map_len,fcd]) (by simp)
 refine awp_seq ?_
 refine awp_regc ⟨84,[(2,eXs X),(3,.pv (gC g)),(4,.pv (pC p)),(9,ints o),(27,.B (!decide (X.length = o.length)))],[],500⟩ rfl ?_ ?_
 ·simp
  exact Le.go [] [] rfl rfl (by simp <;> exact wkB (by rw [Bool.eq_iff_iff]; simp; omega)) (by simp)
 refine awp_cond _ rfl (fun h=>?_) fun h=>?_
 ·simp at h
  have ha : allV o chk X = ([],1):=if_neg fun hh=>h hh.1
  rw [ha]
  refine awp_regc ⟨84,[(6,.nilS),(7,.I 1)],[],600⟩ rfl ?_ ?_
  ·simp
   exact Le.go [] [] rfl rfl (by simp) (by simp)
  refine awp_ret ?_
  exact ⟨.inr rfl,RetOk.out [] [] rfl (by simp) (by simp) (by simp; exact wkT2 (.nil _ _) (.refl _)) (by simp)⟩
 simp at h
 refine awp_skip ?_
 refine awp_regc ⟨84,[(2,eXs X),(3,.pv (gC g)),(4,.pv (pC p)),(9,ints o),(10,.nilS)],[],600⟩ rfl ?_ ?_
 ·simp
  exact Le.go [] [] rfl rfl (by simp) (by simp)
 refine awp_seq ?_
 refine awp_regc ⟨84,[(2,eXs X),(3,.pv (gC g)),(4,.pv (pC p)),(9,ints o),(10,.nilS),(11,.I 0)],[],700⟩ rfl ?_ ?_
 ·simp
  exact Le.go [] [] rfl rfl (by simp) (by simp)
 refine awp_block ?_
 refine awp_loop (ι:=Nat) (fun i=>⟨84,[(2,eXs X),(3,.pv (gC g)),(4,.pv (pC p)),(9,ints o),(10,.rs 17 0 (accX (X.take i)).length),(11,.I i)],[(17,some ⟨1,rowsI (accX (X.take i)),0⟩)],700⟩) (fun i=>i ≤ X.length ∧ InOrder o X i) (fun i=>X.length - i) 0 ⟨Nat.zero_le _,fun i _ _ hh=>absurd hh (Nat.not_lt_zero _)⟩
  (Le.lst [] [] [(17,1)] rfl (by simp) (by simp) (by simp) (by simp) (by simp) (by simp) (by simp) (by simp [Up,accX]) (by simp [accX])) ?_
 rintro i ⟨hi,hio⟩
 have hacl:=accX_len (X.take i)
 have htl:=List.length_take_le' i X
 refine awp_seq ?_
 refine awp_regc ⟨84,[(2,eXs X),(3,.pv (gC g)),(4,.pv (pC p)),(9,ints o),(10,.rs 17 0 (accX (X.take i)).length),(11,.I i),(31,.B (decide (i < X.length)))],[(17,some ⟨1,rowsI (accX (X.take i)),0⟩)],800⟩ rfl ?_ ?_
 ·simp
  exact Le.go [(17,17)] [] rfl rfl (by simp) (by simp [fcd])
 refine awp_cond _ rfl (fun h7=>?_) fun h7=>?_
 ·simp at h7
  have hiO : i < o.length:=by omega
  have hw : IntKind.i64.wrap ((i : Int) + 1) = (i : Int) + 1:=w64 (by omega) (by omega)
  have hsu:=accX_succ h7
  obtain ⟨x,hx⟩ : ∃ x,x = X[i]:=⟨_,rfl⟩
  have hxm : x ∈ X:=hx ▸ List.getElem_mem h7
  have hxs:=hXs x hxm
  have hXi : X[i]? = some x:=by rw [List.getElem?_eq_getElem h7,hx]
  obtain ⟨k,hk⟩ : ∃ k,k = o[i]:=⟨_,rfl⟩
  have hoi : o[i]? = some k:=by rw [List.getElem?_eq_getElem hiO,hk]
  rw [← hx] at hsu
  obtain ⟨E,hE⟩ : ∃ E,E = accX (X.take i):=⟨_,rfl⟩
  rw [← hE] at hsu hacl ⊢
  have hsame:=ref23_SameInts_ok x.before E (by have:=hxs.b; omega) (by omega)
  refine awp_skip ?_
  refine awp_seq ?_
  refine awp_block ?_
  refine awp_seq ?_
  refine awp_dregc ⟨84,[(2,eXs X),(3,.pv (gC g)),(4,.pv (pC p)),(9,ints o),(10,.rs 17 0 E.length),(11,.I i),(53,.B (!decide (x.key = k ∧ x.before = E)))],[(17,some ⟨1,rowsI E,0⟩)],1000⟩ rfl ?_ ?_
  ·simp [hXi,hoi,hiO,h7,← hx,← hk]
   refine gcase (fun hb=>?_) (fun hb=>?_)
   ·rw [hb]
    simp at hb
    simp
    exact ⟨rfl,Le.go [(17,17)] [] rfl rfl (by simp [hb]) (by simp [fcd])⟩
   ·rw [hb]
    simp at hb
    simp [hXi,h7,← hx]
    refine call0s [17] hsame (by simp [fcd,take_map_len]) (.sc _) ?_
    simp
    exact ⟨rfl,Le.go [(17,17)] [] rfl rfl (by simp [hb]) (by simp [fcd])⟩
  refine awp_cond _ rfl (fun h9=>?_) fun h9=>?_
  ·have h9' : ¬ (x.key = k ∧ x.before = E):=fun hh=>by rw [decide_eq_true hh] at h9; cases h9
   have ha : allV o chk X = ([],1):=if_neg fun hh=>h9' (by have:=hh.2 i h7 hiO h7; rw [← hx,← hk,← hE] at this; exact this)
   rw [ha]
   refine awp_regc ⟨84,[(6,.nilS),(7,.I 1)],[],1200⟩ rfl ?_ ?_
   ·simp
    exact Le.go [] [] rfl rfl (by simp) (by simp)
   refine awp_ret ?_
   exact ⟨.inr rfl,RetOk.out [] [] rfl (by simp) (by simp) (by simp; exact wkT2 (.nil _ _) (.refl _)) (by simp)⟩
  have h9' : x.key = k ∧ x.before = E:=by simpa using h9
  have hio2 : InOrder o X (i + 1):=fun j h1 h2 hj=>by
   rcases Nat.lt_succ_iff_lt_or_eq.1 hj with hh | rfl
   ·exact hio j h1 h2 hh
   ·rw [← hx,← hk,← hE]; exact h9'
  refine awp_skip ?_
  refine awp_regc ⟨84,[(2,eXs X),(3,.pv (gC g)),(4,.pv (pC p)),(9,ints o),(10,.rs 17 0 E.length),(11,.I i),(58,.B x.acc)],[(17,some ⟨1,rowsI E,0⟩)],1200⟩ rfl ?_ ?_
  ·simp [hXi,h7,← hx]
   exact Le.go [(17,17)] [] rfl rfl (by simp) (by simp [fcd])
  refine awp_cond _ rfl (fun h10=>?_) fun h10=>?_
  ·rw [if_pos h10] at hsu
   refine awp_run (s:=?s19) rfl ?o19 ?q19
   case o19=>simp [hXi,h7,← hx,take_map_len]; refine ⟨by omega,by omega,?_⟩; rfl
   refine awp_run (s:=?s20) rfl ?o20 ?q20
   case o20=>simp; rfl
   exact ⟨i + 1,⟨h7,hio2⟩,by omega,Le.go [(1256,17)] [] rfl rfl (by simp [hsu,hw]) (by simp [hsu,fcd])⟩
  ·rw [if_neg (by rw [h10]; decide),List.append_nil] at hsu
   refine awp_skip ?_
   refine awp_run (s:=?s21) rfl ?o21 ?q21
   case o21=>simp; rfl
   exact ⟨i + 1,⟨h7,hio2⟩,by omega,Le.go [(17,17)] [] rfl rfl (by simp [hsu,hw]) (by simp [hsu,fcd])⟩
 simp at h7
 obtain rfl : i = X.length:=by omega
 rw [List.take_length]
 have hal : allV o chk X = if firstE chk X = 0 then (accX X,0) else ([],firstE chk X):=if_pos ⟨h,hio⟩
 refine awp_exit ?_
 refine hit ?_
 refine awp_seq ?_
 refine awp_regc ⟨84,[(2,eXs X),(3,.pv (gC g)),(4,.pv (pC p)),(10,ints (accX X)),(12,.I 0)],[],900⟩ rfl ?_ ?_
 ·simp
  exact Le.go [] [17] rfl rfl (by simp [fcd,take_map_len]) (by simp)
 refine awp_block ?_
 refine awp_loop (ι:=Nat) (fun i=>⟨84,[(2,eXs X),(3,.pv (gC g)),(4,.pv (pC p)),(10,ints (accX X)),(12,.I i)],[],900⟩) (fun i=>i ≤ X.length ∧ ∀ j (hj : j < X.length),j < i → chk X[j] = 0) (fun i=>X.length - i) 0 ⟨Nat.zero_le _,fun j _ hh=>absurd hh (Nat.not_lt_zero _)⟩
  (Le.go [] [] rfl rfl (by simp) (by simp)) ?_
 rintro i ⟨hi,hip⟩
 refine awp_seq ?_
 refine awp_regc ⟨84,[(2,eXs X),(3,.pv (gC g)),(4,.pv (pC p)),(10,ints (accX X)),(12,.I i),(70,.B (decide (i < X.length)))],[],1000⟩ rfl ?_ ?_
 ·simp
  exact Le.go [] [] rfl rfl (by simp) (by simp)
 refine awp_cond _ rfl (fun h7=>?_) fun h7=>?_
 ·simp at h7
  have hw : IntKind.i64.wrap ((i : Int) + 1) = (i : Int) + 1:=w64 (by omega) (by omega)
  have hfa:=firstE_at (chk:=chk) h7 hip
  have hckx:=hck _ (List.getElem_mem h7)
  obtain ⟨x,hx⟩ : ∃ x,x = X[i]:=⟨_,rfl⟩
  have hXi : X[i]? = some x:=by rw [List.getElem?_eq_getElem h7,hx]
  rw [← hx] at hckx hfa
  obtain ⟨e,he⟩ : ∃ e,e = chk x:=⟨_,rfl⟩
  rw [← he] at hckx hfa
  refine awp_skip ?_
  refine awp_seq ?_
  refine awp_block ?_
  refine awp_dregc ⟨84,[(2,eXs X),(3,.pv (gC g)),(4,.pv (pC p)),(10,ints (accX X)),(12,.I i),(13,.I e)],[],1200⟩ rfl ?_ ?_
  ·simp [hXi,h7,← hx]
   refine call0e hckx (by simp) ?_
   simp
   exact ⟨rfl,Le.go [] [] rfl rfl (by simp) (by simp)⟩
  refine awp_regc ⟨84,[(2,eXs X),(3,.pv (gC g)),(4,.pv (pC p)),(10,ints (accX X)),(12,.I i),(13,.I e),(81,.B (!decide (e = 0)))],[],1300⟩ rfl ?_ ?_
  ·simp
   exact Le.go [] [] rfl rfl (by simp <;> exact wkB (by rw [Bool.eq_iff_iff]; simp)) (by simp)
  refine awp_cond _ rfl (fun h9=>?_) fun h9=>?_
  ·simp at h9
   have hf:=hfa h9
   have ha : allV o chk X = ([],e):=by rw [hal,if_neg (by rw [hf]; exact h9),hf]
   rw [ha]
   refine awp_regc ⟨84,[(6,.nilS),(7,.I e)],[],1400⟩ rfl ?_ ?_
   ·simp
    exact Le.go [] [] rfl rfl (by simp) (by simp)
   refine awp_ret ?_
   exact ⟨.inr rfl,RetOk.out [] [] rfl (by simp) (by simp) (by simp; exact wkT2 (.nil _ _) (.refl _)) (by simp)⟩
  simp at h9
  refine awp_skip ?_
  refine awp_run (s:=?s31) rfl ?o31 ?q31
  case o31=>simp; rfl
  refine ⟨i + 1,⟨h7,fun j hj hlt=>?_⟩,by omega,Le.go [] [] rfl rfl (by simp [hw]) (by simp)⟩
  rcases Nat.lt_succ_iff_lt_or_eq.1 hlt with hh | rfl
  ·exact hip j hj hh
  ·rw [← hx,← he]; exact h9
 simp at h7
 have hf0 : firstE chk X = 0:=firstE_none fun j hj=>hip j hj (by omega)
 have ha : allV o chk X = (accX X,0):=by rw [hal,if_pos hf0]
 rw [ha]
 refine awp_exit ?_
 refine hit ?_
 refine awp_regc ⟨84,[(6,ints (accX X)),(7,.I 0)],[],1400⟩ rfl ?_ ?_
 ·simp
  exact Le.go [] [] rfl rfl (by simp) (by simp)
 refine awp_ret ?_
 exact ⟨.inr rfl,RetOk.out [] [] rfl (by simp) (by simp) (by simp) (by simp)⟩
set_option maxRecDepth 100000 in
set_option maxHeartbeats 4000000 in
open Classical in
theorem checker_All_ok (g : Gr) (p : Pol) (X : List Expl) (hg : GrOk g) (hp : PolOk g.size p) (hN : g.size < 20) (hs : p.seeds.length ≤ 64) (hX : X.length ≤ 1000) (hXs : ∀ x ∈ X,SmallX x) :
  ACalls Tryz.prog nchecker_All [eG g,eP p,eXs X] [] (.tup [ints (allV (ordL (levelG g p.lv) p.seeds) (checkAll g p) X).1,.I (allV (ordL (levelG g p.lv) p.seeds) (checkAll g p) X).2]) []:=by
 refine schecker_All.acalls (Nat.le_of_ble_eq_true rfl) (Nat.le_of_ble_eq_true rfl) (Nat.le_refl _) ?_
 show awp _ 0 _ _ ⟨77,[(0,eG g),(1,eP p),(2,eXs X)],[],16⟩
 have hsz:=hg.1.1
 have hsz2:=hg.1.2.1
 have hel:=hg.edges_le
 have hgl:=hg.gone_le
 have hpt:=hp.2.2.2.1
 have hchk:=capacity_Check_ok g p (by omega) (by omega) (by omega) (by omega)
 rw [if_pos hg,if_pos hp] at hchk
 have hof:=checker_of_ok g p hg hN (by omega)
 have hck:=fun x hx=>engine_check_ok g p x hg hp hN hs (hXs x hx)
 have hcc : ∀ x,checkC g p x = checkAll g p x:=fun x=>by unfold checkAll; rw [if_pos hg,if_pos hp]
 simp only [hcc] at hck
 obtain ⟨o,ho⟩ : ∃ o,o = ordL (levelG g p.lv) p.seeds:=⟨_,rfl⟩
 obtain ⟨chk,hchkd⟩ : ∃ chk,chk = checkAll g p:=⟨_,rfl⟩
 have hol : o.length ≤ 64:=by
  have h1:=ordL_len (g:=levelG g p.lv) (S:=p.seeds) hsz
  have h2 : (levelG g p.lv).size = g.size:=rfl
  rw [← ho] at h1
  omega
 simp only [engP] at hof hck
 rw [← ho] at hof ⊢
 rw [← hchkd]
 simp only [← ho,← hchkd] at hck
 obtain ⟨lg,hlg⟩ : ∃ lg,lg = levelG g p.lv:=⟨_,rfl⟩
 obtain ⟨cs,hcs⟩ : ∃ cs,cs = capsL g p:=⟨_,rfl⟩
 rw [← hlg,← hcs] at hof
 simp only [← hlg,← hcs] at hck
 refine awp_regc ⟨77,[(2,eXs X),(3,.pv (gC g)),(4,.pv (pC p))],[],100⟩ rfl ?_ ?_
 ·simp
  exact Le.go [] [16,24] rfl rfl (by simp) (by simp)
 refine awp_seq ?_
 refine awp_regc ⟨77,[(2,eXs X),(3,.pv (gC g)),(4,.pv (pC p)),(8,.I 0)],[],200⟩ rfl ?_ ?_
 ·simp
  refine call0e hchk (by simp) ?_
  simp
  exact Le.go [] [] rfl rfl (by simp) (by simp)
 refine awp_regc ⟨77,[(2,eXs X),(3,.pv (gC g)),(4,.pv (pC p)),(20,.B false)],[],300⟩ rfl ?_ ?_
 ·simp
  exact Le.go [] [] rfl rfl (by simp) (by simp)
 refine awp_cond _ rfl (fun h=>by cases h) fun _=>?_
 refine awp_skip ?_
 refine awp_regc ⟨77,[(2,eXs X),(3,.pv (gC g)),(4,.pv (pC p)),(9,.pv (xC lg p.seeds cs o))],[],400⟩ rfl ?_ ?_
 ·simp
  refine call0e hof (by simp) ?_
  simp
  exact Le.go [] [324] rfl rfl (by simp) (by simp)
 refine awp_seq ?_
 refine awp_regc ⟨77,[(2,eXs X),(3,.pv (gC g)),(4,.pv (pC p)),(9,.pv (xC lg p.seeds cs o)),(30,.B (!decide (X.length = o.length)))],[],500⟩ rfl ?_ ?_
 ·simp
  exact Le.go [] [] rfl rfl (by simp <;> exact wkB (by rw [Bool.eq_iff_iff]; simp; omega)) (by simp)
 refine awp_cond _ rfl (fun h=>?_) fun h=>?_
 ·simp at h
  have ha : allV o chk X = ([],1):=if_neg fun hh=>h hh.1
  rw [ha]
  refine awp_regc ⟨77,[(6,.nilS),(7,.I 1)],[],600⟩ rfl ?_ ?_
  ·simp
   exact Le.go [] [] rfl rfl (by simp) (by simp)
  refine awp_ret ?_
  exact ⟨.inr rfl,RetOk.out [] [] rfl (by simp) (by simp) (by simp; exact wkT2 (.nil _ _) (.refl _)) (by simp)⟩
 simp at h
 refine awp_skip ?_
 refine awp_regc ⟨77,[(2,eXs X),(3,.pv (gC g)),(4,.pv (pC p)),(9,.pv (xC lg p.seeds cs o)),(10,.nilS)],[],600⟩ rfl ?_ ?_
 ·simp
  exact Le.go [] [] rfl rfl (by simp) (by simp)
 refine awp_seq ?_
 refine awp_regc ⟨77,[(2,eXs X),(3,.pv (gC g)),(4,.pv (pC p)),(9,.pv (xC lg p.seeds cs o)),(10,.nilS),(31,eXs X),(32,.I X.length),(33,.I 0)],[],700⟩ rfl ?_ ?_
 ·simp
  exact Le.go [] [] rfl rfl (by simp) (by simp)
 refine awp_block ?_
 refine awp_loop (ι:=Nat) (fun i=>⟨77,[(2,eXs X),(3,.pv (gC g)),(4,.pv (pC p)),(9,.pv (xC lg p.seeds cs o)),(10,.rs 17 0 (accX (X.take i)).length),(31,eXs X),(32,.I X.length),(33,.I i)],[(17,some ⟨1,rowsI (accX (X.take i)),0⟩)],700⟩) (fun i=>i ≤ X.length ∧ InOrder o X i) (fun i=>X.length - i) 0 ⟨Nat.zero_le _,fun i _ _ hh=>absurd hh (Nat.not_lt_zero _)⟩
  (Le.lst [] [] [(17,1)] rfl (by simp) (by simp) (by simp) (by simp) (by simp) (by simp) (by simp) (by simp [Up,accX]) (by simp [accX])) ?_
 rintro i ⟨hi,hio⟩
 have hacl:=accX_len (X.take i)
 have htl:=List.length_take_le' i X
 refine awp_regc ⟨77,[(2,eXs X),(3,.pv (gC g)),(4,.pv (pC p)),(9,.pv (xC lg p.seeds cs o)),(10,.rs 17 0 (accX (X.take i)).length),(31,eXs X),(32,.I X.length),(33,.I i),(34,.B (decide (i < X.length)))],[(17,some ⟨1,rowsI (accX (X.take i)),0⟩)],800⟩ rfl ?_ ?_
 ·simp
  exact Le.go [(17,17)] [] rfl rfl (by simp) (by simp [fcd])
 refine awp_seq ?_
 refine awp_cond _ rfl (fun h7=>?_) fun h7=>?_
 ·simp at h7
  have hiO : i < o.length:=by omega
  have hw : IntKind.i64.wrap ((i : Int) + 1) = (i : Int) + 1:=w64 (by omega) (by omega)
  have hsu:=accX_succ h7
  obtain ⟨x,hx⟩ : ∃ x,x = X[i]:=⟨_,rfl⟩
  have hxm : x ∈ X:=hx ▸ List.getElem_mem h7
  have hxs:=hXs x hxm
  have hXi : X[i]? = some x:=by rw [List.getElem?_eq_getElem h7,hx]
  obtain ⟨k,hk⟩ : ∃ k,k = o[i]:=⟨_,rfl⟩
  have hoi : o[i]? = some k:=by rw [List.getElem?_eq_getElem hiO,hk]
  rw [← hx] at hsu
  obtain ⟨E,hE⟩ : ∃ E,E = accX (X.take i):=⟨_,rfl⟩
  rw [← hE] at hsu hacl ⊢
  have hsame:=EqualI_ok x.before E (by have:=hxs.b; omega)
  refine awp_skip ?_
  refine awp_seq ?_
  refine awp_block ?_
  refine awp_regc ⟨77,[(2,eXs X),(3,.pv (gC g)),(4,.pv (pC p)),(9,.pv (xC lg p.seeds cs o)),(10,.rs 17 0 E.length),(31,eXs X),(32,.I X.length),(33,.I i),(11,.I i),(12,.pv (xE x))],[(17,some ⟨1,rowsI E,0⟩)],900⟩ rfl ?_ ?_
  ·simp [hXi,h7,← hx]
   exact Le.go [(17,17)] [824] rfl rfl (by simp) (by simp [fcd])
  refine awp_seq ?_
  refine awp_dregc ⟨77,[(2,eXs X),(3,.pv (gC g)),(4,.pv (pC p)),(9,.pv (xC lg p.seeds cs o)),(10,.rs 17 0 E.length),(31,eXs X),(32,.I X.length),(33,.I i),(12,.pv (xE x)),(52,.B (!decide (x.key = k ∧ x.before = E)))],[(17,some ⟨1,rowsI E,0⟩)],1000⟩ rfl ?_ ?_
  ·simp [hXi,hoi,hiO,h7,← hx,← hk]
   refine gcase (fun hb=>?_) (fun hb=>?_)
   ·rw [hb]
    simp at hb
    simp
    exact ⟨rfl,Le.go [(17,17)] [] rfl rfl (by simp [hb]) (by simp [fcd])⟩
   ·rw [hb]
    simp at hb
    simp [hXi,h7,← hx]
    refine call0s [17] hsame (by simp [fcd,take_map_len]) (.sc _) ?_
    simp
    exact ⟨rfl,Le.go [(17,17)] [] rfl rfl (by simp [hb]) (by simp [fcd])⟩
  refine awp_cond _ rfl (fun h9=>?_) fun h9=>?_
  ·have h9' : ¬ (x.key = k ∧ x.before = E):=fun hh=>by rw [decide_eq_true hh] at h9; cases h9
   have ha : allV o chk X = ([],1):=if_neg fun hh=>h9' (by have:=hh.2 i h7 hiO h7; rw [← hx,← hk,← hE] at this; exact this)
   rw [ha]
   refine awp_regc ⟨77,[(6,.nilS),(7,.I 1)],[],1200⟩ rfl ?_ ?_
   ·simp
    exact Le.go [] [] rfl rfl (by simp) (by simp)
   refine awp_ret ?_
   exact ⟨.inr rfl,RetOk.out [] [] rfl (by simp) (by simp) (by simp; exact wkT2 (.nil _ _) (.refl _)) (by simp)⟩
  have h9' : x.key = k ∧ x.before = E:=by simpa using h9
  have hio2 : InOrder o X (i + 1):=fun j h1 h2 hj=>by
   rcases Nat.lt_succ_iff_lt_or_eq.1 hj with hh | rfl
   ·exact hio j h1 h2 hh
   ·rw [← hx,← hk,← hE]; exact h9'
  refine awp_skip ?_
  refine awp_regc ⟨77,[(2,eXs X),(3,.pv (gC g)),(4,.pv (pC p)),(9,.pv (xC lg p.seeds cs o)),(10,.rs 17 0 E.length),(31,eXs X),(32,.I X.length),(33,.I i),(12,.pv (xE x)),(54,.B x.acc)],[(17,some ⟨1,rowsI E,0⟩)],1200⟩ rfl ?_ ?_
  ·simp [hXi,h7,← hx]
   exact Le.go [(17,17)] [] rfl rfl (by simp) (by simp [fcd])
  refine awp_cond _ rfl (fun h10=>?_) fun h10=>?_
  ·rw [if_pos h10] at hsu
   refine awp_run (s:=?s19) rfl ?o19 ?q19
   case o19=>simp [hXi,h7,← hx,take_map_len]; refine ⟨by omega,by omega,?_⟩; rfl
   refine awp_run (s:=?s20) rfl ?o20 ?q20
   case o20=>simp; rfl
   exact ⟨i + 1,⟨h7,hio2⟩,by omega,Le.go [(1232,17)] [] rfl rfl (by simp [hsu,hw]) (by simp [hsu,fcd])⟩
  ·rw [if_neg (by rw [h10]; decide),List.append_nil] at hsu
   refine awp_skip ?_
   refine awp_run (s:=?s21) rfl ?o21 ?q21
   case o21=>simp; rfl
   exact ⟨i + 1,⟨h7,hio2⟩,by omega,Le.go [(17,17)] [] rfl rfl (by simp [hsu,hw]) (by simp [hsu,fcd])⟩
 simp at h7
 obtain rfl : i = X.length:=by omega
 rw [List.take_length]
 have hal : allV o chk X = if firstE chk X = 0 then (accX X,0) else ([],firstE chk X):=if_pos ⟨h,hio⟩
 refine awp_exit ?_
 refine hit ?_
 refine awp_seq ?_
 refine awp_regc ⟨77,[(2,eXs X),(3,.pv (gC g)),(4,.pv (pC p)),(10,ints (accX X)),(9,.pv (xC lg p.seeds cs o)),(61,eXs X),(62,.I X.length),(63,.I 0)],[],900⟩ rfl ?_ ?_
 ·simp
  exact Le.go [] [17] rfl rfl (by simp [fcd,take_map_len]) (by simp)
 refine awp_block ?_
 refine awp_loop (ι:=Nat) (fun i=>⟨77,[(2,eXs X),(3,.pv (gC g)),(4,.pv (pC p)),(10,ints (accX X)),(9,.pv (xC lg p.seeds cs o)),(61,eXs X),(62,.I X.length),(63,.I i)],[],900⟩) (fun i=>i ≤ X.length ∧ ∀ j (hj : j < X.length),j < i → chk X[j] = 0) (fun i=>X.length - i) 0 ⟨Nat.zero_le _,fun j _ hh=>absurd hh (Nat.not_lt_zero _)⟩
  (Le.go [] [] rfl rfl (by simp) (by simp)) ?_
 rintro i ⟨hi,hip⟩
 refine awp_regc ⟨77,[(2,eXs X),(3,.pv (gC g)),(4,.pv (pC p)),(10,ints (accX X)),(9,.pv (xC lg p.seeds cs o)),(61,eXs X),(62,.I X.length),(63,.I i),(64,.B (decide (i < X.length)))],[],1000⟩ rfl ?_ ?_
 ·simp
  exact Le.go [] [] rfl rfl (by simp) (by simp)
 refine awp_seq ?_
 refine awp_cond _ rfl (fun h7=>?_) fun h7=>?_
 ·simp at h7
  have hw : IntKind.i64.wrap ((i : Int) + 1) = (i : Int) + 1:=w64 (by omega) (by omega)
  have hfa:=firstE_at (chk:=chk) h7 hip
  have hckx:=hck _ (List.getElem_mem h7)
  obtain ⟨x,hx⟩ : ∃ x,x = X[i]:=⟨_,rfl⟩
  have hXi : X[i]? = some x:=by rw [List.getElem?_eq_getElem h7,hx]
  rw [← hx] at hckx hfa
  obtain ⟨e,he⟩ : ∃ e,e = chk x:=⟨_,rfl⟩
  rw [← he] at hckx hfa
  refine awp_skip ?_
  refine awp_seq ?_
  refine awp_block ?_
  refine awp_regc ⟨77,[(2,eXs X),(3,.pv (gC g)),(4,.pv (pC p)),(10,ints (accX X)),(9,.pv (xC lg p.seeds cs o)),(61,eXs X),(62,.I X.length),(63,.I i),(14,.pv (xE x))],[],1100⟩ rfl ?_ ?_
  ·simp [hXi,h7,← hx]
   exact Le.go [] [1016] rfl rfl (by simp) (by simp)
  refine awp_regc ⟨77,[(2,eXs X),(3,.pv (gC g)),(4,.pv (pC p)),(10,ints (accX X)),(9,.pv (xC lg p.seeds cs o)),(61,eXs X),(62,.I X.length),(63,.I i),(15,.I e)],[],1200⟩ rfl ?_ ?_
  ·simp
   refine call0e hckx (by simp) ?_
   simp
   exact Le.go [] [] rfl rfl (by simp) (by simp)
  refine awp_regc ⟨77,[(2,eXs X),(3,.pv (gC g)),(4,.pv (pC p)),(10,ints (accX X)),(9,.pv (xC lg p.seeds cs o)),(61,eXs X),(62,.I X.length),(63,.I i),(15,.I e),(73,.B (!decide (e = 0)))],[],1300⟩ rfl ?_ ?_
  ·simp
   exact Le.go [] [] rfl rfl (by simp <;> exact wkB (by rw [Bool.eq_iff_iff]; simp)) (by simp)
  refine awp_cond _ rfl (fun h9=>?_) fun h9=>?_
  ·simp at h9
   have hf:=hfa h9
   have ha : allV o chk X = ([],e):=by rw [hal,if_neg (by rw [hf]; exact h9),hf]
   rw [ha]
   refine awp_regc ⟨77,[(6,.nilS),(7,.I e)],[],1400⟩ rfl ?_ ?_
   ·simp
    exact Le.go [] [] rfl rfl (by simp) (by simp)
   refine awp_ret ?_
   exact ⟨.inr rfl,RetOk.out [] [] rfl (by simp) (by simp) (by simp; exact wkT2 (.nil _ _) (.refl _)) (by simp)⟩
  simp at h9
  refine awp_skip ?_
  refine awp_run (s:=?s31) rfl ?o31 ?q31
  case o31=>simp; rfl
  refine ⟨i + 1,⟨h7,fun j hj hlt=>?_⟩,by omega,Le.go [] [] rfl rfl (by simp [hw]) (by simp)⟩
  rcases Nat.lt_succ_iff_lt_or_eq.1 hlt with hh | rfl
  ·exact hip j hj hh
  ·rw [← hx,← he]; exact h9
 simp at h7
 have hf0 : firstE chk X = 0:=firstE_none fun j hj=>hip j hj (by omega)
 have ha : allV o chk X = (accX X,0):=by rw [hal,if_pos hf0]
 rw [ha]
 refine awp_exit ?_
 refine hit ?_
 refine awp_regc ⟨77,[(6,ints (accX X)),(7,.I 0)],[],1400⟩ rfl ?_ ?_
 ·simp
  exact Le.go [] [] rfl rfl (by simp) (by simp)
 refine awp_ret ?_
 exact ⟨.inr rfl,RetOk.out [] [] rfl (by simp) (by simp) (by simp) (by simp)⟩
open Classical in
theorem checker_All_bad (g : Gr) (p : Pol) (X : List Expl) (hl : g.edges.length ≤ 140737488355328) (hl2 : g.gone.length ≤ 140737488355328) (hs : p.seeds.length ≤ 140737488355328) (ht : p.table.length ≤ 140737488355328) (hb : ¬ (GrOk g ∧ PolOk g.size p)) :
  ACalls Tryz.prog nchecker_All [eG g,eP p,eXs X] [] (.tup [ints [],.I (if GrOk g then if PolOk g.size p then 0 else 15 else 14)]) []:=by
 refine schecker_All.acalls (Nat.le_of_ble_eq_true rfl) (Nat.le_of_ble_eq_true rfl) (Nat.le_refl _) ?_
 show awp _ 0 _ _ ⟨77,[(0,eG g),(1,eP p),(2,eXs X)],[],16⟩
 have hchk:=capacity_Check_ok g p hl hl2 hs ht
 obtain ⟨e,he⟩ : ∃ e : Int,e = if GrOk g then if PolOk g.size p then 0 else 15 else 14:=⟨_,rfl⟩
 have hne : e ≠ 0:=by
  rw [he]
  by_cases h1 : GrOk g
  ·rw [if_pos h1,if_neg fun h2=>hb ⟨h1,h2⟩]; decide
  ·rw [if_neg h1]; decide
 rw [← he] at hchk ⊢
 refine awp_regc ⟨77,[(2,eXs X),(3,.pv (gC g)),(4,.pv (pC p))],[],100⟩ rfl ?_ ?_
 ·simp
  exact Le.go [] [16,24] rfl rfl (by simp) (by simp)
 refine awp_seq ?_
 refine awp_regc ⟨77,[(2,eXs X),(3,.pv (gC g)),(4,.pv (pC p)),(8,.I e)],[],200⟩ rfl ?_ ?_
 ·simp
  refine call0e hchk (by simp) ?_
  simp
  exact Le.go [] [] rfl rfl (by simp) (by simp)
 refine awp_regc ⟨77,[(2,eXs X),(3,.pv (gC g)),(4,.pv (pC p)),(8,.I e),(20,.B true)],[],300⟩ rfl ?_ ?_
 ·simp
  exact Le.go [] [] rfl rfl (by simp <;> exact wkB (by simp [hne])) (by simp)
 refine awp_cond _ rfl (fun _=>?_) fun h=>by cases h
 refine awp_regc ⟨77,[(6,.nilS),(7,.I e)],[],600⟩ rfl ?_ ?_
 ·simp
  exact Le.go [] [] rfl rfl (by simp) (by simp)
 refine awp_ret ?_
 exact ⟨.inr rfl,RetOk.out [] [] rfl (by simp) (by simp) (by simp; exact wkT2 (.nil _ _) (.refl _)) (by simp)⟩
open Classical in
theorem ref44_All_bad (g : Gr) (p : Pol) (X : List Expl) (hl : g.edges.length ≤ 140737488355328) (hl2 : g.gone.length ≤ 140737488355328) (hs : p.seeds.length ≤ 140737488355328) (ht : p.table.length ≤ 140737488355328) (hb : ¬ (GrOk g ∧ PolOk g.size p)) :
  ACalls Tryz.prog nref44_All [eG g,eP p,eXs X] [] (.tup [ints [],.I (if GrOk g then if PolOk g.size p then 0 else 15 else 14)]) []:=by
 refine sref44_All.acalls (Nat.le_of_ble_eq_true rfl) (Nat.le_of_ble_eq_true rfl) (Nat.le_refl _) ?_
 show awp _ 0 _ _ ⟨84,[(0,eG g),(1,eP p),(2,eXs X)],[],16⟩
 have hchk:=ref13_Check_ok g p hl hl2 hs ht
 obtain ⟨e,he⟩ : ∃ e : Int,e = if GrOk g then if PolOk g.size p then 0 else 15 else 14:=⟨_,rfl⟩
 have hne : e ≠ 0:=by
  rw [he]
  by_cases h1 : GrOk g
  ·rw [if_pos h1,if_neg fun h2=>hb ⟨h1,h2⟩]; decide
  ·rw [if_neg h1]; decide
 rw [← he] at hchk ⊢
 refine awp_regc ⟨84,[(2,eXs X),(3,.pv (gC g)),(4,.pv (pC p))],[],100⟩ rfl ?_ ?_
 ·simp
  exact Le.go [] [16,24] rfl rfl (by simp) (by simp)
 refine awp_seq ?_
 refine awp_regc ⟨84,[(2,eXs X),(3,.pv (gC g)),(4,.pv (pC p)),(8,.I e)],[],200⟩ rfl ?_ ?_
 ·simp
  refine call0e hchk (by simp) ?_
  simp
  exact Le.go [] [] rfl rfl (by simp) (by simp)
 refine awp_regc ⟨84,[(2,eXs X),(3,.pv (gC g)),(4,.pv (pC p)),(8,.I e),(18,.B true)],[],300⟩ rfl ?_ ?_
 ·simp
  exact Le.go [] [] rfl rfl (by simp <;> exact wkB (by simp [hne])) (by simp)
 refine awp_cond _ rfl (fun _=>?_) fun h=>by cases h
 refine awp_regc ⟨84,[(6,.nilS),(7,.I e)],[],600⟩ rfl ?_ ?_
 ·simp
  exact Le.go [] [] rfl rfl (by simp) (by simp)
 refine awp_ret ?_
 exact ⟨.inr rfl,RetOk.out [] [] rfl (by simp) (by simp) (by simp; exact wkT2 (.nil _ _) (.refl _)) (by simp)⟩
open Classical in
noncomputable def allAns (g : Gr) (p : Pol) (X : List Expl) : List Int × Int :=
 if GrOk g ∧ PolOk g.size p then allV (ordL (levelG g p.lv) p.seeds) (checkAll g p) X else ([],if GrOk g then if PolOk g.size p then 0 else 15 else 14)
theorem checker_All_any (g : Gr) (p : Pol) (X : List Expl) (hl : g.edges.length ≤ 140737488355328) (hl2 : g.gone.length ≤ 140737488355328) (ht : p.table.length ≤ 140737488355328) (hN : g.size < 20) (hs : p.seeds.length ≤ 64) (hX : X.length ≤ 1000) (hXs : ∀ x ∈ X,SmallX x) :
  ACalls Tryz.prog nchecker_All [eG g,eP p,eXs X] [] (.tup [ints (allAns g p X).1,.I (allAns g p X).2]) []:=by
 unfold allAns
 by_cases h : GrOk g ∧ PolOk g.size p
 ·rw [if_pos h]
  exact checker_All_ok g p X h.1 h.2 hN hs hX hXs
 ·rw [if_neg h]
  exact checker_All_bad g p X hl hl2 (by omega) ht h
theorem ref44_All_any (g : Gr) (p : Pol) (X : List Expl) (hl : g.edges.length ≤ 140737488355328) (hl2 : g.gone.length ≤ 140737488355328) (ht : p.table.length ≤ 140737488355328) (hs : p.seeds.length ≤ 64) (hX : X.length ≤ 1000) (hXs : ∀ x ∈ X,SmallX x) :
  ACalls Tryz.prog nref44_All [eG g,eP p,eXs X] [] (.tup [ints (allAns g p X).1,.I (allAns g p X).2]) []:=by
 unfold allAns
 by_cases h : GrOk g ∧ PolOk g.size p
 ·rw [if_pos h]
  exact ref44_All_ok g p X h.1 h.2 hs hX hXs
 ·rw [if_neg h]
  exact ref44_All_bad g p X hl hl2 (by omega) ht h
end Go.Proofs.YtlhjelookgjmpaaGreat
