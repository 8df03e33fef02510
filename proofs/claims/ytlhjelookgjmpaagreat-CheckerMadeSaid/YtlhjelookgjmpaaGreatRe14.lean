/- Texts of this claim,merged. -/
import Derived.Test.YtlhjelookgjmpaaGreatRe13
import Derived.Test.YtlhjelookgjmpaaGreatRe11
import Derived.Test.YtlhjelookgjmpaaGreatRe12
import Derived.Test.YtlhjelookgjmpaaGreatRe9
set_option linter.unusedSimpArgs false
set_option linter.unusedVariables false
set_option linter.unusedSectionVars false
namespace Go.Proofs.YtlhjelookgjmpaaGreat
open Go
abbrev xE (x : Expl) : List AV:=[.I x.key,.B x.acc,ints x.before,pathsV x.paths,ints x.side]
abbrev eX (x : Expl) : AV:=.agg (xE x)
theorem servesE_iff {g : Gr} {lv : Int} {seeds order c : List Int} {P : List (List Int)} {ends : List Int} : ServesE (levelG g lv) seeds order c P ends ↔ ServesC g lv seeds order c P ends:=by
 unfold ServesE ServesC
 simp only [walkC_iff]
theorem rise_join {a : List Int} {n : Int} (h : ∀ k ∈ a,0 ≤ k ∧ k < n) : Rise (joinL a) 0 (n - 1):=by
 intro i hi
 have hm:=mem_joinL.1 (List.getElem_mem hi)
 have:=h _ hm.1
 refine ⟨by omega,by omega,fun hp=>?_⟩
 exact (List.pairwise_iff_getElem.1 (joinL_lt a)) (i - 1) i (by omega) hi (by omega)
theorem joinL_len (a : List Int) : (joinL a).length ≤ 64:=Nat.le_trans (List.length_filter_le ..) (by simp)
def FormX (order : List Int) (x : Expl) : Prop:=¬ BeforeP order x.before x.key ∨ (x.acc = true ∧ x.side ≠ []) ∨ (x.acc = false ∧ x.paths ≠ [])
structure SmallX (x : Expl) : Prop where
 b : x.before.length ≤ 100000
 p : x.paths.length ≤ 100000
 w : ∀ w ∈ x.paths,w.length ≤ 100000
 s : x.side.length ≤ 100000
theorem netArcs_len (g : Gr) (p : Pol) (sinks : List Int) (hg : GrOk g) (hs : p.seeds.length ≤ 64) (hsl : sinks.length ≤ 64) : (netArcs g p (capsL g p) sinks).length ≤ 1000:=by
 rw [netArcs_flat]
 have h1:=flat_len _ (arc1_len (capsL g p)) p.seeds
 have h2:=flat_len _ (arc2_len (capsL g p)) (List.range (capsL g p).length)
 have h3:=flat_len _ (arc3_len (capsL g p)) sinks
 have h4:=flat_len _ (arc4_len (capsL g p)) (levelG g p.lv).edges
 have h5 : (levelG g p.lv).edges.length ≤ g.edges.length:=List.length_filter_le ..
 have h6:=hg.edges_le
 have h7:=hg.1.2.1
 have h8:=hg.1.1
 rw [List.length_range] at h2
 have h9 : (capsL g p).length = g.size.toNat:=capsL_len
 simp only [List.length_append]
 omega
set_option maxRecDepth 100000 in
set_option maxHeartbeats 1000000 in
open Classical in
theorem engine_check_ok (g : Gr) (p : Pol) (x : Expl) (hg : GrOk g) (hp : PolOk g.size p) (hN : g.size < 20) (hs : p.seeds.length ≤ 64) (hx : SmallX x) :
  ACalls Tryz.prog nchecker_engine_check [engP g p,eG g,eP p,eX x] [] (.I (checkC g p x)) []:=by
 refine schecker_engine_check.acalls (Nat.le_of_ble_eq_true rfl) (Nat.le_of_ble_eq_true rfl) (Nat.le_refl _) ?_
 show awp _ 0 _ _ ⟨82,[(0,eEng (levelG g p.lv) p.seeds (capsL g p) (ordL (levelG g p.lv) p.seeds)),(1,eG g),(2,eP p),(3,eX x)],[],16⟩
 have hsz:=hg.1.1
 have hol:=ordL_len (g:=levelG g p.lv) (S:=p.seeds) hsz
 rw [show (levelG g p.lv).size = g.size from rfl] at hol
 have hor : ∀ k ∈ ordL (levelG g p.lv) p.seeds,0 ≤ k ∧ k < g.size:=fun k hk=>by have h:=ordL_range hk; exact h
 have hno:=ordL_nodup (levelG g p.lv) p.seeds
 have hcb:=capsL_bound (g:=g) hp
 have hcl : (capsL g p).length = g.size.toNat:=capsL_len
 have hge : (levelG g p.lv).edges.length ≤ 500:=(hg.level p.lv).edges_le
 have hsrv:=fun (ends : List Int) (hE : ends.length ≤ 1099511627776)=>engine_serve_ok (levelG g p.lv) p.seeds (capsL g p) (ordL (levelG g p.lv) p.seeds) x.paths ends hge (by omega) (by omega) (fun k hk=>by have:=hor k hk; omega) (by omega) hcb hx.p hx.w hE
 have hbef:=fun hk=>engine_before_ok (levelG g p.lv) p.seeds (capsL g p) (ordL (levelG g p.lv) p.seeds) x.before x.key (by omega) (by have:=hx.b; omega) hk
 have hcon:=contains_ok (ordL (levelG g p.lv) p.seeds) x.key (by omega)
 have hnet:=fun (sinks : List Int) h1 h2=>split_Network_ok g p sinks hg hp h1 hs h2
 unfold checkC
 simp only [← servesE_iff]
 obtain ⟨O,hO⟩ : ∃ O,O = ordL (levelG g p.lv) p.seeds:=⟨_,rfl⟩
 obtain ⟨G,hG⟩ : ∃ G,G = levelG g p.lv:=⟨_,rfl⟩
 simp only [← hG] at hO hol hor hno hge hsrv hbef hcon ⊢
 simp only [← hO] at hol hor hno hsrv hbef hcon ⊢
 obtain ⟨C,hC⟩ : ∃ C,C = capsL g p:=⟨_,rfl⟩
 simp only [← hC] at hcb hcl hsrv hbef hnet ⊢
 refine rx (s:=?s1) [4,5,6,7] [] [16,24,32,40] rfl ?o1 ?q1
 case o1=>simp; rfl
 refine awp_seq ?_
 refine rx (s:=?s2) [4,5,6,7,17] [] [] rfl ?o2 ?q2
 case o2=>simp; refine call0e hcon (by simp) ?_; simp; rfl
 refine awp_cond _ rfl (fun h3=>?_) fun h3=>?_
 ·simp at h3
  refine rx (s:=?s4) [8] [] [] rfl ?o4 ?q4
  case o4=>simp; rfl
  refine awp_ret ?_
  exact ⟨.inr rfl,RetOk.one (by simp [h3])⟩
 simp at h3
 refine awp_skip ?_
 refine awp_seq ?_
 refine awp_regc ⟨82,[(4,.pv (xC G p.seeds C O)),(5,.pv (gC g)),(6,.pv (pC p)),(7,.pv (xE x)),(45,.B (decide (FormX O x)))],[],328⟩ rfl ?_ ?_
 ·simp
  refine call0e (hbef h3) (by simp) ?_
  simp
  by_cases hb : BeforeP O x.before x.key
  ·simp [hb]
   cases hac : x.acc with
   | true =>
     simp
     by_cases hsd : x.side.length = 0
     ·have hs0 : x.side = []:=List.length_eq_zero_iff.1 hsd
      have hF : ¬ FormX O x:=by simp [FormX,hb,hac,hs0]
      rw [decide_eq_false hF]
      simp [hsd]
      exact Le.snap [] rfl rfl (by simp [hac,xE,Wk.refl])
     ·have hs0 : x.side ≠ []:=fun h=>hsd (by rw [h]; rfl)
      have hF : FormX O x:=by simp [FormX,hac,hs0]
      have h0 : 0 < x.side.length:=by omega
      rw [decide_eq_true hF]
      simp [h0]
      exact Le.snap [] rfl rfl (by simp [hac,xE,Wk.refl])
   | false =>
     simp
     by_cases hsd : x.paths.length = 0
     ·have hs0 : x.paths = []:=List.length_eq_zero_iff.1 hsd
      have hF : ¬ FormX O x:=by simp [FormX,hb,hac,hs0]
      rw [decide_eq_false hF]
      simp [hsd]
      exact Le.snap [] rfl rfl (by simp [hac,xE,Wk.refl])
     ·have hs0 : x.paths ≠ []:=fun h=>hsd (by rw [h]; rfl)
      have hF : FormX O x:=by simp [FormX,hac,hs0]
      have h0 : 0 < x.paths.length:=by omega
      rw [decide_eq_true hF]
      simp [h0]
      exact Le.snap [] rfl rfl (by simp [hac,xE,Wk.refl])
  ·simp [hb]
   exact Le.snap [] rfl rfl (by simp [FormX,hb])
 refine awp_cond _ rfl (fun h6=>?_) fun h6=>?_
 ·rw [decide_eq_true_eq] at h6
  refine rx (s:=?s7) [8] [] [] rfl ?o7 ?q7
  case o7=>simp; rfl
  refine awp_ret ?_
  refine ⟨.inr rfl,RetOk.one ?_⟩
  unfold FormX at h6
  rw [if_neg (not_not_intro h3),if_pos h6]
  simp
 rw [decide_eq_false_iff_not] at h6
 unfold FormX at h6
 rw [if_neg (not_not_intro h3),if_neg h6]
 have hb : BeforeP O x.before x.key:=Classical.byContradiction fun h=>h6 (.inl h)
 have hnd:=hb.nodup hno
 have hra : ∀ k ∈ x.before ++ [x.key],0 ≤ k ∧ k < g.size:=fun k hk=>by
  rcases List.mem_append.1 hk with hk | hk
  ·exact hor k ((List.takeWhile_sublist _).subset (hb.subset hk))
  ·rw [List.mem_singleton] at hk
   rw [hk]
   exact hor _ h3
 have hbl:=hx.b
 refine awp_skip ?_
 obtain ⟨A,hA⟩ : ∃ A,A = x.before ++ [x.key]:=⟨_,rfl⟩
 have hAl : A.length = x.before.length + 1:=by rw [hA]; simp
 rw [← hA] at hnd hra ⊢
 refine awp_dregc ⟨82,[(4,.pv (xC G p.seeds C O)),(5,.pv (gC g)),(6,.pv (pC p)),(7,.pv (xE x)),(9,ints A)],[],392⟩ rfl ?_ ?_
 ·simp
  refine callN1 (cloneI_ok x.before (by omega)) (by simp) ?_
  simp [fcd,take_map_len]
  refine ⟨by omega,by omega,rfl,Le.snap [376] rfl rfl (by simp [fcd,hA,ints,Wk.refl,List.take_of_length_le])⟩
 refine awp_seq ?_
 refine rx (s:=?s9) [4,5,6,7,9,54] [] [] rfl ?o9 ?q9
 case o9=>simp; rfl
 refine awp_cond _ rfl (fun h10=>?_) fun h10=>?_
 ·rw [if_pos h10]
  refine awp_seq ?_
  refine rx (s:=?s11) [60] [] [] rfl ?o11 ?q11
  case o11=>simp; refine call0e (hsrv A (by omega)) (by simp) ?_; simp; rfl
  refine awp_cond _ rfl (fun h12=>?_) fun h12=>?_
  ·simp at h12
   refine rx (s:=?s13) [8] [] [] rfl ?o13 ?q13
   case o13=>simp; rfl
   refine awp_ret ?_
   exact ⟨.inr rfl,RetOk.one (by simp [h12])⟩
  simp at h12
  refine awp_skip ?_
  refine rx (s:=?s14) [8] [] [] rfl ?o14 ?q14
  case o14=>simp; rfl
  refine awp_ret ?_
  exact ⟨.inr rfl,RetOk.one (by simp [h12])⟩
 rw [if_neg (by simp [h10])]
 have hsj : srt A = joinL A:=srt_join hnd fun k hk=>by have:=hra k hk; omega
 have hsS : (sorted A : List Int) = srt A:=rfl
 have hSl : (srt A).length ≤ 64:=by rw [hsj]; exact joinL_len A
 have hn2:=hnet (srt A) (by rw [hsj]; exact rise_join hra) hSl
 have harc:=netArcs_len g p (srt A) hg hs hSl
 rw [← hC] at harc
 obtain ⟨S,hS⟩ : ∃ S,S = srt A:=⟨_,rfl⟩
 have hSA : S.length = A.length:=by rw [hS,← hsS,sorted_len]
 have hsrt:=Sorted_ok A (by omega)
 rw [hsS,← hS] at hsrt
 rw [← hS] at hn2 harc hSl ⊢
 obtain ⟨n,hn⟩ : ∃ n : Net,n = ⟨2 + 2 * g.size,netArcs g p C S⟩:=⟨_,rfl⟩
 rw [← hn] at hn2 ⊢
 have hna : n.arcs.length ≤ 1000:=by rw [hn]; exact harc
 have hsidel:=hx.s
 refine awp_skip ?_
 refine awp_dregc ⟨82,[(7,.pv (xE x)),(10,.pv (nC n)),(11,.I 0)],[],504⟩ rfl ?_ ?_
 ·simp
  refine call0e (Values_ok A) (by simp) ?_
  simp
  refine callN1 hsrt (by simp) ?_
  simp [fcd]
  refine call0k [440] (by simp) hn2 (by simp [← hSA,take_map_len]) ?_
  simp
  refine ⟨rfl,Le.snap [480] rfl rfl (by simp)⟩
 refine awp_seq ?_
 refine awp_regc ⟨82,[(81,.B (decide (¬ ProvesP n x.side x.before.length)))],[],600⟩ rfl ?_ ?_
 ·simp
  refine call0e (cut_Proves_ok n x.side x.before.length (by omega) (by omega)) (by simp) ?_
  simp
  exact Le.snap [] rfl rfl (by simp)
 refine awp_cond _ rfl (fun h17=>?_) fun h17=>?_
 ·rw [decide_eq_true_eq] at h17
  refine rx (s:=?s18) [8] [] [] rfl ?o18 ?q18
  case o18=>simp; rfl
  refine awp_ret ?_
  exact ⟨.inr rfl,RetOk.one (by simp [h17])⟩
 rw [decide_eq_false_iff_not,Decidable.not_not] at h17
 refine awp_skip ?_
 refine rx (s:=?s19) [8] [] [] rfl ?o19 ?q19
 case o19=>simp; rfl
 refine awp_ret ?_
 exact ⟨.inr rfl,RetOk.one (by simp [h17])⟩
def netN (g : Gr) : Nat:=(2 + 2 * g.size).toNat
theorem netN_int {g : Gr} (hg : GrOk g) : ((netN g : Nat) : Int) = 2 + 2 * g.size:=by unfold netN; have:=hg.1.1; omega
abbrev netA (g : Gr) (p : Pol) (ks : List Int) : List Ed:=netArcs g p (capsL g p) ks
def CanServe (g : Gr) (p : Pol) (ks : List Int) : Prop:=maxF (netN g) (netA g p ks) = ks.length
theorem netA_ok {g : Gr} {p : Pol} {ks : List Int} (hg : GrOk g) (hp : PolOk g.size p) (hk : ∀ x ∈ ks,0 ≤ x ∧ x < g.size) : NetOk (netN g) (netA g p ks):=netArcs_ok hg hp hk
theorem netA_val {g : Gr} {p : Pol} {ks : List Int} (hg : GrOk g) (hp : PolOk g.size p) (hk : ∀ x ∈ ks,0 ≤ x ∧ x < g.size) (hs : p.seeds.length ≤ 64) (hsl : ks.length ≤ 64) : NetVal ⟨netN g,netA g p ks⟩:=by
 have h1:=netA_ok hg hp hk
 have h2 : (netA g p ks).length ≤ 1000:=netArcs_len g p ks hg hs hsl
 have h3:=hg.1.2.1
 have hN:=netN_int hg
 have h0:=hg.1.1
 have hcb : ∀ i : Nat,(capsL g p).getD i 0 ≤ 1000:=fun i=>by
  rw [List.getD_eq_getElem?_getD]
  cases h : (capsL g p)[i]? with
  | none=>simp
  | some v =>
    have hm:=List.mem_of_getElem? h
    unfold capsL at hm
    obtain ⟨d,_,rfl⟩:=List.mem_map.1 hm
    exact (capOf_bound hp d).2
 refine ⟨by simp only; omega,by simp only; omega,by simp only; omega,fun a ha=>?_⟩
 obtain ⟨q1,q2,q3,q4,q5,q6,q7,q8⟩:=h1.arc a ha
 refine ⟨q1,by simp only; omega,q3,by simp only; omega,q5,q6,q7,q8,?_⟩
 simp only [netA,netArcs] at ha
 rcases List.mem_append.1 ha with ha | ha
 ·rcases List.mem_append.1 ha with ha | ha
  ·rcases List.mem_append.1 ha with ha | ha
   ·obtain ⟨x,hx,rfl⟩:=List.mem_map.1 ha
    have:=hcb x.toNat
    simp only
    omega
   ·obtain ⟨i,hx,rfl⟩:=List.mem_map.1 ha
    have:=hcb i
    simp only
    omega
  ·obtain ⟨x,hx,rfl⟩:=List.mem_map.1 ha
   simp
 ·obtain ⟨e,hx,rfl⟩:=List.mem_map.1 ha
  simp
structure GreatF (g : Gr) (p : Pol) (ks f : List Int) : Prop where
 ok : FlowOk (netN g) (netA g p ks) f
 most : ∀ f',FlowOk (netN g) (netA g p ks) f' → valF (netA g p ks) f' ≤ valF (netA g p ks) f
 val : valF (netA g p ks) f = maxF (netN g) (netA g p ks)
theorem rise_in {ks : List Int} {n : Int} (h : Rise ks 0 (n - 1)) : ∀ x ∈ ks,0 ≤ x ∧ x < n:=fun x hx=>by
 have:=h.nodup.2 x hx
 omega
set_option maxRecDepth 100000 in
set_option maxHeartbeats 4000000 in
open Classical in
theorem served_a (g : Gr) (p : Pol) (ks : List Int) (hg : GrOk g) (hp : PolOk g.size p) (hr : Rise ks 0 (g.size - 1)) (hs : p.seeds.length ≤ 64) (hsl : ks.length ≤ 64) :
  ∃ f,GreatF g p ks f ∧ ACalls Tryz.prog nref17_served [eG g,eP p,ints ks] [] (.tup [eN ⟨netN g,netA g p ks⟩,.rs 0 0 (netA g p ks).length,.B (decide (CanServe g p ks))]) [some ⟨1,rowsI f,0⟩]:=by
 have hnet:=ref14_Network_ok g p ks hg hp hr hs hsl
 rw [← netN_int hg] at hnet
 have hnv:=netA_val hg hp (rise_in hr) hs hsl
 obtain ⟨f,⟨hf1,hf2⟩,hmax⟩:=Max_a _ _ hnv
 have hval:=ref15_Value_flow hnv hf1
 have hmf:=maxF_of hf1 hf2
 refine ⟨f,⟨hf1,hf2,hmf.symm⟩,?_⟩
 have hcs : CanServe g p ks ↔ valF (netA g p ks) f = ks.length:=by unfold CanServe; rw [hmf]
 have hfl:=hf1.fit.len
 obtain ⟨A,hA⟩ : ∃ A,A = netA g p ks:=⟨_,rfl⟩
 obtain ⟨N,hN⟩ : ∃ N,N = netN g:=⟨_,rfl⟩
 rw [show netArcs g p (capsL g p) ks = A from hA.symm,← hN] at hnet
 rw [← hA,← hN] at hmax hval
 rw [← hA] at hcs hfl ⊢
 rw [← hN]
 refine sref17_served.acalls (Nat.le_of_ble_eq_true rfl) (Nat.le_of_ble_eq_true rfl) (Nat.zero_le _) ?_
 show awp _ 0 _ _ ⟨33,[(0,eG g),(1,eP p),(2,ints ks)],[],16⟩
 have htake : ∀ g : Int → List AV,List.take A.length (List.map g f) = List.map g f:=fun g=>List.take_of_length_le (by simp; omega)
 refine rx (s:=?s1) [2,3,4,6] [32] [16,24] rfl ?o1 ?q1
 case o1=>simp; rfl
 refine rx (s:=?s2) [2,6,9] [32] [112] rfl ?o2 ?q2
 case o2=>simp; refine call0e hnet (by simp) ?_; simp; rfl
 refine awp_regc ⟨33,[(2,ints ks),(6,.pt 32 0 0),(9,.pv (nC ⟨N,A⟩)),(11,.rs 33 0 A.length)],[(32,some ⟨2,[[.I 0,.sc (.slice none 0 0)]],0⟩),(33,some ⟨1,rowsI f,0⟩)],300⟩ rfl ?_ ?_
 ·simp
  refine callN1 hmax (by simp) ?_
  simp
  exact Le.go [(32,32),(144,33)] [] rfl rfl (by simp) (by simp [fcd])
 refine awp_dregc ⟨33,[(6,.pt 32 0 0),(7,.rs 33 0 A.length),(8,.B (decide (CanServe g p ks)))],[(32,some ⟨2,[nC ⟨N,A⟩],0⟩),(33,some ⟨1,rowsI f,0⟩)],600⟩ rfl ?_ ?_
 ·simp
  refine call0s [33] hval (by simp [fcd,htake,hfl]) (.sc _) ?_
  simp [splice]
  exact ⟨rfl,Le.go [(32,32),(33,33)] [] rfl rfl (by simp <;> exact wkB (by rw [Bool.eq_iff_iff]; simp [hcs])) (by simp [fcd])⟩
 refine awp_ret ?_
 exact ⟨.inr rfl,RetOk.out [33] [] rfl (by simp) (by simp) (by simp) (by simp [fcd])⟩
theorem cutV_capS (side : List Int) : ∀ A : List Ed,cutV A side = capS (fun x=>decide (x ∈ side)) A
 | []=>rfl
 | e :: A=>by
   have h1 : cutV (e :: A) side = (if e.f ∈ side ∧ e.t ∉ side then e.v else 0) + cutV A side:=by simp [cutV]
   have h2 : capS (fun x=>decide (x ∈ side)) (e :: A) = (if decide (e.f ∈ side) = true ∧ decide (e.t ∈ side) = false then e.v else 0) + capS (fun x=>decide (x ∈ side)) A:=rfl
   rw [h1,h2,cutV_capS side A]
   simp
section
variable {P : Program} {np id : Nat} {h : Nat → Option Ent} {K : AV → List Nat → List (Nat × Option Ent) → Prop} {f : FuncId} {first capt args args' : List AV} {res : AV}
theorem callN1w2 {e : Ent} (hc : ACalls P f args' [] res [some e]) (he : WkL ((first ++ args ++ capt).map (conv [] [] h 4)) args')
  (hk : K (conv (swp [] id) [] (fun _=>none) 4 res) [] [(id,some (convE (swp [] id) [] (fun _=>none) 4 e))]) : aK P np id .call (.fn (.func f) first capt :: args) h K :=
 ⟨[],[],true,args',[],res,[some e],by simp,by simp,by simp,by rw [List.zipIdx_nil]; exact he,rfl,hc,by simp,.inl rfl,hk⟩
end
open Classical in
noncomputable def checkAll (g : Gr) (p : Pol) (x : Expl) : Int:=if GrOk g then if PolOk g.size p then checkC g p x else 15 else 14
open Classical in
theorem checker_Check_ok (g : Gr) (p : Pol) (x : Expl) (hl : g.edges.length ≤ 140737488355328) (hl2 : g.gone.length ≤ 140737488355328) (ht : p.table.length ≤ 140737488355328) (hN : g.size < 20) (hs : p.seeds.length ≤ 64) (hx : SmallX x) :
  ACalls Tryz.prog nchecker_Check [eG g,eP p,eX x] [] (.I (checkAll g p x)) []:=by
 refine schecker_Check.acalls (Nat.le_of_ble_eq_true rfl) (Nat.le_of_ble_eq_true rfl) (Nat.le_refl _) ?_
 show awp _ 0 _ _ ⟨21,[(0,eG g),(1,eP p),(2,eX x)],[],16⟩
 have hchk:=capacity_Check_ok g p hl hl2 (by omega) ht
 obtain ⟨e,he⟩ : ∃ e : Int,e = if GrOk g then if PolOk g.size p then 0 else 15 else 14:=⟨_,rfl⟩
 rw [← he] at hchk
 refine rx (s:=?s1) [3,4,5] [] [16,24,32] rfl ?o1 ?q1
 case o1=>simp; rfl
 refine awp_seq ?_
 refine rx (s:=?s2) [3,4,5,7] [] [] rfl ?o2 ?q2
 case o2=>simp; refine call0e hchk (by simp) ?_; simp; rfl
 refine rx (s:=?s3) [3,4,5,7,12] [] [] rfl ?o3 ?q3
 case o3=>simp; rfl
 refine awp_cond _ rfl (fun h4=>?_) fun h4=>?_
 ·simp at h4
  refine rx (s:=?s5) [6] [] [] rfl ?o5 ?q5
  case o5=>simp; rfl
  refine awp_ret ?_
  have : checkAll g p x = e:=by
   unfold checkAll
   rw [he]
   by_cases hg : GrOk g
   ·by_cases hp : PolOk g.size p
    ·rw [if_pos hg,if_pos hp] at he; exact absurd he h4
    ·rw [if_pos hg,if_pos hg,if_neg hp,if_neg hp]
   ·rw [if_neg hg,if_neg hg]
  exact ⟨.inr rfl,RetOk.one (by simp [this])⟩
 simp at h4
 have hgp : GrOk g ∧ PolOk g.size p:=by
  rw [h4] at he
  by_cases hg : GrOk g
  ·by_cases hp : PolOk g.size p
   ·exact ⟨hg,hp⟩
   ·rw [if_pos hg,if_neg hp] at he; cases he
  ·rw [if_neg hg] at he; cases he
 have hof:=checker_of_ok g p hgp.1 hN (by omega)
 have hec:=engine_check_ok g p x hgp.1 hgp.2 hN hs hx
 have : checkAll g p x = checkC g p x:=by unfold checkAll; rw [if_pos hgp.1,if_pos hgp.2]
 rw [this]
 refine awp_skip ?_
 refine rxd (s:=?s6) [6] [] [] rfl ?o6 ?q6
 case o6 =>
  simp
  refine call0e hof (by simp) ?_
  simp
  refine call0e hec (by simp) ?_
  simp
  refine ⟨rfl,?_⟩
  rfl
 refine awp_ret ?_
 exact ⟨.inr rfl,RetOk.one (by simp)⟩
set_option maxRecDepth 100000 in
set_option maxHeartbeats 1000000 in
open Classical in
theorem ref44_Check_ok (g : Gr) (p : Pol) (x : Expl) (hl : g.edges.length ≤ 140737488355328) (hl2 : g.gone.length ≤ 140737488355328) (ht : p.table.length ≤ 140737488355328) (hs : p.seeds.length ≤ 64) (hx : SmallX x) :
  ACalls Tryz.prog nref44_Check [eG g,eP p,eX x] [] (.I (checkAll g p x)) []:=by
 refine sref44_Check.acalls (Nat.le_of_ble_eq_true rfl) (Nat.le_of_ble_eq_true rfl) (Nat.le_refl _) ?_
 show awp _ 0 _ _ ⟨91,[(0,eG g),(1,eP p),(2,eX x)],[],16⟩
 have hchk:=ref13_Check_ok g p hl hl2 (by omega) ht
 obtain ⟨e,he⟩ : ∃ e : Int,e = if GrOk g then if PolOk g.size p then 0 else 15 else 14:=⟨_,rfl⟩
 rw [← he] at hchk
 refine rx (s:=?s1) [3,4,5] [] [16,24,32] rfl ?o1 ?q1
 case o1=>simp; rfl
 refine awp_seq ?_
 refine rx (s:=?s2) [3,4,5,7] [] [] rfl ?o2 ?q2
 case o2=>simp; refine call0e hchk (by simp) ?_; simp; rfl
 refine rx (s:=?s3) [3,4,5,7,16] [] [] rfl ?o3 ?q3
 case o3=>simp; rfl
 refine awp_cond _ rfl (fun h4=>?_) fun h4=>?_
 ·simp at h4
  refine rx (s:=?s5) [6] [] [] rfl ?o5 ?q5
  case o5=>simp; rfl
  refine awp_ret ?_
  have : checkAll g p x = e:=by
   unfold checkAll
   rw [he]
   by_cases hg : GrOk g
   ·by_cases hp : PolOk g.size p
    ·rw [if_pos hg,if_pos hp] at he; exact absurd he h4
    ·rw [if_pos hg,if_pos hg,if_neg hp,if_neg hp]
   ·rw [if_neg hg,if_neg hg]
  exact ⟨.inr rfl,RetOk.one (by simp [this])⟩
 simp at h4
 have hgp : GrOk g ∧ PolOk g.size p:=by
  rw [h4] at he
  by_cases hg : GrOk g
  ·by_cases hp : PolOk g.size p
   ·exact ⟨hg,hp⟩
   ·rw [if_pos hg,if_neg hp] at he; cases he
  ·rw [if_neg hg] at he; cases he
 obtain ⟨hg,hp⟩:=hgp
 have hsz:=hg.1.1
 have hsz2:=hg.1.2.1
 have hol:=ordL_len (g:=levelG g p.lv) (S:=p.seeds) hsz
 rw [show (levelG g p.lv).size = g.size from rfl] at hol
 have hor : ∀ k ∈ ordL (levelG g p.lv) p.seeds,0 ≤ k ∧ k < g.size:=fun k hk=>by have h:=ordL_range hk; exact h
 have hno:=ordL_nodup (levelG g p.lv) p.seeds
 have hre:=ref44_reached_ok g p hg (by omega)
 have hpth:=fun (ends : List Int) (hE : ends.length ≤ 1099511627776)=>ref44_Paths_ok g p x.paths ends hl hl2 (by omega) ht hx.p hx.w hE
 have hbef:=ref44_ahead_ok (ordL (levelG g p.lv) p.seeds) x.before x.key (by omega) (by have:=hx.b; omega)
 have hcon:=has24_ok (ordL (levelG g p.lv) p.seeds) x.key (by omega)
 have hnet:=fun (sinks : List Int) h1 h2=>ref14_Network_ok g p sinks hg hp h1 hs h2
 have hca : checkAll g p x = checkR g p x:=by unfold checkAll; rw [if_pos hg,if_pos hp,check_same hsz2]
 rw [hca]
 unfold checkR
 have hPR : ∀ ends,ServesR g p.lv p.seeds (ordL (levelG g p.lv) p.seeds) (capsL g p) x.paths ends ↔ PathsR g p x.paths ends:=fun ends=>⟨fun h=>⟨⟨hg,hp⟩,h⟩,fun h=>h.2⟩
 simp only [hPR]
 obtain ⟨O,hO⟩ : ∃ O,O = ordL (levelG g p.lv) p.seeds:=⟨_,rfl⟩
 simp only [← hO] at hol hor hno hre hbef hcon ⊢
 obtain ⟨C,hC⟩ : ∃ C,C = capsL g p:=⟨_,rfl⟩
 simp only [← hC] at hnet ⊢
 refine awp_skip ?_
 refine awp_regc ⟨91,[(3,.pv (gC g)),(4,.pv (pC p)),(5,.pv (xE x)),(8,ints O)],[],128⟩ rfl ?_ ?_
 ·simp
  refine callN1 hre (by simp) ?_
  simp [fcd]
  exact Le.snap [112] rfl rfl (by simp [fcd,take_map_len])
 refine awp_seq ?_
 refine rx (s:=?s7) [3,4,5,8,25] [] [] rfl ?o7 ?q7
 case o7=>simp; refine call0e hcon (by simp) ?_; simp; rfl
 refine awp_cond _ rfl (fun h3=>?_) fun h3=>?_
 ·simp at h3
  refine rx (s:=?s9) [6] [] [] rfl ?o9 ?q9
  case o9=>simp; rfl
  refine awp_ret ?_
  exact ⟨.inr rfl,RetOk.one (by simp [h3])⟩
 simp at h3
 refine awp_skip ?_
 refine awp_seq ?_
 refine awp_regc ⟨91,[(3,.pv (gC g)),(4,.pv (pC p)),(5,.pv (xE x)),(53,.B (decide (FormX O x)))],[],392⟩ rfl ?_ ?_
 ·simp
  refine call0e hbef (by simp) ?_
  simp
  by_cases hb : BeforeP O x.before x.key
  ·simp [hb]
   cases hac : x.acc with
   | true =>
     simp [hac]
     by_cases hsd : x.side.length = 0
     ·have hs0 : x.side = []:=List.length_eq_zero_iff.1 hsd
      have hF : ¬ FormX O x:=by simp [FormX,hb,hac,hs0]
      rw [decide_eq_false hF]
      simp [hsd,hac]
      exact Le.snap [] rfl rfl (by simp [hac,xE,Wk.refl])
     ·have hs0 : x.side ≠ []:=fun h=>hsd (by rw [h]; rfl)
      have hF : FormX O x:=by simp [FormX,hac,hs0]
      have h0 : 0 < x.side.length:=by omega
      rw [decide_eq_true hF]
      simp [h0,hac]
      exact Le.snap [] rfl rfl (by simp [hac,xE,Wk.refl])
   | false =>
     simp [hac]
     by_cases hsd : x.paths.length = 0
     ·have hs0 : x.paths = []:=List.length_eq_zero_iff.1 hsd
      have hF : ¬ FormX O x:=by simp [FormX,hb,hac,hs0]
      rw [decide_eq_false hF]
      simp [hsd,hac]
      exact Le.snap [] rfl rfl (by simp [hac,xE,Wk.refl])
     ·have hs0 : x.paths ≠ []:=fun h=>hsd (by rw [h]; rfl)
      have hF : FormX O x:=by simp [FormX,hac,hs0]
      have h0 : 0 < x.paths.length:=by omega
      rw [decide_eq_true hF]
      simp [h0,hac]
      exact Le.snap [] rfl rfl (by simp [hac,xE,Wk.refl])
  ·simp [hb]
   exact Le.snap [] rfl rfl (by simp [FormX,hb])
 refine awp_cond _ rfl (fun h6=>?_) fun h6=>?_
 ·rw [decide_eq_true_eq] at h6
  refine rx (s:=?s12) [6] [] [] rfl ?o12 ?q12
  case o12=>simp; rfl
  refine awp_ret ?_
  refine ⟨.inr rfl,RetOk.one ?_⟩
  unfold FormX at h6
  rw [if_neg (not_not_intro h3),if_pos h6]
  simp
 rw [decide_eq_false_iff_not] at h6
 unfold FormX at h6
 rw [if_neg (not_not_intro h3),if_neg h6]
 have hb : BeforeP O x.before x.key:=Classical.byContradiction fun h=>h6 (.inl h)
 have hra : ∀ k ∈ x.before ++ [x.key],0 ≤ k ∧ k < g.size:=fun k hk=>by
  rcases List.mem_append.1 hk with hk | hk
  ·exact hor k ((List.takeWhile_sublist _).subset (hb.subset hk))
  ·rw [List.mem_singleton] at hk
   rw [hk]
   exact hor _ h3
 have hbl:=hx.b
 refine awp_skip ?_
 obtain ⟨A,hA⟩ : ∃ A,A = x.before ++ [x.key]:=⟨_,rfl⟩
 have hAl : A.length = x.before.length + 1:=by rw [hA]; simp
 rw [← hA] at hra ⊢
 refine awp_dregc ⟨91,[(3,.pv (gC g)),(4,.pv (pC p)),(5,.pv (xE x)),(9,ints A)],[],464⟩ rfl ?_ ?_
 ·simp
  refine ⟨by omega,by omega,by omega,by omega,rfl,Le.snap [448] rfl rfl (by simp [fcd,hA,ints,Wk.refl,List.take_of_length_le])⟩
 refine awp_seq ?_
 refine rx (s:=?s14) [3,4,5,9,63] [] [] rfl ?o14 ?q14
 case o14=>simp; rfl
 refine awp_cond _ rfl (fun h10=>?_) fun h10=>?_
 ·rw [if_pos h10]
  refine awp_seq ?_
  refine rx (s:=?s16) [70] [] [] rfl ?o16 ?q16
  case o16=>simp; refine call0e (hpth A (by omega)) (by simp) ?_; simp; rfl
  refine awp_cond _ rfl (fun h12=>?_) fun h12=>?_
  ·simp at h12
   refine rx (s:=?s18) [6] [] [] rfl ?o18 ?q18
   case o18=>simp; rfl
   refine awp_ret ?_
   exact ⟨.inr rfl,RetOk.one (by simp [h12])⟩
  simp at h12
  refine awp_skip ?_
  refine rx (s:=?s19) [6] [] [] rfl ?o19 ?q19
  case o19=>simp; rfl
  refine awp_ret ?_
  exact ⟨.inr rfl,RetOk.one (by simp [h12])⟩
 rw [if_neg (by simp [h10])]
 have hSl:=joinL_len A
 have hn2:=hnet (joinL A) (rise_join hra) hSl
 have harc:=netArcs_len g p (joinL A) hg hs hSl
 rw [← hC] at harc
 have hjn:=join24_ok A [] (by omega) (by simp)
 rw [List.append_nil] at hjn
 obtain ⟨S,hS⟩ : ∃ S,S = joinL A:=⟨_,rfl⟩
 rw [← hS] at hn2 harc hSl hjn ⊢
 obtain ⟨n,hn⟩ : ∃ n : Net,n = ⟨2 + 2 * g.size,netArcs g p C S⟩:=⟨_,rfl⟩
 rw [← hn] at hn2 ⊢
 have hna : n.arcs.length ≤ 1000:=by rw [hn]; exact harc
 have hsidel:=hx.s
 refine awp_skip ?_
 refine awp_dregc ⟨91,[(5,.pv (xE x)),(10,.pv (nC n)),(11,.I 0)],[],568⟩ rfl ?_ ?_
 ·simp
  refine callN1w2 hjn (by simp [Wk.refl,ints,Wk.nil]) ?_
  simp [fcd]
  refine call0k [504] (by simp) hn2 (by simp [take_map_len]) ?_
  simp
  exact ⟨rfl,Le.snap [544] rfl rfl (by simp)⟩
 refine awp_seq ?_
 refine awp_regc ⟨91,[(90,.B (decide (¬ ProvesP n x.side x.before.length)))],[],664⟩ rfl ?_ ?_
 ·simp
  refine call0e (ref16_Proves_ok n x.side x.before.length (by omega) (by omega)) (by simp) ?_
  simp
  exact Le.snap [] rfl rfl (by simp)
 refine awp_cond _ rfl (fun h17=>?_) fun h17=>?_
 ·rw [decide_eq_true_eq] at h17
  refine rx (s:=?s23) [6] [] [] rfl ?o23 ?q23
  case o23=>simp; rfl
  refine awp_ret ?_
  exact ⟨.inr rfl,RetOk.one (by simp [h17])⟩
 rw [decide_eq_false_iff_not,Decidable.not_not] at h17
 refine awp_skip ?_
 refine rx (s:=?s24) [6] [] [] rfl ?o24 ?q24
 case o24=>simp; rfl
 refine awp_ret ?_
 exact ⟨.inr rfl,RetOk.one (by simp [h17])⟩
def lowN : List Int → Int → Nat
 | [],_=>0
 | x :: l,k=>if x < k then lowN l k + 1 else 0
def putL (l : List Int) (k : Int) : List Int:=if l[lowN l k]? = some k then l else l.take (lowN l k) ++ k :: l.drop (lowN l k)
theorem lowN_le : ∀ (l : List Int) (k : Int),lowN l k ≤ l.length
 | [],_=>Nat.le_refl _
 | x :: l,k=>by unfold lowN; have:=lowN_le l k; split <;> simp <;> omega
theorem lowN_lt : ∀ {l : List Int} {k : Int} {i : Nat} (h : i < l.length),i < lowN l k → l[i] < k
 | x :: l,k,0,_,h=>by
   unfold lowN at h
   split at h
   ·simpa
   ·omega
 | x :: l,k,i + 1,hi,h=>by
   unfold lowN at h
   split at h
   ·simpa using lowN_lt (l:=l) (by simpa using hi) (by omega)
   ·omega
theorem lowN_stop : ∀ {l : List Int} {k : Int} (h : lowN l k < l.length),¬ l[lowN l k] < k
 | x :: l,k,h=>by
   by_cases hx : x < k
   ·have e : lowN (x :: l) k = lowN l k + 1:=by simp [lowN,hx]
    simp only [e,List.getElem_cons_succ]
    exact lowN_stop (by rw [e] at h; simpa using h)
   ·have e : lowN (x :: l) k = 0:=by simp [lowN,hx]
    simp only [e,List.getElem_cons_zero]
    exact hx
theorem lowN_eq {l : List Int} {k : Int} {i : Nat} (hi : i ≤ l.length) (h1 : ∀ j (h : j < l.length),j < i → l[j] < k) (h2 : ∀ h : i < l.length,¬ l[i] < k) : lowN l k = i:=by
 rcases Nat.lt_trichotomy (lowN l k) i with h | h | h
 ·exact absurd (h1 _ (by omega) h) (lowN_stop (by omega))
 ·exact h
 ·have hl:=lowN_le l k
  exact absurd (lowN_lt (by omega) h) (h2 (by omega))
theorem putL_len (l : List Int) (k : Int) : (putL l k).length ≤ l.length + 1:=by
 unfold putL
 split
 ·omega
 ·simp; have:=lowN_le l k; omega
theorem mem_putL {l : List Int} {k x : Int} : x ∈ putL l k ↔ x ∈ l ∨ x = k:=by
 unfold putL
 split
 ·rename_i h
  constructor
  ·exact .inl
  ·rintro (h1 | rfl)
   ·exact h1
   ·exact List.mem_of_getElem? h
 ·rw [List.mem_append,List.mem_cons]
  conv=>rhs; rw [← List.take_append_drop (lowN l k) l,List.mem_append]
  constructor
  ·rintro (h | rfl | h)
   ·exact .inl (.inl h)
   ·exact .inr rfl
   ·exact .inl (.inr h)
  ·rintro ((h | h) | rfl)
   ·exact .inl h
   ·exact .inr (.inr h)
   ·exact .inr (.inl rfl)
theorem putL_pair {l : List Int} {k : Int} (h : l.Pairwise (· < ·)) : (putL l k).Pairwise (· < ·):=by
 unfold putL
 split
 ·exact h
 ·rename_i hne
  have hd : ∀ y ∈ l.drop (lowN l k),k < y:=by
   intro y hy
   obtain ⟨i,hi,rfl⟩:=List.getElem_of_mem hy
   rw [List.length_drop] at hi
   rw [List.getElem_drop]
   have h0 : lowN l k < l.length:=by omega
   have h1:=lowN_stop h0
   have h2 : l[lowN l k] ≠ k:=fun e=>hne (by rw [List.getElem?_eq_getElem h0,e])
   rcases Nat.eq_zero_or_pos i with rfl | hp
   ·simp only [Nat.add_zero]; omega
   ·have:=(List.pairwise_iff_getElem.1 h) (lowN l k) (lowN l k + i) h0 (by omega) (by omega)
    omega
  have ht : ∀ y ∈ l.take (lowN l k),y < k:=by
   intro y hy
   obtain ⟨i,hi,rfl⟩:=List.getElem_of_mem hy
   rw [List.length_take] at hi
   rw [List.getElem_take]
   exact lowN_lt (by omega) (by omega)
  rw [List.pairwise_append,List.pairwise_cons]
  refine ⟨h.sublist (List.take_sublist ..),⟨hd,h.sublist (List.drop_sublist ..)⟩,fun x hx y hy=>?_⟩
  rcases List.mem_cons.1 hy with rfl | hy
  ·exact ht x hx
  ·have:=ht x hx; have:=hd y hy; omega
theorem rise_of_pair {l : List Int} {n : Int} (h : l.Pairwise (· < ·)) (hr : ∀ k ∈ l,0 ≤ k ∧ k < n) : Rise l 0 (n - 1):=by
 intro i hi
 have:=hr _ (List.getElem_mem hi)
 refine ⟨by omega,by omega,fun hp=>?_⟩
 exact (List.pairwise_iff_getElem.1 h) (i - 1) i (by omega) hi (by omega)
theorem Put_ok (l : List Int) (k : Int) (hl : l.length ≤ 1000000) : ACalls Tryz.prog nref11_Put [ints l,.I k] [] (.rs 0 0 (putL l k).length) [some ⟨1,rowsI (putL l k),0⟩]:=by
 refine sref11_Put.acalls (Nat.le_of_ble_eq_true rfl) (Nat.le_of_ble_eq_true rfl) (Nat.zero_le _) ?_
 show awp _ 0 _ _ ⟨45,[(0,ints l),(1,.I k)],[],16⟩
 refine rx (s:=?s1) [0,1] [] [] rfl ?o1 ?q1
 case o1=>simp; rfl
 refine rx (s:=?s2) [0,1,5] [] [] rfl ?o2 ?q2
 case o2=>simp; rfl
 refine awp_cut (ι:=Nat) (fun i=>⟨45,[(0,ints l),(1,.I k),(5,.I i)],[],200⟩) (fun i=>i = lowN l k) ?_ fun i hil=>?_
 ·refine awp_block ?_
  refine awp_loop (ι:=Nat) (fun i=>⟨45,[(0,ints l),(1,.I k),(5,.I i)],[],32⟩) (fun i=>i ≤ l.length ∧ ∀ j (h : j < l.length),j < i → l[j] < k) (fun i=>l.length - i) 0 (by simp) (Le.go [] [] rfl rfl (by simp) (by simp)) ?_
  rintro i ⟨hi,hp⟩
  refine awp_seq ?_
  refine awp_regc ⟨45,[(0,ints l),(1,.I k),(5,.I i),(17,.B (decide (∃ h : i < l.length,l[i] < k)))],[],200⟩ rfl ?_ ?_
  ·by_cases h1 : i < l.length
   ·simp [h1]
    exact Le.snap [] rfl rfl (by simp [h1])
   ·have hno : ¬ ∃ h : i < l.length,l[i] < k:=fun ⟨h,_⟩=>h1 h
    rw [decide_eq_false hno]
    simp [h1]
    exact Le.snap [] rfl rfl (by simp)
  refine awp_cond _ rfl (fun h2=>?_) fun h2=>?_
  ·rw [decide_eq_true_eq] at h2
   obtain ⟨h1,h2⟩:=h2
   have hw : IntKind.i64.wrap ((i : Int) + 1) = (i : Int) + 1:=w64 (by omega) (by omega)
   refine awp_skip ?_
   refine awp_block ?_
   refine awp_run (s:=?s5) rfl ?o5 ?q5
   case o5=>simp; rfl
   refine ⟨i + 1,⟨h1,fun j hj hji=>?_⟩,by omega,Le.go [] [] rfl rfl (by simp [hw]) (by simp)⟩
   rcases Nat.lt_succ_iff_lt_or_eq.1 hji with h | rfl
   ·exact hp j hj h
   ·exact h2
  ·rw [decide_eq_false_iff_not] at h2
   refine awp_exit ?_
   refine hit ?_
   exact ⟨i,(lowN_eq hi hp fun h h3=>h2 ⟨h,h3⟩).symm,Le.go [] [] rfl rfl (by simp) (by simp)⟩
 have hlo:=lowN_le l k
 rw [← hil] at hlo
 refine awp_seq ?_
 refine awp_regc ⟨45,[(0,ints l),(1,.I k),(5,.I i),(31,.B (decide (l[i]? = some k)))],[],400⟩ rfl ?_ ?_
 ·by_cases h1 : i < l.length
  ·simp [h1]
   exact Le.snap [] rfl rfl (by simp [h1]; exact wkB (by rw [Bool.eq_iff_iff]; simp))
  ·have hno : ¬ l[i]? = some k:=by rw [List.getElem?_eq_none (by omega)]; simp
   rw [decide_eq_false hno]
   simp [h1]
   exact Le.snap [] rfl rfl (by simp)
 refine awp_cond _ rfl (fun h2=>?_) fun h2=>?_
 ·rw [decide_eq_true_eq] at h2
  have hput : putL l k = l:=by unfold putL; rw [← hil,if_pos h2]
  rw [hput]
  refine rk (s:=?s6) [4] [408] rfl ?o6 ?q6
  case o6=>simp; refine ⟨by omega,by omega,?_⟩; rfl
  refine awp_ret ?_
  exact ⟨.inr rfl,RetOk.out [408] [] rfl (by simp) (by simp) (by simp) (by simp [fcd])⟩
 rw [decide_eq_false_iff_not] at h2
 have hput : putL l k = l.take i ++ k :: l.drop i:=by unfold putL; rw [← hil,if_neg h2]
 have hpl : (putL l k).length = l.length + 1:=by rw [hput]; simp; omega
 have hpl2 : (putL l k).length = i + 1 + (l.length - i):=by omega
 refine awp_skip ?_
 refine awp_dregc ⟨45,[(4,.rs 480 0 (putL l k).length)],[(480,some ⟨1,rowsI (putL l k),0⟩)],600⟩ rfl ?_ ?_
 ·simp [hlo]
  refine ⟨by omega,by omega,by omega,by omega,by omega,by omega,rfl,Le.go [(480,480)] [] rfl rfl (by simp [hpl2]) (by simp [hput,fcd,List.take_of_length_le,hlo])⟩
 refine awp_ret ?_
 exact ⟨.inr rfl,RetOk.out [480] [] rfl (by simp) (by simp) (by simp) (by simp [fcd])⟩
theorem mk_Light_ok (L : List Int) : ACalls Tryz.prog ntrustflowmill_Light [ints L] [] (.B (decide (L.length ≤ 400))) []:=by
 refine strustflowmill_Light.acalls (Nat.le_of_ble_eq_true rfl) (Nat.le_of_ble_eq_true rfl) (Nat.le_refl _) ?_
 show awp _ 0 _ _ ⟨6,[(0,ints L)],[],16⟩
 refine rx (s:=?s1) [0] [] [] rfl ?o1 ?q1
 case o1=>simp; rfl
 refine rx (s:=?s2) [2] [] [] rfl ?o2 ?q2
 case o2=>simp; rfl
 refine awp_ret ?_
 exact ⟨.inr rfl,RetOk.one (by simp; exact wkB (by rw [Bool.eq_iff_iff]; simp; omega))⟩
theorem ofD_in3 (L : List Int) (a : Nat) {l : List Int} (h : 0 < l.length) : ofD L a l ∈ l:=by
 have:=nextD_lt (L:=L) (a:=a) (n:=l.length) (by omega)
 obtain ⟨q,hq⟩ : ∃ q : Nat,(nextD L a l.length).1 = q:=⟨(nextD L a l.length).1.toNat,by omega⟩
 have hql : q < l.length:=by omega
 unfold ofD
 rw [hq]
 simp [hql]
theorem Next_a (L : List Int) (a : Nat) (n : Int) (hl : L.length ≤ 400) (ha : a ≤ L.length) (h0 : 0 < n) (hn : n ≤ 1000000) : ∃ (x : Nat) (b : Nat),(b ≤ L.length ∧ (x : Int) < n) ∧ ACalls Tryz.prog nmade_Dice_Next [.pt 0 0 0,.I n] [dice L a] (.I x) [some (dice L b)]:=by
 have:=nextD_lt (L:=L) (a:=a) h0
 obtain ⟨q,hq⟩ : ∃ q : Nat,(nextD L a n).1 = q:=⟨(nextD L a n).1.toNat,by omega⟩
 exact ⟨q,_,⟨nextD_le ha,by omega⟩,by rw [← hq]; exact Next_ok L a n (by omega) ha (by omega)⟩
theorem Of_a (L : List Int) (a : Nat) (l : List Int) (hl : L.length ≤ 400) (ha : a ≤ L.length) (h0 : 0 < l.length) (hl2 : l.length ≤ 100) : ∃ (x : Int) (b : Nat),(b ≤ L.length ∧ x ∈ l) ∧ ACalls Tryz.prog nmade_Dice_Of [.pt 0 0 0,ints l] [dice L a] (.I x) [some (dice L b)] :=
 ⟨_,_,⟨nextD_le ha,ofD_in3 L a h0⟩,Of_ok L a l (by omega) ha h0 (by omega)⟩
theorem One_a (L : List Int) (a : Nat) (n : Int) (hl : L.length ≤ 400) (ha : a ≤ L.length) (hn0 : 0 ≤ n) (hn : n ≤ 1000000) : ∃ (x : Bool) (b : Nat),b ≤ L.length ∧ ACalls Tryz.prog nmade_Dice_One [.pt 0 0 0,.I n] [dice L a] (.B x) [some (dice L b)] :=
 ⟨_,_,nextD_le ha,One_ok L a n (by omega) ha hn0 (by omega)⟩
section
variable {P : Program} {np id : Nat} {h : Nat → Option Ent} {K : AV → List Nat → List (Nat × Option Ent) → Prop} {f : FuncId} {first capt args args' : List AV} {res : AV}
theorem callN1sZ {j : Nat} {e ej : Ent} (hnp : np ≤ j) (hj : h j = some ej) (hc : ACalls P f args' [] res [some e]) (he : (first ++ args ++ capt).map (conv [] [j] h 4) = args')
  (hk : K (conv (swp [] id) [] (fun _=>none) 4 res) [j] [(id,some (convE (swp [] id) [] (fun _=>none) 4 e)),(j,some { ej with ro:=ej.rows.length })]) : aK P np id .call (.fn (.func f) first capt :: args) h K :=
 ⟨[],[j],true,args',[],res,[some e],by simp,by simp,by simpa using hnp,by rw [List.zipIdx_nil,he]; exact wkL_refl _,rfl,hc,by simp,.inl rfl,by simpa [swp,hj] using hk⟩
end
def TabL (t : List Int) : Prop:=∀ i (h : i < t.length),1 ≤ t[i] ∧ t[i] ≤ 1000 ∧ (0 < i → t[i] ≤ t[i - 1])
theorem tabL_snoc {t : List Int} {v : Int} (h : TabL t) (h1 : 1 ≤ v) (h2 : v ≤ 1000) (h3 : ∀ x ∈ t,v ≤ x) : TabL (t ++ [v]):=by
 intro i hi
 rw [List.length_append,List.length_singleton] at hi
 by_cases hit : i < t.length
 ·rw [List.getElem_append_left hit]
  obtain ⟨a,b,c⟩:=h i hit
  refine ⟨a,b,fun hp=>?_⟩
  rw [List.getElem_append_left (by omega)]
  exact c hp
 ·obtain rfl : i = t.length:=by omega
  simp only [List.getElem_concat_length]
  refine ⟨h1,h2,fun hp=>?_⟩
  rw [List.getElem_append_left (by omega)]
  exact h3 _ (List.getElem_mem _)
set_option maxRecDepth 100000 in
set_option maxHeartbeats 4000000 in
theorem Policy_a (L : List Int) (a : Nat) (g : Gr) (hl : L.length ≤ 400) (ha : a ≤ L.length) (h0 : 0 < g.size) (hn : g.size ≤ 1000) :
  ∃ x : Pol × Nat,(PolOk g.size x.1 ∧ x.1.seeds.length ≤ 2 ∧ x.1.table.length ≤ 4 ∧ x.2 ≤ L.length) ∧ ACalls Tryz.prog nmade_Dice_Policy [.pt 0 0 0,eG g] [dice L a] (eP x.1) [some (dice L x.2)]:=by
 refine smade_Dice_Policy.acallsX (args:=[.pt 0 0 0,eG g]) (hs:=[dice L a]) (fun x=>eP x.1) (fun x=>[some (dice L x.2)]) (fun x : Pol × Nat=>PolOk g.size x.1 ∧ x.1.seeds.length ≤ 2 ∧ x.1.table.length ≤ 4 ∧ x.2 ≤ L.length) (Nat.le_of_ble_eq_true rfl) (Nat.le_of_ble_eq_true rfl) (fun _=>by simp) ?_
 show awp _ 1 _ _ ⟨50,[(0,.pt 0 0 0),(1,eG g)],[(0,some (dice L a))],16⟩
 obtain ⟨k1,b1,⟨hb1,hk1⟩,hc1⟩:=Next_a L a g.size hl ha h0 (by omega)
 obtain ⟨lv,b2,⟨hb2,hlv⟩,hc2⟩:=Of_a L b1 [1,1,2,3] hl hb1 (by simp) (by simp)
 have hlv' : 1 ≤ lv ∧ lv ≤ 3:=by simp at hlv; omega
 obtain ⟨o,b3,hb3,hc3⟩:=One_a L b2 3 hl hb2 (by omega) (by omega)
 refine awp_regc ⟨50,[(0,.pt 0 0 0),(3,.pv (gC g)),(4,.pt 24 0 0)],[(0,some (dice L a)),(24,some ⟨3,[[.nilS,.nilS,.I 0]],0⟩)],32⟩ rfl ?_ ?_
 ·simp
  exact Le.go [(0,0),(24,24)] [16] rfl rfl (by simp) (by simp)
 refine awp_regc ⟨50,[(0,.pt 0 0 0),(3,.pv (gC g)),(4,.pt 24 0 0),(5,.pt 104 0 0)],[(0,some (dice L b2)),(24,some ⟨3,[[.nilS,.nilS,.I 0]],0⟩),(104,some ⟨3,[[.rs 17 0 1,.nilS,.I lv]],0⟩),(17,some ⟨1,rowsI [(k1 : Int)],0⟩)],120⟩ rfl ?_ ?_
 ·simp
  refine callM1 (i:=0) rfl (e':=dice L a) (by simp) hc1 (by simp) (by simp) ?_
  simp
  refine callM1s (i:=0) (j:=80) (by decide) (by decide) rfl rfl (e':=dice L b1) (by simp) hc2 (by simp) (by simp) ?_
  simp
  exact Le.go [(0,0),(24,24),(104,104),(64,17)] [] rfl rfl (by simp) (by simp)
 refine awp_cut (ι:=List Int × Nat) (fun s=>⟨50,[(0,.pt 0 0 0),(4,.pt 24 0 0),(5,.pt 104 0 0)],[(0,some (dice L s.2)),(24,some ⟨3,[[.nilS,.nilS,.I 0]],0⟩),(104,some ⟨3,[[.rs 17 0 s.1.length,.nilS,.I lv]],0⟩),(17,some ⟨1,rowsI s.1,0⟩)],300⟩)
  (fun s=>s.2 ≤ L.length ∧ s.1 ≠ [] ∧ s.1.length ≤ 2 ∧ s.1.Pairwise (· < ·) ∧ ∀ k ∈ s.1,0 ≤ k ∧ k < g.size) ?_ fun s hs=>?_
 ·refine awp_regc ⟨50,[(0,.pt 0 0 0),(3,.pv (gC g)),(4,.pt 24 0 0),(5,.pt 104 0 0),(18,.B o)],[(0,some (dice L b3)),(24,some ⟨3,[[.nilS,.nilS,.I 0]],0⟩),(104,some ⟨3,[[.rs 17 0 1,.nilS,.I lv]],0⟩),(17,some ⟨1,rowsI [(k1 : Int)],0⟩)],136⟩ rfl ?_ ?_
  ·simp
   refine callM1 (i:=0) rfl (e':=dice L b2) (by simp) hc3 (by simp) (by simp) ?_
   simp
   exact Le.keep rfl (Nat.le_refl _) (by simp) (by simp)
  cases o with
  | true =>
    refine awp_cond _ rfl (fun _=>?_) fun h=>by cases h
    obtain ⟨k2,b4,⟨hb4,hk2⟩,hc4⟩:=Next_a L b3 g.size hl hb3 h0 (by omega)
    have hput:=Put_ok [(k1 : Int)] k2 (by simp)
    obtain ⟨S,hS⟩ : ∃ S,S = putL [(k1 : Int)] k2:=⟨_,rfl⟩
    rw [← hS] at hput
    refine awp_drw rfl ?_
    simp
    refine callM1 (i:=0) rfl (e':=dice L b3) (by simp) hc4 (by simp) (by simp) ?_
    simp
    refine callN1sZ (j:=17) (by decide) rfl hput (by simp) ?_
    simp [fcd]
    refine ⟨rfl,S,b4,⟨hb4,?_,?_,?_,fun k hk=>?_⟩,Le.go [(0,0),(24,24),(104,104),(184,17)] [] rfl rfl (by simp) (by simp [fcd])⟩
    ·intro h
     have : (k1 : Int) ∈ S:=by rw [hS]; exact mem_putL.2 (.inl (by simp))
     rw [h] at this
     cases this
    ·rw [hS]; exact putL_len _ _
    ·rw [hS]; exact putL_pair (by simp)
    ·rw [hS] at hk
     rcases mem_putL.1 hk with h | h
     ·simp at h; omega
     ·omega
  | false =>
    refine awp_cond _ rfl (fun h=>by cases h) fun _=>?_
    refine awp_skip ?_
    exact ⟨([(k1 : Int)],b3),⟨hb3,by simp,by simp,by simp,by simp; omega⟩,Le.go [(0,0),(24,24),(104,104),(17,17)] [] rfl rfl (by simp) (by simp)⟩
 obtain ⟨S,b4⟩:=s
 obtain ⟨hb4,hS1,hS2,hS3,hS4⟩:=hs
 simp only at hb4 hS1 hS2 hS3 hS4
 obtain ⟨v0,b5,⟨hb5,hv0⟩,hc5⟩:=Of_a L b4 [3,2,1,6,0] hl hb4 (by simp) (by simp)
 have hv0' : 0 ≤ v0 ∧ v0 ≤ 6:=by simp at hv0; omega
 have hwv : IntKind.i64.wrap (1 + v0) = 1 + v0:=w64 (by omega) (by omega)
 obtain ⟨n0,b6,⟨hb6,hn0⟩,hc6⟩:=Next_a L b5 4 hl hb5 (by omega) (by omega)
 have hwn : IntKind.i64.wrap (1 + (n0 : Int)) = ((n0 + 1 : Nat) : Int):=by rw [w64 (by omega) (by omega)]; omega
 refine awp_regc ⟨50,[(0,.pt 0 0 0),(4,.pt 24 0 0),(5,.pt 104 0 0),(6,.I (1 + v0))],[(0,some (dice L b5)),(24,some ⟨3,[[.nilS,.nilS,.I 0]],0⟩),(104,some ⟨3,[[.rs 17 0 S.length,.nilS,.I lv]],0⟩),(17,some ⟨1,rowsI S,0⟩)],400⟩ rfl ?_ ?_
 ·simp
  refine callM1s (i:=0) (j:=308) (by decide) (by decide) rfl rfl (e':=dice L b4) (by simp) hc5 (by simp) (by simp) ?_
  simp [hwv]
  exact Le.go [(0,0),(24,24),(104,104),(17,17)] [] rfl rfl (by simp) (by simp [fcd])
 refine awp_seq ?_
 refine awp_regc ⟨50,[(0,.pt 0 0 0),(4,.pt 24 0 0),(5,.pt 104 0 0),(6,.I (1 + v0)),(7,.I (n0 + 1 : Nat))],[(0,some (dice L b6)),(24,some ⟨3,[[.nilS,.nilS,.I 0]],0⟩),(104,some ⟨3,[[.rs 17 0 S.length,.nilS,.I lv]],0⟩),(17,some ⟨1,rowsI S,0⟩)],432⟩ rfl ?_ ?_
 ·simp
  refine callM1 (i:=0) rfl (e':=dice L b5) (by simp) hc6 (by simp) (by simp) ?_
  simp [hwn]
  exact Le.go [(0,0),(24,24),(104,104),(17,17)] [] rfl rfl (by simp) (by simp [fcd])
 refine awp_block ?_
 refine awp_loop (ι:=(List Int × Int) × (Nat × Nat)) (fun s=>⟨50,[(0,.pt 0 0 0),(4,.pt 24 0 0),(5,.pt 104 0 0),(6,.I s.1.2),(7,.I s.2.1)],[(0,some (dice L s.2.2)),(24,some ⟨3,[[.nilS,.nilS,.I 0]],0⟩),(104,some ⟨3,[[.rs 17 0 S.length,.rs 18 0 s.1.1.length,.I lv]],0⟩),(17,some ⟨1,rowsI S,0⟩),(18,some ⟨1,rowsI s.1.1,0⟩)],432⟩)
  (fun s=>s.1.1.length + s.2.1 = n0 + 1 ∧ TabL s.1.1 ∧ (1 ≤ s.1.2 ∧ s.1.2 ≤ 7) ∧ (∀ x ∈ s.1.1,s.1.2 ≤ x) ∧ s.2.2 ≤ L.length) (fun s=>s.2.1) (([],1 + v0),(n0 + 1,b6)) ⟨by simp,fun i h=>by simp at h,⟨by simp only; omega,by simp only; omega⟩,by simp,hb6⟩
  (Le.lst [(0,0),(24,24),(104,104),(17,17)] [] [(18,1)] rfl (by simp) (by simp) (by simp) (by simp) (by simp) (by simp) (by simp) (by simp [Up]) (by simp [fcd]; exact ⟨EntUp.rfl' (by simp),EntUp.rfl' (by simp),EntUp.row rfl (by omega) (by simp [UpL,Up]),EntUp.rfl' (by simp)⟩)) ?_
 rintro ⟨⟨T,v⟩,n,b⟩ ⟨hTn,hT,hv,hTv,hb⟩
 simp only at hTn hT hv hTv hb
 refine awp_seq ?_
 refine rk (s:=?s7) [0,4,5,6,7,35] [0,24,104,17,18] rfl ?o7 ?q7
 case o7=>simp; rfl
 refine awp_cond _ rfl (fun h8=>?_) fun h8=>?_
 ·simp at h8
  obtain ⟨m,rfl⟩ : ∃ m,n = m + 1:=⟨n - 1,by omega⟩
  have hwm : IntKind.i64.wrap (((m + 1 : Nat) : Int) - 1) = (m : Int):=by rw [w64 (by omega) (by omega)]; omega
  have hwm2 : IntKind.i64.wrap (m : Int) = (m : Int):=w64 (by omega) (by omega)
  obtain ⟨d,b',⟨hb',hd⟩,hc7⟩:=Next_a L b 3 hl hb (by omega) (by omega)
  have hwd : IntKind.i64.wrap (v - (d : Int)) = v - (d : Int):=w64 (by omega) (by omega)
  have htl : ∀ f : Int → List AV,List.take T.length (List.map f T) = List.map f T:=fun f=>List.take_of_length_le (by simp)
  refine awp_skip ?_
  refine awp_seq ?_
  refine awp_block ?_
  refine awp_regc ⟨50,[(0,.pt 0 0 0),(4,.pt 24 0 0),(5,.pt 104 0 0),(6,.I v),(7,.I (m + 1 : Nat))],[(0,some (dice L b)),(24,some ⟨3,[[.nilS,.nilS,.I 0]],0⟩),(104,some ⟨3,[[.rs 17 0 S.length,.rs 18 0 (T ++ [v]).length,.I lv]],0⟩),(17,some ⟨1,rowsI S,0⟩),(18,some ⟨1,rowsI (T ++ [v]),0⟩)],512⟩ rfl ?_ ?_
  ·simp [htl]
   refine ⟨by omega,by omega,?_⟩
   exact Le.go [(0,0),(24,24),(104,104),(17,17),(480,18)] [] rfl rfl (by simp) (by simp [fcd])
  refine awp_run (s:=?s9) rfl ?o9 ?q9
  case o9 =>
   simp
   refine callM1 (i:=0) rfl (e':=dice L b) (by simp) hc7 (by simp) (by simp) ?_
   simp [hwd]
   rfl
  refine awp_run (s:=?s10) rfl ?o10 ?q10
  case o10=>simp; rfl
  refine ⟨((T ++ [v],if 1 < v - d then v - d else 1),(m,b')),⟨by simp only [List.length_append,List.length_singleton]; omega,tabL_snoc hT hv.1 (by omega) hTv,⟨by simp only; split <;> omega,by simp only; split <;> omega⟩,fun x hx=>?_,hb'⟩,by simp only; omega,Le.go [(0,0),(24,24),(104,104),(17,17),(18,18)] [] rfl rfl (by simp [hwm2]) (by simp [fcd])⟩
  have : v ≤ x:=by
   rcases List.mem_append.1 hx with h | h
   ·exact hTv x h
   ·rw [List.mem_singleton] at h; omega
  simp only
  split <;> omega
 simp at h8
 obtain rfl : n = 0:=by omega
 refine awp_exit ?_
 refine hit ?_
 refine rk (s:=?s11) [4] [0,24,17,18] rfl ?o11 ?q11
 case o11=>simp; rfl
 refine awp_ret ?_
 refine PostX.mk (.inr rfl) (⟨S,T,lv⟩,b) ⟨⟨hS1,rise_of_pair hS3 hS4,by simp only; omega,by simp only; omega,hlv'.1,hlv'.2,hT⟩,hS2,by simp only; omega,hb⟩ ?_
 refine ⟨_,rfl,[],[17,18],by simp [List.range,List.range.loop],by simp,by simp,?_,?_⟩
 ·simp [List.range,List.range.loop,fcd,take_map_len]
 ·simp [List.range,List.range.loop]
def inD (D : List Int) (n : Nat) : List Int:=((List.range n).map fun k : Nat=>(k : Int)).filter fun k=>decide (k ∈ D)
theorem inD_succ (D : List Int) (n : Nat) : inD D (n + 1) = inD D n ++ if (n : Int) ∈ D then [(n : Int)] else []:=by
 unfold inD
 rw [List.range_succ,List.map_append,List.filter_append]
 simp only [List.map_cons,List.map_nil,List.filter_cons,List.filter_nil]
 split <;> simp_all
theorem mem_inD {D : List Int} {n : Nat} {x : Int} : x ∈ inD D n ↔ (0 ≤ x ∧ x < n) ∧ x ∈ D:=by
 unfold inD
 rw [List.mem_filter,List.mem_map]
 constructor
 ·rintro ⟨⟨k,hk,rfl⟩,h⟩
  have:=List.mem_range.1 hk
  exact ⟨by omega,by simpa using h⟩
 ·rintro ⟨h,h2⟩
  exact ⟨⟨x.toNat,List.mem_range.2 (by omega),by omega⟩,by simpa using h2⟩
theorem inD_pair (D : List Int) (n : Nat) : (inD D n).Pairwise (· < ·):=by
 unfold inD
 refine List.Pairwise.filter _ ?_
 rw [List.pairwise_map]
 exact List.pairwise_lt_range.imp fun h=>by omega
theorem inD_len (D : List Int) (n : Nat) : (inD D n).length ≤ n:=by
 unfold inD
 refine Nat.le_trans (List.length_filter_le ..) (by simp)
set_option maxRecDepth 100000 in
set_option maxHeartbeats 4000000 in
theorem Nearest_a (N : Nat) (A : List Ed) (hn : NetVal ⟨N,A⟩) :
  ∃ side : List Int,(SideOk ⟨N,A⟩ side ∧ cutV A side = maxF N A ∧ side.length ≤ 130) ∧ ACalls Tryz.prog nref16_Nearest [eN ⟨N,A⟩] [] (.tup [.rs 0 0 side.length,.I 0]) [some ⟨1,rowsI side,0⟩]:=by
 have hno:=netOk_of hn
 obtain ⟨f,⟨hf1,hf2⟩,hmax⟩:=Max_a N A hn
 have hfl:=hf1.fit.len
 obtain ⟨⟨D,b⟩,⟨hb,hcl⟩,hcall⟩:=Residual_a N A f hn hfl
 simp only at hb hcl hcall
 have h1D : (1 : Int) ∉ D:=fun hm=>by
  obtain ⟨l,hl⟩:=hb.chain hm
  have h1:=hl.push hno hf1 (v:=1) (by omega) fun s hs=>by
   obtain ⟨i,hi,rfl⟩:=List.mem_iff_getElem.1 hs
   have:=(hl.at_ i hi).2.1
   omega
  have h2:=hf2 _ h1.1
  omega
 have hgr:=(greatest hno hf1 hb.mem0 h1D hcl).1
 have hmf:=maxF_of hf1 hf2
 have hn':=hn
 obtain ⟨hn0,hn1,hal,hav⟩:=hn
 simp only at hn0 hn1 hal hav
 have hmD : ∀ x,x ∈ inD D N ↔ x ∈ D:=fun x=>by
  rw [mem_inD]
  exact ⟨fun h=>h.2,fun h=>⟨hb.rng x h,h⟩⟩
 have hside : SideOk ⟨N,A⟩ (inD D N):=⟨hn',rise_of_pair (inD_pair D N) fun k hk=>by have:=(mem_inD.1 hk).1; simp only; omega,(hmD 0).2 hb.mem0,fun h=>h1D ((hmD 1).1 h)⟩
 have hcut : cutV A (inD D N) = maxF N A:=by
  rw [cutV_capS,hmf,hgr]
  congr 1
  funext x
  exact decide_eq_decide.2 (hmD x)
 refine ⟨inD D N,⟨hside,hcut,Nat.le_trans (inD_len D N) (by omega)⟩,?_⟩
 have hblen:=hb.len
 have hbk : ∀ k : Nat,1 ≤ k → k < N → b[k]? = some (b.getD k 0) ∧ (b.getD k 0 = 0 ↔ (k : Int) ∉ D):=fun k h1 h2=>by
  refine ⟨by rw [List.getD_eq_getElem?_getD,List.getElem?_eq_getElem (by omega),Option.getD_some],fun h hm=>?_,fun h=>?_⟩
  ·have:=hb.inn k hm (by omega)
   simp only [Int.toNat_natCast] at this
   exact this h
  ·have:=hb.out k (by omega) h
   simpa using this
 have htake : ∀ g : Int → List AV,List.take A.length (List.map g f) = List.map g f:=fun g=>List.take_of_length_le (by simp; omega)
 refine sref16_Nearest.acalls (Nat.le_of_ble_eq_true rfl) (Nat.le_of_ble_eq_true rfl) (Nat.zero_le _) ?_
 show awp _ 0 _ _ ⟨37,[(0,eN ⟨N,A⟩)],[],16⟩
 refine rx (s:=?s1) [1] [] [16] rfl ?o1 ?q1
 case o1=>simp; rfl
 refine awp_regc ⟨37,[(1,.pv (nC ⟨N,A⟩)),(4,.rs 33 0 A.length),(5,.I 0)],[(33,some ⟨1,rowsI f,0⟩)],100⟩ rfl ?_ ?_
 ·simp
  refine callN1 hmax (by simp) ?_
  simp
  exact Le.go [(48,33)] [] rfl rfl (by simp) (by simp [fcd])
 refine awp_seq ?_
 refine awp_regc ⟨37,[(1,.pv (nC ⟨N,A⟩)),(4,.rs 33 0 A.length),(15,.B false)],[(33,some ⟨1,rowsI f,0⟩)],200⟩ rfl ?_ ?_
 ·simp
  exact Le.go [(33,33)] [] rfl rfl (by simp) (by simp [fcd])
 refine awp_cond _ rfl (fun h=>by cases h) fun _=>?_
 refine awp_skip ?_
 refine awp_regc ⟨37,[(1,.pv (nC ⟨N,A⟩)),(6,.rs 34 0 N)],[(34,some ⟨1,rowsI b,0⟩)],300⟩ rfl ?_ ?_
 ·simp
  refine callN1r [33] hcall (by simp [fcd,htake,hfl]) (.rs _ _ _) plainI ?_
  simp
  exact Le.go [(216,34)] [] rfl rfl (by simp) (by simp [fcd])
 have hi1 : inD D 1 = [0]:=by
  rw [inD_succ]
  have : ((0 : Nat) : Int) ∈ D:=hb.mem0
  rw [if_pos this]
  rfl
 refine awp_regc ⟨37,[(1,.pv (nC ⟨N,A⟩)),(6,.rs 34 0 N),(7,.rs 35 0 (inD D 1).length)],[(34,some ⟨1,rowsI b,0⟩),(35,some ⟨1,rowsI (inD D 1),0⟩)],400⟩ rfl ?_ ?_
 ·rw [hi1]
  simp
  exact Le.go [(34,34),(300,35)] [] rfl rfl (by simp) (by simp [fcd])
 refine awp_seq ?_
 refine awp_regc ⟨37,[(1,.pv (nC ⟨N,A⟩)),(6,.rs 34 0 N),(7,.rs 35 0 (inD D 1).length),(8,.I 1)],[(34,some ⟨1,rowsI b,0⟩),(35,some ⟨1,rowsI (inD D 1),0⟩)],500⟩ rfl ?_ ?_
 ·simp
  exact Le.go [(34,34),(35,35)] [] rfl rfl (by simp) (by simp [fcd])
 refine awp_block ?_
 refine awp_loop (ι:=Nat) (fun k=>⟨37,[(1,.pv (nC ⟨N,A⟩)),(6,.rs 34 0 N),(7,.rs 35 0 (inD D k).length),(8,.I k)],[(34,some ⟨1,rowsI b,0⟩),(35,some ⟨1,rowsI (inD D k),0⟩)],500⟩) (fun k=>1 ≤ k ∧ k ≤ N) (fun k=>N - k) 1 (by omega) (Le.go [(34,34),(35,35)] [] rfl rfl (by simp) (by simp [fcd])) ?_
 rintro k ⟨hk1,hk2⟩
 have hdl:=inD_len D k
 refine awp_seq ?_
 refine awp_regc ⟨37,[(1,.pv (nC ⟨N,A⟩)),(6,.rs 34 0 N),(7,.rs 35 0 (inD D k).length),(8,.I k),(24,.B (decide (k < N)))],[(34,some ⟨1,rowsI b,0⟩),(35,some ⟨1,rowsI (inD D k),0⟩)],600⟩ rfl ?_ ?_
 ·simp
  exact Le.go [(34,34),(35,35)] [] rfl rfl (by simp) (by simp [fcd])
 refine awp_cond _ rfl (fun h10=>?_) fun h10=>?_
 ·simp at h10
  obtain ⟨hbe,hbi⟩:=hbk k hk1 h10
  obtain ⟨y,hy⟩ : ∃ y,y = b.getD k 0:=⟨_,rfl⟩
  rw [← hy] at hbe hbi
  have hsu:=inD_succ D k
  have hw1 : IntKind.i64.wrap ((k : Int) + 1) = (k : Int) + 1:=w64 (by omega) (by omega)
  refine awp_skip ?_
  refine awp_cut (ι:=Unit) (fun _=>⟨37,[(1,.pv (nC ⟨N,A⟩)),(6,.rs 34 0 N),(7,.rs 35 0 (inD D (k + 1)).length),(8,.I k)],[(34,some ⟨1,rowsI b,0⟩),(35,some ⟨1,rowsI (inD D (k + 1)),0⟩)],1000⟩) (fun _=>True) ?_ fun _ _=>?_
  ·refine awp_block ?_
   refine awp_regc ⟨37,[(1,.pv (nC ⟨N,A⟩)),(6,.rs 34 0 N),(7,.rs 35 0 (inD D k).length),(8,.I k),(31,.B (!decide (y = 0)))],[(34,some ⟨1,rowsI b,0⟩),(35,some ⟨1,rowsI (inD D k),0⟩)],700⟩ rfl ?_ ?_
   ·simp [hbe,h10]
    exact Le.go [(34,34),(35,35)] [] rfl rfl (by simp <;> exact wkB (by rw [Bool.eq_iff_iff]; simp)) (by simp [fcd])
   refine awp_cond _ rfl (fun h12=>?_) fun h12=>?_
   ·simp at h12
    rw [if_pos (Decidable.byContradiction fun h=>h12 (hbi.2 h))] at hsu
    rw [hsu]
    obtain ⟨E,hE⟩ : ∃ E,E = inD D k:=⟨_,rfl⟩
    rw [← hE] at hdl ⊢
    have htk : ∀ g : Int → List AV,List.take E.length (List.map g E) = List.map g E:=fun g=>List.take_of_length_le (by simp)
    refine awp_reg rfl ?_
    simp [htk]
    exact ⟨by omega,by omega,Le.go [(34,34),(724,35)] [] rfl rfl (by simp) (by simp [fcd])⟩
   ·simp at h12
    rw [if_neg (hbi.1 h12),List.append_nil] at hsu
    rw [hsu]
    refine awp_skip ?_
    exact ⟨(),trivial,Le.go [(34,34),(35,35)] [] rfl rfl (by simp) (by simp [fcd])⟩
  refine awp_run (s:=?s10) rfl ?o10 ?q10
  case o10=>simp; rfl
  exact ⟨k + 1,by omega,by omega,Le.go [(34,34),(35,35)] [] rfl rfl (by simp [hw1]) (by simp [fcd])⟩
 simp at h10
 obtain rfl : k = N:=by omega
 refine awp_exit ?_
 refine hit ?_
 refine awp_regc ⟨37,[(2,.rs 35 0 (inD D k).length),(3,.I 0)],[(35,some ⟨1,rowsI (inD D k),0⟩)],700⟩ rfl ?_ ?_
 ·simp
  exact Le.go [(35,35)] [] rfl rfl (by simp) (by simp [fcd])
 refine awp_ret ?_
 exact ⟨.inr rfl,RetOk.out [35] [] rfl (by simp) (by simp) (by simp) (by simp [fcd])⟩
theorem sorted_ext : ∀ {a b : List Int},a.Pairwise (· < ·) → b.Pairwise (· < ·) → (∀ x,x ∈ a ↔ x ∈ b) → a = b
 | [],[],_,_,_=>rfl
 | [],y :: b,_,_,h=>by have:=(h y).2 (by simp); cases this
 | x :: a,[],_,_,h=>by have:=(h x).1 (by simp); cases this
 | x :: a,y :: b,ha,hb,h=>by
   have ha':=List.pairwise_cons.1 ha
   have hb':=List.pairwise_cons.1 hb
   have hxy : x = y:=by
    have h1:=(h x).1 (by simp)
    have h2:=(h y).2 (by simp)
    rcases List.mem_cons.1 h1 with e | e
    ·exact e
    ·rcases List.mem_cons.1 h2 with e2 | e2
     ·exact e2.symm
     ·have:=hb'.1 x e
      have:=ha'.1 y e2
      omega
   subst hxy
   congr 1
   refine sorted_ext ha'.2 hb'.2 fun z=>⟨fun hz=>?_,fun hz=>?_⟩
   ·rcases List.mem_cons.1 ((h z).1 (List.mem_cons_of_mem _ hz)) with rfl | e
    ·have:=ha'.1 z hz; omega
    ·exact e
   ·rcases List.mem_cons.1 ((h z).2 (List.mem_cons_of_mem _ hz)) with rfl | e
    ·have:=hb'.1 z hz; omega
    ·exact e
theorem putL_join {a : List Int} {k : Int} (h0 : 0 ≤ k) (h1 : k < 64) : putL (joinL a) k = joinL (a ++ [k]):=by
 refine sorted_ext (putL_pair (joinL_lt a)) (joinL_lt _) fun x=>?_
 rw [mem_putL,mem_joinL,mem_joinL,List.mem_append,List.mem_singleton]
 constructor
 ·rintro (h | rfl)
  ·exact ⟨.inl h.1,h.2⟩
  ·exact ⟨.inr rfl,h0,h1⟩
 ·rintro ⟨h | h,h2⟩
  ·exact .inl ⟨h,h2⟩
  ·exact .inr h
open Classical in
noncomputable def accR (g : Gr) (p : Pol) (o : List Int) : List Int:=o.foldl (fun acc k=>if CanServe g p (joinL (acc ++ [k])) then acc ++ [k] else acc) []
variable {g : Gr} {p : Pol}
theorem accR_nil : accR g p [] = []:=rfl
open Classical in
theorem accR_yes {o : List Int} {k : Int} (h : CanServe g p (joinL (accR g p o ++ [k]))) : accR g p (o ++ [k]) = accR g p o ++ [k]:=by
 have h2 : accR g p (o ++ [k]) = if CanServe g p (joinL (accR g p o ++ [k])) then accR g p o ++ [k] else accR g p o:=by unfold accR; rw [List.foldl_append]; rfl
 rw [h2,if_pos h]
open Classical in
theorem accR_no {o : List Int} {k : Int} (h : ¬ CanServe g p (joinL (accR g p o ++ [k]))) : accR g p (o ++ [k]) = accR g p o:=by
 have h2 : accR g p (o ++ [k]) = if CanServe g p (joinL (accR g p o ++ [k])) then accR g p o ++ [k] else accR g p o:=by unfold accR; rw [List.foldl_append]; rfl
 rw [h2,if_neg h]
theorem accR_step (o : List Int) (k : Int) : accR g p (o ++ [k]) = accR g p o ∨ accR g p (o ++ [k]) = accR g p o ++ [k]:=by
 by_cases h : CanServe g p (joinL (accR g p o ++ [k]))
 ·exact .inr (accR_yes h)
 ·exact .inl (accR_no h)
theorem accR_sub : ∀ (n : Nat) (o : List Int),o.length = n → (accR g p o).Sublist o
 | 0,o,h=>by
   obtain rfl:=List.eq_nil_of_length_eq_zero h
   exact List.nil_sublist _
 | n + 1,o,h=>by
   have hne : o ≠ []:=fun e=>by rw [e] at h; cases h
   rw [← List.dropLast_concat_getLast hne]
   have ih:=accR_sub n o.dropLast (by rw [List.length_dropLast,h]; rfl)
   rcases accR_step (g:=g) (p:=p) o.dropLast (o.getLast hne) with e | e
   ·rw [e]; exact ih.trans (List.sublist_append_left _ _)
   ·rw [e]; exact ih.append (List.Sublist.refl _)
theorem accR_mem {o : List Int} {x : Int} (h : x ∈ accR g p o) : x ∈ o:=(accR_sub _ o rfl).subset h
theorem accR_len (o : List Int) : (accR g p o).length ≤ o.length:=(accR_sub _ o rfl).length_le
structure NearOk (g : Gr) (p : Pol) (acc : List Int) (k : Int) (side : List Int) : Prop where
 no : ¬ CanServe g p (joinL (acc ++ [k]))
 ok : SideOk ⟨netN g,netA g p (joinL (acc ++ [k]))⟩ side
 cut : cutV (netA g p (joinL (acc ++ [k]))) side = maxF (netN g) (netA g p (joinL (acc ++ [k])))
 len : side.length ≤ 130
structure RefOk (g : Gr) (p : Pol) (o : List Int) (R : List (Int × List Int)) : Prop where
 all : ∀ i (h : i < o.length),o[i] ∉ accR g p (o.take (i + 1)) → ∃ side,(o[i],side) ∈ R
 right : ∀ r ∈ R,∃ i,∃ h : i < o.length,o[i] = r.1 ∧ NearOk g p (accR g p (o.take i)) r.1 r.2
 len : R.length ≤ o.length
theorem RefOk.nil : RefOk g p [] []:=⟨fun i h=>absurd h (Nat.not_lt_zero _),(fun r h=>nomatch h),Nat.le_refl _⟩
theorem RefOk.yes {o : List Int} {k : Int} {R : List (Int × List Int)} (hr : RefOk g p o R) (h : CanServe g p (joinL (accR g p o ++ [k]))) : RefOk g p (o ++ [k]) R:=by
 refine ⟨fun i hi hn=>?_,fun r hr'=>?_,Nat.le_trans hr.len (by simp)⟩
 ·rw [List.length_append,List.length_singleton] at hi
  by_cases hio : i < o.length
  ·rw [List.getElem_append_left hio] at hn ⊢
   rw [List.take_append_of_le_length (by omega)] at hn
   exact hr.all i hio hn
  ·obtain rfl : i = o.length:=by omega
   refine absurd ?_ hn
   rw [List.take_of_length_le (by simp),accR_yes h]
   simp
 ·obtain ⟨i,hi,h1,h2⟩:=hr.right r hr'
  refine ⟨i,by simp; omega,by rw [List.getElem_append_left hi]; exact h1,?_⟩
  rw [List.take_append_of_le_length (by omega)]
  exact h2
theorem RefOk.no {o : List Int} {k : Int} {R : List (Int × List Int)} {side : List Int} (hr : RefOk g p o R) (h : NearOk g p (accR g p o) k side) : RefOk g p (o ++ [k]) (R ++ [(k,side)]):=by
 refine ⟨fun i hi hn=>?_,fun r hr'=>?_,by have:=hr.len; simp; omega⟩
 ·rw [List.length_append,List.length_singleton] at hi
  by_cases hio : i < o.length
  ·rw [List.getElem_append_left hio] at hn ⊢
   rw [List.take_append_of_le_length (by omega)] at hn
   obtain ⟨s,hs⟩:=hr.all i hio hn
   exact ⟨s,List.mem_append_left _ hs⟩
  ·obtain rfl : i = o.length:=by omega
   exact ⟨side,by simp⟩
 ·rcases List.mem_append.1 hr' with h3 | h3
  ·obtain ⟨i,hi,h1,h2⟩:=hr.right r h3
   refine ⟨i,by simp; omega,by rw [List.getElem_append_left hi]; exact h1,?_⟩
   rw [List.take_append_of_le_length (by omega)]
   exact h2
  ·rw [List.mem_singleton] at h3
   subst h3
   refine ⟨o.length,by simp,by simp,?_⟩
   rw [List.take_append_of_le_length (Nat.le_refl _),List.take_length]
   exact h
abbrev rowsR (R : List (Int × List Int)) : List (List AV):=R.map fun r=>[.I r.1,ints r.2]
abbrev eAcc (acc flow : List Int) (R : List (Int × List Int)) : AV:=.agg [ints acc,ints flow,.vs 2 false (rowsR R)]
structure RSt where
 i : Nat
 R : List (Int × List Int)
set_option maxRecDepth 100000 in
set_option maxHeartbeats 4000000 in
open Classical in
theorem Run_a (g : Gr) (p : Pol) (hg : GrOk g) (hp : PolOk g.size p) (hs : p.seeds.length ≤ 64) :
  ∃ x : List (Int × List Int) × List Int,(RefOk g p (ordL (levelG g p.lv) p.seeds) x.1 ∧ GreatF g p (joinL (accR g p (ordL (levelG g p.lv) p.seeds))) x.2) ∧
    ACalls Tryz.prog nref17_Run [eG g,eP p] [] (.tup [eAcc (accR g p (ordL (levelG g p.lv) p.seeds)) x.2 x.1,.I 0]) []:=by
 refine sref17_Run.acallsX (args:=[eG g,eP p]) (hs:=[]) (fun x=>.tup [eAcc (accR g p (ordL (levelG g p.lv) p.seeds)) x.2 x.1,.I 0]) (fun _=>[]) (fun x : List (Int × List Int) × List Int=>RefOk g p (ordL (levelG g p.lv) p.seeds) x.1 ∧ GreatF g p (joinL (accR g p (ordL (levelG g p.lv) p.seeds))) x.2) (Nat.le_of_ble_eq_true rfl) (Nat.le_of_ble_eq_true rfl) (fun _=>Nat.le_refl _) ?_
 show awp _ 0 _ _ ⟨84,[(0,eG g),(1,eP p)],[],16⟩
 have hsz:=hg.1.1
 have hsz2:=hg.1.2.1
 have hel:=hg.edges_le
 have hgl:=hg.gone_le
 have hchk:=ref13_Check_ok g p (by omega) (by omega) (by omega) (by have:=hp.2.2.2.1; omega)
 rw [if_pos hg,if_pos hp] at hchk
 have hlev:=ref11_Level_ok g p.lv (by omega) (by omega)
 have hord:=ref12_Order_ok (g:=levelG g p.lv) (S:=p.seeds) (hg.level p.lv) (by omega)
 obtain ⟨o,ho⟩ : ∃ o,o = ordL (levelG g p.lv) p.seeds:=⟨_,rfl⟩
 have hor : ∀ k ∈ o,0 ≤ k ∧ k < g.size:=fun k hk=>by rw [ho] at hk; have h:=ordL_range hk; exact h
 have hon : o.Nodup:=by rw [ho]; exact ordL_nodup _ _
 rw [← ho] at hord ⊢
 have hol : o.length ≤ 64:=by
  have:=nodup_sub_len (b:=(List.range g.size.toNat).map fun i : Nat=>(i : Int)) hon fun x hx=>by
   have:=hor x hx
   exact List.mem_map.2 ⟨x.toNat,List.mem_range.2 (by omega),by omega⟩
  simp at this
  omega
 have hjr : ∀ a : List Int,(∀ x ∈ a,0 ≤ x ∧ x < g.size) → Rise (joinL a) 0 (g.size - 1):=fun a h=>rise_join h
 have hj0 : joinL [] = []:=rfl
 refine rx (s:=?s1) [2,3,4] [32] [16,24] rfl ?o1 ?q1
 case o1=>simp; rfl
 refine awp_seq ?_
 refine rx (s:=?s2) [2,3,4,6] [32] [] rfl ?o2 ?q2
 case o2=>simp; refine call0e hchk (by simp) ?_; simp; rfl
 refine rx (s:=?s3) [2,3,4,6,21] [32] [] rfl ?o3 ?q3
 case o3=>simp; rfl
 refine awp_cond _ rfl (fun h=>by cases h) fun _=>?_
 refine awp_skip ?_
 refine awp_regc ⟨84,[(2,.pv (gC g)),(3,.pv (pC p)),(4,.pt 32 0 0),(7,.pt 40 0 0)],[(32,some ⟨3,[[.nilS,.nilS,.nilS]],0⟩),(40,some ⟨3,[[.nilS,.nilS,.nilS]],0⟩)],200⟩ rfl ?_ ?_
 ·simp
  exact Le.go [(32,32),(96,40)] [] rfl rfl (by simp) (by simp)
 refine awp_regc ⟨84,[(2,.pv (gC g)),(3,.pv (pC p)),(4,.pt 32 0 0),(7,.pt 40 0 0),(8,.vs 1 false [])],[(32,some ⟨3,[[.nilS,.nilS,.nilS]],0⟩),(40,some ⟨3,[[.nilS,.nilS,.nilS]],0⟩)],300⟩ rfl ?_ ?_
 ·simp
  exact Le.go [(32,32),(40,40)] [] rfl rfl (by simp) (by simp)
 refine awp_dregc ⟨84,[(2,.pv (gC g)),(3,.pv (pC p)),(4,.pt 32 0 0),(7,.pt 40 0 0),(8,.vs 1 false []),(9,ints o)],[(32,some ⟨3,[[.nilS,.nilS,.nilS]],0⟩),(40,some ⟨3,[[.nilS,.nilS,.nilS]],0⟩)],400⟩ rfl ?_ ?_
 ·simp
  refine call0e hlev (by simp) ?_
  simp
  refine callN1 hord (by simp) ?_
  simp
  exact ⟨rfl,Le.go [(32,32),(40,40)] [348] rfl rfl (by simp [fcd,take_map_len]) (by simp)⟩
 refine awp_seq ?_
 refine awp_regc ⟨84,[(2,.pv (gC g)),(3,.pv (pC p)),(4,.pt 32 0 0),(7,.pt 40 0 0),(8,.vs 1 false []),(9,ints o),(10,.I 0)],[(32,some ⟨3,[[.nilS,.nilS,.nilS]],0⟩),(40,some ⟨3,[[.nilS,.nilS,.nilS]],0⟩)],500⟩ rfl ?_ ?_
 ·simp
  exact Le.go [(32,32),(40,40)] [] rfl rfl (by simp) (by simp)
 refine awp_block ?_
 refine awp_loop (ι:=RSt) (fun s=>⟨84,[(2,.pv (gC g)),(3,.pv (pC p)),(4,.pt 32 0 0),(7,.pt 40 0 0),(8,ints (joinL (accR g p (o.take s.i)))),(9,ints o),(10,.I s.i)],
   [(32,some ⟨3,[[.nilS,.nilS,.nilS]],0⟩),(40,some ⟨3,[[.rs 41 0 (accR g p (o.take s.i)).length,.nilS,.rs 42 0 s.R.length]],0⟩),(41,some ⟨1,rowsI (accR g p (o.take s.i)),0⟩),(42,some ⟨2,rowsR s.R,0⟩)],500⟩)
  (fun s=>s.i ≤ o.length ∧ RefOk g p (o.take s.i) s.R) (fun s=>o.length - s.i) ⟨0,[]⟩ ⟨Nat.zero_le _,RefOk.nil⟩
  (Le.lst [(32,32),(40,40)] [] [(41,1),(42,2)] rfl (by simp) (by simp) (by simp) (by simp) (by simp) (by simp) (by simp) (by simp [Up,accR_nil,hj0]; exact .refl _) (by simp [accR_nil,fcd]; exact ⟨EntUp.rfl' (by simp),EntUp.row rfl (by omega) (by simp [UpL,Up,Wk.refl])⟩)) ?_
 rintro ⟨i,R⟩ ⟨hi,hR⟩
 simp only at hi hR
 obtain ⟨acc,hacc⟩ : ∃ acc,acc = accR g p (o.take i):=⟨_,rfl⟩
 have hai : ∀ x ∈ acc,0 ≤ x ∧ x < g.size:=fun x hx=>hor x (List.mem_of_mem_take (accR_mem (hacc ▸ hx)))
 have hal : acc.length ≤ 64:=by
  have h1:=accR_len (g:=g) (p:=p) (o.take i)
  rw [← hacc] at h1
  exact Nat.le_trans h1 (Nat.le_trans (List.length_take_le' i o) hol)
 have hRl:=hR.len
 have hRl2:=List.length_take_le' i o
 rw [← hacc]
 refine awp_seq ?_
 refine awp_regc ⟨84,[(2,.pv (gC g)),(3,.pv (pC p)),(4,.pt 32 0 0),(7,.pt 40 0 0),(8,ints (joinL acc)),(9,ints o),(10,.I i),(34,.B (decide (i < o.length)))],
   [(32,some ⟨3,[[.nilS,.nilS,.nilS]],0⟩),(40,some ⟨3,[[.rs 41 0 acc.length,.nilS,.rs 42 0 R.length]],0⟩),(41,some ⟨1,rowsI acc,0⟩),(42,some ⟨2,rowsR R,0⟩)],600⟩ rfl ?_ ?_
 ·simp
  exact Le.go [(32,32),(40,40),(41,41),(42,42)] [] rfl rfl (by simp) (by simp [fcd])
 refine awp_cond _ rfl (fun h11=>?_) fun h11=>?_
 ·simp at h11
  have hw1 : IntKind.i64.wrap ((i : Int) + 1) = (i : Int) + 1:=w64 (by omega) (by omega)
  obtain ⟨k,hk⟩ : ∃ k,k = o[i]:=⟨_,rfl⟩
  have hkr:=hor _ (List.getElem_mem h11)
  rw [← hk] at hkr
  have hts : o.take (i + 1) = o.take i ++ [k]:=by rw [List.take_succ_eq_append_getElem h11,hk]
  have hput:=Put_ok (joinL acc) k (by have:=joinL_len acc; omega)
  rw [putL_join hkr.1 (by omega)] at hput
  have hks : ∀ x ∈ acc ++ [k],0 ≤ x ∧ x < g.size:=fun x hx=>by
   rcases List.mem_append.1 hx with h | h
   ·exact hai x h
   ·rw [List.mem_singleton] at h; subst h; exact hkr
  have hrise:=hjr _ hks
  have hJl:=joinL_len (acc ++ [k])
  obtain ⟨f,hf,hsv⟩:=served_a g p (joinL (acc ++ [k])) hg hp hrise hs hJl
  have hnv:=netA_val hg hp (rise_in hrise) hs hJl
  obtain ⟨side,⟨hsd1,hsd2,hsd3⟩,hnear⟩:=Nearest_a _ _ hnv
  have hyes:=accR_yes (g:=g) (p:=p) (o:=o.take i) (k:=k)
  have hno:=accR_no (g:=g) (p:=p) (o:=o.take i) (k:=k)
  rw [← hacc,← hts] at hyes hno
  have hRy:=hR.yes (k:=k)
  have hRn:=fun h=>hR.no (k:=k) (side:=side) h
  rw [← hacc,← hts] at hRy hRn
  obtain ⟨J,hJ⟩ : ∃ J,J = joinL (acc ++ [k]):=⟨_,rfl⟩
  rw [← hJ] at hput hsv hnear hsd1 hsd2 hyes hno hRy hf
  refine awp_skip ?_
  refine awp_cut (ι:=RSt) (fun s=>⟨84,[(2,.pv (gC g)),(3,.pv (pC p)),(4,.pt 32 0 0),(7,.pt 40 0 0),(8,ints (joinL (accR g p (o.take (i + 1))))),(9,ints o),(10,.I i)],
   [(32,some ⟨3,[[.nilS,.nilS,.nilS]],0⟩),(40,some ⟨3,[[.rs 41 0 (accR g p (o.take (i + 1))).length,.nilS,.rs 42 0 s.R.length]],0⟩),(41,some ⟨1,rowsI (accR g p (o.take (i + 1))),0⟩),(42,some ⟨2,rowsR s.R,0⟩)],3000⟩)
   (fun s=>RefOk g p (o.take (i + 1)) s.R) ?_ fun s hs'=>?_
  ·refine awp_block ?_
   refine awp_regc ⟨84,[(2,.pv (gC g)),(3,.pv (pC p)),(4,.pt 32 0 0),(7,.pt 40 0 0),(8,ints (joinL acc)),(9,ints o),(10,.I i),(11,.I k)],
    [(32,some ⟨3,[[.nilS,.nilS,.nilS]],0⟩),(40,some ⟨3,[[.rs 41 0 acc.length,.nilS,.rs 42 0 R.length]],0⟩),(41,some ⟨1,rowsI acc,0⟩),(42,some ⟨2,rowsR R,0⟩)],700⟩ rfl ?_ ?_
   ·simp [h11,← hk]
    exact Le.go [(32,32),(40,40),(41,41),(42,42)] [] rfl rfl (by simp) (by simp [fcd])
   refine awp_dregc ⟨84,[(2,.pv (gC g)),(3,.pv (pC p)),(4,.pt 32 0 0),(7,.pt 40 0 0),(8,ints (joinL acc)),(9,ints o),(10,.I i),(11,.I k),(12,.pv (nC ⟨netN g,netA g p J⟩)),(14,.B (decide (CanServe g p J)))],
    [(32,some ⟨3,[[.nilS,.nilS,.nilS]],0⟩),(40,some ⟨3,[[.rs 41 0 acc.length,.nilS,.rs 42 0 R.length]],0⟩),(41,some ⟨1,rowsI acc,0⟩),(42,some ⟨2,rowsR R,0⟩)],900⟩ rfl ?_ ?_
   ·simp
    refine callN1 hput (by simp) ?_
    simp
    refine callN1sZ (j:=732) (by decide) rfl hsv (by simp [fcd,take_map_len]) ?_
    simp
    exact ⟨rfl,Le.go [(32,32),(40,40),(41,41),(42,42)] [780,732,740] rfl rfl (by simp [take_map_len]) (by simp [fcd])⟩
   refine awp_seq ?_
   refine awp_regc ⟨84,[(2,.pv (gC g)),(3,.pv (pC p)),(4,.pt 32 0 0),(7,.pt 40 0 0),(8,ints (joinL acc)),(9,ints o),(10,.I i),(11,.I k),(12,.pv (nC ⟨netN g,netA g p J⟩)),(51,.B (decide (CanServe g p J)))],
    [(32,some ⟨3,[[.nilS,.nilS,.nilS]],0⟩),(40,some ⟨3,[[.rs 41 0 acc.length,.nilS,.rs 42 0 R.length]],0⟩),(41,some ⟨1,rowsI acc,0⟩),(42,some ⟨2,rowsR R,0⟩)],1000⟩ rfl ?_ ?_
   ·simp
    exact Le.go [(32,32),(40,40),(41,41),(42,42)] [] rfl rfl (by simp) (by simp [fcd])
   refine awp_cond _ rfl (fun h15=>?_) fun h15=>?_
   ·have h15' : CanServe g p J:=of_decide_eq_true h15
    have hy:=hyes h15'
    have hRy':=hRy h15'
    refine awp_regc ⟨84,[(2,.pv (gC g)),(3,.pv (pC p)),(4,.pt 32 0 0),(7,.pt 40 0 0),(8,ints J),(9,ints o),(10,.I i)],
     [(32,some ⟨3,[[.nilS,.nilS,.nilS]],0⟩),(40,some ⟨3,[[.rs 41 0 (acc ++ [k]).length,.nilS,.rs 42 0 R.length]],0⟩),(41,some ⟨1,rowsI (acc ++ [k]),0⟩),(42,some ⟨2,rowsR R,0⟩)],1200⟩ rfl ?_ ?_
    ·simp [take_map_len]
     refine ⟨by omega,by omega,?_⟩
     refine callN1 hput (by simp) ?_
     simp [splice]
     exact Le.go [(32,32),(40,40),(1032,41),(42,42)] [1056] rfl rfl (by simp [fcd,take_map_len]) (by simp [fcd])
    refine awp_exit ?_
    refine hit ?_
    exact ⟨⟨i,R⟩,hRy',Le.go [(32,32),(40,40),(41,41),(42,42)] [] rfl rfl (by simp [hy,← hJ]) (by simp [hy,fcd])⟩
   ·have h15' : ¬ CanServe g p J:=of_decide_eq_false h15
    have hn':=hno h15'
    have hRn':=hRn ⟨by rw [← hJ]; exact h15',by rw [← hJ]; exact hsd1,by rw [← hJ]; exact hsd2,hsd3⟩
    refine awp_skip ?_
    refine awp_regc ⟨84,[(2,.pv (gC g)),(3,.pv (pC p)),(4,.pt 32 0 0),(7,.pt 40 0 0),(8,ints (joinL acc)),(9,ints o),(10,.I i),(11,.I k),(15,ints side)],
     [(32,some ⟨3,[[.nilS,.nilS,.nilS]],0⟩),(40,some ⟨3,[[.rs 41 0 acc.length,.nilS,.rs 42 0 R.length]],0⟩),(41,some ⟨1,rowsI acc,0⟩),(42,some ⟨2,rowsR R,0⟩)],1200⟩ rfl ?_ ?_
    ·simp
     refine callN1 hnear (by simp) ?_
     simp
     exact Le.go [(32,32),(40,40),(41,41),(42,42)] [1008] rfl rfl (by simp [fcd,take_map_len]) (by simp [fcd])
    have htR : ∀ h : Int × List Int → List AV,List.take R.length (List.map h R) = List.map h R:=fun h=>List.take_of_length_le (by simp)
    refine awp_reg rfl ?_
    simp [htR,splice]
    exact ⟨by omega,by omega,⟨i,R ++ [(k,side)]⟩,hRn',Le.go [(32,32),(40,40),(41,41),(1248,42)] [] rfl rfl (by simp [hn']) (by simp [hn',fcd])⟩
  refine awp_run (s:=?s30) rfl ?o30 ?q30
  case o30=>simp; rfl
  exact ⟨⟨i + 1,s.R⟩,⟨h11,hs'⟩,Nat.sub_lt_sub_left h11 (Nat.lt_succ_self i),Le.go [(32,32),(40,40),(41,41),(42,42)] [] rfl rfl (by simp [hw1]) (by simp [fcd])⟩
 simp at h11
 obtain rfl : i = o.length:=by omega
 rw [List.take_length] at hacc hR
 obtain ⟨f,hf,hsv⟩:=served_a g p (joinL acc) hg hp (hjr _ hai) hs (joinL_len acc)
 refine awp_exit ?_
 refine hit ?_
 have hfl:=hf.ok.fit.len
 have htf : ∀ h : Int → List AV,List.take (netA g p (joinL acc)).length (List.map h f) = List.map h f:=fun h=>List.take_of_length_le (by simp; omega)
 refine awp_regc ⟨84,[(4,.pt 32 0 0),(7,.pt 40 0 0)],
   [(32,some ⟨3,[[.nilS,.nilS,.nilS]],0⟩),(40,some ⟨3,[[ints acc,ints f,.vs 2 false (rowsR R)]],0⟩)],1200⟩ rfl ?_ ?_
 ·simp
  refine callN1 hsv (by simp) ?_
  simp [splice]
  exact Le.go [(32,32),(40,40)] [41,42,624] rfl rfl (by simp) (by simp [fcd,take_map_len,htf,hfl])
 refine awp_regc ⟨84,[(4,.pt 32 0 0),(5,.I 0)],[(32,some ⟨3,[[ints acc,ints f,.vs 2 false (rowsR R)]],0⟩)],1400⟩ rfl ?_ ?_
 ·simp [splice]
  exact Le.go [(32,32)] [] rfl rfl (by simp) (by simp [fcd])
 refine awp_ret ?_
 exact PostX.mk (.inr rfl) (R,f) ⟨hR,by rw [← hacc]; exact hf⟩ (RetOk.out [] [] rfl (by simp) (by simp) (by simp [← hacc]) (by simp))
theorem arcD_get {A : List Ed} {i : Nat} (h : i < A.length) : arcD A i = A[i]:=by
 unfold arcD
 rw [List.getD_eq_getElem?_getD,List.getElem?_eq_getElem h,Option.getD_some]
theorem getD_get {f : List Int} {i : Nat} (h : i < f.length) : f.getD i 0 = f[i]:=by
 rw [List.getD_eq_getElem?_getD,List.getElem?_eq_getElem h,Option.getD_some]
set_option maxRecDepth 100000 in
theorem next_a (N : Nat) (A : List Ed) (left : List Int) (node : Int) (hl : left.length = A.length) (hal : A.length ≤ 1200) : ∃ k : Int,NextR A left node k ∧ ACalls Tryz.prog nref43_next [eN ⟨N,A⟩,ints left,.I node] [] (.I k) []:=by
 refine sref43_next.acallsX (args:=[eN ⟨N,A⟩,ints left,.I node]) (hs:=[]) (fun k=>.I k) (fun _=>[]) (fun k : Int=>NextR A left node k) (Nat.le_of_ble_eq_true rfl) (Nat.le_of_ble_eq_true rfl) (fun _=>Nat.le_refl _) ?_
 show awp _ 0 _ _ ⟨37,[(0,eN ⟨N,A⟩),(1,ints left),(2,.I node)],[],16⟩
 refine rx (s:=?s1) [1,2,3] [] [16] rfl ?o1 ?q1
 case o1=>simp; rfl
 refine awp_seq ?_
 refine rx (s:=?s2) [1,2,3,7] [] [] rfl ?o2 ?q2
 case o2=>simp; rfl
 refine awp_block ?_
 refine awp_loop (ι:=Nat) (fun i=>⟨37,[(1,ints left),(2,.I node),(3,.pv (nC ⟨N,A⟩)),(7,.I i)],[],200⟩) (fun i=>i ≤ A.length ∧ ∀ j,j < i → ¬ ((arcD A j).f = node ∧ 0 < left.getD j 0)) (fun i=>A.length - i) 0 (by simp) (Le.go [] [] rfl rfl (by simp) (by simp)) ?_
 rintro i ⟨hi,hp⟩
 refine awp_seq ?_
 refine awp_regc ⟨37,[(1,ints left),(2,.I node),(3,.pv (nC ⟨N,A⟩)),(7,.I i),(18,.B (decide (i < A.length)))],[],300⟩ rfl ?_ ?_
 ·simp
  refine gcase (fun hb=>?_) (fun hb=>?_) <;> (try rw [hb]) <;> (try simp at hb) <;> simp [hb]
  ·exact Le.snap [] rfl rfl (by simp [hl,hb])
  ·exact Le.snap [] rfl rfl (by simp [hb])
 refine awp_cond _ rfl (fun h7=>?_) fun h7=>?_
 ·simp at h7
  have hw : IntKind.i64.wrap ((i : Int) + 1) = (i : Int) + 1:=w64 (by omega) (by omega)
  have hil : i < left.length:=by omega
  refine awp_skip ?_
  refine awp_seq ?_
  refine awp_block ?_
  refine awp_regc ⟨37,[(1,ints left),(2,.I node),(3,.pv (nC ⟨N,A⟩)),(7,.I i),(35,.B (decide (A[i].f = node ∧ 0 < left[i])))],[],500⟩ rfl ?_ ?_
  ·simp [h7]
   refine gcase (fun hb=>?_) (fun hb=>?_) <;> (try rw [hb]) <;> (try simp at hb) <;> simp [hb,hil]
   ·exact Le.snap [] rfl rfl (by simp [hb])
   ·exact Le.snap [] rfl rfl (by simp [hb])
  refine awp_cond _ rfl (fun h9=>?_) fun h9=>?_
  ·rw [decide_eq_true_eq] at h9
   refine awp_regc ⟨37,[(6,.I i)],[],600⟩ rfl ?_ ?_
   ·simp
    exact Le.go [] [] rfl rfl (by simp) (by simp)
   refine awp_ret ?_
   exact PostX.mk (.inr rfl) (i : Int) (.inr ⟨i,rfl,h7,by rw [arcD_get h7]; exact h9.1,by rw [getD_get hil]; exact h9.2⟩) (RetOk.one (by simp))
  rw [decide_eq_false_iff_not] at h9
  refine awp_skip ?_
  refine awp_run (s:=?s11) rfl ?o11 ?q11
  case o11=>simp; rfl
  refine ⟨i + 1,⟨h7,fun k hk=>?_⟩,by omega,Le.go [] [] rfl rfl (by simp [hw]) (by simp)⟩
  rcases Nat.lt_succ_iff_lt_or_eq.1 hk with h | rfl
  ·exact hp k h
  ·rw [arcD_get h7,getD_get hil]
   exact h9
 simp at h7
 refine awp_exit ?_
 refine hit ?_
 refine awp_regc ⟨37,[(6,.I (-1))],[],600⟩ rfl ?_ ?_
 ·simp
  exact Le.go [] [] rfl rfl (by simp) (by simp)
 refine awp_ret ?_
 exact PostX.mk (.inr rfl) (-1 : Int) (.inl ⟨rfl,fun j hj=>hp j (by omega)⟩) (RetOk.one (by simp))
def natL (l : List Nat) : List Int:=l.map fun i : Nat=>(i : Int)
theorem natL_len (l : List Nat) : (natL l).length = l.length:=by simp [natL]
theorem WayA.mem {A : List Ed} : ∀ {l : List Nat} {u w : Int},WayA A u l w → ∀ j ∈ l,j < A.length
 | i :: l,u,w,hw,j,hj=>by
   rcases List.mem_cons.1 hj with rfl | hj
   ·exact hw.1
   ·exact WayA.mem hw.2.2 j hj
theorem LeftA.few {N : Nat} {A : List Ed} {f g : List Int} {l : List Nat} {w : Int} (hn : NetOk N A) (h : LeftA A f g l w) : l.length + 1 ≤ N:=by
 have:=nodup_sub_len (b:=(List.range N).map fun i : Nat=>(i : Int)) h.met fun x hx=>by
  rcases List.mem_cons.1 hx with rfl | hx
  ·have:=hn.two
   exact List.mem_map.2 ⟨0,List.mem_range.2 (by omega),rfl⟩
  ·obtain ⟨j,hj,rfl⟩:=List.mem_map.1 hx
   have ha:=hn.arc _ (arcD_mem (h.way.mem j hj))
   exact List.mem_map.2 ⟨(arcD A j).t.toNat,List.mem_range.2 (by omega),by omega⟩
 simpa [metA] using this
structure WSt where
 l : List Nat
 w : Int
 g : List Int
 V : List Int
 Z : List Int
structure WInv (A : List Ed) (f : List Int) (s : WSt) : Prop where
 left : LeftA A f s.g s.l s.w
 v : s.V.take s.l.length = natL s.l
 vl : s.l.length ≤ s.V.length
 z : s.Z.take (s.l.length + 1) = 0 :: metA A s.l
 zl : s.l.length + 1 ≤ s.Z.length
set_option maxRecDepth 100000 in
set_option maxHeartbeats 4000000 in
theorem walk_a (N : Nat) (A : List Ed) (f : List Int) (hn : NetVal ⟨N,A⟩) (hf : BalF N A f) (hfb : ∀ i,f.getD i 0 ≤ 1048576) :
  ∃ x : List Nat × List Int,((x.1 = [] ∧ exF A f 0 ≤ 0) ∨ LeftA A f x.2 x.1 1) ∧ ACalls Tryz.prog nref43_walk [eN ⟨N,A⟩,.rs 0 0 A.length] [⟨1,rowsI f,0⟩] (ints (natL x.1)) [some ⟨1,rowsI x.2,0⟩]:=by
 refine sref43_walk.acallsX (args:=[eN ⟨N,A⟩,.rs 0 0 A.length]) (hs:=[⟨1,rowsI f,0⟩]) (fun x=>ints (natL x.1)) (fun x=>[some ⟨1,rowsI x.2,0⟩]) (fun x : List Nat × List Int=>(x.1 = [] ∧ exF A f 0 ≤ 0) ∨ LeftA A f x.2 x.1 1) (Nat.le_of_ble_eq_true rfl) (Nat.le_of_ble_eq_true rfl) (fun _=>Nat.le_refl _) ?_
 show awp _ 1 _ _ ⟨73,[(0,eN ⟨N,A⟩),(1,.rs 0 0 A.length)],[(0,some ⟨1,rowsI f,0⟩)],16⟩
 have hno:=netOk_of hn
 obtain ⟨hn0,hn1,hal,hav⟩:=hn
 simp only at hn0 hn1 hal hav
 refine awp_regc ⟨73,[(1,.rs 0 0 A.length),(2,.pv (nC ⟨N,A⟩))],[(0,some ⟨1,rowsI f,0⟩)],100⟩ rfl ?_ ?_
 ·simp
  exact Le.go [(0,0)] [16] rfl rfl (by simp) (by simp [fcd])
 refine awp_regc ⟨73,[(1,.rs 0 0 A.length),(2,.pv (nC ⟨N,A⟩)),(5,.nilS)],[(0,some ⟨1,rowsI f,0⟩)],200⟩ rfl ?_ ?_
 ·simp
  exact Le.go [(0,0)] [] rfl rfl (by simp) (by simp [fcd])
 refine awp_regc ⟨73,[(1,.rs 0 0 A.length),(2,.pv (nC ⟨N,A⟩)),(5,.nilS),(6,.rs 18 0 1)],[(0,some ⟨1,rowsI f,0⟩),(18,some ⟨1,rowsI [0],0⟩)],300⟩ rfl ?_ ?_
 ·simp
  exact Le.go [(0,0),(200,18)] [] rfl rfl (by simp) (by simp [fcd])
 refine awp_seq ?_
 refine awp_block ?_
 refine awp_loop (ι:=WSt) (fun s=>⟨73,[(1,.rs 0 0 A.length),(2,.pv (nC ⟨N,A⟩)),(5,.rs 17 0 s.l.length),(6,.rs 18 0 (s.l.length + 1))],[(0,some ⟨1,rowsI s.g,0⟩),(17,some ⟨1,rowsI s.V,0⟩),(18,some ⟨1,rowsI s.Z,0⟩)],300⟩)
  (fun s=>WInv A f s) (fun s=>totN s.g) ⟨[],0,f,[],[0]⟩ ⟨LeftA.start hf.len hf.nonneg,rfl,Nat.le_refl _,rfl,Nat.le_refl _⟩
  (Le.lst [(0,0),(18,18)] [] [(17,1)] rfl (by simp) (by simp) (by simp) (by simp) (by simp) (by simp) (by simp) (by simp [Up]) (by simp [fcd]; exact ⟨EntUp.rfl' (by simp),EntUp.rfl' (by simp)⟩)) ?_
 rintro ⟨l,w,g,V,Z⟩ ⟨hL,hV,hVl,hZ,hZl⟩
 simp only at hL hV hVl hZ hZl
 have hfew:=hL.few hno
 have hgl:=hL.len
 have hZw : Z[l.length]? = some w:=by
  have h1:=hL.way.last
  rw [← hZ,List.getElem?_take_of_lt (by omega)] at h1
  exact h1
 have hlt1 : (l.length : Int) < (l.length : Int) + 1:=by omega
 have hww : IntKind.i64.wrap (l.length : Int) = (l.length : Int):=w64 (by omega) (by omega)
 refine awp_seq ?_
 refine awp_regc ⟨73,[(1,.rs 0 0 A.length),(2,.pv (nC ⟨N,A⟩)),(5,.rs 17 0 l.length),(6,.rs 18 0 (l.length + 1)),(16,.B (!decide (w = 1)))],[(0,some ⟨1,rowsI g,0⟩),(17,some ⟨1,rowsI V,0⟩),(18,some ⟨1,rowsI Z,0⟩)],400⟩ rfl ?_ ?_
 ·simp [hww,hZw,hlt1]
  exact Le.go [(0,0),(17,17),(18,18)] [] rfl rfl (by simp <;> exact wkB (by rw [Bool.eq_iff_iff]; simp)) (by simp [fcd])
 refine awp_cond _ rfl (fun h11=>?_) fun h11=>?_
 ·simp at h11
  obtain ⟨k,hk,hcall⟩:=next_a N A g w hgl hal
  refine awp_skip ?_
  refine awp_block ?_
  refine awp_dregc ⟨73,[(1,.rs 0 0 A.length),(2,.pv (nC ⟨N,A⟩)),(5,.rs 17 0 l.length),(6,.rs 18 0 (l.length + 1)),(7,.I k)],[(0,some ⟨1,rowsI g,0⟩),(17,some ⟨1,rowsI V,0⟩),(18,some ⟨1,rowsI Z,0⟩)],600⟩ rfl ?_ ?_
  ·simp [hww,hZw,hlt1]
   have htg : ∀ h : Int → List AV,List.take A.length (List.map h g) = List.map h g:=fun h=>List.take_of_length_le (by simp; omega)
   refine call0s [0] hcall (by simp [fcd,htg,hgl]) (.sc _) ?_
   simp
   exact ⟨rfl,Le.go [(0,0),(17,17),(18,18)] [] rfl rfl (by simp) (by simp [fcd])⟩
  refine awp_seq ?_
  refine awp_regc ⟨73,[(1,.rs 0 0 A.length),(2,.pv (nC ⟨N,A⟩)),(5,.rs 17 0 l.length),(6,.rs 18 0 (l.length + 1)),(7,.I k),(27,.B (decide (k < 0)))],[(0,some ⟨1,rowsI g,0⟩),(17,some ⟨1,rowsI V,0⟩),(18,some ⟨1,rowsI Z,0⟩)],700⟩ rfl ?_ ?_
  ·simp
   exact Le.go [(0,0),(17,17),(18,18)] [] rfl rfl (by simp) (by simp [fcd])
  refine awp_cond _ rfl (fun h12=>?_) fun h12=>?_
  ·simp at h12
   refine awp_regc ⟨73,[(4,.nilS)],[(0,some ⟨1,rowsI g,0⟩)],800⟩ rfl ?_ ?_
   ·simp
    exact Le.go [(0,0)] [] rfl rfl (by simp) (by simp [fcd])
   refine awp_ret ?_
   rcases hk with ⟨_,hk⟩ | ⟨i,rfl,_⟩
   ·refine PostX.mk (.inr rfl) ([],g) (.inl ⟨rfl,?_⟩) (RetOk.k1 rfl (by simp [natL]; exact .nil _ _) (by simp [fcd]))
    refine Int.not_lt.1 fun hpos=>?_
    obtain ⟨i,h1,h2,h3⟩:=hL.go_on hno hf h11 fun _=>hpos
    exact hk i h1 ⟨h2,h3⟩
   ·omega
  simp at h12
  rcases hk with ⟨rfl,_⟩ | ⟨i,rfl,hi,hif,hig⟩
  ·omega
  have hig' : i < g.length:=by omega
  obtain ⟨x,hx⟩ : ∃ x,x = g.getD i 0:=⟨_,rfl⟩
  have hgi : g[i] = x:=by rw [hx,getD_get hig']
  have hus:=hL.used i
  have hfi:=hfb i
  obtain ⟨g2,hg2⟩ : ∃ g2,g2 = g.set i (x - 1):=⟨_,rfl⟩
  have hmore:=hL.more hi hif hig
  have htot:=totN_set hig' hig
  rw [← hx] at hig hus hmore htot
  rw [← hg2] at hmore htot
  obtain ⟨t,ht⟩ : ∃ t,t = (arcD A i).t:=⟨_,rfl⟩
  rw [← ht] at hmore
  have hAt : A[i].t = t:=by rw [ht,arcD_get hi]
  have hwx : IntKind.i64.wrap (x - 1) = x - 1:=w64 (by omega) (by omega)
  have hi0 : (0 : Int) ≤ i ∧ (i : Int) < A.length:=by omega
  refine awp_skip ?_
  refine awp_regc ⟨73,[(1,.rs 0 0 A.length),(2,.pv (nC ⟨N,A⟩)),(5,.rs 17 0 l.length),(6,.rs 18 0 (l.length + 1)),(7,.I i)],[(0,some ⟨1,rowsI g2,0⟩),(17,some ⟨1,rowsI V,0⟩),(18,some ⟨1,rowsI Z,0⟩)],800⟩ rfl ?_ ?_
  ·simp [hi0,hi,hgi,hig',hwx,splice]
   exact Le.go [(0,0),(17,17),(18,18)] [] rfl rfl (by simp) (by simp [fcd,hg2])
  have htV : ∀ h : Int → List AV,List.take l.length (List.map h V) = List.map h (natL l):=fun h=>by rw [← List.map_take,hV]
  have htZ : ∀ h : Int → List AV,List.take (l.length + 1) (List.map h Z) = List.map h (0 :: metA A l):=fun h=>by rw [← List.map_take,hZ]
  obtain ⟨M,hM⟩ : ∃ M,M = (0 : Int) :: metA A l:=⟨_,rfl⟩
  have hMl : M.length = l.length + 1:=by rw [hM]; simp [metA]
  rw [← hM] at htZ hmore
  refine awp_dregc ⟨73,[(1,.rs 0 0 A.length),(2,.pv (nC ⟨N,A⟩)),(5,.rs 17 0 (l.length + 1)),(6,.rs 18 0 (l.length + 2)),(7,.I i)],[(0,some ⟨1,rowsI g2,0⟩),(17,some ⟨1,rowsI (natL l ++ [(i : Int)]),0⟩),(18,some ⟨1,rowsI (M ++ [t]),0⟩)],1000⟩ rfl ?_ ?_
  ·simp [hi0,hi,htV,htZ,hAt]
   refine ⟨by omega,by omega,by omega,by omega,by omega,by omega,rfl,Le.go [(0,0),(824,17),(896,18)] [] rfl rfl (by simp) (by simp [fcd])⟩
  refine awp_regc ⟨73,[(1,.rs 0 0 A.length),(2,.pv (nC ⟨N,A⟩)),(5,.rs 17 0 (l.length + 1)),(6,.rs 18 0 (l.length + 2)),(7,.I i),(8,.I 0)],[(0,some ⟨1,rowsI g2,0⟩),(17,some ⟨1,rowsI (natL l ++ [(i : Int)]),0⟩),(18,some ⟨1,rowsI (M ++ [t]),0⟩)],1100⟩ rfl ?_ ?_
  ·simp
   exact Le.go [(0,0),(17,17),(18,18)] [] rfl rfl (by simp) (by simp [fcd])
  refine awp_block ?_
  refine awp_loop (ι:=Nat) (fun j=>⟨73,[(1,.rs 0 0 A.length),(2,.pv (nC ⟨N,A⟩)),(5,.rs 17 0 (l.length + 1)),(6,.rs 18 0 (l.length + 2)),(7,.I i),(8,.I j)],[(0,some ⟨1,rowsI g2,0⟩),(17,some ⟨1,rowsI (natL l ++ [(i : Int)]),0⟩),(18,some ⟨1,rowsI (M ++ [t]),0⟩)],1100⟩)
   (fun j=>j ≤ l.length + 1 ∧ ∀ (q : Nat) (h : q < M.length),q < j → M[q] ≠ t) (fun j=>l.length + 1 - j) 0 ⟨Nat.zero_le _,fun q _ h=>by omega⟩ (Le.go [(0,0),(17,17),(18,18)] [] rfl rfl (by simp) (by simp [fcd])) ?_
  rintro j ⟨hj,hjp⟩
  have hw2 : IntKind.i64.wrap (((l.length + 2 : Nat) : Int) - 1) = ((l.length + 1 : Nat) : Int):=by rw [w64 (by omega) (by omega)]; omega
  refine awp_seq ?_
  refine awp_regc ⟨73,[(1,.rs 0 0 A.length),(2,.pv (nC ⟨N,A⟩)),(5,.rs 17 0 (l.length + 1)),(6,.rs 18 0 (l.length + 2)),(7,.I i),(8,.I j),(51,.B (decide (j < l.length + 1)))],[(0,some ⟨1,rowsI g2,0⟩),(17,some ⟨1,rowsI (natL l ++ [(i : Int)]),0⟩),(18,some ⟨1,rowsI (M ++ [t]),0⟩)],1200⟩ rfl ?_ ?_
  ·rw [show l.length + 2 = (l.length + 2 : Nat) from rfl]
   obtain ⟨L2,hL2⟩ : ∃ L2,L2 = l.length + 2:=⟨_,rfl⟩
   rw [← hL2] at hw2 ⊢
   simp [hw2]
   exact Le.go [(0,0),(17,17),(18,18)] [] rfl rfl (by simp <;> exact wkB (by rw [Bool.eq_iff_iff]; simp; omega)) (by simp [fcd])
  refine awp_cond _ rfl (fun h13=>?_) fun h13=>?_
  ·simp at h13
   have hjM : j < M.length:=by omega
   have hMj : (M ++ [t])[j]? = some M[j]:=by rw [List.getElem?_append_left hjM,List.getElem?_eq_getElem hjM]
   have hj0 : (j : Int) < ((l.length + 2 : Nat) : Int):=by omega
   have hwj : IntKind.i64.wrap ((j : Int) + 1) = ((j + 1 : Nat) : Int):=by rw [w64 (by omega) (by omega)]; omega
   refine awp_skip ?_
   refine awp_seq ?_
   refine awp_block ?_
   refine awp_dregc ⟨73,[(1,.rs 0 0 A.length),(2,.pv (nC ⟨N,A⟩)),(5,.rs 17 0 (l.length + 1)),(6,.rs 18 0 (l.length + 2)),(7,.I i),(8,.I j),(64,.B (decide (M[j] = t)))],[(0,some ⟨1,rowsI g2,0⟩),(17,some ⟨1,rowsI (natL l ++ [(i : Int)]),0⟩),(18,some ⟨1,rowsI (M ++ [t]),0⟩)],1300⟩ rfl ?_ ?_
   ·obtain ⟨L2,hL2⟩ : ∃ L2,L2 = l.length + 2:=⟨_,rfl⟩
    rw [← hL2] at hj0 ⊢
    obtain ⟨Z2,hZ2⟩ : ∃ Z2,Z2 = M ++ [t]:=⟨_,rfl⟩
    rw [← hZ2] at hMj ⊢
    simp [hMj,hj0,hi0,hi,hAt]
    exact ⟨rfl,Le.go [(0,0),(17,17),(18,18)] [] rfl rfl (by simp <;> exact wkB (by rw [Bool.eq_iff_iff]; simp)) (by simp [fcd])⟩
   refine awp_cond _ rfl (fun h14=>?_) fun h14=>?_
   ·rw [decide_eq_true_eq] at h14
    have hl2:=hmore.2 j (by rw [List.getElem?_eq_getElem hjM,h14])
    obtain ⟨V2,hV2⟩ : ∃ V2,V2 = natL l ++ [(i : Int)]:=⟨_,rfl⟩
    obtain ⟨Z2,hZ2⟩ : ∃ Z2,Z2 = M ++ [t]:=⟨_,rfl⟩
    have hV2l : V2.length = l.length + 1:=by rw [hV2]; simp [natL]
    have hZ2l : Z2.length = l.length + 2:=by rw [hZ2]; simp [hMl]
    have hlj : (l.take j).length = j:=by rw [List.length_take]; omega
    have hfin : WInv A f ⟨l.take j,t,g2,V2,Z2⟩:=by
     refine ⟨hl2,?_,by simp only; omega,?_,by simp only; omega⟩
     ·simp only [hlj]
      rw [hV2,List.take_append_of_le_length (by rw [natL_len]; omega)]
      unfold natL
      rw [List.map_take]
     ·simp only [hlj]
      rw [hZ2,List.take_append_of_le_length (by omega),hM,List.take_succ_cons]
      unfold metA
      rw [List.map_take]
    rw [← hV2,← hZ2]
    obtain ⟨L2,hL2⟩ : ∃ L2,L2 = l.length + 2:=⟨_,rfl⟩
    obtain ⟨L1,hL1⟩ : ∃ L1,L1 = l.length + 1:=⟨_,rfl⟩
    rw [← hL2,← hL1]
    refine awp_dregc ⟨73,[(1,.rs 0 0 A.length),(2,.pv (nC ⟨N,A⟩)),(5,.rs 17 0 j),(6,.rs 18 0 (j + 1))],[(0,some ⟨1,rowsI g2,0⟩),(17,some ⟨1,rowsI V2,0⟩),(18,some ⟨1,rowsI Z2,0⟩)],1500⟩ rfl ?_ ?_
    ·simp
     refine ⟨by omega,?_⟩
     rw [hwj]
     refine k_slh (j + 1) (i:=18) rfl rfl (by omega) ?_
     simp
     exact ⟨rfl,Le.go [(0,0),(17,17),(18,18)] [] rfl rfl (by simp) (by simp [fcd])⟩
    refine awp_exit ?_
    refine miss (by decide) ?_
    refine hit ?_
    exact ⟨⟨l.take j,t,g2,V2,Z2⟩,hfin,htot,Le.go [(0,0),(17,17),(18,18)] [] rfl rfl (by simp [hlj]) (by simp [fcd])⟩
   rw [decide_eq_false_iff_not] at h14
   refine awp_skip ?_
   refine awp_run (s:=?s40) rfl ?o40 ?q40
   case o40=>simp; rfl
   refine ⟨j + 1,⟨by omega,fun q hq hlt=>?_⟩,by omega,Le.go [(0,0),(17,17),(18,18)] [] rfl rfl (by simp [hwj]) (by simp [fcd])⟩
   rcases Nat.lt_succ_iff_lt_or_eq.1 hlt with h | rfl
   ·exact hjp q hq h
   ·exact h14
  simp at h13
  refine awp_exit ?_
  refine hit ?_
  have htn : t ∉ M:=fun hm=>by
   obtain ⟨q,hq,he⟩:=List.mem_iff_getElem.1 hm
   exact hjp q hq (by omega) he
  have hl2:=hmore.1 htn
  have hll : (l ++ [i]).length = l.length + 1:=by simp
  refine ⟨⟨l ++ [i],t,g2,natL l ++ [(i : Int)],M ++ [t]⟩,⟨hl2,?_,?_,?_,?_⟩,htot,Le.go [(0,0),(17,17),(18,18)] [] rfl rfl (by simp) (by simp [fcd])⟩
  ·simp only
   rw [List.take_of_length_le (by simp [natL])]
   simp [natL]
  ·simp [natL]
  ·simp only
   rw [List.take_of_length_le (by simp [hMl]),metA_snoc,hM,ht]
   rfl
  ·simp [hMl]
 simp at h11
 subst h11
 refine awp_exit ?_
 refine hit ?_
 refine awp_regc ⟨73,[(4,ints (natL l))],[(0,some ⟨1,rowsI g,0⟩)],500⟩ rfl ?_ ?_
 ·simp
  have htk : ∀ h : Int → List AV,List.take l.length (List.map h V) = List.map h (natL l):=fun h=>by rw [← List.map_take,hV]
  exact Le.go [(0,0)] [17] rfl rfl (by simp [fcd,htk,hVl]) (by simp [fcd])
 refine awp_ret ?_
 exact PostX.mk (.inr rfl) (l,g) (.inr hL) (RetOk.k1 rfl (by simp) (by simp [fcd]))
theorem entry_ok (n t : Int) (hn0 : 0 ≤ n) (hn : n ≤ 64) (ht : 2 ≤ t) (ht2 : t < 2 + 2 * n) : ACalls Tryz.prog nref43_entry [.I n,.I t] [] (.I (if t % 2 = 0 then (t - 2) / 2 else -1)) []:=by
 refine sref43_entry.acalls (Nat.le_of_ble_eq_true rfl) (Nat.le_of_ble_eq_true rfl) (Nat.le_refl _) ?_
 show awp _ 0 _ _ ⟨22,[(0,.I n),(1,.I t)],[],16⟩
 have hw1 : IntKind.i64.wrap (2 * n) = 2 * n:=w64 (by omega) (by omega)
 have hw2 : IntKind.i64.wrap (2 + 2 * n) = 2 + 2 * n:=w64 (by omega) (by omega)
 have hw3 : IntKind.i64.wrap (t - 2) = t - 2:=w64 (by omega) (by omega)
 have hd : Int.tdiv (t - 2) 2 = (t - 2) / 2:=Int.tdiv_eq_ediv_of_nonneg (by omega)
 have hw4 : IntKind.i64.wrap ((t - 2) / 2) = (t - 2) / 2:=w64 (by omega) (by omega)
 have hm : Int.tmod t 2 = t % 2:=Int.tmod_eq_emod_of_nonneg (by omega)
 have hw5 : IntKind.i64.wrap (t % 2) = t % 2:=w64 (by omega) (by omega)
 refine awp_regc ⟨22,[(0,.I n),(1,.I t)],[],100⟩ rfl ?_ ?_
 ·simp
  exact Le.go [] [] rfl rfl (by simp) (by simp)
 refine awp_seq ?_
 refine awp_regc ⟨22,[(1,.I t),(18,.B (decide (t % 2 = 0)))],[],300⟩ rfl ?_ ?_
 ·simp [ht,hm,hw5]
  refine gcase (fun hb=>?_) (fun hb=>?_) <;> (try rw [hb]) <;> (try simp at hb) <;> simp [hb,hw1,hw2,ht2]
  ·exact Le.go [] [] rfl rfl (by simp) (by simp)
  ·exact Le.go [] [] rfl rfl (by simp [hb]) (by simp)
 refine awp_cond _ rfl (fun h=>?_) fun h=>?_
 ·rw [decide_eq_true_eq] at h
  rw [if_pos h]
  refine awp_regc ⟨22,[(4,.I ((t - 2) / 2))],[],400⟩ rfl ?_ ?_
  ·simp [hw3,hd,hw4]
   exact Le.go [] [] rfl rfl (by simp) (by simp)
  refine awp_ret ?_
  exact ⟨.inr rfl,RetOk.one (by simp)⟩
 rw [decide_eq_false_iff_not] at h
 rw [if_neg h]
 refine awp_skip ?_
 refine awp_regc ⟨22,[(4,.I (-1))],[],400⟩ rfl ?_ ?_
 ·simp
  exact Le.go [] [] rfl rfl (by simp) (by simp)
 refine awp_ret ?_
 exact ⟨.inr rfl,RetOk.one (by simp)⟩
theorem wayA_at {A : List Ed} : ∀ {l : List Nat} {u w : Int},WayA A u l w → ∀ i (h : i < l.length),(arcD A l[i]).f = (u :: metA A l).getD i 0
 | i :: l,u,w,hw,0,_=>hw.2.1
 | i :: l,u,w,hw,j + 1,h=>by
   have:=wayA_at hw.2.2 j (by simpa using h)
   simpa [metA] using this
theorem metA_at {A : List Ed} {u : Int} {l : List Nat} {i : Nat} (h : i < l.length) : (u :: metA A l).getD (i + 1) 0 = (arcD A l[i]).t:=by
 rw [List.getD_cons_succ,List.getD_eq_getElem?_getD]
 unfold metA
 rw [List.getElem?_map,List.getElem?_eq_getElem h]
 rfl
theorem keysA_succ {A : List Ed} {l : List Nat} {i : Nat} (h : i < l.length) : keysA A (l.take (i + 1)) = keysA A (l.take i) ++ (keyT (arcD A l[i]).t).toList:=by
 unfold keysA metA
 rw [List.take_succ_eq_append_getElem h,List.map_append,List.filterMap_append]
 simp only [List.map_cons,List.map_nil,List.filterMap_cons,List.filterMap_nil]
 cases keyT (arcD A l[i]).t <;> rfl
theorem keysA_len (A : List Ed) (l : List Nat) : (keysA A l).length ≤ l.length:=by
 unfold keysA
 exact Nat.le_trans (List.length_filterMap_le ..) (by simp [metA])
set_option maxRecDepth 100000 in
set_option maxHeartbeats 4000000 in
theorem keys_ok (n : Int) (A : List Ed) (l : List Nat) (hn0 : 0 ≤ n) (hn : n ≤ 64) (hA : NetOk (2 + 2 * n).toNat A) (hal : A.length ≤ 1200) (hw : WayA A 0 l 1) (hll : l.length ≤ 130) : ACalls Tryz.prog nref43_Keys [.I n,eEs A,ints (natL l)] [] (.tup [ints (keysA A l),.I 0]) []:=by
 refine sref43_Keys.acalls (Nat.le_of_ble_eq_true rfl) (Nat.le_of_ble_eq_true rfl) (Nat.le_refl _) ?_
 show awp _ 0 _ _ ⟨87,[(0,.I n),(1,eEs A),(2,ints (natL l))],[],16⟩
 have hl0 : 0 < l.length:=by
  cases l with
  | nil=>have : (0 : Int) = 1:=hw; omega
  | cons=>simp
 have hnl:=natL_len l
 have hlne : ¬ l = []:=fun e=>by rw [e] at hl0; exact absurd hl0 (Nat.lt_irrefl _)
 refine awp_regc ⟨87,[(0,.I n),(1,eEs A),(2,ints (natL l))],[],100⟩ rfl ?_ ?_
 ·simp
  exact Le.go [] [] rfl rfl (by simp) (by simp)
 refine awp_seq ?_
 refine awp_regc ⟨87,[(0,.I n),(1,eEs A),(2,ints (natL l)),(17,.B false)],[],200⟩ rfl ?_ ?_
 ·have h1 : ¬ n < 0:=by omega
  have h2 : ¬ 64 < n:=by omega
  simp [h1,h2]
  exact Le.go [] [] rfl rfl (by simp [h2]) (by simp)
 refine awp_cond _ rfl (fun h=>by cases h) fun _=>?_
 refine awp_skip ?_
 refine awp_seq ?_
 refine awp_regc ⟨87,[(0,.I n),(1,eEs A),(2,ints (natL l)),(20,.B false)],[],300⟩ rfl ?_ ?_
 ·simp
  exact Le.go [] [] rfl rfl (by simp <;> exact wkB (by simp [hnl,hlne])) (by simp)
 refine awp_cond _ rfl (fun h=>by cases h) fun _=>?_
 refine awp_skip ?_
 refine awp_regc ⟨87,[(0,.I n),(1,eEs A),(2,ints (natL l)),(8,.nilS)],[],400⟩ rfl ?_ ?_
 ·simp
  exact Le.go [] [] rfl rfl (by simp) (by simp)
 refine awp_regc ⟨87,[(0,.I n),(1,eEs A),(2,ints (natL l)),(8,.nilS),(9,.I 0)],[],500⟩ rfl ?_ ?_
 ·simp
  exact Le.go [] [] rfl rfl (by simp) (by simp)
 refine awp_seq ?_
 refine awp_regc ⟨87,[(0,.I n),(1,eEs A),(2,ints (natL l)),(8,.nilS),(9,.I 0),(10,.I 0)],[],600⟩ rfl ?_ ?_
 ·simp
  exact Le.go [] [] rfl rfl (by simp) (by simp)
 refine awp_block ?_
 refine awp_loop (ι:=Nat) (fun i=>⟨87,[(0,.I n),(1,eEs A),(2,ints (natL l)),(8,.rs 17 0 (keysA A (l.take i)).length),(9,.I (((0 : Int) :: metA A l).getD i 0)),(10,.I i)],[(17,some ⟨1,rowsI (keysA A (l.take i)),0⟩)],600⟩)
  (fun i=>i < l.length) (fun i=>l.length - i) 0 hl0 (Le.lst [] [] [(17,1)] rfl (by simp) (by simp) (by simp) (by simp) (by simp) (by simp) (by simp) (by simp [Up,keysA,metA]) (by simp [keysA,metA])) ?_
 intro i hi
 have hfr:=wayA_at hw i hi
 have hmt:=metA_at (A:=A) (u:=0) hi
 have hks:=keysA_succ (A:=A) hi
 have hkl:=keysA_len A (l.take i)
 have hkl2:=List.length_take_le' i l
 have hla:=hw.mem _ (List.getElem_mem hi)
 obtain ⟨a,ha⟩ : ∃ a,a = l[i]:=⟨_,rfl⟩
 rw [← ha] at hfr hmt hks hla
 have harc:=hA.arc _ (arcD_mem hla)
 rw [arcD_get hla] at hfr hmt hks harc
 obtain ⟨nd,hnd⟩ : ∃ nd,nd = ((0 : Int) :: metA A l).getD i 0:=⟨_,rfl⟩
 rw [← hnd] at hfr ⊢
 obtain ⟨t,ht⟩ : ∃ t,t = A[a].t:=⟨_,rfl⟩
 rw [← ht] at hmt hks harc
 have hli : (natL l)[i]? = some (a : Int):=by unfold natL; rw [List.getElem?_map,List.getElem?_eq_getElem hi,ha]; rfl
 have ha0 : ¬ (a : Int) < 0:=by omega
 have ha1 : ¬ (A.length : Int) ≤ a:=by omega
 obtain ⟨K,hK⟩ : ∃ K,K = keysA A (l.take i):=⟨_,rfl⟩
 rw [← hK] at hks hkl ⊢
 have hwi : IntKind.i64.wrap ((i : Int) + 1) = ((i + 1 : Nat) : Int):=by rw [w64 (by omega) (by omega)]; omega
 have hwl : IntKind.i64.wrap ((l.length : Int) - 1) = ((l.length - 1 : Nat) : Int):=by rw [w64 (by omega) (by omega)]; omega
 refine awp_seq ?_
 refine awp_regc ⟨87,[(0,.I n),(1,eEs A),(2,ints (natL l)),(8,.rs 17 0 K.length),(9,.I nd),(10,.I i),(24,.B true)],[(17,some ⟨1,rowsI K,0⟩)],700⟩ rfl ?_ ?_
 ·simp
  exact Le.go [(17,17)] [] rfl rfl (by simp [hnl,hi]) (by simp [fcd])
 refine awp_cond _ rfl (fun _=>?_) fun h=>by cases h
 refine awp_skip ?_
 refine awp_seq ?_
 refine awp_block ?_
 refine awp_seq ?_
 refine awp_regc ⟨87,[(0,.I n),(1,eEs A),(2,ints (natL l)),(8,.rs 17 0 K.length),(9,.I nd),(10,.I i),(52,.B false)],[(17,some ⟨1,rowsI K,0⟩)],1000⟩ rfl ?_ ?_
 ·simp [hli,ha0,ha1,hla,hfr]
  exact Le.go [(17,17)] [] rfl rfl (by simp [ha1,hfr]) (by simp [fcd])
 refine awp_cond _ rfl (fun h=>by cases h) fun _=>?_
 refine awp_skip ?_
 refine awp_regc ⟨87,[(0,.I n),(1,eEs A),(2,ints (natL l)),(8,.rs 17 0 K.length),(9,.I t),(10,.I i)],[(17,some ⟨1,rowsI K,0⟩)],1200⟩ rfl ?_ ?_
 ·simp [hli,hla,← ht]
  exact Le.go [(17,17)] [] rfl rfl (by simp) (by simp [fcd])
 refine awp_seq ?_
 refine awp_regc ⟨87,[(0,.I n),(1,eEs A),(2,ints (natL l)),(8,.rs 17 0 K.length),(9,.I t),(10,.I i),(65,.B (decide (i = l.length - 1)))],[(17,some ⟨1,rowsI K,0⟩)],1300⟩ rfl ?_ ?_
 ·simp [hnl,hwl]
  exact Le.go [(17,17)] [] rfl rfl (by simp <;> exact wkB (by rw [Bool.eq_iff_iff]; simp; omega)) (by simp [fcd])
 refine awp_cond _ rfl (fun h6=>?_) fun h6=>?_
 ·rw [decide_eq_true_eq] at h6
  have h1 : t = 1:=by
   have h2:=hw.last
   have h3 : ((0 : Int) :: metA A l).getD (i + 1) 0 = 1:=by rw [List.getD_eq_getElem?_getD,show i + 1 = l.length by omega,h2]; rfl
   rw [← hmt,h3]
  subst h1
  have hend : keysA A l = K:=by
   have h2 : l.take (i + 1) = l:=List.take_of_length_le (by omega)
   rw [h2] at hks
   rw [hks]
   simp [keyT]
  rw [hend]
  refine awp_exit ?_
  refine miss (by decide) ?_
  refine hit ?_
  refine awp_seq ?_
  refine awp_regc ⟨87,[(8,.rs 17 0 K.length),(85,.B false)],[(17,some ⟨1,rowsI K,0⟩)],1400⟩ rfl ?_ ?_
  ·simp
   exact Le.go [(17,17)] [] rfl rfl (by simp) (by simp [fcd])
  refine awp_cond _ rfl (fun h=>by cases h) fun _=>?_
  refine awp_skip ?_
  refine awp_regc ⟨87,[(6,ints K),(7,.I 0)],[],1500⟩ rfl ?_ ?_
  ·simp
   exact Le.go [] [17] rfl rfl (by simp [take_map_len,fcd]) (by simp)
  refine awp_ret ?_
  exact ⟨.inr rfl,RetOk.out [] [] rfl (by simp) (by simp) (by simp) (by simp)⟩
 rw [decide_eq_false_iff_not] at h6
 have hi2 : i + 1 < l.length:=by omega
 have hfr2:=wayA_at hw (i + 1) hi2
 rw [hmt] at hfr2
 have harc2:=hA.arc _ (arcD_mem (hw.mem _ (List.getElem_mem hi2)))
 rw [hfr2] at harc2
 have ht2 : 2 ≤ t ∧ t < 2 + 2 * n:=by omega
 have hent:=entry_ok n t hn0 hn ht2.1 ht2.2
 obtain ⟨e,he⟩ : ∃ e,e = if t % 2 = 0 then (t - 2) / 2 else -1:=⟨_,rfl⟩
 rw [← he] at hent
 have hwa : IntKind.i64.wrap (2 * n) = 2 * n:=w64 (by omega) (by omega)
 have hwb : IntKind.i64.wrap (2 + 2 * n) = 2 + 2 * n:=w64 (by omega) (by omega)
 refine awp_skip ?_
 refine awp_seq ?_
 refine awp_regc ⟨87,[(0,.I n),(1,eEs A),(2,ints (natL l)),(8,.rs 17 0 K.length),(9,.I t),(10,.I i),(74,.B false)],[(17,some ⟨1,rowsI K,0⟩)],1500⟩ rfl ?_ ?_
 ·have h1 : ¬ t < 2:=by omega
  have h2 : ¬ 2 + 2 * n ≤ t:=by omega
  simp [h1,hwa,hwb]
  exact Le.go [(17,17)] [] rfl rfl (by simp [h2]) (by simp [fcd])
 refine awp_cond _ rfl (fun h=>by cases h) fun _=>?_
 refine awp_skip ?_
 refine awp_regc ⟨87,[(0,.I n),(1,eEs A),(2,ints (natL l)),(8,.rs 17 0 K.length),(9,.I t),(10,.I i),(11,.I e)],[(17,some ⟨1,rowsI K,0⟩)],1600⟩ rfl ?_ ?_
 ·simp
  refine call0e hent (by simp) ?_
  simp
  exact Le.go [(17,17)] [] rfl rfl (by simp) (by simp [fcd])
 refine awp_regc ⟨87,[(0,.I n),(1,eEs A),(2,ints (natL l)),(8,.rs 17 0 K.length),(9,.I t),(10,.I i),(11,.I e),(79,.B (decide (0 ≤ e)))],[(17,some ⟨1,rowsI K,0⟩)],1700⟩ rfl ?_ ?_
 ·simp
  exact Le.go [(17,17)] [] rfl rfl (by simp) (by simp [fcd])
 refine awp_cond _ rfl (fun h7=>?_) fun h7=>?_
 ·rw [decide_eq_true_eq] at h7
  have hev : t % 2 = 0:=Decidable.byContradiction fun h=>by rw [if_neg h] at he; omega
  rw [if_pos hev] at he
  have hkt : keyT t = some e:=by unfold keyT; rw [if_pos ⟨ht2.1,hev⟩,he]
  rw [hkt] at hks
  simp only [Option.toList] at hks
  refine awp_run (s:=?s40) rfl ?o40 ?q40
  case o40=>simp [take_map_len]; refine ⟨by omega,by omega,?_⟩; rfl
  refine awp_run (s:=?s41) rfl ?o41 ?q41
  case o41=>simp; rfl
  exact ⟨i + 1,hi2,by omega,Le.go [(1724,17)] [] rfl rfl (by simp [hks,hwi,← hmt]) (by simp [hks,fcd])⟩
 ·rw [decide_eq_false_iff_not] at h7
  have hod : ¬ t % 2 = 0:=fun h=>by rw [if_pos h] at he; omega
  have hkt : keyT t = none:=by unfold keyT; rw [if_neg fun h=>hod h.2]
  rw [hkt] at hks
  simp only [Option.toList,List.append_nil] at hks
  refine awp_skip ?_
  refine awp_run (s:=?s42) rfl ?o42 ?q42
  case o42=>simp; rfl
  exact ⟨i + 1,hi2,by omega,Le.go [(17,17)] [] rfl rfl (by simp [hks,hwi,← hmt]) (by simp [hks,fcd])⟩
end Go.Proofs.YtlhjelookgjmpaaGreat
