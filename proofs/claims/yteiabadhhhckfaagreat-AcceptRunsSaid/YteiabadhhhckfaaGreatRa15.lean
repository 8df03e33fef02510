/- Texts of this claim,merged. -/
import Derived.Test.YteiabadhhhckfaaGreatRa11
import Derived.Test.YteiabadhhhckfaaGreatRa14
import Derived.Test.YteiabadhhhckfaaGreatRa6
import Derived.Test.YteiabadhhhckfaaGreatRa12
import Derived.Test.YteiabadhhhckfaaGreatRa9
set_option linter.unusedSimpArgs false
set_option linter.unusedVariables false
set_option linter.unusedSectionVars false
namespace Go.Proofs.YteiabadhhhckfaaGreat
open Go
def someD (L : List Int) (a : Nat) : Nat → List Int × Nat
 | 0=>([],a)
 | m + 1=>(if (nextD L (someD L a m).2 3).1 = 0 then (someD L a m).1 ++ [(m : Int)] else (someD L a m).1,(nextD L (someD L a m).2 3).2)
theorem someD_le {L : List Int} {a : Nat} (ha : a ≤ L.length) : ∀ m,(someD L a m).2 ≤ L.length
 | 0=>ha
 | m + 1=>nextD_le (someD_le ha m)
theorem someD_len {L : List Int} {a : Nat} : ∀ m,(someD L a m).1.length ≤ m
 | 0=>Nat.le_refl _
 | m + 1=>by
   have:=someD_len (L:=L) (a:=a) m
   unfold someD
   simp only
   split
   ·rw [List.length_append]; simp; omega
   ·omega
theorem RetOk.k1n {rs : List (Nat × Option (Bool × Nat))} {st : St} {vs : List AV} {res : AV} {e0 e : Ent} (i : Nat) (hi : 1 ≤ i) (h1 : resAll st rs = some vs) (hw : Wk (conv [(0,0),(i,1)] [] st.hp 4 (resV vs)) res) (h0 : (st.hp 0).map (convE [(0,0),(i,1)] [] st.hp 4) = some e0) (he : (st.hp i).map (convE [(0,0),(i,1)] [] st.hp 4) = some e) : RetOk rs 1 st res [some e0,some e] :=
 ⟨vs,h1,[i],[],by simp [List.range,List.range.loop]; omega,by simpa using hi,by simp,by simpa [List.range,List.range.loop] using hw,by simpa [List.range,List.range.loop] using ⟨by simpa using h0,by simpa using he⟩⟩
set_option maxRecDepth 100000 in
theorem Some_ok (L : List Int) (a N : Nat) (hl : L.length ≤ 400) (ha : a ≤ L.length) (hN : N ≤ 1000) : ACalls Tryz.prog nmade_Dice_Some [.pt 0 0 0,.I N] [dice L a] (.rs 1 0 (someD L a N).1.length) [some (dice L (someD L a N).2),some ⟨1,rowsI (someD L a N).1,0⟩]:=by
 refine smade_Dice_Some.acalls (Nat.le_of_ble_eq_true rfl) (Nat.le_of_ble_eq_true rfl) (by simp) ?_
 show awp _ 1 _ _ ⟨20,[(0,.pt 0 0 0),(1,.I N)],[(0,some (dice L a))],16⟩
 refine awp_seq ?_
 refine awp_run (s:=?s1) rfl ?o1 ?q1
 case o1=>simp; rfl
 refine awp_seq ?_
 refine awp_run (s:=?s2) rfl ?o2 ?q2
 case o2=>simp; rfl
 refine awp_seq ?_
 refine awp_seq ?_
 refine awp_run (s:=?s3) rfl ?o3 ?q3
 case o3=>simp; rfl
 refine awp_block ?_
 refine awp_loop (ι:=Nat) (fun m=>⟨20,[(0,.pt 0 0 0),(1,.I N),(5,.rs 16 0 (someD L a m).1.length),(6,.I m)],[(0,some (dice L (someD L a m).2)),(16,some ⟨1,rowsI (someD L a m).1,0⟩)],40⟩) (fun m=>m ≤ N) (fun m=>N - m) 0 (Nat.zero_le _) ?_ ?_
 ·refine Le.lst [(0,0)] [] [(16,1)] rfl (by simp) (by simp) (by simp) (by simp) (by simp) (by simp) (by simp) (by simp [Up,someD]) fun p hp e' he'=>?_
  simp [someD] at hp
  rcases hp with rfl | rfl
  ·cases he'
   exact .inl ⟨(0,0),by simp,rfl,_,rfl,EntUp.eq (by simp [fcd]) (by simp)⟩
  ·cases he'
   exact .inr ⟨by simp,by simp,rfl⟩
 intro m hm
 have hle:=someD_le (L:=L) ha m
 have hlen:=someD_len (L:=L) (a:=a) m
 have hnx:=Next1_ok L (someD L a m).2 3 hl hle (by omega)
 obtain ⟨X,hX⟩ : ∃ X,X = (someD L a m).1:=⟨_,rfl⟩
 obtain ⟨b,hb⟩ : ∃ b,b = (someD L a m).2:=⟨_,rfl⟩
 have hs1 : someD L a (m + 1) = (if (nextD L b 3).1 = 0 then X ++ [(m : Int)] else X,(nextD L b 3).2):=by rw [hX,hb]; rfl
 rw [← hX] at hlen
 rw [← hb] at hle hnx
 rw [← hX,← hb]
 refine awp_seq ?_
 refine awp_regc ⟨20,[(0,.pt 0 0 0),(1,.I N),(5,.rs 16 0 X.length),(6,.I m),(9,.B (decide (m < N)))],[(0,some (dice L b)),(16,some ⟨1,rowsI X,0⟩)],64⟩ rfl ?_ ?_
 ·simp
  exact Le.keep rfl (Nat.le_refl _) (by simp) (by simp)
 refine awp_cond _ rfl (fun h=>awp_skip ?_) fun h=>awp_exit (hit ?_)
 ·simp only [decide_eq_true_eq] at h
  have hwm : IntKind.i64.wrap ((m : Int) + 1) = ((m + 1 : Nat) : Int):=by rw [w64 (by omega) (by omega)]; omega
  refine awp_cut (ι:=Unit) (fun _=>⟨20,[(0,.pt 0 0 0),(1,.I N),(5,.rs 16 0 (someD L a (m + 1)).1.length),(6,.I m)],[(0,some (dice L (someD L a (m + 1)).2)),(16,some ⟨1,rowsI (someD L a (m + 1)).1,0⟩)],64⟩) (fun _=>True) ?_ fun _ _=>?_
  ·refine awp_block ?_
   refine awp_regc ⟨20,[(0,.pt 0 0 0),(1,.I N),(5,.rs 16 0 X.length),(6,.I m),(14,.B (decide ((nextD L b 3).1 = 0)))],[(0,some (dice L (nextD L b 3).2)),(16,some ⟨1,rowsI X,0⟩)],88⟩ rfl ?_ ?_
   ·simp
    refine callM1 (i:=0) rfl (e':=dice L b) (by simp [fcd]) hnx (by simp) (by simp) ?_
    simp [fcd]
    exact Le.keep rfl (Nat.le_refl _) (by simp <;> rw [Bool.eq_iff_iff] <;> simp) (by simp)
   refine awp_cond _ rfl (fun h2=>?_) fun h2=>awp_skip ?_
   ·simp only [decide_eq_true_eq] at h2
    rw [if_pos h2] at hs1
    rw [hs1]
    refine awp_reg rfl ?_
    simp
    refine ⟨by omega,by omega,?_⟩
    refine Le.ents [(0,0),(112,16)] [] rfl (by simp) (by simp) (by simp) (by simp) (by simp) (by simp) fun p hp=>?_
    simp at hp
    rcases hp with rfl | rfl
    ·exact ⟨0,_,_,rfl,by simp,rfl,EntUp.eq (by simp [fcd]) (by simp)⟩
    ·exact ⟨112,_,_,rfl,by simp,rfl,EntUp.eq (by simp [fcd]; try rw [List.take_of_length_le (by simp)]) (by simp)⟩
   ·simp only [decide_eq_false_iff_not] at h2
    rw [if_neg h2] at hs1
    rw [hs1]
    refine ⟨(),trivial,?_⟩
    show Le 1 _ ⟨20,[(0,.pt 0 0 0),(1,.I N),(5,.rs 16 0 X.length),(6,.I m)],[(0,some (dice L (nextD L b 3).2)),(16,some ⟨1,rowsI X,0⟩)],64⟩
    refine Le.ents [(0,0),(16,16)] [] rfl (by simp) (by simp) (by simp) (by simp) (by simp) (by simp) fun p hp=>?_
    simp at hp
    rcases hp with rfl | rfl
    ·exact ⟨0,_,_,rfl,by simp,rfl,EntUp.eq (by simp [fcd]) (by simp)⟩
    ·exact ⟨16,_,_,rfl,by simp,rfl,EntUp.eq (by simp [fcd]) (by simp)⟩
  refine awp_reg rfl ?_
  simp [hwm]
  refine ⟨m + 1,by omega,by omega,?_⟩
  refine Le.ents [(0,0),(16,16)] [] rfl (by simp) (by simp) (by simp) (by simp) (by simp) (by simp) fun p hp=>?_
  simp at hp
  rcases hp with rfl | rfl
  ·exact ⟨0,_,_,rfl,by simp,rfl,EntUp.eq (by simp [fcd]) (by simp)⟩
  ·exact ⟨16,_,_,rfl,by simp,rfl,EntUp.eq (by simp [fcd]) (by simp)⟩
 simp only [decide_eq_false_iff_not] at h
 obtain rfl : m = N:=by omega
 refine awp_seq ?_
 refine awp_run (s:=?z9) rfl ?p9 ?r9
 case p9=>simp; rfl
 refine awp_ret ?_
 rw [← hX,← hb]
 exact ⟨.inr rfl,RetOk.k1n 16 (by simp) rfl (by simp) (by simp [fcd]) (by simp [fcd])⟩
@[simp] theorem cellsOf_mp {i : Nat} : cellsOf (.mp i) = some [.mp i]:=(rfl)
set_option maxRecDepth 100000 in
set_option maxHeartbeats 2000000 in
theorem Grow_a (N : Nat) (A : List Ed) (f0 : List Int) (hn : NetVal ⟨N,A⟩) (hf0 : FlowOk N A f0) :
  ∃ f : List Int,(FlowOk N A f ∧ ∀ f',FlowOk N A f' → valF A f' ≤ valF A f) ∧ ACalls Tryz.prog nflow_Grow [eN ⟨N,A⟩,ints f0] [] (.rs 0 0 A.length) [some ⟨1,rowsI f,0⟩]:=by
 refine sflow_Grow.acallsX (args:=[eN ⟨N,A⟩,ints f0]) (hs:=[]) (fun f=>.rs 0 0 A.length) (fun f=>[some ⟨1,rowsI f,0⟩]) (fun f : List Int=>FlowOk N A f ∧ ∀ f',FlowOk N A f' → valF A f' ≤ valF A f) (Nat.le_of_ble_eq_true rfl) (Nat.le_of_ble_eq_true rfl) (fun _=>by simp) ?_
 show awp _ 0 _ _ ⟨14,[(0,eN ⟨N,A⟩),(1,ints f0)],[],16⟩
 have hno:=netOk_of hn
 have hfl:=hf0.fit.len
 have hopen:=fun (f : List Int)=>open_ok N A f A.length hn
 have hpush:=fun (f : List Int) (hf : FlowOk N A f)=>push_a N A f hn hf
 have hal:=hn.2.2.1
 simp only at hal
 have hcl:=cloneI_ok f0 (by omega)
 rw [hfl] at hcl
 have htake : ∀ g : Int → List AV,List.take A.length (List.map g f0) = List.map g f0:=fun g=>List.take_of_length_le (by simp; omega)
 refine rx (s:=?s1) [1,2] [] [16] rfl ?o1 ?q1
 case o1=>simp; rfl
 refine awp_dregc ⟨14,[(5,.pt 64 0 0)],[(48,some ⟨1,rowsI f0,0⟩),(64,some ⟨4,[rC N A (.rs 48 0 A.length)],0⟩)],80⟩ rfl ?_ ?_
 ·simp
  refine callN1 hcl (by simp) ?_
  simp
  refine callM1 (i:=48) rfl (by simp [fcd]) (hopen f0) (by simp) (by simp) ?_
  simp
  exact ⟨rfl,Le.go [(48,48),(64,64)] [] rfl rfl (by simp) (by simp [fcd])⟩
 refine awp_seq ?_
 refine awp_block ?_
 refine awp_loop (ι:=List Int) (fun f=>⟨14,[(5,.pt 64 0 0)],[(48,some ⟨1,rowsI f,0⟩),(64,some ⟨4,[rC N A (.rs 48 0 A.length)],0⟩)],80⟩) (fun f=>FlowOk N A f) (fun f=>(capS (fun x=>decide (x = 0)) A - valF A f).toNat) f0 hf0 (Le.go [(48,48),(64,64)] [] rfl rfl (by simp) (by simp [fcd])) ?_
 intro f hf
 obtain ⟨⟨c,f'⟩,hx,hcall⟩:=hpush f hf
 simp only at hx hcall
 refine awp_seq ?_
 refine awp_regc ⟨14,[(5,.pt 64 0 0),(11,.B c)],[(48,some ⟨1,rowsI f',0⟩),(64,some ⟨4,[rC N A (.rs 48 0 A.length)],0⟩)],100⟩ rfl ?_ ?_
 ·simp
  refine callM1 (i:=48) rfl (by simp [fcd]) hcall (by simp) (by simp) ?_
  simp
  exact Le.go [(48,48),(64,64)] [] rfl rfl (by simp) (by simp [fcd])
 refine awp_cond _ rfl (fun h4=>?_) fun h4=>?_
 ·have hc : c = true:=h4
  subst hc
  simp only [if_true] at hx
  have hbnd:=val_le_cut (S:=fun x=>decide (x = 0)) hno hx.1 (by simp) (by simp)
  refine awp_skip ?_
  refine awp_block ?_
  refine awp_skip ?_
  exact ⟨f',hx.1,by have:=hx.2; omega,Le.go [(48,48),(64,64)] [] rfl rfl (by simp) (by simp [fcd])⟩
 have hc : c = false:=h4
 subst hc
 simp only [Bool.false_eq_true,if_false] at hx
 obtain ⟨rfl,hm⟩:=hx
 refine awp_exit ?_
 refine hit ?_
 refine awp_regc ⟨14,[(4,.rs 48 0 A.length)],[(48,some ⟨1,rowsI f',0⟩)],200⟩ rfl ?_ ?_
 ·simp
  exact Le.go [(48,48)] [] rfl rfl (by simp) (by simp [fcd])
 refine awp_ret ?_
 exact PostX.mk (.inr rfl) f' ⟨hf,hm⟩ (RetOk.out [48] [] rfl (by simp) (by simp) (by simp) (by simp [fcd]))
set_option maxRecDepth 100000 in
set_option maxHeartbeats 2000000 in
theorem flow_Max_a (N : Nat) (A : List Ed) (hn : NetVal ⟨N,A⟩) :
  ∃ f : List Int,(FlowOk N A f ∧ ∀ f',FlowOk N A f' → valF A f' ≤ valF A f) ∧ ACalls Tryz.prog nflow_Max [eN ⟨N,A⟩] [] (.tup [.rs 0 0 A.length,.I 0]) [some ⟨1,rowsI f,0⟩]:=by
 have hno:=netOk_of hn
 obtain ⟨f,hf,hg⟩:=Grow_a N A _ hn (flow_zero hno)
 refine ⟨f,hf,?_⟩
 have hchk:=flow_Check_ok ⟨N,A⟩ (by have:=hn.2.2.1; simp only at this ⊢; omega)
 rw [if_pos hn] at hchk
 have hal:=hn.2.2.1
 simp only at hal
 have hfl:=hf.1.fit.len
 refine sflow_Max.acalls (Nat.le_of_ble_eq_true rfl) (Nat.le_of_ble_eq_true rfl) (Nat.zero_le _) ?_
 show awp _ 0 _ _ ⟨16,[(0,eN ⟨N,A⟩)],[],16⟩
 refine rx (s:=?s1) [1] [] [16] rfl ?o1 ?q1
 case o1=>simp; rfl
 refine awp_seq ?_
 refine rx (s:=?s2) [1,4] [] [] rfl ?o2 ?q2
 case o2=>simp; refine call0e hchk (by simp) ?_; simp; rfl
 refine rx (s:=?s3) [1,4,8] [] [] rfl ?o3 ?q3
 case o3=>simp; rfl
 refine awp_cond _ rfl (fun h4=>by cases h4) fun h4=>?_
 refine awp_skip ?_
 refine awp_dregc ⟨16,[(2,.rs 48 0 A.length),(3,.I 0)],[(48,some ⟨1,rowsI f,0⟩)],300⟩ rfl ?_ ?_
 ·simp
  refine ⟨by omega,by omega,?_⟩
  refine callN1r [112] hg (by simp [List.map_const']) (.rs _ _ _) plainI ?_
  simp
  exact ⟨rfl,Le.go [(120,48)] [] rfl rfl (by simp) (by simp [fcd])⟩
 refine awp_ret ?_
 exact ⟨.inr rfl,RetOk.out [48] [] rfl (by simp) (by simp) (by simp) (by simp [fcd])⟩
set_option maxRecDepth 100000 in
set_option maxHeartbeats 2000000 in
theorem flow_Reached_ok (N : Nat) (A : List Ed) (f : List Int) (hn : NetVal ⟨N,A⟩) (hf : FlowOk N A f) (hm : ∀ f',FlowOk N A f' → valF A f' ≤ valF A f) :
  ACalls Tryz.prog nflow_Reached [eN ⟨N,A⟩,.rs 0 0 A.length] [⟨1,rowsI f,0⟩] (.rs 1 0 (nearL N A).length) [some ⟨1,rowsI f,0⟩,some ⟨1,rowsI (nearL N A),0⟩]:=by
 have hno:=netOk_of hn
 obtain ⟨⟨D,b,R⟩,⟨hb,hcl,hR⟩,hcall⟩:=search_a N A f hn hf.fit
 simp only at hb hcl hR hcall
 have hopen:=open_ok N A f A.length hn
 have hnear : inD D N = nearL N A:=nearL_of hno hf hm hb.tree hb.mem0 (no_sink hno hf hm hb) hcl
 have hwh:=Where_map hR N (by have:=hn.2.1; simp only at this; omega)
 rw [hnear] at hwh
 have hfl:=hf.fit.len
 have htake : ∀ g : Int → List AV,List.take A.length (List.map g f) = List.map g f:=fun g=>List.take_of_length_le (by simp; omega)
 refine sflow_Reached.acalls (Nat.le_of_ble_eq_true rfl) (Nat.le_of_ble_eq_true rfl) (by simp) ?_
 show awp _ 1 _ _ ⟨14,[(0,eN ⟨N,A⟩),(1,.rs 0 0 A.length)],[(0,some ⟨1,rowsI f,0⟩)],16⟩
 refine awp_regc ⟨14,[(1,.rs 0 0 A.length),(2,.pv (nC ⟨N,A⟩))],[(0,some ⟨1,rowsI f,0⟩)],32⟩ rfl ?_ ?_
 ·simp
  exact Le.go [(0,0)] [16] rfl rfl (by simp) (by simp [fcd])
 refine awp_regc ⟨14,[(2,.pv (nC ⟨N,A⟩)),(5,.pt 64 0 0)],[(0,some ⟨1,rowsI f,0⟩),(64,some ⟨1,[[.mp 56]],0⟩),(56,some ⟨0,R,0⟩)],100⟩ rfl ?_ ?_
 ·simp
  refine callM1 (i:=0) rfl (by simp [fcd]) hopen (by simp) (by simp) ?_
  simp
  refine callN1r [0] hcall (by simp [fcd,htake,hfl]) (.mp _) (hR.plain _ _) ?_
  simp
  exact Le.go [(0,0),(64,64),(56,56)] [] rfl rfl (by simp) (by simp [fcd,hR.conv'])
 refine awp_regc ⟨14,[(4,.rs 57 0 (nearL N A).length)],[(0,some ⟨1,rowsI f,0⟩),(57,some ⟨1,rowsI (nearL N A),0⟩)],200⟩ rfl ?_ ?_
 ·simp
  refine callM2 (i:=64) (j:=56) (by decide) rfl rfl (by simp) (by simp [hR.conv']) hwh (by simp) (by simp [conv]) ?_
  simp
  exact Le.go [(0,0),(124,57)] [] rfl rfl (by simp) (by simp [fcd])
 refine awp_ret ?_
 exact ⟨.inr rfl,RetOk.k1n 57 (by omega) rfl (by simp) (by simp [fcd]) (by simp [fcd])⟩
abbrev rowsR (R : List (Int × List Int)) : List (List AV):=R.map fun r=>[.I r.1,ints r.2]
abbrev eAcc (acc flow : List Int) (R : List (Int × List Int)) : AV:=.agg [ints acc,ints flow,.vs 2 false (rowsR R)]
structure RSt where
 i : Nat
 R : List (Int × List Int)
set_option maxRecDepth 100000 in
set_option maxHeartbeats 4000000 in
open Classical in
theorem Run_a (g : Gr) (p : Pol) (hg : GrOk g) (hp : PolOk g.size p) (hs : p.seeds.length ≤ 64) :
  ∃ x : List (Int × List Int) × List Int,(RefOk g p (ordL (levelG g p.lv) p.seeds) x.1 ∧ GreatF g p (joinL (accR g p (ordL (levelG g p.lv) p.seeds))) x.2) ∧
    ACalls Tryz.prog nref17_Run [eG g,eP p] [] (.tup [eAcc (accR g p (ordL (levelG g p.lv) p.seeds)) x.2 x.1,.I 0]) []:=by
 refine sref17_Run.acallsX (args:=[eG g,eP p]) (hs:=[]) (fun x=>.tup [eAcc (accR g p (ordL (levelG g p.lv) p.seeds)) x.2 x.1,.I 0]) (fun _=>[]) (fun x : List (Int × List Int) × List Int=>RefOk g p (ordL (levelG g p.lv) p.seeds) x.1 ∧ GreatF g p (joinL (accR g p (ordL (levelG g p.lv) p.seeds))) x.2) (Nat.le_of_ble_eq_true rfl) (Nat.le_of_ble_eq_true rfl) (fun _=>Nat.le_refl _) ?_
 show awp _ 0 _ _ ⟨84,[(0,eG g),(1,eP p)],[],16⟩
 have hsz:=hg.1.1
 have hsz2:=hg.1.2.1
 have hel:=hg.edges_le
 have hgl:=hg.gone_le
 have hchk:=ref13_Check_ok g p (by omega) (by omega) (by omega) (by have:=hp.2.2.2.1; omega)
 rw [if_pos hg,if_pos hp] at hchk
 have hlev:=ref11_Level_ok g p.lv (by omega) (by omega)
 have hord:=ref12_Order_ok (g:=levelG g p.lv) (S:=p.seeds) (hg.level p.lv) (by omega)
 obtain ⟨o,ho⟩ : ∃ o,o = ordL (levelG g p.lv) p.seeds:=⟨_,rfl⟩
 have hor : ∀ k ∈ o,0 ≤ k ∧ k < g.size:=fun k hk=>by rw [ho] at hk; have h:=ordL_range hk; exact h
 have hon : o.Nodup:=by rw [ho]; exact ordL_nodup _ _
 rw [← ho] at hord ⊢
 have hol : o.length ≤ 64:=by
  have:=nodup_sub_len (b:=(List.range g.size.toNat).map fun i : Nat=>(i : Int)) hon fun x hx=>by
   have:=hor x hx
   exact List.mem_map.2 ⟨x.toNat,List.mem_range.2 (by omega),by omega⟩
  simp at this
  omega
 have hjr : ∀ a : List Int,(∀ x ∈ a,0 ≤ x ∧ x < g.size) → Rise (joinL a) 0 (g.size - 1):=fun a h=>rise_join h
 have hj0 : joinL [] = []:=rfl
 refine rx (s:=?s1) [2,3,4] [32] [16,24] rfl ?o1 ?q1
 case o1=>simp; rfl
 refine awp_seq ?_
 refine rx (s:=?s2) [2,3,4,6] [32] [] rfl ?o2 ?q2
 case o2=>simp; refine call0e hchk (by simp) ?_; simp; rfl
 refine rx (s:=?s3) [2,3,4,6,21] [32] [] rfl ?o3 ?q3
 case o3=>simp; rfl
 refine awp_cond _ rfl (fun h=>by cases h) fun _=>?_
 refine awp_skip ?_
 refine awp_regc ⟨84,[(2,.pv (gC g)),(3,.pv (pC p)),(4,.pt 32 0 0),(7,.pt 40 0 0)],[(32,some ⟨3,[[.nilS,.nilS,.nilS]],0⟩),(40,some ⟨3,[[.nilS,.nilS,.nilS]],0⟩)],200⟩ rfl ?_ ?_
 ·simp
  exact Le.go [(32,32),(96,40)] [] rfl rfl (by simp) (by simp)
 refine awp_regc ⟨84,[(2,.pv (gC g)),(3,.pv (pC p)),(4,.pt 32 0 0),(7,.pt 40 0 0),(8,.vs 1 false [])],[(32,some ⟨3,[[.nilS,.nilS,.nilS]],0⟩),(40,some ⟨3,[[.nilS,.nilS,.nilS]],0⟩)],300⟩ rfl ?_ ?_
 ·simp
  exact Le.go [(32,32),(40,40)] [] rfl rfl (by simp) (by simp)
 refine awp_dregc ⟨84,[(2,.pv (gC g)),(3,.pv (pC p)),(4,.pt 32 0 0),(7,.pt 40 0 0),(8,.vs 1 false []),(9,ints o)],[(32,some ⟨3,[[.nilS,.nilS,.nilS]],0⟩),(40,some ⟨3,[[.nilS,.nilS,.nilS]],0⟩)],400⟩ rfl ?_ ?_
 ·simp
  refine call0e hlev (by simp) ?_
  simp
  refine callN1 hord (by simp) ?_
  simp
  exact ⟨rfl,Le.go [(32,32),(40,40)] [348] rfl rfl (by simp [fcd,take_map_len]) (by simp)⟩
 refine awp_seq ?_
 refine awp_regc ⟨84,[(2,.pv (gC g)),(3,.pv (pC p)),(4,.pt 32 0 0),(7,.pt 40 0 0),(8,.vs 1 false []),(9,ints o),(10,.I 0)],[(32,some ⟨3,[[.nilS,.nilS,.nilS]],0⟩),(40,some ⟨3,[[.nilS,.nilS,.nilS]],0⟩)],500⟩ rfl ?_ ?_
 ·simp
  exact Le.go [(32,32),(40,40)] [] rfl rfl (by simp) (by simp)
 refine awp_block ?_
 refine awp_loop (ι:=RSt) (fun s=>⟨84,[(2,.pv (gC g)),(3,.pv (pC p)),(4,.pt 32 0 0),(7,.pt 40 0 0),(8,ints (joinL (accR g p (o.take s.i)))),(9,ints o),(10,.I s.i)],
   [(32,some ⟨3,[[.nilS,.nilS,.nilS]],0⟩),(40,some ⟨3,[[.rs 41 0 (accR g p (o.take s.i)).length,.nilS,.rs 42 0 s.R.length]],0⟩),(41,some ⟨1,rowsI (accR g p (o.take s.i)),0⟩),(42,some ⟨2,rowsR s.R,0⟩)],500⟩)
  (fun s=>s.i ≤ o.length ∧ RefOk g p (o.take s.i) s.R) (fun s=>o.length - s.i) ⟨0,[]⟩ ⟨Nat.zero_le _,RefOk.nil⟩
  (Le.lst [(32,32),(40,40)] [] [(41,1),(42,2)] rfl (by simp) (by simp) (by simp) (by simp) (by simp) (by simp) (by simp) (by simp [Up,accR_nil,hj0]; exact .refl _) (by simp [accR_nil,fcd]; exact ⟨EntUp.rfl' (by simp),EntUp.row rfl (by omega) (by simp [UpL,Up,Wk.refl])⟩)) ?_
 rintro ⟨i,R⟩ ⟨hi,hR⟩
 simp only at hi hR
 obtain ⟨acc,hacc⟩ : ∃ acc,acc = accR g p (o.take i):=⟨_,rfl⟩
 have hai : ∀ x ∈ acc,0 ≤ x ∧ x < g.size:=fun x hx=>hor x (List.mem_of_mem_take (accR_mem (hacc ▸ hx)))
 have hal : acc.length ≤ 64:=by
  have h1:=accR_len (g:=g) (p:=p) (o.take i)
  rw [← hacc] at h1
  exact Nat.le_trans h1 (Nat.le_trans (List.length_take_le' i o) hol)
 have hRl:=hR.len
 have hRl2:=List.length_take_le' i o
 rw [← hacc]
 refine awp_seq ?_
 refine awp_regc ⟨84,[(2,.pv (gC g)),(3,.pv (pC p)),(4,.pt 32 0 0),(7,.pt 40 0 0),(8,ints (joinL acc)),(9,ints o),(10,.I i),(34,.B (decide (i < o.length)))],
   [(32,some ⟨3,[[.nilS,.nilS,.nilS]],0⟩),(40,some ⟨3,[[.rs 41 0 acc.length,.nilS,.rs 42 0 R.length]],0⟩),(41,some ⟨1,rowsI acc,0⟩),(42,some ⟨2,rowsR R,0⟩)],600⟩ rfl ?_ ?_
 ·simp
  exact Le.go [(32,32),(40,40),(41,41),(42,42)] [] rfl rfl (by simp) (by simp [fcd])
 refine awp_cond _ rfl (fun h11=>?_) fun h11=>?_
 ·simp at h11
  have hw1 : IntKind.i64.wrap ((i : Int) + 1) = (i : Int) + 1:=w64 (by omega) (by omega)
  obtain ⟨k,hk⟩ : ∃ k,k = o[i]:=⟨_,rfl⟩
  have hkr:=hor _ (List.getElem_mem h11)
  rw [← hk] at hkr
  have hts : o.take (i + 1) = o.take i ++ [k]:=by rw [List.take_succ_eq_append_getElem h11,hk]
  have hput:=Put_ok (joinL acc) k (by have:=joinL_len acc; omega)
  rw [putL_join hkr.1 (by omega)] at hput
  have hks : ∀ x ∈ acc ++ [k],0 ≤ x ∧ x < g.size:=fun x hx=>by
   rcases List.mem_append.1 hx with h | h
   ·exact hai x h
   ·rw [List.mem_singleton] at h; subst h; exact hkr
  have hrise:=hjr _ hks
  have hJl:=joinL_len (acc ++ [k])
  obtain ⟨f,hf,hsv⟩:=served_a g p (joinL (acc ++ [k])) hg hp hrise hs hJl
  have hnv:=netA_val hg hp (rise_in hrise) hs hJl
  obtain ⟨side,⟨hsd1,hsd2,hsd3,hsd4⟩,hnear⟩:=Nearest_a _ _ hnv
  have hyes:=accR_yes (g:=g) (p:=p) (o:=o.take i) (k:=k)
  have hno:=accR_no (g:=g) (p:=p) (o:=o.take i) (k:=k)
  rw [← hacc,← hts] at hyes hno
  have hRy:=hR.yes (k:=k)
  have hRn:=fun h=>hR.no (k:=k) (side:=side) h
  rw [← hacc,← hts] at hRy hRn
  obtain ⟨J,hJ⟩ : ∃ J,J = joinL (acc ++ [k]):=⟨_,rfl⟩
  rw [← hJ] at hput hsv hnear hsd1 hsd2 hsd4 hyes hno hRy hf
  refine awp_skip ?_
  refine awp_cut (ι:=RSt) (fun s=>⟨84,[(2,.pv (gC g)),(3,.pv (pC p)),(4,.pt 32 0 0),(7,.pt 40 0 0),(8,ints (joinL (accR g p (o.take (i + 1))))),(9,ints o),(10,.I i)],
   [(32,some ⟨3,[[.nilS,.nilS,.nilS]],0⟩),(40,some ⟨3,[[.rs 41 0 (accR g p (o.take (i + 1))).length,.nilS,.rs 42 0 s.R.length]],0⟩),(41,some ⟨1,rowsI (accR g p (o.take (i + 1))),0⟩),(42,some ⟨2,rowsR s.R,0⟩)],3000⟩)
   (fun s=>RefOk g p (o.take (i + 1)) s.R) ?_ fun s hs'=>?_
  ·refine awp_block ?_
   refine awp_regc ⟨84,[(2,.pv (gC g)),(3,.pv (pC p)),(4,.pt 32 0 0),(7,.pt 40 0 0),(8,ints (joinL acc)),(9,ints o),(10,.I i),(11,.I k)],
    [(32,some ⟨3,[[.nilS,.nilS,.nilS]],0⟩),(40,some ⟨3,[[.rs 41 0 acc.length,.nilS,.rs 42 0 R.length]],0⟩),(41,some ⟨1,rowsI acc,0⟩),(42,some ⟨2,rowsR R,0⟩)],700⟩ rfl ?_ ?_
   ·simp [h11,← hk]
    exact Le.go [(32,32),(40,40),(41,41),(42,42)] [] rfl rfl (by simp) (by simp [fcd])
   refine awp_dregc ⟨84,[(2,.pv (gC g)),(3,.pv (pC p)),(4,.pt 32 0 0),(7,.pt 40 0 0),(8,ints (joinL acc)),(9,ints o),(10,.I i),(11,.I k),(12,.pv (nC ⟨netN g,netA g p J⟩)),(14,.B (decide (CanServe g p J)))],
    [(32,some ⟨3,[[.nilS,.nilS,.nilS]],0⟩),(40,some ⟨3,[[.rs 41 0 acc.length,.nilS,.rs 42 0 R.length]],0⟩),(41,some ⟨1,rowsI acc,0⟩),(42,some ⟨2,rowsR R,0⟩)],900⟩ rfl ?_ ?_
   ·simp
    refine callN1 hput (by simp) ?_
    simp
    refine callN1sZ (j:=732) (by decide) rfl hsv (by simp [fcd,take_map_len]) ?_
    simp
    exact ⟨rfl,Le.go [(32,32),(40,40),(41,41),(42,42)] [780,732,740] rfl rfl (by simp [take_map_len]) (by simp [fcd])⟩
   refine awp_seq ?_
   refine awp_regc ⟨84,[(2,.pv (gC g)),(3,.pv (pC p)),(4,.pt 32 0 0),(7,.pt 40 0 0),(8,ints (joinL acc)),(9,ints o),(10,.I i),(11,.I k),(12,.pv (nC ⟨netN g,netA g p J⟩)),(51,.B (decide (CanServe g p J)))],
    [(32,some ⟨3,[[.nilS,.nilS,.nilS]],0⟩),(40,some ⟨3,[[.rs 41 0 acc.length,.nilS,.rs 42 0 R.length]],0⟩),(41,some ⟨1,rowsI acc,0⟩),(42,some ⟨2,rowsR R,0⟩)],1000⟩ rfl ?_ ?_
   ·simp
    exact Le.go [(32,32),(40,40),(41,41),(42,42)] [] rfl rfl (by simp) (by simp [fcd])
   refine awp_cond _ rfl (fun h15=>?_) fun h15=>?_
   ·have h15' : CanServe g p J:=of_decide_eq_true h15
    have hy:=hyes h15'
    have hRy':=hRy h15'
    refine awp_regc ⟨84,[(2,.pv (gC g)),(3,.pv (pC p)),(4,.pt 32 0 0),(7,.pt 40 0 0),(8,ints J),(9,ints o),(10,.I i)],
     [(32,some ⟨3,[[.nilS,.nilS,.nilS]],0⟩),(40,some ⟨3,[[.rs 41 0 (acc ++ [k]).length,.nilS,.rs 42 0 R.length]],0⟩),(41,some ⟨1,rowsI (acc ++ [k]),0⟩),(42,some ⟨2,rowsR R,0⟩)],1200⟩ rfl ?_ ?_
    ·simp [take_map_len]
     refine ⟨by omega,by omega,?_⟩
     refine callN1 hput (by simp) ?_
     simp [splice]
     exact Le.go [(32,32),(40,40),(1032,41),(42,42)] [1056] rfl rfl (by simp [fcd,take_map_len]) (by simp [fcd])
    refine awp_exit ?_
    refine hit ?_
    exact ⟨⟨i,R⟩,hRy',Le.go [(32,32),(40,40),(41,41),(42,42)] [] rfl rfl (by simp [hy,← hJ]) (by simp [hy,fcd])⟩
   ·have h15' : ¬ CanServe g p J:=of_decide_eq_false h15
    have hn':=hno h15'
    have hRn':=hRn ⟨by rw [← hJ]; exact h15',by rw [← hJ]; exact hsd1,by rw [← hJ]; exact hsd2,hsd3,by rw [← hJ]; exact hsd4⟩
    refine awp_skip ?_
    refine awp_regc ⟨84,[(2,.pv (gC g)),(3,.pv (pC p)),(4,.pt 32 0 0),(7,.pt 40 0 0),(8,ints (joinL acc)),(9,ints o),(10,.I i),(11,.I k),(15,ints side)],
     [(32,some ⟨3,[[.nilS,.nilS,.nilS]],0⟩),(40,some ⟨3,[[.rs 41 0 acc.length,.nilS,.rs 42 0 R.length]],0⟩),(41,some ⟨1,rowsI acc,0⟩),(42,some ⟨2,rowsR R,0⟩)],1200⟩ rfl ?_ ?_
    ·simp
     refine callN1 hnear (by simp) ?_
     simp
     exact Le.go [(32,32),(40,40),(41,41),(42,42)] [1008] rfl rfl (by simp [fcd,take_map_len]) (by simp [fcd])
    have htR : ∀ h : Int × List Int → List AV,List.take R.length (List.map h R) = List.map h R:=fun h=>List.take_of_length_le (by simp)
    refine awp_reg rfl ?_
    simp [htR,splice]
    exact ⟨by omega,by omega,⟨i,R ++ [(k,side)]⟩,hRn',Le.go [(32,32),(40,40),(41,41),(1248,42)] [] rfl rfl (by simp [hn']) (by simp [hn',fcd])⟩
  refine awp_run (s:=?s30) rfl ?o30 ?q30
  case o30=>simp; rfl
  exact ⟨⟨i + 1,s.R⟩,⟨h11,hs'⟩,Nat.sub_lt_sub_left h11 (Nat.lt_succ_self i),Le.go [(32,32),(40,40),(41,41),(42,42)] [] rfl rfl (by simp [hw1]) (by simp [fcd])⟩
 simp at h11
 obtain rfl : i = o.length:=by omega
 rw [List.take_length] at hacc hR
 obtain ⟨f,hf,hsv⟩:=served_a g p (joinL acc) hg hp (hjr _ hai) hs (joinL_len acc)
 refine awp_exit ?_
 refine hit ?_
 have hfl:=hf.ok.fit.len
 have htf : ∀ h : Int → List AV,List.take (netA g p (joinL acc)).length (List.map h f) = List.map h f:=fun h=>List.take_of_length_le (by simp; omega)
 refine awp_regc ⟨84,[(4,.pt 32 0 0),(7,.pt 40 0 0)],
   [(32,some ⟨3,[[.nilS,.nilS,.nilS]],0⟩),(40,some ⟨3,[[ints acc,ints f,.vs 2 false (rowsR R)]],0⟩)],1200⟩ rfl ?_ ?_
 ·simp
  refine callN1 hsv (by simp) ?_
  simp [splice]
  exact Le.go [(32,32),(40,40)] [41,42,624] rfl rfl (by simp) (by simp [fcd,take_map_len,htf,hfl])
 refine awp_regc ⟨84,[(4,.pt 32 0 0),(5,.I 0)],[(32,some ⟨3,[[ints acc,ints f,.vs 2 false (rowsR R)]],0⟩)],1400⟩ rfl ?_ ?_
 ·simp [splice]
  exact Le.go [(32,32)] [] rfl rfl (by simp) (by simp [fcd])
 refine awp_ret ?_
 exact PostX.mk (.inr rfl) (R,f) ⟨hR,by rw [← hacc]; exact hf⟩ (RetOk.out [] [] rfl (by simp) (by simp) (by simp [← hacc]) (by simp))
theorem WayA.mem {A : List Ed} : ∀ {l : List Nat} {u w : Int},WayA A u l w → ∀ j ∈ l,j < A.length
 | i :: l,u,w,hw,j,hj=>by
   rcases List.mem_cons.1 hj with rfl | hj
   ·exact hw.1
   ·exact WayA.mem hw.2.2 j hj
theorem LeftA.few {N : Nat} {A : List Ed} {f g : List Int} {l : List Nat} {w : Int} (hn : NetOk N A) (h : LeftA A f g l w) : l.length + 1 ≤ N:=by
 have:=nodup_sub_len (b:=(List.range N).map fun i : Nat=>(i : Int)) h.met fun x hx=>by
  rcases List.mem_cons.1 hx with rfl | hx
  ·have:=hn.two
   exact List.mem_map.2 ⟨0,List.mem_range.2 (by omega),rfl⟩
  ·obtain ⟨j,hj,rfl⟩:=List.mem_map.1 hx
   have ha:=hn.arc _ (arcD_mem (h.way.mem j hj))
   exact List.mem_map.2 ⟨(arcD A j).t.toNat,List.mem_range.2 (by omega),by omega⟩
 simpa [metA] using this
section
variable {P : Program} {np id : Nat} {h : Nat → Option Ent} {K : AV → List Nat → List (Nat × Option Ent) → Prop} {f : FuncId} {first capt args args' : List AV} {res : AV}
end
def PathsW (g : Gr) (p : Pol) (ks : List Int) (W : List (List Nat)) : Prop :=
 ∃ f g',GreatF g p (joinL ks) f ∧ TakenW (netN g) (netA g p (joinL ks)) f g' W ∧ (W.length : Int) = maxF (netN g) (netA g p (joinL ks)) ∧ ∀ w ∈ W,w.length ≤ 130
def befL (o acc : List Int) (i : Nat) : List Int:=(o.take i).filter fun k=>decide (k ∈ acc)
theorem befL_succ {o acc : List Int} {i : Nat} (h : i < o.length) : befL o acc (i + 1) = befL o acc i ++ if o[i] ∈ acc then [o[i]] else []:=by
 unfold befL
 rw [List.take_succ_eq_append_getElem h,List.filter_append]
 simp only [List.filter_cons,List.filter_nil,decide_eq_true_eq]
structure ForR (g : Gr) (p : Pol) (o : List Int) (key : Int) (x : Expl) : Prop where
 key_ : x.key = key
 bef : ∃ i,∃ h : i < o.length,o[i] = key ∧ x.before = befL o (accR g p o) i
 yes : key ∈ accR g p o → x.acc = true ∧ x.side = [] ∧ ∃ W,PathsW g p (x.before ++ [key]) W ∧ x.paths = W.map (keysA (netA g p (joinL (x.before ++ [key]))))
 no : key ∉ accR g p o → x.acc = false ∧ x.paths = [] ∧ ∃ R,RefOk g p o R ∧ (key,x.side) ∈ R
variable {g : Gr} {p : Pol}
theorem accR_app : ∀ (b a : List Int),∃ l,accR g p (a ++ b) = accR g p a ++ l ∧ ∀ x ∈ l,x ∈ b
 | [],a=>⟨[],by simp,by simp⟩
 | x :: b,a=>by
   obtain ⟨l,hl,hm⟩:=accR_app b (a ++ [x])
   have e : a ++ x :: b = a ++ [x] ++ b:=by simp
   rw [e,hl]
   rcases accR_step (g:=g) (p:=p) a x with h | h
   ·exact ⟨l,by rw [h],fun y hy=>List.mem_cons_of_mem _ (hm y hy)⟩
   ·refine ⟨[x] ++ l,by rw [h,List.append_assoc],fun y hy=>?_⟩
    rcases List.mem_append.1 hy with h | h
    ·rw [List.mem_singleton.1 h]; exact List.mem_cons_self
    ·exact List.mem_cons_of_mem _ (hm y h)
theorem accR_iff {o : List Int} (hn : o.Nodup) {i : Nat} (h : i < o.length) : o[i] ∈ accR g p o ↔ CanServe g p (joinL (accR g p (o.take i) ++ [o[i]])):=by
 have hs : o.take (i + 1) = o.take i ++ [o[i]]:=List.take_succ_eq_append_getElem h
 obtain ⟨l,hl,hm⟩:=accR_app (g:=g) (p:=p) (o.drop (i + 1)) (o.take (i + 1))
 rw [List.take_append_drop] at hl
 have hni : o[i] ∉ o.take i:=fun hx=>by
  obtain ⟨j,hj,e⟩:=List.mem_take_iff_getElem.1 hx
  have:=(List.getElem_inj hn).1 e
  omega
 have hnd : o[i] ∉ o.drop (i + 1):=fun hx=>by
  obtain ⟨j,hj,e⟩:=List.mem_drop_iff_getElem.1 hx
  have:=(List.getElem_inj hn).1 e
  omega
 constructor
 ·intro hx
  by_cases hc : CanServe g p (joinL (accR g p (o.take i) ++ [o[i]]))
  ·exact hc
  ·rw [hl,hs,accR_no hc] at hx
   rcases List.mem_append.1 hx with h1 | h1
   ·exact absurd (accR_mem h1) hni
   ·exact absurd (hm _ h1) hnd
 ·intro hc
  rw [hl,hs,accR_yes hc]
  exact List.mem_append_left _ (List.mem_append_right _ (List.mem_singleton.2 rfl))
theorem befL_acc {o : List Int} (hn : o.Nodup) : ∀ i,i ≤ o.length → befL o (accR g p o) i = accR g p (o.take i)
 | 0,_=>by simp [befL,accR_nil]
 | i + 1,h=>by
   have hi : i < o.length:=h
   rw [befL_succ hi,befL_acc hn i (by omega),List.take_succ_eq_append_getElem hi]
   by_cases hc : CanServe g p (joinL (accR g p (o.take i) ++ [o[i]]))
   ·rw [if_pos ((accR_iff hn hi).2 hc),accR_yes hc]
   ·rw [if_neg (fun h=>hc ((accR_iff hn hi).1 h)),accR_no hc,List.append_nil]
theorem pairwise_nodup {l : List Int} (h : l.Pairwise (· < ·)) : l.Nodup:=h.imp fun h=>by omega
theorem join_perm {a : List Int} (hn : a.Nodup) (hr : ∀ k ∈ a,0 ≤ k ∧ k < 64) : a.Perm (joinL a):=by
 rw [← srt_join hn hr]
 exact (srt_perm a).symm
theorem join_len {a : List Int} (hn : a.Nodup) (hr : ∀ k ∈ a,0 ≤ k ∧ k < 64) : (joinL a).length = a.length:=(join_perm hn hr).length_eq.symm
structure AtO (g : Gr) (p : Pol) (key : Int) (before : List Int) : Prop where
 mem : key ∈ ordL (levelG g p.lv) p.seeds
 bef : BeforeP (ordL (levelG g p.lv) p.seeds) before key
 nodup : (before ++ [key]).Nodup
 range : ∀ k ∈ before ++ [key],0 ≤ k ∧ k < g.size
 serve : key ∈ accR g p (ordL (levelG g p.lv) p.seeds) ↔ CanServe g p (joinL (before ++ [key]))
theorem aheadO_take {o : List Int} (hn : o.Nodup) {i : Nat} (h : i < o.length) : aheadO o o[i] = o.take i:=by
 unfold aheadO
 rw [List.takeWhile_eq_take_findIdx_not]
 congr 1
 rw [List.findIdx_eq h]
 refine ⟨by simp,fun j hj=>?_⟩
 have : o[j] ≠ o[i]:=fun e=>by have:=(List.getElem_inj hn).1 e; omega
 simp [this]
theorem ForR.at_ {key : Int} {x : Expl} (h : ForR g p (ordL (levelG g p.lv) p.seeds) key x) (hg : GrOk g) : x.key = key ∧ AtO g p key x.before ∧ ∃ i,∃ hi : i < (ordL (levelG g p.lv) p.seeds).length,(ordL (levelG g p.lv) p.seeds)[i] = key ∧ x.before = accR g p ((ordL (levelG g p.lv) p.seeds).take i):=by
 have hn:=ordL_nodup (levelG g p.lv) p.seeds
 have hr : ∀ k ∈ ordL (levelG g p.lv) p.seeds,0 ≤ k ∧ k < g.size:=fun k hk=>by have h:=ordL_range hk; exact h
 obtain ⟨o,ho⟩ : ∃ o,o = ordL (levelG g p.lv) p.seeds:=⟨_,rfl⟩
 rw [← ho] at h hn hr ⊢
 obtain ⟨i,hi,hk,hb⟩:=h.bef
 rw [befL_acc hn i (by omega)] at hb
 refine ⟨h.key_,?_,i,hi,hk,hb⟩
 have hsub : x.before.Sublist (aheadO o key):=by
  rw [hb,← hk,aheadO_take hn hi]
  exact accR_sub _ _ rfl
 refine ⟨by rw [← ho,← hk]; exact List.getElem_mem hi,by rw [← ho]; exact hsub,BeforeP.nodup (order:=o) hsub hn,fun k hkm=>?_,?_⟩
 ·rcases List.mem_append.1 hkm with h1 | h1
  ·refine hr k ?_
   rw [hb] at h1
   exact List.mem_of_mem_take (accR_mem h1)
  ·rw [List.mem_singleton.1 h1,← hk]; exact hr _ (List.getElem_mem hi)
 ·rw [← ho,hb,← hk]
  exact accR_iff hn hi
theorem AtO.joined {key : Int} {before : List Int} (h : AtO g p key before) (hg : GrOk g) : (joinL (before ++ [key])).Nodup ∧ (before ++ [key]).Perm (joinL (before ++ [key])) ∧ (∀ x ∈ joinL (before ++ [key]),0 ≤ x ∧ x < g.size):=by
 have h64:=hg.1.2.1
 have hr : ∀ k ∈ before ++ [key],0 ≤ k ∧ k < 64:=fun k hk=>⟨(h.range k hk).1,by have:=(h.range k hk).2; omega⟩
 exact ⟨pairwise_nodup (joinL_lt _),join_perm h.nodup hr,fun x hx=>h.range x (mem_joinL.1 hx).1⟩
theorem paths_serve {key : Int} {before : List Int} {W : List (List Nat)} (hg : GrOk g) (hp : PolOk g.size p) (ha : AtO g p key before) (hc : CanServe g p (joinL (before ++ [key]))) (hW : PathsW g p (before ++ [key]) W) :
  ServesR g p.lv p.seeds (ordL (levelG g p.lv) p.seeds) (capsL g p) (W.map (keysA (netA g p (joinL (before ++ [key]))))) (before ++ [key]):=by
 obtain ⟨f,g',hgf,ht,hl,_⟩:=hW
 obtain ⟨j1,j2,j3⟩:=ha.joined hg
 refine ways_checked hg hp j1 (fun x hx=>(j3 x hx).1) j2 hgf.ok.fit ht.ways (fun i _=>?_) ?_
 ·have h1:=ht.used i
  have h2:=ht.bal.nonneg i
  omega
 ·have : maxF (netN g) (netA g p (joinL (before ++ [key]))) = (joinL (before ++ [key])).length:=hc
  omega
theorem ForR.yes_serves {key : Int} {x : Expl} (h : ForR g p (ordL (levelG g p.lv) p.seeds) key x) (hg : GrOk g) (hp : PolOk g.size p) (hk : key ∈ accR g p (ordL (levelG g p.lv) p.seeds)) :
  ServesR g p.lv p.seeds (ordL (levelG g p.lv) p.seeds) (capsL g p) x.paths (x.before ++ [key]):=by
 obtain ⟨_,ha,_⟩:=h.at_ hg
 obtain ⟨_,_,W,hW,hpa⟩:=h.yes hk
 rw [hpa]
 exact paths_serve hg hp ha (ha.serve.1 hk) hW
theorem ForR.no_proves {key : Int} {x : Expl} (h : ForR g p (ordL (levelG g p.lv) p.seeds) key x) (hg : GrOk g) (hp : PolOk g.size p) (hk : key ∉ accR g p (ordL (levelG g p.lv) p.seeds)) :
  ProvesP ⟨2 + 2 * g.size,netArcs g p (capsL g p) (joinL (x.before ++ [key]))⟩ x.side x.before.length:=by
 obtain ⟨_,ha,i,hi,hik,hib⟩:=h.at_ hg
 obtain ⟨_,_,R,hR,hs⟩:=h.no hk
 obtain ⟨i',hi',hik',hn⟩:=hR.right _ hs
 simp only at hik' hn
 have hii : i' = i:=(List.getElem_inj (ordL_nodup (levelG g p.lv) p.seeds)).1 (hik'.trans hik.symm)
 subst hii
 rw [← hib] at hn
 obtain ⟨j1,j2,j3⟩:=ha.joined hg
 have hfew:=maxF_few hg hp j3
 have hno : maxF (netN g) (netA g p (joinL (x.before ++ [key]))) ≠ (joinL (x.before ++ [key])).length:=hn.no
 have hlen:=j2.length_eq
 rw [List.length_append,List.length_singleton] at hlen
 have hcut:=hn.cut
 have hok:=hn.ok
 rw [netN_int hg] at hok
 exact ⟨hok,by rw [hcut]; omega⟩
theorem ForR.checked {key : Int} {x : Expl} (h : ForR g p (ordL (levelG g p.lv) p.seeds) key x) (hg : GrOk g) (hp : PolOk g.size p) : checkC g p x = 0:=by
 rw [check_same hg.1.2.1]
 obtain ⟨hk,ha,_⟩:=h.at_ hg
 unfold checkR
 simp only
 rw [hk,if_neg (by simpa using ha.mem)]
 by_cases hacc : key ∈ accR g p (ordL (levelG g p.lv) p.seeds)
 ·obtain ⟨h1,h2,_⟩:=h.yes hacc
  rw [if_neg (by rw [h1,h2]; simpa using ha.bef),if_pos h1,if_pos (h.yes_serves hg hp hacc)]
 ·obtain ⟨h1,h2,_⟩:=h.no hacc
  rw [if_neg (by rw [h1,h2]; simpa using ha.bef),if_neg (by rw [h1]; simp),if_pos (h.no_proves hg hp hacc)]
theorem lists_Sorted_ok (l : List Int) (hl : l.length ≤ 1099511627776) : ACalls Tryz.prog nlists_Sorted [ints l] [] (.rs 0 0 l.length) [some ⟨1,rowsI (srt l),0⟩]:=by
 refine slists_Sorted.acalls (Nat.le_of_ble_eq_true rfl) (Nat.le_of_ble_eq_true rfl) (Nat.zero_le _) ?_
 show awp _ 0 _ _ ⟨6,[(0,ints l)],[],16⟩
 have hs : ACalls Tryz.prog nslices_Sorted_int [seqF l] [] (.rs 0 0 l.length) [some ⟨1,rowsI (srt l),0⟩]:=Sorted_ok l hl
 refine rx (s:=?s1) [0] [] [] rfl ?o1 ?q1
 case o1=>simp; rfl
 refine awp_regc ⟨6,[(2,.rs 50 0 l.length)],[(50,some ⟨1,rowsI (srt l),0⟩)],100⟩ rfl ?_ ?_
 ·simp
  refine call0e (Values_ok l) (by simp) ?_
  simp
  refine callN1 hs (by simp [conv]) ?_
  simp
  exact Le.go [(40,50)] [] rfl rfl (by simp) (by simp [fcd])
 refine awp_ret ?_
 exact ⟨.inr rfl,RetOk.out [50] [] rfl (by simp) (by simp) (by simp) (by simp [fcd])⟩
theorem accept_order_ok (g : Gr) (p : Pol) (hg : GrOk g) (hN : g.size < 20) (hs : p.seeds.length ≤ 1099511627776) : ACalls Tryz.prog naccept_order [eG g,eP p] [] (.rs 0 0 (ordL (levelG g p.lv) p.seeds).length) [some ⟨1,rowsI (ordL (levelG g p.lv) p.seeds),0⟩]:=by
 refine saccept_order.acalls (Nat.le_of_ble_eq_true rfl) (Nat.le_of_ble_eq_true rfl) (Nat.zero_le _) ?_
 show awp _ 0 _ _ ⟨12,[(0,eG g),(1,eP p)],[],16⟩
 have hel:=hg.edges_le
 have hgl:=hg.gone_le
 have hsz:=hg.1.2.1
 have hlev:=graph_Level_ok g p.lv (by omega) (by omega)
 have hord:=distance_Order_ok (g:=levelG g p.lv) (S:=p.seeds) (hg.level p.lv) hN hs
 obtain ⟨o,ho⟩ : ∃ o,o = ordL (levelG g p.lv) p.seeds:=⟨_,rfl⟩
 rw [← ho] at hord ⊢
 refine rx (s:=?s1) [2,3] [] [16,24] rfl ?o1 ?q1
 case o1=>simp; rfl
 refine awp_dregc ⟨12,[(4,.rs 50 0 o.length)],[(50,some ⟨1,rowsI o,0⟩)],200⟩ rfl ?_ ?_
 ·simp
  refine call0e hlev (by simp) ?_
  simp
  refine callN1 hord (by simp) ?_
  simp
  exact ⟨rfl,Le.go [(88,50)] [] rfl rfl (by simp) (by simp [fcd])⟩
 refine awp_ret ?_
 exact ⟨.inr rfl,RetOk.out [50] [] rfl (by simp) (by simp) (by simp) (by simp [fcd])⟩
theorem accept_with_ok (l : List Int) (x : Int) (hl : l.length ≤ 1000000) : ACalls Tryz.prog naccept_with [ints l,.I x] [] (.rs 0 0 (l.length + 1)) [some ⟨1,rowsI (l ++ [x]),0⟩]:=by
 refine saccept_with.acalls (Nat.le_of_ble_eq_true rfl) (Nat.le_of_ble_eq_true rfl) (Nat.zero_le _) ?_
 show awp _ 0 _ _ ⟨14,[(0,ints l),(1,.I x)],[],16⟩
 refine rx (s:=?s1) [0,1] [] [] rfl ?o1 ?q1
 case o1=>simp; rfl
 refine awp_regc ⟨14,[(4,.rs 50 0 (l.length + 1))],[(50,some ⟨1,rowsI (l ++ [x]),0⟩)],200⟩ rfl ?_ ?_
 ·have hsl : ∀ {id : Nat} {h : Nat → Option Ent} {K : AV → List Nat → List (Nat × Option Ent) → Prop},K (.vs 1 true (l.map fun n=>[AV.I n])) [] [] → aK Tryz.prog 0 id (.slc 1 false true true) [ints l,.I (l.length : Nat),.I (l.length : Nat)] h K:=fun hK=>by
   rw [k_slc]
   refine ⟨0,l.length,l.length,l.length,by simp,Nat.zero_le _,rfl,by simp,by simp,by simp,Nat.le_refl _,fun _=>rfl,rfl,?_⟩
   rw [List.drop_zero,Nat.sub_zero,List.take_of_length_le (by simp)]
   exact hK
  simp
  refine hsl ?_
  simp
  exact ⟨by omega,by omega,Le.go [(88,50)] [] rfl rfl (by simp) (by simp [fcd])⟩
 refine awp_ret ?_
 exact ⟨.inr rfl,RetOk.out [50] [] rfl (by simp) (by simp) (by simp) (by simp [fcd])⟩
theorem accept_network_ok (g : Gr) (p : Pol) (ks : List Int) (hg : GrOk g) (hp : PolOk g.size p) (hk : ks.Nodup) (hr : ∀ k ∈ ks,0 ≤ k ∧ k < g.size) (hs : p.seeds.length ≤ 64) : ACalls Tryz.prog naccept_network [eG g,eP p,ints ks] [] (eN ⟨netN g,netA g p (joinL ks)⟩) []:=by
 refine saccept_network.acalls (Nat.le_of_ble_eq_true rfl) (Nat.le_of_ble_eq_true rfl) (Nat.zero_le _) ?_
 show awp _ 0 _ _ ⟨18,[(0,eG g),(1,eP p),(2,ints ks)],[],16⟩
 have hsz:=hg.1.2.1
 have hr64 : ∀ k ∈ ks,0 ≤ k ∧ k < 64:=fun k h=>by have:=hr k h; omega
 have hlen:=join_len hk hr64
 have hJl:=joinL_len ks
 have hsort:=lists_Sorted_ok ks (by omega)
 rw [srt_join hk hr64,← hlen] at hsort
 have hnet:=split_Network_ok g p (joinL ks) hg hp (rise_join hr) hs hJl
 rw [← netN_int hg,show netArcs g p (capsL g p) (joinL ks) = netA g p (joinL ks) from rfl] at hnet
 obtain ⟨J,hJ⟩ : ∃ J,J = joinL ks:=⟨_,rfl⟩
 obtain ⟨A,hA⟩ : ∃ A,A = netA g p (joinL ks):=⟨_,rfl⟩
 rw [← hA] at hnet ⊢
 rw [← hJ] at hnet hsort
 refine rx (s:=?s1) [2,3,4,6] [32] [16,24] rfl ?o1 ?q1
 case o1=>simp; rfl
 refine awp_dregc ⟨18,[(6,.pt 32 0 0),(7,.pv (nC ⟨netN g,A⟩))],[(32,some ⟨2,[[.I 0,.nilS]],0⟩)],300⟩ rfl ?_ ?_
 ·simp
  refine callN1 hsort (by simp) ?_
  simp
  refine call0k [64] (by simp) hnet (by simp [fcd,take_map_len]) ?_
  simp
  exact ⟨rfl,Le.go [(32,32)] [104] rfl rfl (by simp) (by simp)⟩
 refine awp_regc ⟨18,[(6,.pt 32 0 0)],[(32,some ⟨2,[nC ⟨netN g,A⟩],0⟩)],400⟩ rfl ?_ ?_
 ·simp [splice]
  exact Le.go [(32,32)] [] rfl rfl (by simp) (by simp)
 refine awp_ret ?_
 exact ⟨.inr rfl,RetOk.out [] [32] rfl (by simp) (by simp) (by simp) (by simp)⟩
def GreatW (N : Nat) (A : List Ed) (f : List Int) : Prop:=FlowOk N A f ∧ ∀ f',FlowOk N A f' → valF A f' ≤ valF A f
theorem accept_serve_a (N : Nat) (A : List Ed) (k : Int) (hn : NetVal ⟨N,A⟩) :
  ∃ f : List Int,GreatW N A f ∧ ACalls Tryz.prog naccept_serve [eN ⟨N,A⟩,.I k] [] (.tup [.rs 0 0 A.length,.B (decide (valF A f = k))]) [some ⟨1,rowsI f,0⟩]:=by
 obtain ⟨f,hf,hmax⟩:=flow_Max_a N A hn
 refine ⟨f,hf,?_⟩
 have hfl:=hf.1.fit.len
 have hal:=hn.2.2.1
 simp only at hal
 have hval:=flow_Value_ok (f:=f) hn (by omega)
 rw [if_pos hf.1] at hval
 have htake : ∀ g : Int → List AV,List.take A.length (List.map g f) = List.map g f:=fun g=>List.take_of_length_le (by simp; omega)
 refine saccept_serve.acalls (Nat.le_of_ble_eq_true rfl) (Nat.le_of_ble_eq_true rfl) (Nat.zero_le _) ?_
 show awp _ 0 _ _ ⟨19,[(0,eN ⟨N,A⟩),(1,.I k)],[],16⟩
 refine rx (s:=?s1) [1,2] [] [16] rfl ?o1 ?q1
 case o1=>simp; rfl
 refine awp_regc ⟨19,[(1,.I k),(2,.pv (nC ⟨N,A⟩)),(6,.rs 50 0 A.length)],[(50,some ⟨1,rowsI f,0⟩)],100⟩ rfl ?_ ?_
 ·simp
  refine callN1 hmax (by simp) ?_
  simp
  exact Le.go [(48,50)] [] rfl rfl (by simp) (by simp [fcd])
 refine awp_regc ⟨19,[(4,.rs 50 0 A.length),(5,.B (decide (valF A f = k)))],[(50,some ⟨1,rowsI f,0⟩)],200⟩ rfl ?_ ?_
 ·simp
  refine call0s [50] hval (by simp [fcd,htake,hfl]) (.sc _) ?_
  simp
  exact Le.go [(50,50)] [] rfl rfl (by simp <;> exact wkB (by rw [Bool.eq_iff_iff]; simp)) (by simp [fcd])
 refine awp_ret ?_
 exact ⟨.inr rfl,RetOk.out [50] [] rfl (by simp) (by simp) (by simp) (by simp [fcd])⟩
theorem refR_len (g : Gr) (p : Pol) : ∀ (n : Nat) (o : List Int),o.length = n → (refR g p o).length ≤ n
 | 0,o,h=>by
   obtain rfl:=List.eq_nil_of_length_eq_zero h
   exact Nat.le_refl _
 | n + 1,o,h=>by
   have hne : o ≠ []:=fun e=>by rw [e] at h; cases h
   rw [← List.dropLast_concat_getLast hne]
   have ih:=refR_len g p n o.dropLast (by rw [List.length_dropLast,h]; rfl)
   by_cases hc : CanServe g p (joinL (accR g p o.dropLast ++ [o.getLast hne]))
   ·rw [refR_yes hc]; omega
   ·rw [refR_no hc,List.length_append,List.length_singleton]; omega
theorem nearL_len (N : Nat) (A : List Ed) : (nearL N A).length ≤ N:=by
 unfold nearL
 exact Nat.le_trans (List.length_filter_le ..) (by simp)
set_option maxRecDepth 100000 in
set_option maxHeartbeats 8000000 in
theorem accept_Run_a (g : Gr) (p : Pol) (hg : GrOk g) (hp : PolOk g.size p) (hs : p.seeds.length ≤ 64) (hN : g.size < 20) :
  ∃ f : List Int,GreatF g p (joinL (accR g p (ordL (levelG g p.lv) p.seeds))) f ∧
    ACalls Tryz.prog naccept_Run [eG g,eP p] [] (.tup [eAcc (accR g p (ordL (levelG g p.lv) p.seeds)) f (refR g p (ordL (levelG g p.lv) p.seeds)),.I 0]) []:=by
 have hsz:=hg.1.1
 have hsz2:=hg.1.2.1
 have hel:=hg.edges_le
 have hgl:=hg.gone_le
 have hchk:=capacity_Check_ok g p (by omega) (by omega) (by omega) (by have:=hp.2.2.2.1; omega)
 rw [if_pos hg,if_pos hp] at hchk
 have hord:=accept_order_ok g p hg hN (by omega)
 obtain ⟨o,ho⟩ : ∃ o,o = ordL (levelG g p.lv) p.seeds:=⟨_,rfl⟩
 have hor : ∀ k ∈ o,0 ≤ k ∧ k < g.size:=fun k hk=>by rw [ho] at hk; have h:=ordL_range hk; exact h
 have hon : o.Nodup:=by rw [ho]; exact ordL_nodup _ _
 rw [← ho] at hord ⊢
 have hol : o.length ≤ 64:=by
  have:=nodup_sub_len (b:=(List.range g.size.toNat).map fun i : Nat=>(i : Int)) hon fun x hx=>by
   have:=hor x hx
   exact List.mem_map.2 ⟨x.toNat,List.mem_range.2 (by omega),by omega⟩
  simp at this
  omega
 have h64 : ∀ a : List Int,(∀ x ∈ a,0 ≤ x ∧ x < g.size) → ∀ x ∈ a,0 ≤ x ∧ x < 64:=fun a h x hx=>by have:=h x hx; omega
 have hnv : ∀ a : List Int,(∀ x ∈ a,0 ≤ x ∧ x < g.size) → NetVal ⟨netN g,netA g p (joinL a)⟩:=fun a h=>netA_val hg hp (rise_in (rise_join h)) hs (joinL_len a)
 have hserve : ∀ a : List Int,a.Nodup → (∀ x ∈ a,0 ≤ x ∧ x < g.size) → ∃ f,GreatF g p (joinL a) f ∧ ACalls Tryz.prog naccept_serve [eN ⟨netN g,netA g p (joinL a)⟩,.I (a.length : Nat)] [] (.tup [.rs 0 0 (netA g p (joinL a)).length,.B (@decide (CanServe g p (joinL a)) (Classical.propDecidable _))]) [some ⟨1,rowsI f,0⟩]:=fun a h1 h2=>by
  obtain ⟨f,hf,hc⟩:=accept_serve_a _ _ (a.length : Nat) (hnv a h2)
  have hmf:=maxF_of hf.1 hf.2
  refine ⟨f,⟨hf.1,hf.2,hmf.symm⟩,?_⟩
  have hjl:=join_len h1 (h64 a h2)
  have : decide (valF (netA g p (joinL a)) f = (a.length : Nat)) = @decide (CanServe g p (joinL a)) (Classical.propDecidable _):=by
   rw [decide_eq_decide]
   unfold CanServe
   rw [hmf,hjl]
  rw [this] at hc
  exact hc
 have haccn : ∀ i,(accR g p (o.take i)).Nodup:=fun i=>(hon.sublist ((accR_sub _ _ rfl).trans (List.take_sublist _ _)))
 have haccr : ∀ i,∀ x ∈ accR g p (o.take i),0 ≤ x ∧ x < g.size:=fun i x hx=>hor x (List.mem_of_mem_take (accR_mem hx))
 obtain ⟨f,hf,hlast⟩:=hserve (accR g p o) (by have:=haccn o.length; rwa [List.take_length] at this) (by have:=haccr o.length; rwa [List.take_length] at this)
 refine ⟨f,hf,?_⟩
 have hnl:=accept_network_ok g p (accR g p o) hg hp (by have:=haccn o.length; rwa [List.take_length] at this) (by have:=haccr o.length; rwa [List.take_length] at this) hs
 have hlf:=hf.ok.fit.len
 refine saccept_Run.acalls (Nat.le_of_ble_eq_true rfl) (Nat.le_of_ble_eq_true rfl) (Nat.zero_le _) ?_
 show awp _ 0 _ _ ⟨72,[(0,eG g),(1,eP p)],[],16⟩
 refine rx (s:=?s1) [2,3,4] [32] [16,24] rfl ?o1 ?q1
 case o1=>simp; rfl
 refine awp_seq ?_
 refine rx (s:=?s2) [2,3,4,6] [32] [] rfl ?o2 ?q2
 case o2=>simp; refine call0e hchk (by simp) ?_; simp; rfl
 refine rx (s:=?s3) [2,3,4,18] [32] [] rfl ?o3 ?q3
 case o3=>simp; rfl
 refine awp_cond _ rfl (fun h=>by cases h) fun _=>?_
 refine awp_skip ?_
 refine awp_regc ⟨72,[(2,.pv (gC g)),(3,.pv (pC p)),(4,.pt 32 0 0),(7,.pt 40 0 0)],[(32,some ⟨3,[[.nilS,.nilS,.nilS]],0⟩),(40,some ⟨3,[[.nilS,.nilS,.nilS]],0⟩)],200⟩ rfl ?_ ?_
 ·simp
  exact Le.go [(32,32),(96,40)] [] rfl rfl (by simp) (by simp)
 refine awp_seq ?_
 refine awp_regc ⟨72,[(2,.pv (gC g)),(3,.pv (pC p)),(4,.pt 32 0 0),(7,.pt 40 0 0),(23,ints o),(24,.I o.length),(25,.I 0)],[(32,some ⟨3,[[.nilS,.nilS,.nilS]],0⟩),(40,some ⟨3,[[.nilS,.nilS,.nilS]],0⟩)],400⟩ rfl ?_ ?_
 ·simp
  refine callN1 hord (by simp) ?_
  simp
  exact Le.go [(32,32),(40,40)] [216] rfl rfl (by simp [fcd,take_map_len]) (by simp)
 refine awp_block ?_
 have hR0 : refR g p [] = []:=rfl
 refine awp_loop (ι:=Nat) (fun i=>⟨72,[(2,.pv (gC g)),(3,.pv (pC p)),(4,.pt 32 0 0),(7,.pt 40 0 0),(23,ints o),(24,.I o.length),(25,.I i)],
   [(32,some ⟨3,[[.nilS,.nilS,.nilS]],0⟩),(40,some ⟨3,[[ints (accR g p (o.take i)),.nilS,.rs 42 0 (refR g p (o.take i)).length]],0⟩),(42,some ⟨2,rowsR (refR g p (o.take i)),0⟩)],500⟩)
  (fun i=>i ≤ o.length) (fun i=>o.length - i) 0 (Nat.zero_le _)
  (Le.lst [(32,32),(40,40)] [] [(42,2)] rfl (by simp) (by simp) (by simp) (by simp) (by simp) (by simp) (by simp) (by simp [Up]) (by simp [accR_nil,hR0,fcd]; exact ⟨EntUp.rfl' (by simp),EntUp.row rfl (by omega) (by simp [UpL,Up,Wk.refl]; exact Wk.nil _ _)⟩)) ?_
 intro i hi
 have haN:=haccn i
 have haR:=haccr i
 have hal : (accR g p (o.take i)).length ≤ 64:=Nat.le_trans (accR_len _) (Nat.le_trans (List.length_take_le' i o) hol)
 have hRl:=refR_len g p _ (o.take i) rfl
 have hRl2:=List.length_take_le' i o
 have hyes:=fun k=>accR_yes (g:=g) (p:=p) (o:=o.take i) (k:=k)
 have hno:=fun k=>accR_no (g:=g) (p:=p) (o:=o.take i) (k:=k)
 have hryes:=fun k=>refR_yes (g:=g) (p:=p) (o:=o.take i) (k:=k)
 have hrno:=fun k=>refR_no (g:=g) (p:=p) (o:=o.take i) (k:=k)
 have hmem : ∀ x ∈ accR g p (o.take i),x ∈ o.take i:=fun x hx=>accR_mem hx
 obtain ⟨acc,hacc⟩ : ∃ acc,acc = accR g p (o.take i):=⟨_,rfl⟩
 obtain ⟨R,hR⟩ : ∃ R,R = refR g p (o.take i):=⟨_,rfl⟩
 rw [← hacc] at haN haR hal hmem hyes hno hryes hrno
 rw [← hR] at hRl hryes hrno
 rw [← hacc,← hR]
 refine awp_regc ⟨72,[(2,.pv (gC g)),(3,.pv (pC p)),(4,.pt 32 0 0),(7,.pt 40 0 0),(23,ints o),(24,.I o.length),(25,.I i),(26,.B (decide (i < o.length)))],
   [(32,some ⟨3,[[.nilS,.nilS,.nilS]],0⟩),(40,some ⟨3,[[ints acc,.nilS,.rs 42 0 R.length]],0⟩),(42,some ⟨2,rowsR R,0⟩)],600⟩ rfl ?_ ?_
 ·simp
  exact Le.go [(32,32),(40,40),(42,42)] [] rfl rfl (by simp) (by simp [fcd])
 refine awp_seq ?_
 refine awp_cond _ rfl (fun h11=>?_) fun h11=>?_
 ·simp at h11
  have hw1 : IntKind.i64.wrap ((i : Int) + 1) = (i : Int) + 1:=w64 (by omega) (by omega)
  obtain ⟨k,hk⟩ : ∃ k,k = o[i]:=⟨_,rfl⟩
  have hkr:=hor _ (List.getElem_mem h11)
  rw [← hk] at hkr
  have hts : o.take (i + 1) = o.take i ++ [k]:=by rw [List.take_succ_eq_append_getElem h11,hk]
  have hkacc : k ∉ acc:=fun h=>by
   have h2:=hmem k h
   obtain ⟨j,hj,hjk⟩:=List.mem_iff_getElem.1 h2
   rw [List.getElem_take] at hjk
   rw [List.length_take] at hj
   have:=(List.pairwise_iff_getElem.1 hon) j i (by omega) h11 (by omega)
   exact this (hjk.trans hk)
  have hks : ∀ x ∈ acc ++ [k],0 ≤ x ∧ x < g.size:=fun x hx=>by
   rcases List.mem_append.1 hx with h | h
   ·exact haR x h
   ·rw [List.mem_singleton] at h; subst h; exact hkr
  have hkn : (acc ++ [k]).Nodup:=List.nodup_append.2 ⟨haN,by simp,fun a ha b hb=>by
   rw [List.mem_singleton] at hb
   subst hb
   rintro rfl
   exact hkacc ha⟩
  have hwith:=accept_with_ok acc k (by omega)
  have hnet:=accept_network_ok g p (acc ++ [k]) hg hp hkn hks hs
  obtain ⟨fl,hfl,hsv⟩:=hserve (acc ++ [k]) hkn hks
  have hreach:=flow_Reached_ok _ _ fl (hnv _ hks) hfl.ok hfl.most
  have hflen:=hfl.ok.fit.len
  have hnl2:=nearL_len (netN g) (netA g p (joinL (acc ++ [k])))
  have hyes:=hyes k
  have hno:=hno k
  have hryes:=hryes k
  have hrno:=hrno k
  rw [← hts] at hyes hno hryes hrno
  obtain ⟨A,hA⟩ : ∃ A,A = netA g p (joinL (acc ++ [k])):=⟨_,rfl⟩
  obtain ⟨side,hside⟩ : ∃ side,side = nearL (netN g) A:=⟨_,rfl⟩
  rw [← hA] at hnet hsv hreach hflen hrno
  rw [← hside] at hreach hrno
  have htf : ∀ h : Int → List AV,List.take A.length (List.map h fl) = List.map h fl:=fun h=>List.take_of_length_le (by simp; omega)
  obtain ⟨W,hW⟩ : ∃ W,W = acc ++ [k]:=⟨_,rfl⟩
  have hWl : W.length = acc.length + 1:=by rw [hW]; simp
  rw [← hW] at hwith hnet hsv hyes hno hryes hrno
  rw [← hWl] at hwith
  refine awp_skip ?_
  refine awp_cut (ι:=Unit) (fun _=>⟨72,[(2,.pv (gC g)),(3,.pv (pC p)),(4,.pt 32 0 0),(7,.pt 40 0 0),(23,ints o),(24,.I o.length),(25,.I i)],
   [(32,some ⟨3,[[.nilS,.nilS,.nilS]],0⟩),(40,some ⟨3,[[ints (accR g p (o.take (i + 1))),.nilS,.rs 42 0 (refR g p (o.take (i + 1))).length]],0⟩),(42,some ⟨2,rowsR (refR g p (o.take (i + 1))),0⟩)],3000⟩) (fun _=>True) ?_ fun _ _=>?_
  ·refine awp_block ?_
   refine awp_regc ⟨72,[(2,.pv (gC g)),(3,.pv (pC p)),(4,.pt 32 0 0),(7,.pt 40 0 0),(9,.I k),(23,ints o),(24,.I o.length),(25,.I i)],
    [(32,some ⟨3,[[.nilS,.nilS,.nilS]],0⟩),(40,some ⟨3,[[ints acc,.nilS,.rs 42 0 R.length]],0⟩),(42,some ⟨2,rowsR R,0⟩)],700⟩ rfl ?_ ?_
   ·simp [h11,← hk]
    exact Le.go [(32,32),(40,40),(42,42)] [] rfl rfl (by simp) (by simp [fcd])
   refine awp_regc ⟨72,[(2,.pv (gC g)),(3,.pv (pC p)),(4,.pt 32 0 0),(7,.pt 40 0 0),(9,.I k),(10,ints W),(23,ints o),(24,.I o.length),(25,.I i)],
    [(32,some ⟨3,[[.nilS,.nilS,.nilS]],0⟩),(40,some ⟨3,[[ints acc,.nilS,.rs 42 0 R.length]],0⟩),(42,some ⟨2,rowsR R,0⟩)],800⟩ rfl ?_ ?_
   ·simp
    refine callN1 hwith (by simp) ?_
    simp
    exact Le.go [(32,32),(40,40),(42,42)] [724] rfl rfl (by simp [fcd,take_map_len]) (by simp [fcd])
   refine awp_regc ⟨72,[(2,.pv (gC g)),(3,.pv (pC p)),(4,.pt 32 0 0),(7,.pt 40 0 0),(9,.I k),(10,ints W),(11,.pv (nC ⟨netN g,A⟩)),(23,ints o),(24,.I o.length),(25,.I i)],
    [(32,some ⟨3,[[.nilS,.nilS,.nilS]],0⟩),(40,some ⟨3,[[ints acc,.nilS,.rs 42 0 R.length]],0⟩),(42,some ⟨2,rowsR R,0⟩)],900⟩ rfl ?_ ?_
   ·simp
    refine call0e hnet (by simp) ?_
    simp
    exact Le.go [(32,32),(40,40),(42,42)] [832] rfl rfl (by simp) (by simp [fcd])
   refine awp_regc ⟨72,[(2,.pv (gC g)),(3,.pv (pC p)),(4,.pt 32 0 0),(7,.pt 40 0 0),(9,.I k),(10,ints W),(11,.pv (nC ⟨netN g,A⟩)),(12,.rs 43 0 A.length),(13,.B (@decide (CanServe g p (joinL W)) (Classical.propDecidable _))),(23,ints o),(24,.I o.length),(25,.I i)],
    [(32,some ⟨3,[[.nilS,.nilS,.nilS]],0⟩),(40,some ⟨3,[[ints acc,.nilS,.rs 42 0 R.length]],0⟩),(42,some ⟨2,rowsR R,0⟩),(43,some ⟨1,rowsI fl,0⟩)],1000⟩ rfl ?_ ?_
   ·simp
    refine callN1 hsv (by simp) ?_
    simp
    exact Le.go [(32,32),(40,40),(42,42),(924,43)] [] rfl rfl (by simp) (by simp [fcd])
   refine awp_seq ?_
   refine awp_regc ⟨72,[(2,.pv (gC g)),(3,.pv (pC p)),(4,.pt 32 0 0),(7,.pt 40 0 0),(9,.I k),(10,ints W),(11,.pv (nC ⟨netN g,A⟩)),(12,.rs 43 0 A.length),(44,.B (@decide (CanServe g p (joinL W)) (Classical.propDecidable _))),(23,ints o),(24,.I o.length),(25,.I i)],
    [(32,some ⟨3,[[.nilS,.nilS,.nilS]],0⟩),(40,some ⟨3,[[ints acc,.nilS,.rs 42 0 R.length]],0⟩),(42,some ⟨2,rowsR R,0⟩),(43,some ⟨1,rowsI fl,0⟩)],1100⟩ rfl ?_ ?_
   ·simp
    exact Le.go [(32,32),(40,40),(42,42),(43,43)] [] rfl rfl (by simp) (by simp [fcd])
   refine awp_cond _ rfl (fun h15=>?_) fun h15=>?_
   ·have h15' : CanServe g p (joinL W):=@of_decide_eq_true _ (Classical.propDecidable _) h15
    have hy:=hyes h15'
    have hry:=hryes h15'
    refine awp_regc ⟨72,[(2,.pv (gC g)),(3,.pv (pC p)),(4,.pt 32 0 0),(7,.pt 40 0 0),(23,ints o),(24,.I o.length),(25,.I i)],
     [(32,some ⟨3,[[.nilS,.nilS,.nilS]],0⟩),(40,some ⟨3,[[ints W,.nilS,.rs 42 0 R.length]],0⟩),(42,some ⟨2,rowsR R,0⟩)],1200⟩ rfl ?_ ?_
    ·simp [splice]
     exact Le.go [(32,32),(40,40),(42,42)] [] rfl rfl (by simp) (by simp [fcd])
    refine awp_exit ?_
    refine hit ?_
    exact ⟨(),trivial,Le.go [(32,32),(40,40),(42,42)] [] rfl rfl (by simp) (by simp [hy,hry,fcd])⟩
   ·have h15' : ¬ CanServe g p (joinL W):=@of_decide_eq_false _ (Classical.propDecidable _) h15
    have hn':=hno h15'
    have hrn:=hrno h15'
    have htR : ∀ h : Int × List Int → List AV,List.take R.length (List.map h R) = List.map h R:=fun h=>List.take_of_length_le (by simp)
    refine awp_skip ?_
    refine awp_drw rfl ?_
    simp
    refine callM1 (i:=43) rfl (by simp [fcd]) hreach (by simp) (by simp) ?_
    simp [htR,splice]
    exact ⟨by omega,by omega,rfl,Le.go [(32,32),(40,40),(1164,42)] [1140] rfl rfl (by simp) (by simp [hn',hrn,fcd,take_map_len])⟩
  refine awp_reg rfl ?_
  simp [hw1]
  exact ⟨i + 1,by omega,by omega,Le.go [(32,32),(40,40),(42,42)] [] rfl rfl (by simp [hw1]) (by simp [fcd])⟩
 simp at h11
 obtain rfl : i = o.length:=by omega
 rw [List.take_length] at hacc hR
 rw [← hacc] at hlast hnl hlf
 have hl1 : ((acc.length : Nat) : Int) = acc.length:=rfl
 obtain ⟨A,hA⟩ : ∃ A,A = netA g p (joinL acc):=⟨_,rfl⟩
 rw [← hA] at hnl hlast hlf
 have htf : ∀ h : Int → List AV,List.take A.length (List.map h f) = List.map h f:=fun h=>List.take_of_length_le (by simp; omega)
 refine awp_exit ?_
 refine hit ?_
 refine awp_dregc ⟨72,[(4,.pt 32 0 0),(7,.pt 40 0 0)],
   [(32,some ⟨3,[[.nilS,.nilS,.nilS]],0⟩),(40,some ⟨3,[[ints acc,ints f,.vs 2 false (rowsR R)]],0⟩)],1200⟩ rfl ?_ ?_
 ·simp
  refine call0e hnl (by simp) ?_
  simp
  refine callN1 hlast (by simp) ?_
  simp [splice]
  exact ⟨rfl,Le.go [(32,32),(40,40)] [42,664] rfl rfl (by simp) (by simp [fcd,take_map_len,htf,hlf])⟩
 refine awp_regc ⟨72,[(4,.pt 32 0 0),(5,.I 0)],[(32,some ⟨3,[[ints acc,ints f,.vs 2 false (rowsR R)]],0⟩)],1400⟩ rfl ?_ ?_
 ·simp [splice]
  exact Le.go [(32,32)] [] rfl rfl (by simp) (by simp [fcd])
 refine awp_ret ?_
 rw [← hacc,← hR]
 exact ⟨.inr rfl,RetOk.out [] [32] rfl (by simp) (by simp) (by simp) (by simp)⟩
section
variable {P : Program} {np id : Nat} {h : Nat → Option Ent} {K : AV → List Nat → List (Nat × Option Ent) → Prop} {f : FuncId} {first capt args args' : List AV} {res : AV}
end
theorem roll_a (L : List Int) (hl : L.length ≤ 400) : ∃ (g : Gr) (b : Nat),(GrOk g ∧ 2 ≤ g.size ∧ g.size ≤ 9 ∧ b ≤ L.length) ∧ ACalls Tryz.prog nmade_Dice_Graph [.pt 0 0 0] [dice L 0] (eG g) [some (dice L b)] :=
 have h:=graphD_made L 0 (Nat.zero_le _)
 ⟨_,_,⟨h.ok,h.lo,h.hi,h.at_⟩,Graph_ok L 0 hl (Nat.zero_le _)⟩
variable {g : Gr} {p : Pol}
def ServedP (g : Gr) (p : Pol) (ks : List Int) : Prop:=Rise ks 0 (g.size - 1) ∧ (∀ k ∈ ks,0 ≤ dist (levelG g p.lv) p.seeds k) ∧ CanServe g p ks
set_option maxRecDepth 100000 in
set_option maxHeartbeats 4000000 in
open Classical in
theorem Served_ok (g : Gr) (p : Pol) (ks : List Int) (hg : GrOk g) (hp : PolOk g.size p) (hs : p.seeds.length ≤ 64) (hl : ks.length ≤ 140737488355328) :
  ACalls Tryz.prog nref17_Served [eG g,eP p,ints ks] [] (.B (decide (ServedP g p ks))) []:=by
 refine sref17_Served.acalls (Nat.le_of_ble_eq_true rfl) (Nat.le_of_ble_eq_true rfl) (Nat.le_refl _) ?_
 show awp _ 0 _ _ ⟨53,[(0,eG g),(1,eP p),(2,ints ks)],[],16⟩
 have hsz:=hg.1.1
 have hsz2:=hg.1.2.1
 have hel:=hg.edges_le
 have hgl:=hg.gone_le
 have hchk:=ref13_Check_ok g p (by omega) (by omega) (by omega) (by have:=hp.2.2.2.1; omega)
 rw [if_pos hg,if_pos hp] at hchk
 have hset:=ref11_Set_ok ks g.size hl
 have hall:=ref12_All_ok (levelG g p.lv) p.seeds (hg.level p.lv) (by omega)
 have hdl : (distL (levelG g p.lv) p.seeds).length = g.size.toNat:=by rw [distL_len]; rfl
 obtain ⟨D,hD⟩ : ∃ D,D = distL (levelG g p.lv) p.seeds:=⟨_,rfl⟩
 rw [← hD] at hall hdl
 have hsz3 : (levelG g p.lv).size = g.size:=rfl
 rw [hsz3,← hdl] at hall
 refine awp_regc ⟨53,[(2,ints ks),(3,.pv (gC g)),(4,.pv (pC p))],[],100⟩ rfl ?_ ?_
 ·simp
  exact Le.go [] [16,24] rfl rfl (by simp) (by simp)
 refine awp_seq ?_
 refine awp_regc ⟨53,[(2,ints ks),(3,.pv (gC g)),(4,.pv (pC p)),(22,.B (decide (¬ Rise ks 0 (g.size - 1))))],[],300⟩ rfl ?_ ?_
 ·simp
  refine call0e hchk (by simp) ?_
  simp
  refine call0e hset (by simp) ?_
  simp
  exact Le.go [] [] rfl rfl (by simp) (by simp)
 refine awp_cond _ rfl (fun h3=>?_) fun h3=>?_
 ·rw [decide_eq_true_eq] at h3
  have hno : ¬ ServedP g p ks:=fun h=>h3 h.1
  rw [decide_eq_false hno]
  refine rx (s:=?s4) [6] [] [] rfl ?o4 ?q4
  case o4=>simp; rfl
  refine awp_ret ?_
  exact ⟨.inr rfl,RetOk.one (by simp)⟩
 rw [decide_eq_false_iff_not,Decidable.not_not] at h3
 have hr:=rise_in h3
 have hkl : ks.length ≤ 64:=by
  have:=nodup_sub_len (a:=ks) (b:=(List.range 64).map Int.ofNat) h3.nodup.1 fun x hx=>by
   have:=hr x hx
   exact List.mem_map.2 ⟨x.toNat,List.mem_range.2 (by omega),by simp; omega⟩
  simpa using this
 refine awp_skip ?_
 refine awp_dregc ⟨53,[(2,ints ks),(3,.pv (gC g)),(4,.pv (pC p)),(7,ints D)],[],500⟩ rfl ?_ ?_
 ·simp
  refine call0e (ref11_Level_ok g p.lv (by omega) (by omega)) (by simp) ?_
  simp
  refine callN1 hall (by simp) ?_
  simp [fcd]
  exact ⟨rfl,Le.go [] [348] rfl rfl (by simp [fcd,take_map_len]) (by simp)⟩
 refine awp_seq ?_
 refine awp_regc ⟨53,[(2,ints ks),(3,.pv (gC g)),(4,.pv (pC p)),(7,ints D),(8,.I 0)],[],600⟩ rfl ?_ ?_
 ·simp
  exact Le.go [] [] rfl rfl (by simp) (by simp)
 refine awp_block ?_
 refine awp_loop (ι:=Nat) (fun i=>⟨53,[(2,ints ks),(3,.pv (gC g)),(4,.pv (pC p)),(7,ints D),(8,.I i)],[],600⟩) (fun i=>i ≤ ks.length ∧ ∀ j (h : j < ks.length),j < i → 0 ≤ dist (levelG g p.lv) p.seeds ks[j]) (fun i=>ks.length - i) 0 ⟨Nat.zero_le _,fun j h hj=>absurd hj (Nat.not_lt_zero _)⟩ (Le.keep rfl (Nat.le_refl _) (by simp) (by simp)) ?_
 rintro i ⟨hi,hpre⟩
 refine awp_seq ?_
 refine rx (s:=?s5) [2,3,4,7,8,33] [] [] rfl ?o5 ?q5
 case o5=>simp; rfl
 refine awp_cond _ rfl (fun h6=>?_) fun h6=>?_
 ·simp at h6
  have hwi : IntKind.i64.wrap ((i : Int) + 1) = (i : Int) + 1:=w64 (by omega) (by omega)
  have hri:=hr _ (List.getElem_mem h6)
  obtain ⟨q,hq⟩ : ∃ q : Nat,ks[i] = q:=⟨ks[i].toNat,by omega⟩
  have hqD : q < D.length:=by omega
  have hki : ks[i]? = some (q : Int):=by rw [List.getElem?_eq_getElem h6,hq]
  have hDq : D[q] = dist (levelG g p.lv) p.seeds q:=by
   have h1:=distL_get (g:=levelG g p.lv) (S:=p.seeds) (k:=q) (by rw [hsz3]; omega)
   rw [← hD,List.getD_eq_getElem?_getD,List.getElem?_eq_getElem hqD] at h1
   exact h1
  obtain ⟨v,hv⟩ : ∃ v,v = D[q]:=⟨_,rfl⟩
  have hDg : D[q]? = some v:=by rw [List.getElem?_eq_getElem hqD,hv]
  refine awp_skip ?_
  refine awp_cut (ι:=Unit) (fun _=>⟨53,[(2,ints ks),(3,.pv (gC g)),(4,.pv (pC p)),(7,ints D),(8,.I i)],[],900⟩) (fun _=>0 ≤ v) ?_ fun _ hv0=>?_
  ·refine awp_block ?_
   refine awp_regc ⟨53,[(2,ints ks),(3,.pv (gC g)),(4,.pv (pC p)),(7,ints D),(8,.I i),(43,.B (decide (v < 0)))],[],800⟩ rfl ?_ ?_
   ·simp [hki,h6,hDg,hqD,hq]
    exact Le.go [] [] rfl rfl (by simp [← hv]) (by simp)
   refine awp_cond _ rfl (fun h7=>?_) fun h7=>?_
   ·rw [decide_eq_true_eq] at h7
    have hno : ¬ ServedP g p ks:=fun h=>by
     have:=h.2.1 _ (List.getElem_mem h6)
     rw [hq,← hDq,← hv] at this
     omega
    rw [decide_eq_false hno]
    refine rx (s:=?s8) [6] [] [] rfl ?o8 ?q8
    case o8=>simp; rfl
    refine awp_ret ?_
    exact ⟨.inr rfl,RetOk.one (by simp)⟩
   ·rw [decide_eq_false_iff_not] at h7
    refine awp_skip ?_
    exact ⟨(),by omega,Le.go [] [] rfl rfl (by simp) (by simp)⟩
  refine awp_reg rfl ?_
  simp
  refine ⟨i + 1,⟨by omega,fun j hj hji=>?_⟩,by omega,Le.go [] [] rfl rfl (by simp [hwi]) (by simp)⟩
  by_cases h : j < i
  ·exact hpre j hj h
  ·obtain rfl : j = i:=by omega
   rw [hq,← hDq,← hv]
   exact hv0
 simp at h6
 refine awp_exit ?_
 refine hit ?_
 obtain ⟨f,hf,hsv⟩:=served_a g p ks hg hp h3 hs hkl
 have hiff : ServedP g p ks ↔ CanServe g p ks:=⟨fun h=>h.2.2,fun h=>⟨h3,fun k hk=>by
  obtain ⟨j,hj,rfl⟩:=List.mem_iff_getElem.1 hk
  exact hpre j hj (by omega),h⟩⟩
 have hdd : decide (ServedP g p ks) = decide (CanServe g p ks):=decide_eq_decide.2 hiff
 rw [hdd]
 refine awp_regc ⟨53,[(11,.B (decide (CanServe g p ks)))],[],900⟩ rfl ?_ ?_
 ·simp
  refine callN1 hsv (by simp) ?_
  simp
  exact Le.go [] [] rfl rfl (by simp) (by simp)
 refine rx (s:=?s9) [6] [] [] rfl ?o9 ?q9
 case o9=>simp; rfl
 refine awp_ret ?_
 exact ⟨.inr rfl,RetOk.one (by simp)⟩
theorem Rise.pair {l : List Int} {lo hi : Int} (h : Rise l lo hi) : l.Pairwise (· < ·):=by
 have hlt : ∀ (j i : Nat) (hj : j < l.length) (hij : i < j),l[i] < l[j]:=by
  intro j
  induction j with
  | zero=>intro i _ hij; omega
  | succ j ih =>
    intro i hj hij
    have h1:=(h (j + 1) hj).2.2 (by omega)
    simp only [Nat.add_sub_cancel] at h1
    rcases Nat.lt_or_ge i j with h2 | h2
    ·have:=ih i (by omega) h2
     omega
    ·have : i = j:=by omega
     subst this
     exact h1
 exact List.pairwise_iff_getElem.2 fun i j hi hj hij=>hlt j i hj hij
theorem accept_Accepts_ok (acc f : List Int) (R : List (Int × List Int)) (k : Int) (hl : acc.length ≤ 140737488355328) : ACalls Tryz.prog naccept_Accepts [eAcc acc f R,.I k] [] (.B (decide (k ∈ acc))) []:=by
 refine saccept_Accepts.acalls (Nat.le_of_ble_eq_true rfl) (Nat.le_of_ble_eq_true rfl) (Nat.zero_le _) ?_
 show awp _ 0 _ _ ⟨9,[(0,eAcc acc f R),(1,.I k)],[],16⟩
 refine awp_regc ⟨9,[(1,.I k),(2,.pv [ints acc,ints f,.vs 2 false (rowsR R)])],[],100⟩ rfl ?_ ?_
 ·simp
  exact Le.go [] [16] rfl rfl (by simp) (by simp)
 refine awp_regc ⟨9,[(4,.B (decide (k ∈ acc)))],[],200⟩ rfl ?_ ?_
 ·simp
  refine call0e (contains_ok acc k hl) (by simp) ?_
  simp
  exact Le.go [] [] rfl rfl (by simp) (by simp)
 refine awp_ret ?_
 exact ⟨.inr rfl,RetOk.one (by simp)⟩
theorem accept_Served_c1_ok (C : List Int) (k : Int) (h0 : 0 ≤ k) (h1 : k < C.length) : ACalls Tryz.prog naccept_Served_c1 [.I k,.pv [ints C]] [] (.B (decide (C.getD k.toNat 0 = 0))) []:=by
 refine saccept_Served_c1.acalls (Nat.le_of_ble_eq_true rfl) (Nat.le_of_ble_eq_true rfl) (Nat.zero_le _) ?_
 show awp _ 0 _ _ ⟨9,[(0,.I k),(1,.pv [ints C])],[],16⟩
 have hk : k.toNat < C.length:=by omega
 have hget : C[k.toNat]? = some (C.getD k.toNat 0):=by rw [List.getD_eq_getElem?_getD,List.getElem?_eq_getElem hk,Option.getD_some]
 obtain ⟨v,hv⟩ : ∃ v,v = C.getD k.toNat 0:=⟨_,rfl⟩
 rw [← hv] at hget ⊢
 refine rx (s:=?s1) [0,1] [] [] rfl ?o1 ?q1
 case o1=>simp; rfl
 refine awp_regc ⟨9,[(3,.B (decide (v = 0)))],[],200⟩ rfl ?_ ?_
 ·have hv' : C[k.toNat] = v:=by rw [List.getElem?_eq_getElem hk] at hget; exact Option.some.inj hget
  simp [hget,hk,h0,hv']
  exact Le.go [] [] rfl rfl (by simp <;> exact wkB (by rw [Bool.eq_iff_iff]; simp)) (by simp)
 refine awp_ret ?_
 exact ⟨.inr rfl,RetOk.one (by simp)⟩
set_option maxRecDepth 100000 in
set_option maxHeartbeats 1000000 in
open Classical in
theorem accept_Served_ok (g : Gr) (p : Pol) (ks : List Int) (hg : GrOk g) (hp : PolOk g.size p) (hs : p.seeds.length ≤ 64) (hl : ks.length ≤ 1099511627776) :
  ACalls Tryz.prog naccept_Served [eG g,eP p,ints ks] [] (.B (decide (ServedP g p ks))) []:=by
 refine saccept_Served.acalls (Nat.le_of_ble_eq_true rfl) (Nat.le_of_ble_eq_true rfl) (Nat.le_refl _) ?_
 show awp _ 0 _ _ ⟨39,[(0,eG g),(1,eP p),(2,ints ks)],[],16⟩
 have hsz:=hg.1.1
 have hsz2:=hg.1.2.1
 have hel:=hg.edges_le
 have hgl:=hg.gone_le
 have hchk:=capacity_Check_ok g p (by omega) (by omega) (by omega) (by have:=hp.2.2.2.1; omega)
 rw [if_pos hg,if_pos hp] at hchk
 have hris:=lists_Rising_ok ks 0 (g.size - 1) (by omega)
 have hall:=capacity_All_ok g p hg (by omega)
 have hcl : (capsL g p).length = g.size.toNat:=capsL_len
 have hcr:=fun (k : Int) (h0 : 0 ≤ k)=>caps_reach (g:=g) hp h0
 have hcn:=capsL_nonneg (g:=g) hp
 obtain ⟨C,hC⟩ : ∃ C,C = capsL g p:=⟨_,rfl⟩
 rw [← hC] at hall hcl hcr hcn
 rw [← hcl] at hall
 have hw : IntKind.i64.wrap (g.size - 1) = g.size - 1:=w64 (by omega) (by omega)
 refine awp_regc ⟨39,[(2,ints ks),(3,.pv (gC g)),(4,.pv (pC p))],[],100⟩ rfl ?_ ?_
 ·simp
  exact Le.go [] [16,24] rfl rfl (by simp) (by simp)
 refine awp_seq ?_
 refine awp_regc ⟨39,[(2,ints ks),(3,.pv (gC g)),(4,.pv (pC p)),(21,.B (decide (¬ Rise ks 0 (g.size - 1))))],[],300⟩ rfl ?_ ?_
 ·simp
  refine call0e hchk (by simp) ?_
  simp [hw]
  refine call0e hris (by simp) ?_
  simp
  exact Le.go [] [] rfl rfl (by simp) (by simp)
 refine awp_cond _ rfl (fun h3=>?_) fun h3=>?_
 ·rw [decide_eq_true_eq] at h3
  have hno : ¬ ServedP g p ks:=fun h=>h3 h.1
  rw [decide_eq_false hno]
  refine rx (s:=?s4) [6] [] [] rfl ?o4 ?q4
  case o4=>simp; rfl
  refine awp_ret ?_
  exact ⟨.inr rfl,RetOk.one (by simp)⟩
 rw [decide_eq_false_iff_not,Decidable.not_not] at h3
 have hr:=rise_in h3
 have hkn:=h3.nodup.1
 have hkl : ks.length ≤ 64:=by
  have:=nodup_sub_len (a:=ks) (b:=(List.range 64).map Int.ofNat) hkn fun x hx=>by
   have:=hr x hx
   exact List.mem_map.2 ⟨x.toNat,List.mem_range.2 (by omega),by simp; omega⟩
  simpa using this
 have hcf:=ContainsFuncI_ok naccept_Served_c1 [.pv [ints C]] (fun k=>decide (C.getD k.toNat 0 = 0)) ks hl (fun ρ sn h k=>by simp) fun e he=>accept_Served_c1_ok C e (hr e he).1 (by have:=hr e he; omega)
 have hany : (ks.any fun k=>decide (C.getD k.toNat 0 = 0)) = true ↔ ¬ ∀ k ∈ ks,0 ≤ dist (levelG g p.lv) p.seeds k:=by
  rw [List.any_eq_true]
  constructor
  ·rintro ⟨k,hk,h⟩ hall
   have h1:=(hcr k (hr k hk).1).2 ⟨(hr k hk).2,hall k hk⟩
   have h2 : C.getD k.toNat 0 = 0:=by simpa using h
   omega
  ·intro h
   obtain ⟨k,hk⟩:=Classical.not_forall.1 h
   obtain ⟨h1,h2⟩:=Classical.not_imp.1 hk
   refine ⟨k,h1,?_⟩
   have h4 : ¬ 0 < C.getD k.toNat 0:=fun h5=>h2 ((hcr k (hr k h1).1).1 h5).2
   have h5 : 0 ≤ C.getD k.toNat 0:=by
    rw [List.getD_eq_getElem?_getD]
    cases hh : C[k.toNat]? with
    | none=>simp
    | some v=>exact hcn v (List.mem_of_getElem? hh)
   simp only [decide_eq_true_eq]
   omega
 obtain ⟨b,hb⟩ : ∃ b,b = ks.any fun k=>decide (C.getD k.toNat 0 = 0):=⟨_,rfl⟩
 rw [← hb] at hcf hany
 refine awp_skip ?_
 refine awp_regc ⟨39,[(2,ints ks),(3,.pv (gC g)),(4,.pv (pC p)),(7,.pv [ints C])],[],400⟩ rfl ?_ ?_
 ·simp
  refine callN1 hall (by simp) ?_
  simp
  exact Le.go [] [316,324] rfl rfl (by simp [fcd,take_map_len]) (by simp)
 refine awp_seq ?_
 refine awp_regc ⟨39,[(2,ints ks),(3,.pv (gC g)),(4,.pv (pC p)),(27,.B b)],[],500⟩ rfl ?_ ?_
 ·simp
  refine call0e hcf (by simp) ?_
  simp
  exact Le.go [] [] rfl rfl (by simp) (by simp)
 refine awp_cond _ rfl (fun h7=>?_) fun h7=>?_
 ·have hno : ¬ ServedP g p ks:=fun h=>hany.1 h7 h.2.1
  rw [decide_eq_false hno]
  refine rx (s:=?s8) [6] [] [] rfl ?o8 ?q8
  case o8=>simp; rfl
  refine awp_ret ?_
  exact ⟨.inr rfl,RetOk.one (by simp)⟩
 have h7' : ∀ k ∈ ks,0 ≤ dist (levelG g p.lv) p.seeds k:=Decidable.byContradiction fun h=>by
  have:=hany.2 h
  rw [show b = false from h7] at this
  cases this
 have hks : joinL ks = ks:=sorted_ext (joinL_lt ks) h3.pair fun x=>by
  rw [mem_joinL]
  exact ⟨fun h=>h.1,fun h=>⟨h,by have:=hr x h; omega⟩⟩
 have hnet:=accept_network_ok g p ks hg hp hkn hr hs
 rw [hks] at hnet
 have hnv:=netA_val hg hp hr hs hkl
 obtain ⟨fl,hfl,hsv⟩:=accept_serve_a _ _ (ks.length : Nat) hnv
 have hcs : decide (valF (netA g p ks) fl = (ks.length : Nat)) = decide (ServedP g p ks):=by
  rw [decide_eq_decide]
  have hmf:=maxF_of hfl.1 hfl.2
  unfold ServedP CanServe
  rw [hmf]
  exact ⟨fun h=>⟨h3,h7',h⟩,fun h=>h.2.2⟩
 rw [hcs] at hsv
 obtain ⟨A,hA⟩ : ∃ A,A = netA g p ks:=⟨_,rfl⟩
 rw [← hA] at hnet hsv
 refine awp_skip ?_
 refine awp_regc ⟨39,[(9,.B (decide (ServedP g p ks)))],[],700⟩ rfl ?_ ?_
 ·simp
  refine call0e hnet (by simp) ?_
  simp
  refine callN1 hsv (by simp) ?_
  simp
  exact Le.go [] [] rfl rfl (by simp) (by simp)
 refine awp_regc ⟨39,[(6,.B (decide (ServedP g p ks)))],[],800⟩ rfl ?_ ?_
 ·simp
  exact Le.go [] [] rfl rfl (by simp) (by simp)
 refine awp_ret ?_
 exact ⟨.inr rfl,RetOk.one (by simp)⟩
def partP : List Int → List Int → List Int → Bool
 | [],a,r=>a.isEmpty && r.isEmpty
 | x :: o,a,r=>if a.head? = some x then partP o a.tail r else if r.head? = some x then partP o a r.tail else false
def aheadN : Nat → List Int → List Int → List Int → List Nat
 | _,[],_,_=>[]
 | c,x :: o,a,r=>if a.head? = some x then aheadN (c + 1) o a.tail r else if r.head? = some x then c :: aheadN c o a r.tail else []
theorem partP_sub : ∀ {o a r : List Int},partP o a r = true → a.Sublist o ∧ r.Sublist o
 | [],a,r,h=>by
   simp [partP] at h
   rw [h.1,h.2]
   exact ⟨List.nil_sublist _,List.nil_sublist _⟩
 | x :: o,a,r,h=>by
   simp only [partP] at h
   split at h
   ·rename_i h1
    obtain ⟨h2,h3⟩:=partP_sub h
    cases a with
    | nil=>cases h1
    | cons y a =>
      have : y = x:=by simpa using h1
      subst this
      exact ⟨h2.cons_cons _,h3.cons _⟩
   ·split at h
    ·rename_i h1
     obtain ⟨h2,h3⟩:=partP_sub h
     cases r with
     | nil=>cases h1
     | cons y r =>
       have : y = x:=by simpa using h1
       subst this
       exact ⟨h2.cons _,h3.cons_cons _⟩
    ·cases h
theorem partP_all : ∀ {o a r : List Int},partP o a r = true → ∀ x ∈ o,x ∈ a ∨ x ∈ r
 | [],a,r,_,x,hx=>by simp at hx
 | x :: o,a,r,h,y,hy=>by
   simp only [partP] at h
   split at h
   ·rename_i h1
    cases a with
    | nil=>cases h1
    | cons z a =>
      have : z = x:=by simpa using h1
      subst this
      rcases List.mem_cons.1 hy with rfl | hy
      ·exact .inl (by simp)
      ·rcases partP_all h y hy with h2 | h2
       ·exact .inl (List.mem_cons_of_mem _ h2)
       ·exact .inr h2
   ·split at h
    ·rename_i h1
     cases r with
     | nil=>cases h1
     | cons z r =>
       have : z = x:=by simpa using h1
       subst this
       rcases List.mem_cons.1 hy with rfl | hy
       ·exact .inr (by simp)
       ·rcases partP_all h y hy with h2 | h2
        ·exact .inl h2
        ·exact .inr (List.mem_cons_of_mem _ h2)
    ·cases h
theorem partP_len : ∀ {o a r : List Int},partP o a r = true → o.length = a.length + r.length
 | [],a,r,h=>by
   simp [partP] at h
   rw [h.1,h.2]
   rfl
 | x :: o,a,r,h=>by
   simp only [partP] at h
   split at h
   ·rename_i h1
    cases a with
    | nil=>cases h1
    | cons z a =>
      have:=partP_len h
      simp at this ⊢
      omega
   ·split at h
    ·rename_i h1
     cases r with
     | nil=>cases h1
     | cons z r =>
       have:=partP_len h
       simp at this ⊢
       omega
    ·cases h
theorem aheadN_len : ∀ {o a r : List Int} {c : Nat},partP o a r = true → (aheadN c o a r).length = r.length
 | [],a,r,c,h=>by
   simp [partP] at h
   rw [h.2]
   rfl
 | x :: o,a,r,c,h=>by
   simp only [partP] at h
   simp only [aheadN]
   split at h
   ·rename_i h1
    rw [if_pos h1]
    exact aheadN_len h
   ·rename_i h1
    rw [if_neg h1]
    split at h
    ·rename_i h2
     rw [if_pos h2,List.length_cons,aheadN_len h]
     cases r with
     | nil=>cases h2
     | cons y r=>rfl
    ·cases h
theorem aheadN_ge : ∀ {o a r : List Int} {c m : Nat},m ∈ aheadN c o a r → c ≤ m ∧ m ≤ c + a.length
 | [],a,r,c,m,h=>by simp [aheadN] at h
 | x :: o,a,r,c,m,h=>by
   simp only [aheadN] at h
   split at h
   ·rename_i h1
    have:=aheadN_ge h
    cases a with
    | nil=>cases h1
    | cons y a=>simp at this ⊢; omega
   ·split at h
    ·rcases List.mem_cons.1 h with rfl | h
     ·omega
     ·exact aheadN_ge h
    ·simp at h
theorem partP_acc : ∀ {o a r : List Int} {k : Int},partP o a r = true → k ∉ o → partP (o ++ [k]) (a ++ [k]) r = true
 | [],a,r,k,h,_=>by
   simp [partP] at h
   rw [h.1,h.2]
   simp [partP]
 | x :: o,a,r,k,h,hk=>by
   have hkx : k ≠ x:=fun e=>hk (by simp [e])
   have hko : k ∉ o:=fun e=>hk (List.mem_cons_of_mem _ e)
   simp only [partP] at h
   simp only [List.cons_append,partP]
   split at h
   ·rename_i h1
    cases a with
    | nil=>cases h1
    | cons y a =>
      have : y = x:=by simpa using h1
      subst this
      simpa using partP_acc h hko
   ·rename_i h1
    split at h
    ·rename_i h2
     have h3 : (a ++ [k]).head? ≠ some x:=by
      cases a with
      | nil=>simpa using hkx
      | cons y a=>simpa using h1
     rw [if_neg h3,if_pos h2]
     exact partP_acc h hko
    ·cases h
theorem partP_ref : ∀ {o a r : List Int} {k : Int},partP o a r = true → k ∉ o → partP (o ++ [k]) a (r ++ [k]) = true
 | [],a,r,k,h,_=>by
   simp [partP] at h
   rw [h.1,h.2]
   simp [partP]
 | x :: o,a,r,k,h,hk=>by
   have hkx : k ≠ x:=fun e=>hk (by simp [e])
   have hko : k ∉ o:=fun e=>hk (List.mem_cons_of_mem _ e)
   simp only [partP] at h
   simp only [List.cons_append,partP]
   split at h
   ·rename_i h1
    rw [if_pos h1]
    exact partP_ref h hko
   ·rename_i h1
    rw [if_neg h1]
    split at h
    ·rename_i h2
     cases r with
     | nil=>cases h2
     | cons y r =>
       have : y = x:=by simpa using h2
       subst this
       simpa using partP_ref h hko
    ·cases h
def CutOk (g : Gr) (p : Pol) (b : List Int) (r : Int × List Int) : Prop:=ProvesP ⟨netN g,netA g p (joinL (b ++ [r.1]))⟩ r.2 b.length
def cutsR (g : Gr) (p : Pol) : List Int → List Int → List Int → List (Int × List Int) → Prop
 | _,[],_,_=>True
 | b,x :: o,a,R=>if a.head? = some x then cutsR g p (b ++ [x]) o a.tail R else match R with
   | []=>True
   | r :: R=>CutOk g p b r ∧ cutsR g p b o a R
def keysR (R : List (Int × List Int)) : List Int:=R.map (·.1)
theorem cutsR_iff {g : Gr} {p : Pol} : ∀ {o b a : List Int} {R : List (Int × List Int)},partP o a (keysR R) = true →
  (cutsR g p b o a R ↔ ∀ i (h : i < R.length),CutOk g p (b ++ a.take ((aheadN b.length o a (keysR R)).getD i 0 - b.length)) R[i])
 | [],b,a,R,h=>by
   simp [partP,keysR] at h
   obtain ⟨_,rfl⟩:=h
   simp [cutsR]
 | x :: o,b,a,R,h=>by
   simp only [partP] at h
   simp only [cutsR,aheadN]
   split at h
   ·rename_i h1
    rw [if_pos h1,if_pos h1]
    have ih:=cutsR_iff (g:=g) (p:=p) (b:=b ++ [x]) h
    rw [List.length_append,List.length_singleton] at ih
    rw [ih]
    cases a with
    | nil=>cases h1
    | cons y a =>
      have : y = x:=by simpa using h1
      subst this
      simp only [List.tail_cons] at h ih ⊢
      have key : ∀ i (hi : i < R.length),b ++ [y] ++ a.take ((aheadN (b.length + 1) o a (keysR R)).getD i 0 - (b.length + 1)) = b ++ (y :: a).take ((aheadN (b.length + 1) o a (keysR R)).getD i 0 - b.length):=fun i hi=>by
       have hl : i < (aheadN (b.length + 1) o a (keysR R)).length:=by
        rw [aheadN_len h,keysR,List.length_map]
        exact hi
       have hm:=aheadN_ge (List.getElem_mem hl)
       have e : (aheadN (b.length + 1) o a (keysR R)).getD i 0 = (aheadN (b.length + 1) o a (keysR R))[i]:=by rw [List.getD_eq_getElem?_getD,List.getElem?_eq_getElem hl,Option.getD_some]
       rw [e]
       obtain ⟨q,hq⟩ : ∃ q,(aheadN (b.length + 1) o a (keysR R))[i] = b.length + 1 + q:=⟨_,(Nat.add_sub_cancel' hm.1).symm⟩
       rw [hq,show b.length + 1 + q - (b.length + 1) = q by omega,show b.length + 1 + q - b.length = q + 1 by omega,List.take_succ_cons,List.append_assoc]
       rfl
      constructor
      ·intro h2 i hi
       rw [← key i hi]
       exact h2 i hi
      ·intro h2 i hi
       have:=h2 i hi
       rw [← key i hi] at this
       exact this
   ·rename_i h1
    rw [if_neg h1,if_neg h1]
    split at h
    ·rename_i h2
     cases R with
     | nil=>cases h2
     | cons r R =>
       rw [if_pos h2]
       have ih:=cutsR_iff (g:=g) (p:=p) (b:=b) (R:=R) h
       simp only
       rw [ih]
       constructor
       ·rintro ⟨h3,h4⟩ i hi
        cases i with
        | zero=>simpa using h3
        | succ i=>exact h4 i (by simpa using hi)
       ·intro h3
        refine ⟨by
         have h4:=h3 0 (Nat.zero_lt_succ _)
         simp only [List.getD_cons_zero,Nat.sub_self,List.take_zero,List.append_nil] at h4
         exact h4,fun i hi=>h3 (i + 1) (by simpa using hi)⟩
    ·cases h
open Classical in
noncomputable def checkA (g : Gr) (p : Pol) (acc flow : List Int) (R : List (Int × List Int)) : Int :=
 if partP (ordL (levelG g p.lv) p.seeds) acc (keysR R) = true then
  if FlowOk (netN g) (netA g p (joinL acc)) flow ∧ valF (netA g p (joinL acc)) flow = acc.length then
   if cutsR g p [] (ordL (levelG g p.lv) p.seeds) acc R then 0 else 18
  else 17
 else 1
theorem head_drop_some {l : List Int} {i : Nat} (h : i < l.length) : (l.drop i).head? = some l[i]:=by rw [List.head?_drop,List.getElem?_eq_getElem h]
theorem head_drop_none {l : List Int} {i : Nat} (h : ¬ i < l.length) : (l.drop i).head? = none:=by rw [List.head?_drop,List.getElem?_eq_none (by omega)]
structure PtSt where
 n : Nat
 i : Nat
 k : Nat
 L : List Int
set_option maxRecDepth 100000 in
set_option maxHeartbeats 4000000 in
theorem accept_parted_a (o acc f : List Int) (R : List (Int × List Int)) (hol : o.length ≤ 100) (ha : acc.length ≤ 1000) (hR : R.length ≤ 1000) :
  ∃ L : List Int,(partP o acc (keysR R) = true → L = (aheadN 0 o acc (keysR R)).map fun (n : Nat)=>(n : Int)) ∧ ACalls Tryz.prog naccept_parted [ints o,eAcc acc f R] [] (.tup [ints L,.B (partP o acc (keysR R))]) []:=by
 refine saccept_parted.acallsX (args:=[ints o,eAcc acc f R]) (hs:=[]) (fun L=>.tup [ints L,.B (partP o acc (keysR R))]) (fun _=>[]) (fun L : List Int=>partP o acc (keysR R) = true → L = (aheadN 0 o acc (keysR R)).map fun (n : Nat)=>(n : Int)) (Nat.le_of_ble_eq_true rfl) (Nat.le_of_ble_eq_true rfl) (fun _=>Nat.le_refl _) ?_
 show awp _ 0 _ _ ⟨70,[(0,ints o),(1,eAcc acc f R)],[],16⟩
 have hkl : (keysR R).length = R.length:=by simp [keysR]
 obtain ⟨b,hb⟩ : ∃ b,b = partP o acc (keysR R):=⟨_,rfl⟩
 rw [← hb]
 refine awp_regc ⟨70,[(0,ints o),(3,.pv [ints acc,ints f,.vs 2 false (rowsR R)])],[],40⟩ rfl ?_ ?_
 ·simp
  exact Le.go [] [16] rfl rfl (by simp) (by simp)
 refine awp_regc ⟨70,[(0,ints o),(3,.pv [ints acc,ints f,.vs 2 false (rowsR R)]),(6,.rs 50 0 0)],[(50,some ⟨1,[],0⟩)],100⟩ rfl ?_ ?_
 ·simp
  exact Le.lst [] [] [(50,1)] rfl (by simp) (by simp) (by simp) (by simp) (by simp) (by simp) (by simp) (by simp [Up]) (by simp)
 refine awp_regc ⟨70,[(0,ints o),(3,.pv [ints acc,ints f,.vs 2 false (rowsR R)]),(6,.rs 50 0 0),(7,.I 0),(8,.I 0)],[(50,some ⟨1,[],0⟩)],200⟩ rfl ?_ ?_
 ·simp
  exact Le.go [(50,50)] [] rfl rfl (by simp) (by simp)
 refine awp_seq ?_
 refine awp_regc ⟨70,[(3,.pv [ints acc,ints f,.vs 2 false (rowsR R)]),(6,.rs 50 0 0),(7,.I 0),(8,.I 0),(11,ints o),(12,.I o.length),(13,.I 0)],[(50,some ⟨1,[],0⟩)],300⟩ rfl ?_ ?_
 ·simp
  exact Le.go [(50,50)] [] rfl rfl (by simp) (by simp)
 refine awp_block ?_
 refine awp_loop (ι:=PtSt) (fun s=>⟨70,[(3,.pv [ints acc,ints f,.vs 2 false (rowsR R)]),(6,.rs 50 0 s.L.length),(7,.I s.i),(8,.I s.k),(11,ints o),(12,.I o.length),(13,.I s.n)],[(50,some ⟨1,rowsI s.L,0⟩)],300⟩)
  (fun s=>s.n ≤ o.length ∧ s.i ≤ acc.length ∧ s.k ≤ R.length ∧ s.L.length ≤ s.n ∧ b = partP (o.drop s.n) (acc.drop s.i) ((keysR R).drop s.k) ∧ s.L ++ (aheadN s.i (o.drop s.n) (acc.drop s.i) ((keysR R).drop s.k)).map (fun (n : Nat)=>(n : Int)) = (aheadN 0 o acc (keysR R)).map (fun (n : Nat)=>(n : Int)))
  (fun s=>o.length - s.n) ⟨0,0,0,[]⟩ ⟨Nat.zero_le _,Nat.zero_le _,Nat.zero_le _,Nat.le_refl _,by simpa using hb,by simp⟩ (Le.go [(50,50)] [] rfl rfl (by simp) (by simp)) ?_
 rintro ⟨n,i,k,L⟩ ⟨hn,hi,hk,hL,hp,hah⟩
 simp only at hn hi hk hL hp hah
 refine awp_regc ⟨70,[(3,.pv [ints acc,ints f,.vs 2 false (rowsR R)]),(6,.rs 50 0 L.length),(7,.I i),(8,.I k),(11,ints o),(12,.I o.length),(13,.I n),(14,.B (decide (n < o.length)))],[(50,some ⟨1,rowsI L,0⟩)],400⟩ rfl ?_ ?_
 ·simp
  exact Le.go [(50,50)] [] rfl rfl (by simp) (by simp [fcd])
 refine awp_seq ?_
 refine awp_cond _ rfl (fun h6=>?_) fun h6=>?_
 ·simp at h6
  have hw1 : IntKind.i64.wrap ((n : Int) + 1) = (n : Int) + 1:=w64 (by omega) (by omega)
  have hw2 : IntKind.i64.wrap ((i : Int) + 1) = (i : Int) + 1:=w64 (by omega) (by omega)
  have hw3 : IntKind.i64.wrap ((k : Int) + 1) = (k : Int) + 1:=w64 (by omega) (by omega)
  obtain ⟨x,hx⟩ : ∃ x,x = o[n]:=⟨_,rfl⟩
  have hod : o.drop n = x :: o.drop (n + 1):=by rw [List.drop_eq_getElem_cons h6,hx]
  rw [hod] at hp hah
  simp only [partP,aheadN,List.tail_drop] at hp hah
  refine awp_skip ?_
  refine awp_seq ?_
  refine awp_block ?_
  refine awp_regc ⟨70,[(3,.pv [ints acc,ints f,.vs 2 false (rowsR R)]),(6,.rs 50 0 L.length),(7,.I i),(8,.I k),(10,.I x),(11,ints o),(12,.I o.length),(13,.I n)],[(50,some ⟨1,rowsI L,0⟩)],500⟩ rfl ?_ ?_
  ·simp [h6,← hx]
   exact Le.go [(50,50)] [] rfl rfl (by simp) (by simp [fcd])
  refine awp_block ?_
  refine awp_regc ⟨70,[(3,.pv [ints acc,ints f,.vs 2 false (rowsR R)]),(6,.rs 50 0 L.length),(7,.I i),(8,.I k),(10,.I x),(11,ints o),(12,.I o.length),(13,.I n),(17,.B (decide ((acc.drop i).head? = some x)))],[(50,some ⟨1,rowsI L,0⟩)],700⟩ rfl ?_ ?_
  ·by_cases hia : i < acc.length
   ·have hh:=head_drop_some hia
    simp [hia]
    exact Le.go [(50,50)] [] rfl rfl (by simp <;> exact wkB (by rw [Bool.eq_iff_iff]; simp [hia])) (by simp [fcd])
   ·have hh:=head_drop_none hia
    have hai : acc.length ≤ i:=by omega
    simp [hia]
    exact Le.go [(50,50)] [] rfl rfl (by simp [hia]) (by simp [fcd])
  refine awp_cond _ rfl (fun h9=>?_) fun h9=>?_
  ·rw [decide_eq_true_eq] at h9
   rw [if_pos h9] at hp hah
   have hia : i < acc.length:=Decidable.byContradiction fun h=>by rw [head_drop_none h] at h9; cases h9
   refine awp_reg rfl ?_
   simp
   refine awp_reg rfl ?_
   simp
   exact ⟨⟨n + 1,i + 1,k,L⟩,⟨by simp only; omega,by simp only; omega,hk,by simp only; omega,hp,hah⟩,by simp only; omega,Le.go [(50,50)] [] rfl rfl (by simp [hw1,hw2]) (by simp [fcd])⟩
  rw [decide_eq_false_iff_not] at h9
  rw [if_neg h9] at hp hah
  refine awp_regc ⟨70,[(3,.pv [ints acc,ints f,.vs 2 false (rowsR R)]),(6,.rs 50 0 L.length),(7,.I i),(8,.I k),(11,ints o),(12,.I o.length),(13,.I n),(34,.B (decide (((keysR R).drop k).head? = some x)))],[(50,some ⟨1,rowsI L,0⟩)],900⟩ rfl ?_ ?_
  ·by_cases hkR : k < R.length
   ·have hh : ((keysR R).drop k).head? = some R[k].1:=by rw [List.head?_drop,keysR,List.getElem?_map,List.getElem?_eq_getElem hkR]; rfl
    have hh2 : (keysR R)[k]? = some R[k].1:=by rw [← List.head?_drop]; exact hh
    simp [hkR]
    exact Le.go [(50,50)] [] rfl rfl (by simp [hh2] <;> exact wkB (by rw [Bool.eq_iff_iff]; simp)) (by simp [fcd])
   ·have hh : ((keysR R).drop k).head? = none:=by rw [List.head?_drop,List.getElem?_eq_none (by omega)]
    have hh2 : (keysR R)[k]? = none:=by rw [← List.head?_drop]; exact hh
    simp [hkR]
    exact Le.go [(50,50)] [] rfl rfl (by simp [hh2,hkR]) (by simp [fcd])
  refine awp_cond _ rfl (fun h11=>?_) fun h11=>?_
  ·rw [decide_eq_true_eq] at h11
   rw [if_pos h11] at hp hah
   have hkR : k < R.length:=Decidable.byContradiction fun h=>by rw [List.head?_drop,List.getElem?_eq_none (by omega)] at h11; cases h11
   refine awp_regc ⟨70,[(3,.pv [ints acc,ints f,.vs 2 false (rowsR R)]),(6,.rs 50 0 L.length),(7,.I i),(8,.I (k + 1 : Nat)),(11,ints o),(12,.I o.length),(13,.I n)],[(50,some ⟨1,rowsI L,0⟩)],1000⟩ rfl ?_ ?_
   ·simp
    exact Le.go [(50,50)] [] rfl rfl (by simp [hw3]) (by simp [fcd])
   have htL : ∀ h : Int → List AV,List.take L.length (List.map h L) = List.map h L:=fun h=>List.take_of_length_le (by simp)
   refine awp_reg rfl ?_
   simp [htL]
   refine ⟨by omega,by omega,?_⟩
   refine awp_reg rfl ?_
   simp
   exact ⟨⟨n + 1,i,k + 1,L ++ [(i : Int)]⟩,⟨by simp only; omega,hi,hkR,by simp; omega,hp,by simpa using hah⟩,by simp only; omega,Le.go [(1024,50)] [] rfl rfl (by simp [hw1]) (by simp [fcd])⟩
  rw [decide_eq_false_iff_not] at h11
  rw [if_neg h11] at hp
  subst hp
  refine awp_regc ⟨70,[(4,ints []),(5,.B false)],[],1000⟩ rfl ?_ ?_
  ·simp
   exact Le.go [] [] rfl rfl (by simp; exact Wk.nil _ _) (by simp)
  refine awp_ret ?_
  exact PostX.mk (.inr rfl) [] (fun h=>by cases h) (RetOk.out [] [] rfl (by simp) (by simp) (by simp; exact .refl _) (by simp))
 simp at h6
 obtain rfl : n = o.length:=by omega
 rw [List.drop_length] at hp hah
 have hp2 : b = (decide (i = acc.length) && decide (k = R.length)):=by
  rw [hp]
  simp only [partP]
  rw [Bool.eq_iff_iff]
  simp [List.isEmpty_iff]
  omega
 refine awp_exit ?_
 refine hit ?_
 have htL : ∀ h : Int → List AV,List.take L.length (List.map h L) = List.map h L:=fun h=>List.take_of_length_le (by simp)
 refine awp_dregc ⟨70,[(4,ints L),(5,.B b)],[],1000⟩ rfl ?_ ?_
 ·by_cases hia : i = acc.length
  ·simp [hia]
   exact ⟨rfl,Le.go [] [50] rfl rfl (by simp [hp2,hia,fcd,htL] <;> exact wkB (by rw [Bool.eq_iff_iff]; simp; omega)) (by simp)⟩
  ·have hia2 : ¬ (i : Int) = acc.length:=by omega
   have hia3 : ((i : Int) == (acc.length : Int)) = false:=by simpa using hia2
   simp [hia3]
   exact ⟨rfl,Le.go [] [50] rfl rfl (by simp [hp2,hia,fcd,htL]) (by simp)⟩
 refine awp_ret ?_
 exact PostX.mk (.inr rfl) L (fun _=>by simpa [aheadN] using hah) (RetOk.out [] [] rfl (by simp) (by simp) (by simp) (by simp))
theorem partP_perm {o a r : List Int} (hn : o.Nodup) (h : partP o a r = true) : o.Perm (a ++ r) :=
 perm_of_nodup_sub hn (fun x hx=>List.mem_append.2 (partP_all h x hx)) (by rw [partP_len h,List.length_append]; exact Nat.le_refl _)
theorem ordL_le {g : Gr} (hg : GrOk g) (p : Pol) : (ordL (levelG g p.lv) p.seeds).length ≤ 64:=by
 have hsz:=hg.1.1
 have hsz2:=hg.1.2.1
 have hr : ∀ x ∈ ordL (levelG g p.lv) p.seeds,0 ≤ x ∧ x < g.size:=fun x hx=>by have h:=ordL_range hx; exact h
 have:=nodup_sub_len (b:=(List.range g.size.toNat).map fun i : Nat=>(i : Int)) (ordL_nodup (levelG g p.lv) p.seeds) fun x hx=>by
  have:=hr x hx
  exact List.mem_map.2 ⟨x.toNat,List.mem_range.2 (by omega),by omega⟩
 rw [List.length_map,List.length_range] at this
 omega
set_option maxRecDepth 100000 in
set_option maxHeartbeats 4000000 in
open Classical in
theorem accept_Check_ok (g : Gr) (p : Pol) (acc f : List Int) (R : List (Int × List Int)) (hg : GrOk g) (hp : PolOk g.size p) (hs : p.seeds.length ≤ 64) (hN : g.size < 20) (ha : acc.length ≤ 1000) (hR : R.length ≤ 1000) (hf : f.length ≤ 1099511627776) (hsd : ∀ r ∈ R,r.2.length ≤ 140737488355328) :
  ACalls Tryz.prog naccept_Check [eG g,eP p,eAcc acc f R] [] (.I (checkA g p acc f R)) []:=by
 have hsz:=hg.1.1
 have hsz2:=hg.1.2.1
 have hel:=hg.edges_le
 have hgl:=hg.gone_le
 have hchk:=capacity_Check_ok g p (by omega) (by omega) (by omega) (by have:=hp.2.2.2.1; omega)
 rw [if_pos hg,if_pos hp] at hchk
 have hord:=accept_order_ok g p hg hN (by omega)
 have hol:=ordL_le hg p
 unfold checkA
 obtain ⟨o,ho⟩ : ∃ o,o = ordL (levelG g p.lv) p.seeds:=⟨_,rfl⟩
 have hor : ∀ k ∈ o,0 ≤ k ∧ k < g.size:=fun k hk=>by rw [ho] at hk; have h:=ordL_range hk; exact h
 have hon : o.Nodup:=by rw [ho]; exact ordL_nodup _ _
 rw [← ho] at hord hol ⊢
 obtain ⟨L,hL,hpart⟩:=accept_parted_a o acc f R (by omega) ha hR
 refine saccept_Check.acalls (Nat.le_of_ble_eq_true rfl) (Nat.le_of_ble_eq_true rfl) (Nat.le_refl _) ?_
 show awp _ 0 _ _ ⟨80,[(0,eG g),(1,eP p),(2,eAcc acc f R)],[],16⟩
 refine awp_regc ⟨80,[(3,.pv (gC g)),(4,.pv (pC p)),(5,.pv [ints acc,ints f,.vs 2 false (rowsR R)])],[],60⟩ rfl ?_ ?_
 ·simp
  exact Le.go [] [16,24,32] rfl rfl (by simp) (by simp)
 refine awp_seq ?_
 refine rx (s:=?s2) [3,4,5,7] [] [] rfl ?o2 ?q2
 case o2=>simp; refine call0e hchk (by simp) ?_; simp; rfl
 refine rx (s:=?s3) [3,4,5,18] [] [] rfl ?o3 ?q3
 case o3=>simp; rfl
 refine awp_cond _ rfl (fun h=>by cases h) fun _=>?_
 refine awp_skip ?_
 refine awp_dregc ⟨80,[(3,.pv (gC g)),(4,.pv (pC p)),(5,.pv [ints acc,ints f,.vs 2 false (rowsR R)]),(8,ints L),(9,.B (partP o acc (keysR R)))],[],300⟩ rfl ?_ ?_
 ·simp
  refine callN1 hord (by simp) ?_
  simp
  refine call0k [124] (by simp) hpart (by simp [fcd,take_map_len]) ?_
  simp
  exact ⟨rfl,Le.go [] [] rfl rfl (by simp) (by simp)⟩
 refine awp_seq ?_
 refine awp_regc ⟨80,[(3,.pv (gC g)),(4,.pv (pC p)),(5,.pv [ints acc,ints f,.vs 2 false (rowsR R)]),(8,ints L),(29,.B (!partP o acc (keysR R)))],[],400⟩ rfl ?_ ?_
 ·simp
  exact Le.go [] [] rfl rfl (by simp) (by simp)
 refine awp_cond _ rfl (fun h8=>?_) fun h8=>?_
 ·have h8' : ¬ partP o acc (keysR R) = true:=by simpa using h8
  rw [if_neg h8']
  refine rx (s:=?s9) [6] [] [] rfl ?o9 ?q9
  case o9=>simp; rfl
  refine awp_ret ?_
  exact ⟨.inr rfl,RetOk.one (by simp)⟩
 have h8' : partP o acc (keysR R) = true:=by simpa using h8
 rw [if_pos h8']
 have hL:=hL h8'
 have hsub:=partP_sub h8'
 have hperm:=(partP_perm hon h8').nodup_iff.1 hon
 have hkl : (keysR R).length = R.length:=by simp [keysR]
 have hrk : ∀ k ∈ keysR R,0 ≤ k ∧ k < g.size:=fun k hk=>hor k (hsub.2.subset hk)
 have hak : ∀ k ∈ acc,0 ≤ k ∧ k < g.size:=fun k hk=>hor k (hsub.1.subset hk)
 have han : acc.Nodup:=(List.nodup_append.1 hperm).1
 have hnet:=accept_network_ok g p acc hg hp han hak hs
 have hnv : ∀ a : List Int,(∀ x ∈ a,0 ≤ x ∧ x < g.size) → NetVal ⟨netN g,netA g p (joinL a)⟩:=fun a h=>netA_val hg hp (rise_in (rise_join h)) hs (joinL_len a)
 have hval:=flow_Valid_ok (f:=f) (hnv acc hak) hf
 have hvv:=flow_Value_ok (f:=f) (hnv acc hak) hf
 have hcut:=cutsR_iff (g:=g) (p:=p) (b:=[]) h8'
 obtain ⟨A,hA⟩ : ∃ A,A = netA g p (joinL acc):=⟨_,rfl⟩
 rw [← hA] at hnet hval hvv
 rw [← hA]
 refine awp_skip ?_
 refine awp_seq ?_
 refine awp_regc ⟨80,[(3,.pv (gC g)),(4,.pv (pC p)),(5,.pv [ints acc,ints f,.vs 2 false (rowsR R)]),(8,ints L),(10,.pv (nC ⟨netN g,A⟩))],[],500⟩ rfl ?_ ?_
 ·simp
  refine call0e hnet (by simp) ?_
  simp
  exact Le.go [] [440] rfl rfl (by simp) (by simp)
 refine awp_dregc ⟨80,[(3,.pv (gC g)),(4,.pv (pC p)),(5,.pv [ints acc,ints f,.vs 2 false (rowsR R)]),(8,ints L),(49,.B (!decide (FlowOk (netN g) A f ∧ valF A f = acc.length)))],[],700⟩ rfl ?_ ?_
 ·by_cases hfo : FlowOk (netN g) A f
  ·rw [decide_eq_true hfo] at hval
   rw [if_pos hfo] at hvv
   simp
   refine call0e hval (by simp) ?_
   simp
   refine call0e hvv (by simp) ?_
   simp
   exact ⟨rfl,Le.go [] [] rfl rfl (by simp [hfo] <;> exact wkB (by rw [Bool.eq_iff_iff]; simp)) (by simp)⟩
  ·rw [decide_eq_false hfo] at hval
   simp
   refine call0e hval (by simp) ?_
   simp
   exact ⟨rfl,Le.go [] [] rfl rfl (by simp [hfo]) (by simp)⟩
 refine awp_cond _ rfl (fun h12=>?_) fun h12=>?_
 ·have h12' : ¬ (FlowOk (netN g) A f ∧ valF A f = acc.length):=fun h=>by rw [decide_eq_true h] at h12; cases h12
  rw [if_neg h12']
  refine rx (s:=?s13) [6] [] [] rfl ?o13 ?q13
  case o13=>simp; rfl
  refine awp_ret ?_
  exact ⟨.inr rfl,RetOk.one (by simp)⟩
 have h12' : FlowOk (netN g) A f ∧ valF A f = acc.length:=by simpa using h12
 rw [if_pos h12']
 refine awp_skip ?_
 refine awp_seq ?_
 refine rx (s:=?s14) [3,4,5,8,51,52,53] [] [] rfl ?o14 ?q14
 case o14=>simp; rfl
 refine awp_block ?_
 refine awp_loop (ι:=Nat) (fun i=>⟨80,[(3,.pv (gC g)),(4,.pv (pC p)),(5,.pv [ints acc,ints f,.vs 2 false (rowsR R)]),(8,ints L),(51,.vs 2 false (rowsR R)),(52,.I R.length),(53,.I i)],[],800⟩)
  (fun i=>i ≤ R.length ∧ ∀ j (h : j < R.length),j < i → CutOk g p ([] ++ acc.take ((aheadN 0 o acc (keysR R)).getD j 0 - 0)) R[j]) (fun i=>R.length - i) 0 ⟨Nat.zero_le _,fun j _ h=>absurd h (Nat.not_lt_zero _)⟩ (Le.go [] [] rfl rfl (by simp) (by simp)) ?_
 rintro i ⟨hi,hpre⟩
 refine rx (s:=?s15) [3,4,5,8,51,52,53,54] [] [] rfl ?o15 ?q15
 case o15=>simp; rfl
 refine awp_seq ?_
 refine awp_cond _ rfl (fun h16=>?_) fun h16=>?_
 ·simp at h16
  have hw1 : IntKind.i64.wrap ((i : Int) + 1) = (i : Int) + 1:=w64 (by omega) (by omega)
  have hail : i < (aheadN 0 o acc (keysR R)).length:=by rw [aheadN_len h8',hkl]; exact h16
  have hage:=aheadN_ge (List.getElem_mem hail)
  have hgd : (aheadN 0 o acc (keysR R)).getD i 0 = (aheadN 0 o acc (keysR R))[i]:=by rw [List.getD_eq_getElem?_getD,List.getElem?_eq_getElem hail,Option.getD_some]
  obtain ⟨m,hm⟩ : ∃ m,m = (aheadN 0 o acc (keysR R))[i]:=⟨_,rfl⟩
  rw [← hm] at hage hgd
  have hLi : L[i]? = some (m : Int):=by rw [hL,List.getElem?_map,List.getElem?_eq_getElem hail,← hm]; rfl
  have hiL : i < L.length:=(List.getElem?_eq_some_iff.1 hLi).1
  have hLi' : L[i] = (m : Int):=by rw [List.getElem?_eq_getElem hiL] at hLi; exact Option.some.inj hLi
  have hgoal : CutOk g p ([] ++ acc.take ((aheadN 0 o acc (keysR R)).getD i 0 - 0)) R[i] ↔ CutOk g p (acc.take m) R[i]:=by rw [hgd,Nat.sub_zero,List.nil_append]
  have hsdi:=hsd _ (List.getElem_mem h16)
  obtain ⟨r,hr⟩ : ∃ r,r = R[i]:=⟨_,rfl⟩
  have hrm : r.1 ∈ keysR R:=by rw [hr]; exact List.mem_map.2 ⟨_,List.getElem_mem h16,rfl⟩
  rw [← hr] at hgoal hsdi
  have htl : (acc.take m).length = m:=by rw [List.length_take]; omega
  have hks : ∀ x ∈ acc.take m ++ [r.1],0 ≤ x ∧ x < g.size:=fun x hx=>by
   rcases List.mem_append.1 hx with h | h
   ·exact hak x (List.mem_of_mem_take h)
   ·rw [List.mem_singleton] at h; subst h; exact hrk _ hrm
  have hkn : (acc.take m ++ [r.1]).Nodup:=List.nodup_append.2 ⟨han.sublist (List.take_sublist _ _),by simp,fun a ha b hb=>by
   rw [List.mem_singleton] at hb
   subst hb
   exact (List.nodup_append.1 hperm).2.2 a (List.mem_of_mem_take ha) _ hrm⟩
  have hwith:=accept_with_ok (acc.take m) r.1 (by omega)
  have hnet2:=accept_network_ok g p (acc.take m ++ [r.1]) hg hp hkn hks hs
  have hprv:=cut_Proves_ok ⟨netN g,netA g p (joinL (acc.take m ++ [r.1]))⟩ r.2 m (by have:=(hnv _ hks).2.2.1; simp only at this ⊢; omega) hsdi
  have hpd : decide (ProvesP ⟨netN g,netA g p (joinL (acc.take m ++ [r.1]))⟩ r.2 m) = decide (CutOk g p (acc.take m) r):=by
   unfold CutOk
   rw [htl]
  rw [hpd] at hprv
  rw [htl] at hwith
  obtain ⟨W,hW⟩ : ∃ W,W = acc.take m ++ [r.1]:=⟨_,rfl⟩
  have hWl : W.length = m + 1:=by rw [hW,List.length_append,htl]; rfl
  rw [← hW] at hwith hnet2 hprv
  rw [← hWl] at hwith
  obtain ⟨A2,hA2⟩ : ∃ A2,A2 = netA g p (joinL W):=⟨_,rfl⟩
  rw [← hA2] at hnet2 hprv
  have hw2 : IntKind.i64.wrap ((W.length : Int) - 1) = (m : Int):=by rw [hWl,w64 (by omega) (by omega)]; omega
  have hma : m ≤ acc.length:=by omega
  refine awp_skip ?_
  refine awp_seq ?_
  refine awp_block ?_
  refine awp_regc ⟨80,[(3,.pv (gC g)),(4,.pv (pC p)),(5,.pv [ints acc,ints f,.vs 2 false (rowsR R)]),(8,ints L),(11,.I i),(12,.pv [.I r.1,ints r.2]),(51,.vs 2 false (rowsR R)),(52,.I R.length),(53,.I i)],[],1000⟩ rfl ?_ ?_
  ·simp [h16,← hr]
   exact Le.go [] [832] rfl rfl (by simp) (by simp)
  refine awp_dregc ⟨80,[(3,.pv (gC g)),(4,.pv (pC p)),(5,.pv [ints acc,ints f,.vs 2 false (rowsR R)]),(8,ints L),(12,.pv [.I r.1,ints r.2]),(13,ints W),(51,.vs 2 false (rowsR R)),(52,.I R.length),(53,.I i)],[],1200⟩ rfl ?_ ?_
  ·simp [hiL,hLi',hma]
   refine callN1 hwith (by simp [List.map_take]) ?_
   simp
   exact ⟨rfl,Le.go [] [1072] rfl rfl (by simp [fcd,take_map_len]) (by simp)⟩
  refine awp_dregc ⟨80,[(3,.pv (gC g)),(4,.pv (pC p)),(5,.pv [ints acc,ints f,.vs 2 false (rowsR R)]),(8,ints L),(51,.vs 2 false (rowsR R)),(52,.I R.length),(53,.I i),(78,.B (!decide (CutOk g p (acc.take m) r)))],[],1400⟩ rfl ?_ ?_
  ·simp
   refine call0e hnet2 (by simp) ?_
   simp [hw2]
   refine call0e hprv (by simp) ?_
   simp
   exact ⟨rfl,Le.go [] [] rfl rfl (by simp) (by simp)⟩
  refine awp_cond _ rfl (fun h20=>?_) fun h20=>?_
  ·have h20' : ¬ CutOk g p (acc.take m) r:=by simpa using h20
   have hno : ¬ cutsR g p [] o acc R:=fun h=>h20' (hgoal.1 (by rw [hr]; exact hcut.1 h i h16))
   rw [if_neg hno]
   refine rx (s:=?s21) [6] [] [] rfl ?o21 ?q21
   case o21=>simp; rfl
   refine awp_ret ?_
   exact ⟨.inr rfl,RetOk.one (by simp)⟩
  have h20' : CutOk g p (acc.take m) r:=by simpa using h20
  refine awp_skip ?_
  refine awp_reg rfl ?_
  simp
  refine ⟨i + 1,⟨h16,fun j hj hji=>?_⟩,by omega,Le.go [] [] rfl rfl (by simp [hw1]) (by simp)⟩
  rcases Nat.lt_succ_iff_lt_or_eq.1 hji with h | h
  ·exact hpre j hj h
  ·subst h
   have h5:=hgoal.2 h20'
   rw [hr] at h5
   exact h5
 simp at h16
 obtain rfl : i = R.length:=by omega
 have hyes : cutsR g p [] o acc R:=hcut.2 fun j hj=>hpre j hj hj
 rw [if_pos hyes]
 refine awp_exit ?_
 refine hit ?_
 refine rx (s:=?s22) [6] [] [] rfl ?o22 ?q22
 case o22=>simp; rfl
 refine awp_ret ?_
 exact ⟨.inr rfl,RetOk.one (by simp)⟩
end Go.Proofs.YteiabadhhhckfaaGreat
