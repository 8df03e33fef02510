/- Texts of this claim,merged. -/
import Derived.Test.YtlhjelookgjmpaaGreatRe8
import Derived.Test.YtlhjelookgjmpaaGreatRe6
import Derived.Test.YtlhjelookgjmpaaGreatProg
import Derived.KernelRfl
import Derived.Test.YtlhjelookgjmpaaGreatRe7
import Derived.Test.YtlhjelookgjmpaaGreatRe5
set_option linter.unusedSimpArgs false
set_option linter.unusedVariables false
set_option linter.unusedSectionVars false
namespace Go.Proofs.YtlhjelookgjmpaaGreat
open Go
theorem slaw44_CheckerMade : Src Tryz.prog nlaw44_CheckerMade claw44_CheckerMade:=⟨mixed,Tryz.f8,by kernel_rfl,by kernel_rfl,by decide⟩
theorem strustflowmill_Light : Src Tryz.prog ntrustflowmill_Light ctrustflowmill_Light:=⟨mixed,Tryz.f9,by kernel_rfl,by kernel_rfl,by decide⟩
theorem slaw44_awake : Src Tryz.prog nlaw44_awake claw44_awake:=⟨mixed,Tryz.f10,by kernel_rfl,by kernel_rfl,by decide⟩
theorem smade_Dice_Policy : Src Tryz.prog nmade_Dice_Policy cmade_Dice_Policy:=⟨mixed,Tryz.f13,by kernel_rfl,by kernel_rfl,by decide⟩
theorem sref43_For : Src Tryz.prog nref43_For cref43_For:=⟨mixed,Tryz.f14,by kernel_rfl,by kernel_rfl,by decide⟩
theorem schecker_Paths : Src Tryz.prog nchecker_Paths cchecker_Paths:=⟨mixed,Tryz.f15,by kernel_rfl,by kernel_rfl,by decide⟩
theorem sref24_Join : Src Tryz.prog nref24_Join cref24_Join:=⟨mixed,Tryz.f16,by kernel_rfl,by kernel_rfl,by decide⟩
theorem schecker_Check : Src Tryz.prog nchecker_Check cchecker_Check:=⟨mixed,Tryz.f18,by kernel_rfl,by kernel_rfl,by decide⟩
theorem sref44_Check : Src Tryz.prog nref44_Check cref44_Check:=⟨mixed,Tryz.f19,by kernel_rfl,by kernel_rfl,by decide⟩
theorem sref44_Paths : Src Tryz.prog nref44_Paths cref44_Paths:=⟨mixed,Tryz.f20,by kernel_rfl,by kernel_rfl,by decide⟩
theorem sref43_Paths : Src Tryz.prog nref43_Paths cref43_Paths:=⟨mixed,Tryz.f22,by kernel_rfl,by kernel_rfl,by decide⟩
theorem sref24_Has : Src Tryz.prog nref24_Has cref24_Has:=⟨mixed,Tryz.f23,by kernel_rfl,by kernel_rfl,by decide⟩
theorem sref13_Check : Src Tryz.prog nref13_Check cref13_Check:=⟨mixed,Tryz.f26,by kernel_rfl,by kernel_rfl,by decide⟩
theorem sref43_All : Src Tryz.prog nref43_All cref43_All:=⟨mixed,Tryz.f27,by kernel_rfl,by kernel_rfl,by decide⟩
theorem slaw44_bend : Src Tryz.prog nlaw44_bend claw44_bend:=⟨mixed,Tryz.f29,by kernel_rfl,by kernel_rfl,by decide⟩
theorem schecker_All : Src Tryz.prog nchecker_All cchecker_All:=⟨mixed,Tryz.f30,by kernel_rfl,by kernel_rfl,by decide⟩
theorem sref17_Run : Src Tryz.prog nref17_Run cref17_Run:=⟨mixed,Tryz.f31,by kernel_rfl,by kernel_rfl,by decide⟩
theorem sref23_SameInts : Src Tryz.prog nref23_SameInts cref23_SameInts:=⟨mixed,Tryz.f32,by kernel_rfl,by kernel_rfl,by decide⟩
theorem sref44_All : Src Tryz.prog nref44_All cref44_All:=⟨mixed,Tryz.f34,by kernel_rfl,by kernel_rfl,by decide⟩
theorem sref43_Reached : Src Tryz.prog nref43_Reached cref43_Reached:=⟨mixed,Tryz.f39,by kernel_rfl,by kernel_rfl,by decide⟩
theorem scapacity_Check : Src Tryz.prog ncapacity_Check ccapacity_Check:=⟨mixed,Tryz.f40,by kernel_rfl,by kernel_rfl,by decide⟩
theorem schecker_different : Src Tryz.prog nchecker_different cchecker_different:=⟨mixed,Tryz.f41,by kernel_rfl,by kernel_rfl,by decide⟩
theorem schecker_of : Src Tryz.prog nchecker_of cchecker_of:=⟨mixed,Tryz.f42,by kernel_rfl,by kernel_rfl,by decide⟩
theorem schecker_engine_serve : Src Tryz.prog nchecker_engine_serve cchecker_engine_serve:=⟨mixed,Tryz.f43,by kernel_rfl,by kernel_rfl,by decide⟩
theorem schecker_engine_check : Src Tryz.prog nchecker_engine_check cchecker_engine_check:=⟨mixed,Tryz.f47,by kernel_rfl,by kernel_rfl,by decide⟩
theorem sref44_reached : Src Tryz.prog nref44_reached cref44_reached:=⟨mixed,Tryz.f48,by kernel_rfl,by kernel_rfl,by decide⟩
theorem sref44_ahead : Src Tryz.prog nref44_ahead cref44_ahead:=⟨mixed,Tryz.f49,by kernel_rfl,by kernel_rfl,by decide⟩
theorem sref14_Network : Src Tryz.prog nref14_Network cref14_Network:=⟨mixed,Tryz.f50,by kernel_rfl,by kernel_rfl,by decide⟩
theorem sref16_Proves : Src Tryz.prog nref16_Proves cref16_Proves:=⟨mixed,Tryz.f51,by kernel_rfl,by kernel_rfl,by decide⟩
theorem sref13_All : Src Tryz.prog nref13_All cref13_All:=⟨mixed,Tryz.f52,by kernel_rfl,by kernel_rfl,by decide⟩
theorem sref44_path : Src Tryz.prog nref44_path cref44_path:=⟨mixed,Tryz.f53,by kernel_rfl,by kernel_rfl,by decide⟩
theorem sref15_Max : Src Tryz.prog nref15_Max cref15_Max:=⟨mixed,Tryz.f55,by kernel_rfl,by kernel_rfl,by decide⟩
theorem sref43_walk : Src Tryz.prog nref43_walk cref43_walk:=⟨mixed,Tryz.f56,by kernel_rfl,by kernel_rfl,by decide⟩
theorem sref43_Keys : Src Tryz.prog nref43_Keys cref43_Keys:=⟨mixed,Tryz.f57,by kernel_rfl,by kernel_rfl,by decide⟩
theorem sref13_policy : Src Tryz.prog nref13_policy cref13_policy:=⟨mixed,Tryz.f59,by kernel_rfl,by kernel_rfl,by decide⟩
theorem sref17_served : Src Tryz.prog nref17_served cref17_served:=⟨mixed,Tryz.f61,by kernel_rfl,by kernel_rfl,by decide⟩
theorem sref16_Nearest : Src Tryz.prog nref16_Nearest cref16_Nearest:=⟨mixed,Tryz.f62,by kernel_rfl,by kernel_rfl,by decide⟩
theorem scapacity_All : Src Tryz.prog ncapacity_All ccapacity_All:=⟨mixed,Tryz.f70,by kernel_rfl,by kernel_rfl,by decide⟩
theorem schecker_engine_walks : Src Tryz.prog nchecker_engine_walks cchecker_engine_walks:=⟨mixed,Tryz.f72,by kernel_rfl,by kernel_rfl,by decide⟩
theorem sslices_Sorted_int : Src Tryz.prog nslices_Sorted_int cslices_Sorted_int:=⟨mixed,Tryz.f73,by kernel_rfl,by kernel_rfl,by decide⟩
theorem sslices_Values_Lint_int : Src Tryz.prog nslices_Values_Lint_int cslices_Values_Lint_int:=⟨mixed,Tryz.f74,by kernel_rfl,by kernel_rfl,by decide⟩
theorem schecker_engine_before : Src Tryz.prog nchecker_engine_before cchecker_engine_before:=⟨mixed,Tryz.f76,by kernel_rfl,by kernel_rfl,by decide⟩
theorem ssplit_Network : Src Tryz.prog nsplit_Network csplit_Network:=⟨mixed,Tryz.f78,by kernel_rfl,by kernel_rfl,by decide⟩
theorem scut_Proves : Src Tryz.prog ncut_Proves ccut_Proves:=⟨mixed,Tryz.f79,by kernel_rfl,by kernel_rfl,by decide⟩
theorem sref14_Entry : Src Tryz.prog nref14_Entry cref14_Entry:=⟨mixed,Tryz.f80,by kernel_rfl,by kernel_rfl,by decide⟩
theorem sref14_Exit : Src Tryz.prog nref14_Exit cref14_Exit:=⟨mixed,Tryz.f81,by kernel_rfl,by kernel_rfl,by decide⟩
theorem sref16_Valid : Src Tryz.prog nref16_Valid cref16_Valid:=⟨mixed,Tryz.f82,by kernel_rfl,by kernel_rfl,by decide⟩
theorem sref16_Capacity : Src Tryz.prog nref16_Capacity cref16_Capacity:=⟨mixed,Tryz.f83,by kernel_rfl,by kernel_rfl,by decide⟩
theorem sref13_Of : Src Tryz.prog nref13_Of cref13_Of:=⟨mixed,Tryz.f84,by kernel_rfl,by kernel_rfl,by decide⟩
theorem sref44_edge : Src Tryz.prog nref44_edge cref44_edge:=⟨mixed,Tryz.f85,by kernel_rfl,by kernel_rfl,by decide⟩
theorem sref15_Check : Src Tryz.prog nref15_Check cref15_Check:=⟨mixed,Tryz.f86,by kernel_rfl,by kernel_rfl,by decide⟩
theorem sref15_Residual : Src Tryz.prog nref15_Residual cref15_Residual:=⟨mixed,Tryz.f87,by kernel_rfl,by kernel_rfl,by decide⟩
theorem sref43_next : Src Tryz.prog nref43_next cref43_next:=⟨mixed,Tryz.f88,by kernel_rfl,by kernel_rfl,by decide⟩
theorem sref43_entry : Src Tryz.prog nref43_entry cref43_entry:=⟨mixed,Tryz.f89,by kernel_rfl,by kernel_rfl,by decide⟩
theorem sref15_Value : Src Tryz.prog nref15_Value cref15_Value:=⟨mixed,Tryz.f90,by kernel_rfl,by kernel_rfl,by decide⟩
theorem scapacity_Of : Src Tryz.prog ncapacity_Of ccapacity_Of:=⟨mixed,Tryz.f98,by kernel_rfl,by kernel_rfl,by decide⟩
theorem sslices_Collect_int : Src Tryz.prog nslices_Collect_int cslices_Collect_int:=⟨mixed,Tryz.f105,by kernel_rfl,by kernel_rfl,by decide⟩
theorem ssplit_Entry : Src Tryz.prog nsplit_Entry csplit_Entry:=⟨mixed,Tryz.f108,by kernel_rfl,by kernel_rfl,by decide⟩
theorem ssplit_Network_c1 : Src Tryz.prog nsplit_Network_c1 csplit_Network_c1:=⟨mixed,Tryz.f109,by kernel_rfl,by kernel_rfl,by decide⟩
theorem ssplit_Exit : Src Tryz.prog nsplit_Exit csplit_Exit:=⟨mixed,Tryz.f110,by kernel_rfl,by kernel_rfl,by decide⟩
theorem scut_Valid : Src Tryz.prog ncut_Valid ccut_Valid:=⟨mixed,Tryz.f111,by kernel_rfl,by kernel_rfl,by decide⟩
theorem scut_Capacity : Src Tryz.prog ncut_Capacity ccut_Capacity:=⟨mixed,Tryz.f112,by kernel_rfl,by kernel_rfl,by decide⟩
theorem sref15_Valid : Src Tryz.prog nref15_Valid cref15_Valid:=⟨mixed,Tryz.f113,by kernel_rfl,by kernel_rfl,by decide⟩
theorem sflow_Check : Src Tryz.prog nflow_Check cflow_Check:=⟨mixed,Tryz.f127,by kernel_rfl,by kernel_rfl,by decide⟩
theorem sflow_Check_c1 : Src Tryz.prog nflow_Check_c1 cflow_Check_c1:=⟨mixed,Tryz.f143,by kernel_rfl,by kernel_rfl,by decide⟩
theorem sslices_ContainsFunc_Lapi_Arc_api_Arc : Src Tryz.prog nslices_ContainsFunc_Lapi_Arc_api_Arc cslices_ContainsFunc_Lapi_Arc_api_Arc:=⟨mixed,Tryz.f144,by kernel_rfl,by kernel_rfl,by decide⟩
theorem sslices_IndexFunc_Lapi_Arc_api_Arc : Src Tryz.prog nslices_IndexFunc_Lapi_Arc_api_Arc cslices_IndexFunc_Lapi_Arc_api_Arc:=⟨mixed,Tryz.f153,by kernel_rfl,by kernel_rfl,by decide⟩
def modI (n m : Int) : Int:=if m < 1 then 0 else n % m
theorem tmod_emod {n m : Int} (hm : 0 < m) : n.tmod m % m = n % m:=by
 have h:=Int.mul_tdiv_add_tmod n m
 conv=>rhs; rw [← h]
 rw [Int.add_comm,Int.add_mul_emod_self_left]
theorem tmod_range {n m : Int} (hm : 0 < m) : -m < n.tmod m ∧ n.tmod m < m:=⟨Int.lt_tmod_of_pos n hm,Int.tmod_lt_of_pos n hm⟩
def nextD (L : List Int) (a : Nat) (n : Int) : Int × Nat:=if h : a < L.length then (modI L[a] n,a + 1) else (0,a)
abbrev dice (L : List Int) (a : Nat) : Ent:=⟨2,[[ints L,.I a]],0⟩
theorem RetOk.k1 {rs : List (Nat × Option (Bool × Nat))} {st : St} {vs : List AV} {res : AV} {e : Ent} (h1 : resAll st rs = some vs) (hw : Wk (conv [(0,0)] [] st.hp 4 (resV vs)) res) (he : (st.hp 0).map (convE [(0,0)] [] st.hp 4) = some e) : RetOk rs 1 st res [some e] :=
 ⟨vs,h1,[],[],by decide,by simp,by simp,hw,by simpa using he⟩
theorem Mod_ok (n m : Int) (hm : m ≤ 9223372036854775807) : ACalls Tryz.prog nmade_Mod [.I n,.I m] [] (.I (modI n m)) []:=by
 refine smade_Mod.acalls (Nat.le_of_ble_eq_true rfl) (Nat.le_of_ble_eq_true rfl) (Nat.le_refl _) ?_
 show awp _ 0 _ _ ⟨16,[(0,.I n),(1,.I m)],[],16⟩
 refine awp_seq ?_
 refine awp_run (s:=?s1) rfl ?o1 ?q1
 case o1=>simp; rfl
 refine awp_seq ?_
 refine awp_seq ?_
 refine awp_run (s:=?s2) rfl ?o2 ?q2
 case o2=>simp; rfl
 refine awp_cond _ rfl (fun h3=>?_) fun h3=>?_
 ·try simp at h3
  refine awp_seq ?_
  refine awp_run (s:=?s4) rfl ?o4 ?q4
  case o4=>simp; rfl
  refine awp_ret ?_
  exact ⟨.inr rfl,RetOk.one (by simp [modI,h3])⟩
 try simp at h3
 have hm0 : m ≠ 0:=by omega
 have hlt : ¬ m < 1:=by omega
 obtain ⟨t1,t2⟩:=tmod_range (n:=n) (m:=m) (by omega)
 have te:=tmod_emod (n:=n) (m:=m) (by omega)
 refine awp_skip ?_
 refine awp_seq ?_
 refine awp_run (s:=?s5) rfl ?o5 ?q5
 case o5=>simp [hm0]; rfl
 refine awp_seq ?_
 refine awp_seq ?_
 refine awp_run (s:=?s6) rfl ?o6 ?q6
 case o6=>simp; rfl
 refine awp_cond _ rfl (fun h7=>?_) fun h7=>?_
 ·try simp at h7
  have hw : IntKind.i64.wrap (n.tmod m + m) = n.tmod m + m:=w64 (by omega) (by omega)
  have hr : n % m = n.tmod m + m:=by rw [← te,← Int.add_emod_right,Int.emod_eq_of_lt (by omega) (by omega)]
  refine awp_run (s:=?s8) rfl ?o8 ?q8
  case o8=>simp [hw]; rfl
  refine awp_seq ?_
  refine awp_run (s:=?s9) rfl ?o9 ?q9
  case o9=>simp; rfl
  refine awp_ret ?_
  exact ⟨.inr rfl,RetOk.one (by simp [modI,hlt,hr])⟩
 try simp at h7
 have hr : n % m = n.tmod m:=by rw [← te,Int.emod_eq_of_lt (by omega) (by omega)]
 refine awp_skip ?_
 refine awp_seq ?_
 refine awp_run (s:=?s10) rfl ?o10 ?q10
 case o10=>simp; rfl
 refine awp_ret ?_
 exact ⟨.inr rfl,RetOk.one (by simp [modI,hlt,hr])⟩
theorem Roll_ok (L : List Int) : ACalls Tryz.prog nmade_Roll [ints L] [] (.pt 0 0 0) [some (dice L 0)]:=by
 refine smade_Roll.acalls (Nat.le_of_ble_eq_true rfl) (Nat.le_of_ble_eq_true rfl) (Nat.zero_le _) ?_
 show awp _ 0 _ _ ⟨6,[(0,ints L)],[],16⟩
 refine awp_seq ?_
 refine awp_run (s:=?s1) rfl ?o1 ?q1
 case o1=>simp; rfl
 refine awp_seq ?_
 refine awp_run (s:=?s2) rfl ?o2 ?q2
 case o2=>simp; rfl
 refine awp_ret ?_
 exact ⟨.inr rfl,RetOk.out [40] [] rfl (by simp) (by simp) (by simp) (by simp)⟩
theorem Next_ok (L : List Int) (a : Nat) (n : Int) (hl : L.length ≤ 1099511627776) (ha : a ≤ L.length) (hn : n ≤ 9223372036854775807) : ACalls Tryz.prog nmade_Dice_Next [.pt 0 0 0,.I n] [dice L a] (.I (nextD L a n).1) [some (dice L (nextD L a n).2)]:=by
 refine smade_Dice_Next.acalls (Nat.le_of_ble_eq_true rfl) (Nat.le_of_ble_eq_true rfl) (Nat.le_refl _) ?_
 show awp _ 1 _ _ ⟨35,[(0,.pt 0 0 0),(1,.I n)],[(0,some (dice L a))],16⟩
 refine awp_seq ?_
 refine awp_run (s:=?s1) rfl ?o1 ?q1
 case o1=>simp; rfl
 refine awp_seq ?_
 refine awp_seq ?_
 refine awp_drun (s:=?s2) (tr:=?t2) rfl ?o2 ?r2 ?q2
 case o2=>simp; constructor <;> rfl
 case r2=>rfl
 refine awp_cond _ rfl (fun h3=>?_) fun h3=>?_
 ·try simp at h3
  refine awp_seq ?_
  refine awp_run (s:=?s4) rfl ?o4 ?q4
  case o4=>simp; rfl
  refine awp_ret ?_
  have hr : nextD L a n = (0,a):=by unfold nextD; rw [dif_neg (by omega)]
  rw [hr]
  exact ⟨.inr rfl,RetOk.k1 rfl (by simp) (by simp [fcd])⟩
 try simp at h3
 have hw : IntKind.i64.wrap ((a : Int) + 1) = (a : Int) + 1:=w64 (by omega) (by omega)
 have hw0 : IntKind.i64.wrap (a : Int) = (a : Int):=w64 (by omega) (by omega)
 refine awp_skip ?_
 refine awp_seq ?_
 refine awp_run (s:=?s5) rfl ?o5 ?q5
 case o5=>simp [hw]; rfl
 refine awp_seq ?_
 refine awp_drun (s:=?s6) (tr:=?t6) rfl ?o6 ?r6 ?q6
 case o6=>simp [hw0,h3]; refine call0e (Mod_ok _ _ hn) rfl ?_; simp; constructor <;> rfl
 case r6=>rfl
 refine awp_ret ?_
 have hr : nextD L a n = (modI L[a] n,a + 1):=by unfold nextD; rw [dif_pos h3]
 rw [hr]
 exact ⟨.inr rfl,RetOk.k1 rfl (by simp) (by simp [fcd])⟩
theorem modI_lt {n m : Int} (hm : 0 < m) : 0 ≤ modI n m ∧ modI n m < m:=by
 unfold modI
 rw [if_neg (by omega)]
 exact ⟨Int.emod_nonneg _ (by omega),Int.emod_lt_of_pos _ hm⟩
theorem nextD_lt {L : List Int} {a : Nat} {n : Int} (hn : 0 < n) : 0 ≤ (nextD L a n).1 ∧ (nextD L a n).1 < n:=by
 unfold nextD
 split
 ·exact modI_lt hn
 ·exact ⟨Int.le_refl _,hn⟩
theorem nextD_le {L : List Int} {a : Nat} {n : Int} (ha : a ≤ L.length) : (nextD L a n).2 ≤ L.length:=by
 unfold nextD
 split
 ·simp only; omega
 ·exact ha
def ofD (L : List Int) (a : Nat) (l : List Int) : Int:=l.getD (nextD L a l.length).1.toNat 0
theorem One_ok (L : List Int) (a : Nat) (n : Int) (hl : L.length ≤ 1099511627776) (ha : a ≤ L.length) (hn0 : 0 ≤ n) (hn : n ≤ 9223372036854775807) : ACalls Tryz.prog nmade_Dice_One [.pt 0 0 0,.I n] [dice L a] (.B (decide ((nextD L a n).1 = n - 1))) [some (dice L (nextD L a n).2)]:=by
 refine smade_Dice_One.acalls (Nat.le_of_ble_eq_true rfl) (Nat.le_of_ble_eq_true rfl) (Nat.le_refl _) ?_
 show awp _ 1 _ _ ⟨11,[(0,.pt 0 0 0),(1,.I n)],[(0,some (dice L a))],16⟩
 have hw : IntKind.i64.wrap (n - 1) = n - 1:=w64 (by omega) (by omega)
 refine awp_seq ?_
 refine awp_run (s:=?s1) rfl ?o1 ?q1
 case o1=>simp; rfl
 refine awp_seq ?_
 refine awp_run (s:=?s2) rfl ?o2 ?q2
 case o2 =>
  simp
  refine callM1 (i:=0) rfl (e':=dice L a) (by simp [fcd]) (Next_ok L a n hl ha hn) (by simp) (by simp) ?_
  simp [hw,fcd]
  rfl
 refine awp_ret ?_
 exact ⟨.inr rfl,RetOk.k1 rfl (by simp <;> exact wkB rfl) (by simp [fcd])⟩
theorem Of_ok (L : List Int) (a : Nat) (l : List Int) (hl : L.length ≤ 1099511627776) (ha : a ≤ L.length) (h0 : 0 < l.length) (hl2 : l.length ≤ 1099511627776) : ACalls Tryz.prog nmade_Dice_Of [.pt 0 0 0,ints l] [dice L a] (.I (ofD L a l)) [some (dice L (nextD L a l.length).2)]:=by
 refine smade_Dice_Of.acalls (Nat.le_of_ble_eq_true rfl) (Nat.le_of_ble_eq_true rfl) (Nat.le_refl _) ?_
 show awp _ 1 _ _ ⟨12,[(0,.pt 0 0 0),(1,ints l)],[(0,some (dice L a))],16⟩
 obtain ⟨q,hq,hql⟩ : ∃ q : Nat,(nextD L a l.length).1 = q ∧ q < l.length:=by
  have:=nextD_lt (L:=L) (a:=a) (n:=l.length) (by omega)
  exact ⟨(nextD L a l.length).1.toNat,by omega,by omega⟩
 have ho : ofD L a l = l[q]:=by unfold ofD; rw [hq]; simp [hql]
 refine awp_seq ?_
 refine awp_run (s:=?s1) rfl ?o1 ?q1
 case o1=>simp; rfl
 refine awp_seq ?_
 refine awp_run (s:=?s2) rfl ?o2 ?q2
 case o2 =>
  simp
  refine callM1 (i:=0) rfl (e':=dice L a) (by simp [fcd]) (Next_ok L a l.length hl ha (by omega)) (by simp) (by simp) ?_
  simp [hq,hql,fcd]
  rfl
 refine awp_ret ?_
 rw [ho]
 exact ⟨.inr rfl,RetOk.k1 rfl (by simp) (by simp [fcd])⟩
section
variable {P : Program} {np id : Nat} {h : Nat → Option Ent} {K : AV → List Nat → List (Nat × Option Ent) → Prop} {s i off len c k l m : Nat}
@[simp] theorem k_slkl : aK P np id (.slc s true false false) [.rk i off len c,.sc (.int .i64 (k : Int))] h K = (k ≤ len ∧ len ≤ c ∧ (∃ e,h i = some e ∧ e.s = s) ∧ K (.rk i (off + k) (len - k) (c - k)) [i] []):=by
 rw [k_slc]
 refine propext ⟨?_,?_⟩
 ·rintro ⟨l,r,m,n,h1,h2,h4,h5,h6,h7,h3,h10,h11,h8,h9⟩
  obtain rfl:=h6 rfl
  simp at h4 h1
  subst h1
  have : k = l:=by omega
  subst this
  obtain rfl:=h11 rfl
  exact ⟨h2,h3,h8,h9⟩
 ·rintro ⟨h1,h2,h3,h4⟩
  exact ⟨k,len,c,len,rfl,h1,by simp,(fun h=>by cases h),fun _=>rfl,(fun h=>by cases h),h2,Nat.le_refl _,fun _=>rfl,h3,h4⟩
@[simp] theorem k_slkh : aK P np id (.slc s false true false) [.rk i off len c,.sc (.int .i64 (k : Int))] h K = (k ≤ c ∧ (∃ e,h i = some e ∧ e.s = s) ∧ K (.rk i off k c) [i] []):=by
 rw [k_slc]
 refine propext ⟨?_,?_⟩
 ·rintro ⟨l,r,m,n,h1,h2,h4,h5,h6,h7,h3,h10,h11,h8,h9⟩
  obtain rfl:=h5 rfl
  simp at h4 h1
  have : k = r:=by omega
  subst this
  obtain rfl:=h11 rfl
  exact ⟨h3,h8,by simpa using h9⟩
 ·rintro ⟨h1,h3,h4⟩
  exact ⟨0,k,c,len,rfl,Nat.zero_le _,by simp,fun _=>rfl,(fun h=>by cases h),(fun h=>by cases h),h1,Nat.le_refl _,fun _=>rfl,h3,by simpa using h4⟩
@[simp] theorem k_slklh : aK P np id (.slc s true true false) [.rk i off len c,.sc (.int .i64 (l : Int)),.sc (.int .i64 (k : Int))] h K = (l ≤ k ∧ k ≤ c ∧ (∃ e,h i = some e ∧ e.s = s) ∧ K (.rk i (off + l) (k - l) (c - l)) [i] []):=by
 rw [k_slc]
 refine propext ⟨?_,?_⟩
 ·rintro ⟨l',r,m,n,h1,h2,h4,h5,h6,h7,h3,h10,h11,h8,h9⟩
  simp at h4 h1
  have : k = r:=by omega
  subst this
  have : l = l':=by omega
  subst this
  obtain rfl:=h11 rfl
  exact ⟨h2,h3,h8,h9⟩
 ·rintro ⟨h1,h2,h3,h4⟩
  exact ⟨l,k,c,len,rfl,h1,by simp,(fun h=>by cases h),(fun h=>by cases h),(fun h=>by cases h),h2,Nat.le_refl _,fun _=>rfl,h3,h4⟩
@[simp] theorem k_slkm : aK P np id (.slc s true true true) [.rk i off len c,.sc (.int .i64 (l : Int)),.sc (.int .i64 (k : Int)),.sc (.int .i64 (m : Int))] h K = (l ≤ k ∧ k ≤ m ∧ m ≤ c ∧ (∃ e,h i = some e ∧ e.s = s) ∧ K (.rk i (off + l) (k - l) (m - l)) [i] []):=by
 rw [k_slc]
 refine propext ⟨?_,?_⟩
 ·rintro ⟨l',r,m',n,h1,h2,h4,h5,h6,h7,h3,h10,h11,h8,h9⟩
  simp at h4 h1
  have : k = r:=by omega
  subst this
  have : l = l':=by omega
  subst this
  have : m = m':=by omega
  subst this
  exact ⟨h2,h3,h10,h8,h9⟩
 ·rintro ⟨h1,h2,h3,h4,h5⟩
  exact ⟨l,k,m,len,rfl,h1,by simp,(fun h=>by cases h),(fun h=>by cases h),(fun _=>rfl),h2,h3,(fun h=>by cases h),h4,h5⟩
@[simp] theorem k_slrl : aK P np id (.slc s true false false) [.rs i off len,.sc (.int .i64 (k : Int))] h K = (k ≤ len ∧ (∃ e,h i = some e ∧ e.s = s) ∧ K (.rs i (off + k) (len - k)) [i] []):=by
 rw [k_slc]
 refine propext ⟨?_,?_⟩
 ·rintro ⟨l,r,m,n,h1,h2,h4,h5,h6,h7,h3,h10,h8,h9⟩
  obtain rfl:=h6 rfl
  simp at h4 h1
  subst h1
  have : k = l:=by omega
  subst this
  exact ⟨h2,h8,h9⟩
 ·rintro ⟨h1,h3,h4⟩
  exact ⟨k,len,0,len,rfl,h1,by simp,(fun h=>by cases h),fun _=>rfl,(fun h=>by cases h),Nat.le_refl _,rfl,h3,h4⟩
@[simp] theorem k_slrh : aK P np id (.slc s false true false) [.rs i off len,.sc (.int .i64 (k : Int))] h K = (k ≤ len ∧ (∃ e,h i = some e ∧ e.s = s) ∧ K (.rs i off k) [i] []):=by
 rw [k_slc]
 refine propext ⟨?_,?_⟩
 ·rintro ⟨l,r,m,n,h1,h2,h4,h5,h6,h7,h3,h10,h8,h9⟩
  obtain rfl:=h5 rfl
  simp at h4 h1
  have : k = r:=by omega
  subst this
  exact ⟨by omega,h8,by simpa using h9⟩
 ·rintro ⟨h1,h3,h4⟩
  exact ⟨0,k,0,len,rfl,Nat.zero_le _,by simp,fun _=>rfl,(fun h=>by cases h),(fun h=>by cases h),h1,rfl,h3,by simpa using h4⟩
end
theorem Le.keep {np : Nat} {st st' : St} (hsz : st'.sz = st.sz) (hn : st.n ≤ st'.n) (ht : ∀ p ∈ st'.t,st.get p.1 = p.2) (hh : ∀ p ∈ st'.h,∀ e,p.2 = some e → st.hp p.1 = some e) : Le np st st':=by
 intro T0 M0 w0 T M a w ok hnp
 have hp : ∀ id e,st'.hp id = some e → st.hp id = some e:=by
  intro id e he
  unfold St.hp at he
  cases hl : lkp st'.h id with
  | none=>rw [hl] at he; cases he
  | some v =>
    rw [hl] at he
    exact hh _ (lkp_mem hl) e he
 refine ⟨T,M,⟨ok.sz.trans hsz.symm,ok.df,fun i=>?_,⟨fun id e he=>ok.hs.ent id e (hp id e he),fun id id' e e' g g' b h1 h2=>ok.hs.inj id id' e e' g g' b (hp _ _ h1) (hp _ _ h2)⟩,fun id g hg=>Nat.lt_of_lt_of_le (ok.dom id g hg) hn,ok.after⟩,Nat.le_trans hnp hn⟩
 unfold St.get at *
 cases hl : lkp st'.t i with
 | none=>exact .dead _ _
 | some v =>
   have:=ht _ (lkp_mem hl)
   simp only at this
   show Rep T w M v _
   rw [← this]
   exact ok.tm i
theorem RetOk.m1 {rs : List (Nat × Option (Bool × Nat))} {st : St} {vs : List AV} {res : AV} {e : Ent} (i : Nat) (hi : 1 ≤ i) (h1 : resAll st rs = some vs) (hw : Wk (conv [(0,0),(i,1)] [] st.hp 4 (resV vs)) res) (h0 : st.hp 0 = none) (he : (st.hp i).map (convE [(0,0),(i,1)] [] st.hp 4) = some e) : RetOk rs 1 st res [none,some e] :=
 ⟨vs,h1,[i],[],by simp [List.range,List.range.loop]; omega,by simpa using hi,by simp,by simpa [List.range,List.range.loop] using hw,by simpa [List.range,List.range.loop,h0] using he⟩
theorem GrOk.lt {g : Gr} (h : GrOk g) : ∀ (j i : Nat) (hi : i < g.edges.length) (hj : j < g.edges.length),i < j → Bef g.edges[i] g.edges[j]
 | 0,_,_,_,h0=>by omega
 | j + 1,i,hi,hj,hij=>by
   have h1 : Bef g.edges[j] g.edges[j + 1]:=cmpE_lt.1 ((h.2 (j + 1) hj).2.2.2 (by omega))
   rcases Nat.lt_or_ge i j with h2 | h2
   ·have h3:=GrOk.lt h j i hi (by omega) h2
    unfold Bef at *
    omega
   ·obtain rfl : i = j:=by omega
    exact h1
theorem GrOk.mono {g : Gr} (h : GrOk g) (e : Ed) : ∀ (i j : Nat) (hi : i < g.edges.length) (hj : j < g.edges.length),i ≤ j → Bef g.edges[j] e → Bef g.edges[i] e:=by
 intro i j hi hj hij hb
 rcases Nat.lt_or_ge i j with h2 | h2
 ·have h3:=h.lt j i hi hj h2
  unfold Bef at *
  omega
 ·obtain rfl : i = j:=by omega
  exact hb
section
variable {P : Program} {np id : Nat} {h : Nat → Option Ent} {K : AV → List Nat → List (Nat × Option Ent) → Prop} {f : FuncId} {first capt args args' : List AV} {res : AV}
theorem callM1s {i j : Nat} {e e' ej : Ent} {hs' : List (Option Ent)} (hij : j ≠ i) (hnp : np ≤ j) (hi : h i = some e) (hj : h j = some ej) (hee : convE [(i,0)] [j] h 4 e = e') (hc : ACalls P f args' [e'] res hs') (h8 : hs'.length ≤ 9) (he : (first ++ args ++ capt).map (conv [(i,0)] [j] h 4) = args')
  (hk : K (conv (swp [i] id) [] (fun _=>none) 4 res) [i,j] ((hs'.zipIdx.map fun (e,k)=>((i :: (List.range 8).map (id + ·)).getD k 0,e.map (convE (swp [i] id) [] (fun _=>none) 4))) ++ [(j,some { ej with ro:=ej.rows.length })])) : aK P np id .call (.fn (.func f) first capt :: args) h K :=
 ⟨[i],[j],true,args',[e'],res,hs',by simp,by simpa using hij,by simpa using hnp,by rw [show [i].zipIdx = [(i,0)] from rfl,he]; exact wkL_refl _,by rw [show [i].zipIdx = [(i,0)] from rfl]; simpa [hi] using hee,hc,by simpa using h8,.inl rfl,by simpa [swp,hj] using hk⟩
end
theorem idxE_bef {l : List Ed} {e : Ed} {i : Nat} (h : i < idxE l e) (hi : i < l.length) : Bef l[i] e:=by
 have:=List.not_of_lt_findIdx h
 simpa using this
theorem idxE_not {l : List Ed} {e : Ed} (h : idxE l e < l.length) : ¬ Bef l[idxE l e] e:=by
 have h1 : l.findIdx (fun x=>!decide (Bef x e)) < l.length:=h
 have:=List.findIdx_getElem (w:=h1)
 intro hb
 have h2 : decide (Bef l[l.findIdx (fun x=>!decide (Bef x e))] e) = true:=decide_eq_true hb
 simp only [h2] at this
 cases this
theorem plusE_ok {g : Gr} {e : Ed} (hg : GrOk g) (hf : Fits g e) (h1 : 1 ≤ e.v) (h3 : e.v ≤ 3) (ha : ¬ AtE g.edges (idxE g.edges ⟨e.f,e.t,0⟩) e.f e.t) (hl : g.edges.length < 500) : GrOk (plusE g e):=by
 have hle:=idxE_le g.edges ⟨e.f,e.t,0⟩
 have hb : ∀ i (hi : i < g.edges.length),i < idxE g.edges ⟨e.f,e.t,0⟩ → Bef g.edges[i] e:=fun i hi h=>by
  have:=idxE_bef h hi
  exact this
 have hn : ∀ (h : idxE g.edges ⟨e.f,e.t,0⟩ < g.edges.length),Bef e g.edges[idxE g.edges ⟨e.f,e.t,0⟩]:=fun h=>by
  have h2:=idxE_not h
  have h4 : ¬ (g.edges[idxE g.edges ⟨e.f,e.t,0⟩].f = e.f ∧ g.edges[idxE g.edges ⟨e.f,e.t,0⟩].t = e.t):=fun q=>ha ⟨h,q⟩
  simp only [Bef] at h2 ⊢
  omega
 unfold plusE
 generalize idxE g.edges ⟨e.f,e.t,0⟩ = k at *
 have hlen : (g.edges.take k ++ e :: g.edges.drop k).length = g.edges.length + 1:=by simp; omega
 have hget : ∀ i (hi : i < (g.edges.take k ++ e :: g.edges.drop k).length),(g.edges.take k ++ e :: g.edges.drop k)[i] = if h : i < k then g.edges[i]'(by omega) else if h2 : i = k then e else g.edges[i - 1]'(by omega):=by
  intro i hi
  have htl : (g.edges.take k).length = k:=by simp; omega
  by_cases h : i < k
  ·rw [dif_pos h,List.getElem_append_left (by omega),List.getElem_take]
  ·rw [dif_neg h,List.getElem_append_right (by omega)]
   by_cases h2 : i = k
   ·subst h2
    simp [htl]
   ·rw [dif_neg h2]
    rw [List.getElem_cons]
    rw [dif_neg (by omega),List.getElem_drop]
    congr 1
    omega
 refine ⟨⟨hg.1.1,hg.1.2.1,by simp only [hlen]; omega,hg.1.2.2.2⟩,fun i hi=>?_⟩
 simp only at hi
 have hfit : ∀ x : Ed,Fits ⟨g.size,g.edges.take k ++ e :: g.edges.drop k,g.gone⟩ x ↔ Fits g x:=fun x=>Iff.rfl
 simp only [hfit,cmpE_lt,hget]
 have hE:=fun j (hj : j < g.edges.length)=>hg.2 j hj
 by_cases h : i < k
 ·simp only [dif_pos h]
  refine ⟨(hE i (by omega)).1,(hE i (by omega)).2.1,(hE i (by omega)).2.2.1,fun h0=>?_⟩
  rw [dif_pos (by omega)]
  exact cmpE_lt.1 ((hE i (by omega)).2.2.2 h0)
 ·simp only [dif_neg h]
  by_cases h2 : i = k
  ·subst h2
   simp only [dif_pos]
   refine ⟨hf,h1,h3,fun h0=>?_⟩
   rw [dif_pos (by omega)]
   exact hb _ _ (by omega)
  ·simp only [dif_neg h2]
   refine ⟨(hE (i - 1) (by omega)).1,(hE (i - 1) (by omega)).2.1,(hE (i - 1) (by omega)).2.2.1,fun h0=>?_⟩
   rw [dif_neg (by omega)]
   by_cases h4 : i - 1 = k
   ·rw [dif_pos h4]
    subst h4
    exact hn _
   ·rw [dif_neg h4]
    exact hg.lt _ _ _ _ (by omega)
theorem withR_ok {g : Gr} {e : Ed} (h : (withR g e).2 = 0) : GrOk g ∧ Fits g e ∧ (1 ≤ e.v ∧ e.v ≤ 3) ∧ ¬ AtE g.edges (idxE g.edges ⟨e.f,e.t,0⟩) e.f e.t ∧ g.edges.length < 500 ∧ (withR g e).1 = plusE g e ∧ GrOk (plusE g e):=by
 have key : GrOk g ∧ Fits g e ∧ (1 ≤ e.v ∧ e.v ≤ 3) ∧ ¬ AtE g.edges (idxE g.edges ⟨e.f,e.t,0⟩) e.f e.t ∧ g.edges.length ≠ 500 ∧ (withR g e).1 = plusE g e:=by
  unfold withR at *
  split at h
  ·simp at h
  split at h
  ·simp at h
  split at h
  ·simp at h
  split at h
  ·simp at h
  split at h
  ·simp at h
  simp_all
 obtain ⟨h1,h2,h3,h4,h5,h6⟩:=key
 have h7 : g.edges.length < 500:=by have:=h1.1.2.2.1; omega
 exact ⟨h1,h2,h3,h4,h7,h6,plusE_ok h1 h2 h3.1 h3.2 h4 h7⟩
theorem EntUp.eq {nl : List (Nat × Nat)} {e e' : Ent} (h : e = e') (hr : e'.ro ≤ e'.rows.length) : EntUp nl e e':=by
 subst h
 exact EntUp.rfl' hr
theorem EntUp.row {nl : List (Nat × Nat)} {s ro : Nat} {e : Ent} {r r' : List AV} (h : e = ⟨s,[r],ro⟩) (hr : ro ≤ 1) (hu : UpL nl r r') (hs : s ≠ 0:=by decide) : EntUp nl e ⟨s,[r'],ro⟩:=by
 subst h
 refine ⟨rfl,Nat.le_refl _,hr,.inr ⟨hs,rfl,fun i=>?_⟩⟩
 match i with
 | 0=>exact hu
 | _ + 1=>exact trivial
theorem upL_of {nl : List (Nat × Nat)} : ∀ {xs ys : List AV},WkL xs ys → UpL nl xs ys
 | [],[],_=>trivial
 | _ :: _,_ :: _,h=>⟨.inl h.1,upL_of h.2⟩
 | [],_ :: _,h=>False.elim h
 | _ :: _,[],h=>False.elim h
theorem Le.ents {np : Nat} {st st' : St} (ρ : List (Nat × Nat)) (sn : List Nat) (hsz : st'.sz = st.sz)
  (h0 : (ρ.map (·.1)).Nodup) (h1 : (ρ.map (·.2)).Nodup) (h2 : ∀ p ∈ ρ,p.2 < st'.n ∧ (p.2 < np → p.1 = p.2)) (h4 : ∀ i ∈ sn,np ≤ i ∧ i ∉ ρ.map (·.1)) (h5 : np ≤ st'.n)
  (ht : ∀ p ∈ st'.t,Wk (conv ρ sn st.hp 4 (st.get p.1)) p.2)
  (hh : ∀ p ∈ st'.h,∃ q e e',p.2 = some e' ∧ (q,p.1) ∈ ρ ∧ st.hp q = some e ∧ EntUp [] (convE ρ sn st.hp 4 e) e') : Le np st st' :=
 Le.lst ρ sn [] hsz h0 h1 h2 (by simp) h4 h5 (by simp) (fun p hp=>.inl (ht p hp)) fun p hp e' he'=>by
  obtain ⟨q,e,e2,h1,h2,h3,h4⟩:=hh p hp
  rw [he'] at h1
  cases h1
  exact .inl ⟨(q,p.1),h2,rfl,e,h3,h4⟩
abbrev zG : Ent:=⟨3,[[.I 0,.nilS,.nilS]],0⟩
def Still (capt : List AV) : Prop:=∀ ρ sn h n,capt.map (conv ρ sn h (n + 1)) = capt
def idxQ {α : Type} (l : List α) (q : α → Bool) : Int:=if l.findIdx q < l.length then (l.findIdx q : Int) else -1
theorem idxQ_at {α : Type} {l : List α} {q : α → Bool} {k : Nat} (hk : k < l.length) (h1 : ∀ i,i < k → ∀ h : i < l.length,q l[i] = false) (h2 : q l[k] = true) : idxQ l q = k:=by
 have : l.findIdx q = k:=by
  rw [List.findIdx_eq hk]
  exact ⟨h2,fun j hj=>by simpa using h1 j hj (by omega)⟩
 unfold idxQ
 rw [this,if_pos hk]
theorem idxQ_no {α : Type} {l : List α} {q : α → Bool} (h1 : ∀ i,i < l.length → ∀ h : i < l.length,q l[i] = false) : idxQ l q = -1:=by
 have : l.findIdx q = l.length:=by
  rw [List.findIdx_eq_length]
  intro x hx
  obtain ⟨i,hi,rfl⟩:=List.mem_iff_getElem.1 hx
  exact h1 i hi hi
 unfold idxQ
 rw [this,if_neg (by omega)]
theorem IndexFuncE_ok (f : FuncId) (capt : List AV) (q : Ed → Bool) (l : List Ed) (hl : l.length ≤ 1099511627776) (hs : Still capt) (hc : ∀ e ∈ l,ACalls Tryz.prog f (eE e :: capt) [] (.B (q e)) []) : ACalls Tryz.prog nslices_IndexFunc_Lapi_Edge_api_Edge [eEs l,.fn (.func f) [] capt] [] (.I (idxQ l q)) []:=by
 have hs2 : ∀ ρ sn h,capt.map (conv ρ sn h 2) = capt:=fun _ _ _=>hs _ _ _ 1
 have hs3 : ∀ ρ sn h,capt.map (conv ρ sn h 3) = capt:=fun _ _ _=>hs _ _ _ 2
 have hs4 : ∀ ρ sn h,capt.map (conv ρ sn h 4) = capt:=fun _ _ _=>hs _ _ _ 3
 refine sslices_IndexFunc_Lapi_Edge_api_Edge.acalls (Nat.le_of_ble_eq_true rfl) (Nat.le_of_ble_eq_true rfl) (Nat.le_refl _) ?_
 show awp _ 0 _ _ ⟨19,[(0,eEs l),(1,.fn (.func f) [] capt)],[],16⟩
 refine awp_seq ?_
 refine awp_run (s:=?s1) rfl ?o1 ?q1
 case o1=>simp; rfl
 refine awp_seq ?_
 refine awp_seq ?_
 refine awp_run (s:=?s2) rfl ?o2 ?q2
 case o2=>simp; rfl
 refine awp_block ?_
 refine awp_loop (ι:=Nat) (fun k=>⟨19,[(0,eEs l),(1,.fn (.func f) [] capt),(7,.I l.length),(8,.I k)],[],16⟩) (fun k=>k ≤ l.length ∧ ∀ i,i < k → ∀ h : i < l.length,q l[i] = false) (fun k=>l.length - k) (0) ?_ (Le.snap [] rfl rfl (by simp [hs2,hs3,hs4])) ?_
 ·simp
 rintro k ⟨hk,hp⟩
 refine awp_seq ?_
 refine awp_run (s:=?s3) rfl ?o3 ?q3
 case o3=>simp; rfl
 refine awp_seq ?_
 refine awp_cond _ rfl (fun h4=>?_) fun h4=>?_
 ·try simp at h4
  have hw2 : IntKind.i64.wrap ((k : Int) + 1) = (k : Int) + 1:=w64 (by omega) (by omega)
  have hck:=hc l[k] (List.getElem_mem h4)
  refine awp_skip ?_
  refine awp_seq ?_
  refine awp_block ?_
  refine awp_seq ?_
  refine awp_run (s:=?s5) rfl ?o5 ?q5
  case o5=>simp [h4,hw2]; rfl
  refine awp_seq ?_
  refine awp_run (s:=?s6) rfl ?o6 ?q6
  case o6 =>
   simp [h4,hw2]
   refine call0e hck ?_ ?_
   ·simp [hs2,hs3,hs4]
   simp [h4,hw2]; rfl
  refine awp_cond _ rfl (fun h7=>?_) fun h7=>?_
  ·try simp at h7
   refine awp_seq ?_
   refine awp_run (s:=?s8) rfl ?o8 ?q8
   case o8=>simp [h4,hw2]; rfl
   refine awp_ret ?_
   exact ⟨.inr rfl,RetOk.one (by simp [idxQ_at h4 hp h7])⟩
  try simp at h7
  refine awp_skip ?_
  refine awp_run (s:=?s9) rfl ?o9 ?q9
  case o9=>simp [h4,hw2]; rfl
  refine ⟨k + 1,⟨h4,fun i hi=>?_⟩,by omega,Le.snap [] rfl rfl (by simp [h4,hw2,hs2,hs3,hs4])⟩
  rcases Nat.lt_succ_iff_lt_or_eq.1 hi with h | rfl
  ·exact hp i h
  ·exact fun _=>h7
 try simp at h4
 have hall : ∀ i,i < l.length → ∀ h : i < l.length,q l[i] = false:=fun i hi=>hp i (by omega)
 refine awp_exit ?_
 refine hit ?_
 refine awp_seq ?_
 refine awp_run (s:=?s10) rfl ?o10 ?q10
 case o10=>simp; rfl
 refine awp_ret ?_
 exact ⟨.inr rfl,RetOk.one (by simp [idxQ_no hall])⟩
abbrev rowsE (l : List Ed) : List (List AV):=l.map fun e=>[AV.I e.f,AV.I e.t,AV.I e.v]
theorem filter_of_not {l : List Ed} {q : Ed → Bool} (h : ∀ i,i < l.length → ∀ h : i < l.length,q l[i] = false) : l.filter (fun e=>!q e) = l:=by
 rw [List.filter_eq_self]
 intro x hx
 obtain ⟨i,hi,rfl⟩:=List.mem_iff_getElem.1 hx
 simp [h i hi hi]
theorem filter_take_succ (l : List Ed) (q : Ed → Bool) (j : Nat) (h : j < l.length) : (l.take (j + 1)).filter (fun e=>!q e) = (l.take j).filter (fun e=>!q e) ++ if q l[j] = true then [] else [l[j]]:=by
 rw [← List.take_concat_get h,List.concat_eq_append,List.filter_append]
 congr 1
 cases hq : q l[j] <;> simp [hq]
set_option maxRecDepth 100000 in
theorem DeleteFuncE_ok (f : FuncId) (capt : List AV) (q : Ed → Bool) (l : List Ed) (n m : Nat) (hn : l.length = n) (hm : (l.filter fun e=>!q e).length = m) (hl : n ≤ 1099511627776) (hs : Still capt) (hc : ∀ e ∈ l,ACalls Tryz.prog f (eE e :: capt) [] (.B (q e)) []) :
  ACalls Tryz.prog nslices_DeleteFunc_Lapi_Edge_api_Edge [.rs 0 0 n,.fn (.func f) [] capt] [⟨3,rowsE l,0⟩] (.rs 0 0 m) [some ⟨3,rowsE (l.filter fun e=>!q e) ++ List.replicate (n - m) [.I 0,.I 0,.I 0],0⟩]:=by
 have hs2 : ∀ ρ sn h,capt.map (conv ρ sn h 2) = capt:=fun _ _ _=>hs _ _ _ 1
 have hs3 : ∀ ρ sn h,capt.map (conv ρ sn h 3) = capt:=fun _ _ _=>hs _ _ _ 2
 have hs4 : ∀ ρ sn h,capt.map (conv ρ sn h 4) = capt:=fun _ _ _=>hs _ _ _ 3
 refine sslices_DeleteFunc_Lapi_Edge_api_Edge.acalls (Nat.le_of_ble_eq_true rfl) (Nat.le_of_ble_eq_true rfl) (Nat.le_of_ble_eq_true rfl) ?_
 show awp _ 1 _ _ ⟨42,[(0,.rs 0 0 n),(1,.fn (.func f) [] capt)],[(0,some ⟨3,rowsE l,0⟩)],16⟩
 have hmn : m ≤ n:=by rw [← hm,← hn]; exact List.length_filter_le _ _
 refine awp_regc ⟨42,[(0,.rs 0 0 n),(1,.fn (.func f) [] capt)],[(0,some ⟨3,rowsE l,0⟩)],24⟩ rfl ?_ ?_
 ·simp
  exact Le.keep rfl (Nat.le_refl _) (by simp) (by simp)
 refine awp_regc ⟨42,[(0,.rs 0 0 n),(1,.fn (.func f) [] capt),(5,.I (idxQ l q))],[(0,some ⟨3,rowsE l,0⟩)],56⟩ rfl ?_ ?_
 ·simp
  refine call0s [0] (IndexFuncE_ok f capt q l (by omega) hs hc) ?_ (.sc _) ?_
  ·simp [hs2,hs3,hs4,← hn,fcd,take_map_len]
  simp
  exact Le.keep rfl (Nat.le_refl _) (by simp) (by simp)
 refine awp_seq ?_
 refine awp_regc ⟨42,[(0,.rs 0 0 n),(1,.fn (.func f) [] capt),(5,.I (idxQ l q)),(12,.B (decide (idxQ l q = -1)))],[(0,some ⟨3,rowsE l,0⟩)],72⟩ rfl ?_ ?_
 ·simp
  exact Le.keep rfl (Nat.le_refl _) (by simp <;> rw [Bool.eq_iff_iff] <;> simp) (by simp)
 refine awp_cond _ rfl (fun h=>?_) fun h=>awp_skip ?_
 ·simp only [decide_eq_true_eq] at h
  have hno : ∀ i,i < l.length → ∀ h : i < l.length,q l[i] = false:=by
   intro i hi _
   unfold idxQ at h
   split at h
   ·omega
   ·rename_i hnl
    have : l.findIdx q = l.length:=by have:=List.findIdx_le_length (xs:=l) (p:=q); omega
    rw [List.findIdx_eq_length] at this
    exact this _ (List.getElem_mem hi)
  have hf:=filter_of_not hno
  rw [hf] at hm ⊢
  obtain rfl : n = m:=by omega
  refine awp_seq ?_
  refine awp_run (s:=?s1) rfl ?o1 ?q1
  case o1=>simp; rfl
  refine awp_ret ?_
  refine ⟨.inr rfl,⟨[.rs 0 0 n],rfl,[],[],by simp [List.range,List.range.loop],by simp,by simp,?_,?_⟩⟩
  ·simp [List.range,List.range.loop]
  ·simp [List.range,List.range.loop,fcd]
 simp only [decide_eq_false_iff_not] at h
 obtain ⟨i0,hi0,hlt,hbef,hat⟩ : ∃ i0 : Nat,idxQ l q = i0 ∧ i0 < l.length ∧ (∀ i,i < i0 → ∀ h : i < l.length,q l[i] = false) ∧ ∀ h : i0 < l.length,q l[i0] = true:=by
  unfold idxQ at h ⊢
  split at h
  ·rename_i hlt
   refine ⟨l.findIdx q,by rw [if_pos hlt],hlt,fun i hi _=>?_,fun h=>List.findIdx_getElem (w:=h)⟩
   simpa using List.not_of_lt_findIdx hi
  ·omega
 rw [hi0]
 have hA0 : (l.take (i0 + 1)).filter (fun e=>!q e) = l.take i0:=by
  rw [filter_take_succ l q i0 hlt,if_pos (hat hlt),List.append_nil]
  refine filter_of_not fun i hi h=>?_
  rw [List.length_take] at hi
  simp only [List.getElem_take]
  exact hbef i (by omega) (by omega)
 have hw0 : IntKind.i64.wrap ((i0 : Int) + 1) = ((i0 + 1 : Nat) : Int):=by rw [w64 (by omega) (by omega)]; omega
 let C : Nat × List Ed → St:=fun p=>⟨42,[(0,.rs 0 0 n),(1,.fn (.func f) [] capt),(5,.I ((l.take p.1).filter fun e=>!q e).length),(6,.I p.1)],[(0,some ⟨3,rowsE ((l.take p.1).filter (fun e=>!q e) ++ p.2 ++ l.drop p.1),0⟩)],96⟩
 refine awp_seq ?_
 refine awp_regc (C (i0 + 1,[l[i0]])) rfl ?_ ?_
 ·simp [hw0]
  refine Le.keep rfl (Nat.le_refl _) ?_ ?_
  ·simp only [C,hA0]
   simp
   omega
  ·simp only [C,hA0]
   simp
 refine awp_block ?_
 refine awp_loop C (fun p : Nat × List Ed=>p.1 ≤ n ∧ p.2 ≠ [] ∧ ((l.take p.1).filter fun e=>!q e).length + p.2.length = p.1) (fun p : Nat × List Ed=>n - p.1) (i0 + 1,[l[i0]]) ?_ (Le.refl _ _) ?_
 ·simp only [hA0]
  simp
  omega
 rintro ⟨j,M⟩ ⟨hj,hM,hlen⟩
 simp only at hj hM hlen ⊢
 obtain ⟨A,hA⟩ : ∃ A,A = (l.take j).filter fun e=>!q e:=⟨_,rfl⟩
 rw [← hA] at hlen
 have hC : C (j,M) = ⟨42,[(0,.rs 0 0 n),(1,.fn (.func f) [] capt),(5,.I A.length),(6,.I j)],[(0,some ⟨3,rowsE (A ++ M ++ l.drop j),0⟩)],96⟩:=by subst hA; rfl
 rw [hC]
 refine awp_seq ?_
 refine awp_regc ⟨42,[(0,.rs 0 0 n),(1,.fn (.func f) [] capt),(5,.I A.length),(6,.I j),(19,.B (decide (j < n)))],[(0,some ⟨3,rowsE (A ++ M ++ l.drop j),0⟩)],128⟩ rfl ?_ ?_
 ·simp
  exact Le.keep rfl (Nat.le_refl _) (by simp) (by simp)
 refine awp_cond _ rfl (fun h=>awp_skip ?_) fun h=>awp_exit (hit ?_)
 ·simp only [decide_eq_true_eq] at h
  have hjl : j < l.length:=by omega
  match M,hM,hlen with
  | m0 :: M1,_,hlen =>
  simp only [List.length_cons] at hlen
  have hnext:=filter_take_succ l q j hjl
  rw [← hA] at hnext
  have hget : (rowsE (A ++ m0 :: M1 ++ l.drop j))[j]? = some [AV.I l[j].f,AV.I l[j].t,AV.I l[j].v]:=by
   rw [List.getElem?_map,List.getElem?_append_right (by simp; omega),List.getElem?_drop,show j + (j - (A ++ m0 :: M1).length) = j by simp; omega,List.getElem?_eq_getElem hjl]
   rfl
  have hget2 : (rowsE (A ++ m0 :: M1 ++ l.drop j))[A.length]? = some [AV.I m0.f,AV.I m0.t,AV.I m0.v]:=by
   rw [List.getElem?_map,List.append_assoc,List.getElem?_append_right (by omega)]
   simp
  have hset : (rowsE (A ++ m0 :: M1 ++ l.drop j)).set A.length [AV.I l[j].f,AV.I l[j].t,AV.I l[j].v] = rowsE ((A ++ [l[j]]) ++ (M1 ++ [l[j]]) ++ l.drop (j + 1)):=by
   have e1 : l.drop j = l[j] :: l.drop (j + 1):=List.drop_eq_getElem_cons hjl
   rw [e1]
   simp [rowsE,List.set_append]
  have hmore : A ++ m0 :: M1 ++ l.drop j = A ++ (m0 :: M1 ++ [l[j]]) ++ l.drop (j + 1):=by
   have e1 : l.drop j = l[j] :: l.drop (j + 1):=List.drop_eq_getElem_cons hjl
   rw [e1]
   simp
  generalize hrows : rowsE (A ++ m0 :: M1 ++ l.drop j) = R at *
  have hRl : R.length = n:=by rw [← hrows]; simp; omega
  have hck:=hc l[j] (List.getElem_mem hjl)
  generalize hv : l[j] = v at *
  refine awp_cut (ι:=List Ed × List Ed) (fun p=>⟨42,[(0,.rs 0 0 n),(1,.fn (.func f) [] capt),(5,.I p.1.length),(6,.I j)],[(0,some ⟨3,rowsE (p.1 ++ p.2 ++ l.drop (j + 1)),0⟩)],272⟩)
   (fun p=>p.1 = (l.take (j + 1)).filter (fun e=>!q e) ∧ p.2 ≠ [] ∧ p.1.length + p.2.length = j + 1) ?_ ?_
  ·refine awp_block ?_
   refine awp_regc ⟨42,[(0,.rs 0 0 n),(1,.fn (.func f) [] capt),(5,.I A.length),(6,.I j),(7,.pt 160 0 0)],[(0,some ⟨3,R,0⟩),(160,some ⟨3,[[.I v.f,.I v.t,.I v.v]],0⟩)],176⟩ rfl ?_ ?_
   ·simp [h,hget]
    exact Le.keep rfl (Nat.le_refl _) (by simp) (by simp)
   refine awp_regc ⟨42,[(0,.rs 0 0 n),(1,.fn (.func f) [] capt),(5,.I A.length),(6,.I j),(7,.pt 160 0 0),(29,.B (!q v))],[(0,some ⟨3,R,0⟩),(160,some ⟨3,[[.I v.f,.I v.t,.I v.v]],0⟩)],208⟩ rfl ?_ ?_
   ·simp
    refine call0e hck ?_ ?_
    ·simp [hs2,hs3,hs4]
    simp
    exact Le.keep rfl (Nat.le_refl _) (by simp) (by simp)
   refine awp_cond _ rfl (fun h5=>?_) fun h5=>awp_skip ?_
   ·simp only [Bool.not_eq_true'] at h5
    rw [h5] at hnext
    refine awp_regc ⟨42,[(0,.rs 0 0 n),(1,.fn (.func f) [] capt),(5,.I A.length),(6,.I j)],[(0,some ⟨3,rowsE ((A ++ [v]) ++ (M1 ++ [v]) ++ l.drop (j + 1)),0⟩)],248⟩ rfl ?_ ?_
    ·simp [hget2,show A.length < n by omega,splice,hset]
     exact Le.keep rfl (Nat.le_refl _) (by simp) (by simp)
    have hwA : IntKind.i64.wrap ((A.length : Int) + 1) = ((A.length + 1 : Nat) : Int):=by rw [w64 (by omega) (by omega)]; omega
    refine awp_reg rfl ?_
    simp [hwA]
    refine ⟨A ++ [v],M1 ++ [v],⟨by rw [hnext]; simp,by simp,by simp; omega⟩,Le.keep rfl (Nat.le_refl _) (by simp) (by simp)⟩
   ·simp only [Bool.not_eq_false'] at h5
    rw [h5] at hnext
    refine ⟨(A,m0 :: M1 ++ [v]),⟨by rw [hnext]; simp,by simp,by simp; omega⟩,Le.keep rfl (Nat.le_of_ble_eq_true rfl) (by simp) ?_⟩
    rw [← hmore,hrows]
    simp
  rintro ⟨A',M'⟩ ⟨p1,p2,p3⟩
  simp only at p1 p2 p3 ⊢
  have hwj : IntKind.i64.wrap ((j : Int) + 1) = ((j + 1 : Nat) : Int):=by rw [w64 (by omega) (by omega)]; omega
  refine awp_reg rfl ?_
  simp [hwj]
  refine ⟨j + 1,M',⟨by omega,p2,by rw [← p1]; omega⟩,by omega,?_⟩
  have hD : C (j + 1,M') = ⟨42,[(0,.rs 0 0 n),(1,.fn (.func f) [] capt),(5,.I A'.length),(6,.I ((j + 1 : Nat) : Int))],[(0,some ⟨3,rowsE (A' ++ M' ++ l.drop (j + 1)),0⟩)],96⟩:=by rw [p1]
  rw [hD]
  refine Le.ents [(0,0)] [] rfl (by simp) (by simp) (by simp) (by simp) (by simp) (by simp [hs2,hs3,hs4]) fun p hp=>?_
  simp at hp
  subst hp
  exact ⟨0,_,_,rfl,by simp,rfl,EntUp.eq (by simp [fcd]) (by simp)⟩
 simp only [decide_eq_false_iff_not] at h
 obtain rfl : j = n:=by omega
 have hd : l.drop j = []:=List.drop_eq_nil_of_le (by omega)
 have ht : l.take j = l:=List.take_of_length_le (by omega)
 rw [ht] at hA
 rw [hd,List.append_nil]
 rw [← hA] at hm ⊢
 subst hm
 have hAM : (rowsE (A ++ M)).take A.length = rowsE A:=by simp [rowsE]
 have hAd : (rowsE (A ++ M)).drop (A.length + (j - A.length)) = []:=List.drop_eq_nil_of_le (by simp; omega)
 have hAl : (rowsE (A ++ M)).length = j:=by simp; omega
 generalize rowsE (A ++ M) = R at *
 refine awp_regc ⟨42,[(0,.rs 0 0 j),(5,.I A.length)],[(0,some ⟨3,rowsE A ++ List.replicate (j - A.length) [.I 0,.I 0,.I 0],0⟩)],160⟩ rfl ?_ ?_
 ·simp
  refine ⟨by omega,by omega,?_⟩
  rw [hAM,hAd]
  exact Le.keep rfl (Nat.le_refl _) (by simp) (by simp)
 refine awp_seq ?_
 refine awp_run (s:=?s2) rfl ?o2 ?q2
 case o2 =>
  simp
  refine ⟨by omega,?_⟩
  rfl
 refine awp_ret ?_
 refine ⟨.inr rfl,⟨[.rs 0 0 A.length],rfl,[],[],by simp [List.range,List.range.loop],by simp,by simp,?_,?_⟩⟩
 ·simp [List.range,List.range.loop]
 ·simp [List.range,List.range.loop,fcd]
def levelG (g : Gr) (v : Int) : Gr:=⟨g.size,g.edges.filter fun e=>!decide (e.v < v),g.gone⟩
theorem graph_Level_c1_ok (e : Ed) (v : Int) : ACalls Tryz.prog ngraph_Level_c1 [eE e,.pv [.I v]] [] (.B (decide (e.v < v))) []:=by
 refine sgraph_Level_c1.acalls (Nat.le_of_ble_eq_true rfl) (Nat.le_of_ble_eq_true rfl) (Nat.le_refl _) ?_
 show awp _ 0 _ _ ⟨8,[(0,eE e),(1,.pv [.I v])],[],16⟩
 refine awp_regc ⟨8,[(1,.pv [.I v]),(2,.pv (eC e))],[],16⟩ rfl ?_ ?_
 ·simp
  exact Le.snap [16] rfl rfl (by simp)
 refine awp_seq ?_
 refine awp_run (s:=?s1) rfl ?o1 ?q1
 case o1=>simp; rfl
 refine awp_ret ?_
 exact ⟨.inr rfl,RetOk.one (by simp)⟩
set_option maxRecDepth 100000 in
theorem graph_Level_ok (g : Gr) (v : Int) (hl : g.edges.length ≤ 1099511627776) (hl2 : g.gone.length ≤ 1099511627776) : ACalls Tryz.prog ngraph_Level [eG g,.I v] [] (eG (levelG g v)) []:=by
 refine sgraph_Level.acalls (Nat.le_of_ble_eq_true rfl) (Nat.le_of_ble_eq_true rfl) (Nat.le_refl _) ?_
 show awp _ 0 _ _ ⟨14,[(0,eG g),(1,.I v)],[],16⟩
 obtain ⟨E,hE⟩ : ∃ E,E = g.edges.filter fun e=>!decide (e.v < v):=⟨_,rfl⟩
 have hEl : E.length ≤ g.edges.length:=by rw [hE]; exact List.length_filter_le _ _
 have hdel:=DeleteFuncE_ok ngraph_Level_c1 [.pv [.I v]] (fun e=>decide (e.v < v)) g.edges g.edges.length E.length rfl (by rw [hE]) hl (fun ρ sn h n=>by simp) (fun e _=>graph_Level_c1_ok e v)
 rw [← hE] at hdel
 have hres : levelG g v = ⟨g.size,E,g.gone⟩:=by rw [hE]; rfl
 rw [hres]
 refine awp_regc ⟨14,[(2,.pv (gC g)),(3,.pt 24 0 0),(4,.pt 32 0 0)],[(24,some ⟨1,[[.I v]],0⟩),(32,some zG)],40⟩ rfl ?_ ?_
 ·simp
  refine Le.ents [(24,24),(32,32)] [16] rfl (by simp) (by simp) (by simp) (by simp) (by simp) (by simp) fun p hp=>?_
  simp at hp
  rcases hp with rfl | rfl
  ·exact ⟨24,_,_,rfl,by simp,rfl,EntUp.eq (by simp) (by simp)⟩
  ·exact ⟨32,_,_,rfl,by simp,rfl,EntUp.eq (by simp) (by simp)⟩
 refine awp_regc ⟨14,[(3,.pt 24 0 0),(4,.pt 32 0 0),(5,.pt 56 0 0)],[(24,some ⟨1,[[.I v]],0⟩),(32,some zG),(56,some ⟨3,[[.I g.size,.rs 48 0 g.edges.length,.rs 49 0 g.gone.length]],0⟩),(48,some ⟨3,rowsE g.edges,0⟩),(49,some ⟨1,g.gone.map fun n=>[AV.I n],0⟩)],72⟩ rfl ?_ ?_
 ·simp
  refine callN2 (graph_copied_ok g (by omega) (by omega)) rfl ?_
  simp [fcd]
  exact Le.keep rfl (Nat.le_refl _) (by simp) (by simp)
 refine awp_regc ⟨14,[(4,.pt 32 0 0),(5,.pt 56 0 0)],[(32,some zG),(56,some ⟨3,[[.I g.size,.rs 48 0 E.length,.rs 49 0 g.gone.length]],0⟩),(48,some ⟨3,rowsE E ++ List.replicate (g.edges.length - E.length) [.I 0,.I 0,.I 0],0⟩),(49,some ⟨1,g.gone.map fun n=>[AV.I n],0⟩)],120⟩ rfl ?_ ?_
 ·simp
  refine callM1s (i:=48) (j:=24) (by decide) (Nat.zero_le _) rfl rfl ?_ hdel (by simp) ?_ ?_
  ·simp [fcd]
  ·simp
  simp [fcd]
  exact Le.keep rfl (Nat.le_refl _) (by simp) (by simp)
 refine awp_seq ?_
 refine awp_run (s:=?s21) rfl ?o21 ?q21
 case o21=>simp; rfl
 refine awp_ret ?_
 refine ⟨.inr rfl,?_⟩
 show RetOk [(4,some (true,3))] 0 _ _ _
 refine RetOk.out (vs:=[.agg [.I g.size,.rs 48 0 E.length,.rs 49 0 g.gone.length]]) [] [48,49] (by simp) (by simp) (by simp) ?_ (by simp)
 simp [fcd,take_map_len]
theorem filterL_succ (l : List Ed) (v : Int) (k : Nat) (h : k < l.length) : (l.take (k + 1)).filter (fun e=>!decide (e.v < v)) = (l.take k).filter (fun e=>!decide (e.v < v)) ++ if v ≤ l[k].v then [l[k]] else []:=by
 rw [← List.take_concat_get h,List.concat_eq_append,List.filter_append]
 congr 1
 by_cases hq : v ≤ l[k].v
 ·have : ¬ l[k].v < v:=by omega
  simp [hq,this]
 ·have : l[k].v < v:=by omega
  simp [hq,this]
set_option maxRecDepth 100000 in
theorem ref11_Level_ok (g : Gr) (v : Int) (hl : g.edges.length ≤ 1099511627776) (hl2 : g.gone.length ≤ 1099511627776) : ACalls Tryz.prog nref11_Level [eG g,.I v] [] (eG (levelG g v)) []:=by
 refine sref11_Level.acalls (Nat.le_of_ble_eq_true rfl) (Nat.le_of_ble_eq_true rfl) (Nat.le_refl _) ?_
 show awp _ 0 _ _ ⟨36,[(0,eG g),(1,.I v)],[],16⟩
 refine awp_regc ⟨36,[(1,.I v),(2,.pv (gC g)),(4,.pt 24 0 0)],[(24,some zG)],32⟩ rfl ?_ ?_
 ·simp
  refine Le.ents [(24,24)] [16] rfl (by simp) (by simp) (by simp) (by simp) (by simp) (by simp) fun p hp=>?_
  simp at hp
  subst hp
  exact ⟨24,_,_,rfl,by simp,rfl,EntUp.eq (by simp) (by simp)⟩
 refine awp_regc ⟨36,[(1,.I v),(2,.pv (gC g)),(4,.pt 24 0 0),(5,.pt 48 0 0)],[(24,some zG),(48,some ⟨3,[[.I g.size,.rs 40 0 g.edges.length,.rs 41 0 g.gone.length]],0⟩),(40,some ⟨3,rowsE g.edges,0⟩),(41,some ⟨1,g.gone.map fun n=>[AV.I n],0⟩)],64⟩ rfl ?_ ?_
 ·simp
  refine callN2 (ref11_Copy_ok g (by omega) (by omega)) rfl ?_
  simp [fcd]
  exact Le.keep rfl (Nat.le_refl _) (by simp) (by simp)
 refine awp_regc ⟨36,[(1,.I v),(2,.pv (gC g)),(4,.pt 24 0 0),(5,.pt 48 0 0)],[(24,some zG),(48,some ⟨3,[[.I g.size,.nilS,ints g.gone]],0⟩)],80⟩ rfl ?_ ?_
 ·simp
  refine Le.ents [(24,24),(48,48)] [41] rfl (by simp) (by simp) (by simp) (by simp) (by simp) (by simp) fun p hp=>?_
  simp at hp
  rcases hp with rfl | rfl
  ·exact ⟨24,_,_,rfl,by simp,rfl,EntUp.eq (by simp) (by simp)⟩
  ·exact ⟨48,_,_,rfl,by simp,rfl,EntUp.eq (by simp [splice,fcd,take_map_len]) (by simp)⟩
 refine awp_seq ?_
 refine awp_regc ⟨36,[(1,.I v),(2,.pv (gC g)),(4,.pt 24 0 0),(5,.pt 48 0 0),(6,.I 0)],[(24,some zG),(48,some ⟨3,[[.I g.size,.nilS,ints g.gone]],0⟩)],88⟩ rfl ?_ ?_
 ·simp
  exact Le.keep rfl (Nat.le_refl _) (by simp) (by simp)
 refine awp_block ?_
 let F : Nat → List Ed:=fun k=>(g.edges.take k).filter fun e=>!decide (e.v < v)
 let C : Nat → St:=fun k=>⟨36,[(1,.I v),(2,.pv (gC g)),(4,.pt 24 0 0),(5,.pt 48 0 0),(6,.I k)],[(24,some zG),(48,some ⟨3,[[.I g.size,.rs 16 0 (F k).length,ints g.gone]],0⟩),(16,some ⟨3,rowsE (F k),0⟩)],88⟩
 refine awp_loop C (fun k=>k ≤ g.edges.length) (fun k=>g.edges.length - k) 0 (Nat.zero_le _) ?_ ?_
 ·refine Le.lst [(24,24),(48,48)] [] [(16,3)] rfl (by simp) (by simp) (by simp [C]) (by simp [C]) (by simp) (by simp) (by simp) (by simp [C,Up]) fun p hp e' he'=>?_
  simp [C] at hp
  rcases hp with rfl | rfl | rfl
  ·cases he'
   exact .inl ⟨(24,24),by simp,rfl,_,rfl,EntUp.eq (by simp) (by simp)⟩
  ·cases he'
   refine .inl ⟨(48,48),by simp,rfl,_,rfl,EntUp.row (by simp; rfl) (by simp) ?_⟩
   exact ⟨.inl (.refl _),.inr ⟨rfl,16,3,by simp [F],by simp⟩,.inl (.refl _),trivial⟩
  ·cases he'
   exact .inr ⟨by simp,by simp [F],rfl⟩
 intro k hk
 have hFl : (F k).length ≤ k:=by
  have h1 : (F k).length ≤ (g.edges.take k).length:=List.length_filter_le _ _
  simp at h1
  omega
 have hC : C k = ⟨36,[(1,.I v),(2,.pv (gC g)),(4,.pt 24 0 0),(5,.pt 48 0 0),(6,.I k)],[(24,some zG),(48,some ⟨3,[[.I g.size,.rs 16 0 (F k).length,ints g.gone]],0⟩),(16,some ⟨3,rowsE (F k),0⟩)],88⟩:=rfl
 rw [hC]
 refine awp_seq ?_
 refine awp_regc ⟨36,[(1,.I v),(2,.pv (gC g)),(4,.pt 24 0 0),(5,.pt 48 0 0),(6,.I k),(14,.B (decide (k < g.edges.length)))],[(24,some zG),(48,some ⟨3,[[.I g.size,.rs 16 0 (F k).length,ints g.gone]],0⟩),(16,some ⟨3,rowsE (F k),0⟩)],128⟩ rfl ?_ ?_
 ·simp
  exact Le.keep rfl (Nat.le_refl _) (by simp) (by simp)
 refine awp_cond _ rfl (fun h=>awp_skip ?_) fun h=>awp_exit (hit ?_)
 ·simp only [decide_eq_true_eq] at h
  have hnext:=filterL_succ g.edges v k h
  have hFs : F (k + 1) = F k ++ if v ≤ g.edges[k].v then [g.edges[k]] else []:=hnext
  refine awp_cut (ι:=Unit) (fun _=>⟨36,[(1,.I v),(2,.pv (gC g)),(4,.pt 24 0 0),(5,.pt 48 0 0),(6,.I k)],[(24,some zG),(48,some ⟨3,[[.I g.size,.rs 16 0 (F (k + 1)).length,ints g.gone]],0⟩),(16,some ⟨3,rowsE (F (k + 1)),0⟩)],280⟩) (fun _=>True) ?_ fun _ _=>?_
  ·rw [hFs]
   generalize F k = A at *
   refine awp_block ?_
   refine awp_regc ⟨36,[(1,.I v),(2,.pv (gC g)),(4,.pt 24 0 0),(5,.pt 48 0 0),(6,.I k),(24,.B (decide (v ≤ g.edges[k].v)))],[(24,some zG),(48,some ⟨3,[[.I g.size,.rs 16 0 A.length,ints g.gone]],0⟩),(16,some ⟨3,rowsE A,0⟩)],192⟩ rfl ?_ ?_
   ·simp [h]
    exact Le.keep rfl (Nat.le_refl _) (by simp) (by simp)
   refine awp_cond _ rfl (fun h5=>?_) fun h5=>awp_skip ?_
   ·simp only [decide_eq_true_eq] at h5
    rw [if_pos h5]
    refine awp_drw rfl ?_
    have hrl : (rowsE A).length = A.length:=by simp
    simp [h,splice,List.replicate]
    refine ⟨by omega,by omega,rfl,?_⟩
    refine Le.ents [(24,24),(48,48),(256,16)] [] rfl (by simp) (by simp) (by simp) (by simp) (by simp) (by simp) fun p hp=>?_
    simp at hp
    rcases hp with rfl | rfl | rfl
    ·exact ⟨24,_,_,rfl,by simp,rfl,EntUp.eq (by simp) (by simp)⟩
    ·exact ⟨48,_,_,rfl,by simp,rfl,EntUp.eq (by simp) (by simp)⟩
    ·exact ⟨256,_,_,rfl,by simp,rfl,EntUp.eq (by simp [fcd,take_map_len]) (by simp)⟩
   ·simp only [decide_eq_false_iff_not] at h5
    rw [if_neg h5,List.append_nil]
    exact ⟨(),trivial,Le.keep rfl (Nat.le_of_ble_eq_true rfl) (by simp) (by simp)⟩
  have hwj : IntKind.i64.wrap ((k : Int) + 1) = ((k + 1 : Nat) : Int):=by rw [w64 (by omega) (by omega)]; omega
  refine awp_reg rfl ?_
  simp [hwj]
  refine ⟨k + 1,by omega,by omega,?_⟩
  refine Le.ents [(24,24),(48,48),(16,16)] [] rfl (by simp) (by simp) (by simp [C]) (by simp) (by simp [C]) (by simp [C]) fun p hp=>?_
  simp [C] at hp
  rcases hp with rfl | rfl | rfl
  ·exact ⟨24,_,_,rfl,by simp,rfl,EntUp.eq (by simp) (by simp)⟩
  ·exact ⟨48,_,_,rfl,by simp,rfl,EntUp.eq (by simp) (by simp)⟩
  ·exact ⟨16,_,_,rfl,by simp,rfl,EntUp.eq (by simp [fcd]) (by simp)⟩
 simp only [decide_eq_false_iff_not] at h
 obtain rfl : k = g.edges.length:=by omega
 have hF : F g.edges.length = (levelG g v).edges:=by
  show (g.edges.take g.edges.length).filter _ = _
  rw [List.take_of_length_le (Nat.le_refl _)]
  rfl
 rw [hF]
 have hres : levelG g v = ⟨g.size,(levelG g v).edges,g.gone⟩:=rfl
 rw [hres]
 generalize (levelG g v).edges = E at *
 refine awp_seq ?_
 refine awp_run (s:=?s21) rfl ?o21 ?q21
 case o21=>simp; rfl
 refine awp_ret ?_
 refine ⟨.inr rfl,?_⟩
 show RetOk [(4,some (true,3))] 0 _ _ _
 refine RetOk.out (vs:=[.agg [.I g.size,.rs 16 0 E.length,ints g.gone]]) [] [16] (by simp) (by simp) (by simp) ?_ (by simp)
 simp [fcd,take_map_len]
def EdgeAt (g : Gr) (lv f t : Int) : Prop:=∃ e ∈ g.edges,e.f = f ∧ e.t = t ∧ lv ≤ e.v
theorem mem_outs_level {g : Gr} {lv f t : Int} : t ∈ outs (levelG g lv).edges f ↔ EdgeAt g lv f t:=by
 unfold outs levelG EdgeAt
 simp only [List.mem_filterMap,List.mem_filter]
 constructor
 ·rintro ⟨e,⟨he,hv⟩,h⟩
  split at h
  ·rename_i hf
   refine ⟨e,he,hf,by simpa using h,?_⟩
   simp at hv
   omega
  ·cases h
 ·rintro ⟨e,he,hf,ht,hv⟩
  refine ⟨e,⟨he,?_⟩,?_⟩
  ·simp; omega
  ·rw [if_pos hf,ht]
theorem perm_of_nodup_sub : ∀ {a b : List Int},a.Nodup → (∀ x ∈ a,x ∈ b) → b.length ≤ a.length → a.Perm b
 | [],b,_,_,hl=>by
   have : b = []:=List.length_eq_zero_iff.1 (by simpa using hl)
   rw [this]
 | x :: a,b,hn,hs,hl=>by
   have hx : x ∈ b:=hs x (List.mem_cons_self ..)
   rw [List.nodup_cons] at hn
   have hb:=List.perm_cons_erase hx
   have hlb : (b.erase x).length + 1 = b.length:=by have:=hb.length_eq; simp at this; omega
   refine (List.Perm.cons x (perm_of_nodup_sub hn.2 (fun y hy=>?_) ?_)).trans hb.symm
   ·have hy2:=hs y (List.mem_cons_of_mem _ hy)
    have hne : y ≠ x:=fun e=>hn.1 (e ▸ hy)
    exact (List.mem_erase_of_ne hne).2 hy2
   ·rw [List.length_cons] at hl
    omega
def srt (l : List Int) : List Int:=l.mergeSort fun x y=>decide (x ≤ y)
theorem srt_perm (l : List Int) : (srt l).Perm l:=List.mergeSort_perm ..
theorem srt_le (l : List Int) : (srt l).Pairwise (· ≤ ·):=by
 have h:=List.pairwise_mergeSort (le:=fun x y : Int=>decide (x ≤ y)) (fun a b c h1 h2=>by simp at *; omega) (fun a b=>by simp; omega) l
 exact h.imp fun {a b} h=>by simpa using h
theorem srt_eq_iff {a b : List Int} : srt a = srt b ↔ a.Perm b:=by
 constructor
 ·intro h
  exact (srt_perm a).symm.trans (h ▸ srt_perm b)
 ·intro h
  exact List.Perm.eq_of_pairwise (le:=(· ≤ ·)) (fun x y _ _ h1 h2=>by omega) (srt_le a) (srt_le b) (((srt_perm a).trans h).trans (srt_perm b).symm)
def WalkP (g : Gr) (lv : Int) (seeds order w : List Int) : Prop :=
 (∃ k,w.head? = some k ∧ k ∈ seeds) ∧ (∀ k ∈ w,k ∈ order) ∧ w.Nodup ∧ ∀ i (h : i + 1 < w.length),EdgeAt g lv w[i] w[i + 1]
def begC (P : List (List Int)) (k : Int) : Nat:=P.countP fun w=>decide (w.head? = some k)
def useC (P : List (List Int)) (k : Int) : Nat:=(P.flatMap List.dropLast).count k
def RoomP (c : List Int) (P : List (List Int)) : Prop:=∀ k (h : k < c.length),(begC P k : Int) ≤ c[k] ∧ (useC P k : Int) ≤ max 0 (c[k] - 1)
def lasts (P : List (List Int)) : List Int:=P.filterMap List.getLast?
def ServesC (g : Gr) (lv : Int) (seeds order c : List Int) (P : List (List Int)) (ends : List Int) : Prop :=
 (∀ w ∈ P,WalkP g lv seeds order w) ∧ RoomP c P ∧ srt (lasts P) = srt ends
def ServesR (g : Gr) (lv : Int) (seeds order c : List Int) (P : List (List Int)) (ends : List Int) : Prop :=
 P.length = ends.length ∧ ends.Nodup ∧ (∀ w ∈ P,WalkP g lv seeds order w) ∧ (∀ k ∈ lasts P,k ∈ ends) ∧ (lasts P).Nodup ∧ RoomP c P
theorem WalkP.ne {g : Gr} {lv : Int} {seeds order w : List Int} (h : WalkP g lv seeds order w) : w ≠ []:=by
 rintro rfl
 obtain ⟨k,hk,_⟩:=h.1
 cases hk
theorem lasts_len {P : List (List Int)} (h : ∀ w ∈ P,w ≠ []) : (lasts P).length = P.length:=by
 unfold lasts
 induction P with
 | nil=>rfl
 | cons w P ih =>
   have hw:=h w (List.mem_cons_self ..)
   rw [List.filterMap_cons,List.getLast?_eq_some_getLast hw]
   simp only [List.length_cons]
   rw [ih fun x hx=>h x (List.mem_cons_of_mem _ hx)]
theorem lasts_mem {P : List (List Int)} {k : Int} (h : k ∈ lasts P) : ∃ w ∈ P,k ∈ w:=by
 obtain ⟨w,hw,hk⟩:=List.mem_filterMap.1 h
 exact ⟨w,hw,List.mem_of_getLast? hk⟩
theorem serves_iff {g : Gr} {lv : Int} {seeds order c : List Int} {P : List (List Int)} {ends : List Int} (hn : ends.Nodup) : ServesC g lv seeds order c P ends ↔ ServesR g lv seeds order c P ends:=by
 constructor
 ·rintro ⟨h1,h2,h3⟩
  have hp:=srt_eq_iff.1 h3
  have hl:=lasts_len fun w hw=>(h1 w hw).ne
  exact ⟨by rw [← hl,hp.length_eq],hn,h1,fun k hk=>hp.mem_iff.1 hk,hp.nodup_iff.2 hn,h2⟩
 ·rintro ⟨h0,_,h1,h2,h3,h4⟩
  have hl:=lasts_len fun w hw=>(h1 w hw).ne
  exact ⟨h1,h4,srt_eq_iff.2 (perm_of_nodup_sub h3 h2 (by omega))⟩
theorem paths_iff {g : Gr} {lv : Int} {seeds order c : List Int} {P : List (List Int)} {ends : List Int} {size : Int} (ho : ∀ k ∈ order,0 ≤ k ∧ k < size) :
  ((ends.Nodup ∧ ∀ k ∈ ends,0 ≤ k ∧ k < size) ∧ ServesC g lv seeds order c P ends) ↔ ServesR g lv seeds order c P ends:=by
 constructor
 ·rintro ⟨⟨h1,_⟩,h2⟩
  exact (serves_iff h1).1 h2
 ·intro h
  have h2:=(serves_iff h.2.1).2 h
  refine ⟨⟨h.2.1,fun k hk=>?_⟩,h2⟩
  have hp:=srt_eq_iff.1 h2.2.2
  obtain ⟨w,hw,hkw⟩:=lasts_mem (hp.mem_iff.2 hk)
  exact ho k ((h.2.2.1 w hw).2.1 k hkw)
def aheadO (order : List Int) (key : Int) : List Int:=order.takeWhile fun x=>decide (x ≠ key)
theorem aheadO_nil (key : Int) : aheadO [] key = []:=rfl
theorem aheadO_cons (x : Int) (o : List Int) (key : Int) : aheadO (x :: o) key = if x = key then [] else x :: aheadO o key:=by
 unfold aheadO
 rw [List.takeWhile_cons]
 by_cases h : x = key <;> simp [h]
def BeforeP (order l : List Int) (key : Int) : Prop:=l.Sublist (aheadO order key)
theorem not_mem_aheadO (order : List Int) (key : Int) : key ∉ aheadO order key:=by
 induction order with
 | nil=>simp [aheadO]
 | cons x o ih =>
   rw [aheadO_cons]
   split
   ·simp
   ·rename_i h
    simp only [List.mem_cons,not_or]
    exact ⟨fun e=>h e.symm,ih⟩
theorem BeforeP.nodup {order l : List Int} {key : Int} (h : BeforeP order l key) (hn : order.Nodup) : (l ++ [key]).Nodup:=by
 rw [List.nodup_append]
 refine ⟨(hn.sublist (List.takeWhile_sublist _)).sublist h,by simp,fun x hx y hy=>?_⟩
 rw [List.mem_singleton] at hy
 subst hy
 rintro rfl
 exact not_mem_aheadO order x (h.subset hx)
theorem sub_cons_iff {k x : Int} {l o : List Int} : (k :: l).Sublist (x :: o) ↔ if x = k then l.Sublist o else (k :: l).Sublist o:=by
 split
 ·rename_i h
  subst h
  exact List.cons_sublist_cons
 ·rename_i h
  constructor
  ·intro hs
   cases hs with
   | cons _ h2=>exact h2
   | cons_cons _ h2=>exact absurd rfl h
  ·intro hs
   exact hs.cons _
structure KeyNet (A : List Ed) (E : Int → Int → Prop) (seeds sinks : List Int) (c : Int → Int) : Prop where
 kind : ∀ i,i < A.length → (∃ x,x ∈ seeds ∧ 0 ≤ x ∧ arcD A i = ⟨0,2 + 2 * x,c x⟩) ∨ (∃ x,0 ≤ x ∧ arcD A i = ⟨2 + 2 * x,3 + 2 * x,c x - 1⟩) ∨ (∃ x,x ∈ sinks ∧ 0 ≤ x ∧ arcD A i = ⟨2 + 2 * x,1,1⟩) ∨ (∃ x y,0 ≤ x ∧ 0 ≤ y ∧ E x y ∧ arcD A i = ⟨3 + 2 * x,2 + 2 * y,64⟩)
 uniq : ∀ i j,i < A.length → j < A.length → (arcD A i).f = (arcD A j).f → (arcD A i).t = (arcD A j).t → i = j
inductive PathA (A : List Ed) (E : Int → Int → Prop) (sinks : List Int) (c : Int → Int) : Int → List Nat → List Int → Prop
 | last (k : Int) (i : Nat) : i < A.length → arcD A i = ⟨2 + 2 * k,1,1⟩ → k ∈ sinks → PathA A E sinks c k [i] []
 | more (k y : Int) (i j : Nat) (l : List Nat) (ks : List Int) : i < A.length → arcD A i = ⟨2 + 2 * k,3 + 2 * k,c k - 1⟩ → arcD A j = ⟨3 + 2 * k,2 + 2 * y,64⟩ → E k y → 0 ≤ y → PathA A E sinks c y l ks → PathA A E sinks c k (i :: j :: l) (y :: ks)
variable {A : List Ed} {E : Int → Int → Prop} {seeds sinks : List Int} {c : Int → Int}
theorem KeyNet.sinkless (h : KeyNet A E seeds sinks c) {i : Nat} (hi : i < A.length) : (arcD A i).f ≠ 1:=by
 rcases h.kind i hi with ⟨x,_,hx,e⟩ | ⟨x,hx,e⟩ | ⟨x,_,hx,e⟩ | ⟨x,y,hx,hy,_,e⟩ <;> rw [e] <;> simp only <;> omega
theorem KeyNet.path (h : KeyNet A E seeds sinks c) : ∀ (n : Nat) (l : List Nat) (k : Int),l.length ≤ n → 0 ≤ k → WayA A (2 + 2 * k) l 1 → ∃ ks,PathA A E sinks c k l ks
 | _,[],k,_,hk,hw=>by
   have : 2 + 2 * k = 1:=hw
   omega
 | n,[i],k,_,hk,hw=>by
   obtain ⟨h1,h2,h3⟩:=hw
   have h3' : (arcD A i).t = 1:=h3
   rcases h.kind i h1 with ⟨x,_,hx,e⟩ | ⟨x,hx,e⟩ | ⟨x,hs,hx,e⟩ | ⟨x,y,hx,hy,_,e⟩ <;> rw [e] at h2 h3' <;> simp only at h2 h3'
   ·omega
   ·omega
   ·have : x = k:=by omega
    subst this
    exact ⟨[],.last _ i h1 e hs⟩
   ·omega
 | 0,_ :: _ :: _,_,hn,_,_=>by simp at hn
 | n + 1,i :: j :: l,k,hn,hk,hw=>by
   obtain ⟨h1,h2,h4,h5,h6⟩:=hw
   rcases h.kind i h1 with ⟨x,_,hx,e⟩ | ⟨x,hx,e⟩ | ⟨x,hs,hx,e⟩ | ⟨x,y,hx,hy,_,e⟩
   ·rw [e] at h2; simp only at h2; omega
   ·rw [e] at h2 h5
    simp only at h2 h5
    have : x = k:=by omega
    subst this
    rcases h.kind j h4 with ⟨z,_,hz,e'⟩ | ⟨z,hz,e'⟩ | ⟨z,hs,hz,e'⟩ | ⟨z,y,hz,hy,hE,e'⟩
    ·rw [e'] at h5; simp only at h5; omega
    ·rw [e'] at h5; simp only at h5; omega
    ·rw [e'] at h5; simp only at h5; omega
    ·rw [e'] at h5 h6
     simp only at h5 h6
     have : z = x:=by omega
     subst this
     obtain ⟨ks,hp⟩:=h.path n l y (by simp at hn; omega) hy h6
     exact ⟨y :: ks,.more _ y i j l ks h1 e e' hE hy hp⟩
   ·rw [e] at h5
    simp only at h5
    exact absurd h5 (h.sinkless h4)
   ·rw [e] at h2; simp only at h2; omega
def keyT (t : Int) : Option Int:=if 2 ≤ t ∧ t % 2 = 0 then some ((t - 2) / 2) else none
def keysA (A : List Ed) (l : List Nat) : List Int:=(metA A l).filterMap keyT
theorem keyT_entry {k : Int} (h : 0 ≤ k) : keyT (2 + 2 * k) = some k:=by
 unfold keyT
 rw [if_pos ⟨by omega,by omega⟩]
 congr 1
 omega
theorem keyT_exit (k : Int) : keyT (3 + 2 * k) = none:=if_neg (by omega)
theorem keyT_sink : keyT 1 = none:=if_neg (by omega)
theorem PathA.keys {k : Int} {l : List Nat} {ks : List Int} (h : PathA A E sinks c k l ks) : keysA A l = ks:=by
 induction h with
 | last k i h1 h2 h3 =>
   unfold keysA metA
   rw [List.map_cons,List.map_nil,List.filterMap_cons,h2]
   simp only
   rw [keyT_sink]
   rfl
 | more k y i j l ks h1 h2 h3 h4 h5 h6 ih =>
   unfold keysA metA at ih ⊢
   rw [List.map_cons,List.map_cons,List.filterMap_cons,h2]
   simp only
   rw [keyT_exit,List.filterMap_cons,h3]
   simp only
   rw [keyT_entry h5,ih]
theorem PathA.edges {k : Int} {l : List Nat} {ks : List Int} (h : PathA A E sinks c k l ks) : ∀ i (hi : i + 1 < (k :: ks).length),E (k :: ks)[i] (k :: ks)[i + 1]:=by
 induction h with
 | last k i h1 h2 h3=>intro i hi; simp at hi
 | more k y i j l ks h1 h2 h3 h4 h5 h6 ih =>
   intro n hn
   cases n with
   | zero=>exact h4
   | succ n=>exact ih n (by simpa using hn)
theorem PathA.ends {k : Int} {l : List Nat} {ks : List Int} (h : PathA A E sinks c k l ks) : ∃ z,(k :: ks).getLast? = some z ∧ z ∈ sinks ∧ ∃ i ∈ l,i < A.length ∧ arcD A i = ⟨2 + 2 * z,1,1⟩:=by
 induction h with
 | last k i h1 h2 h3=>exact ⟨k,rfl,h3,i,List.mem_singleton.2 rfl,h1,h2⟩
 | more k y i j l ks h1 h2 h3 h4 h5 h6 ih =>
   obtain ⟨z,hz,hs,m,hm,hm2,hm3⟩:=ih
   exact ⟨z,by rw [List.getLast?_cons_cons]; exact hz,hs,m,List.mem_cons_of_mem _ (List.mem_cons_of_mem _ hm),hm2,hm3⟩
theorem PathA.uses (hu : ∀ i j,i < A.length → j < A.length → (arcD A i).f = (arcD A j).f → (arcD A i).t = (arcD A j).t → i = j) {k : Int} {l : List Nat} {ks : List Int} (h : PathA A E sinks c k l ks) {m : Int} {n : Nat} (hn : n < A.length) (hm : arcD A n = ⟨2 + 2 * m,3 + 2 * m,c m - 1⟩) : (k :: ks).dropLast.count m ≤ l.count n:=by
 induction h with
 | last k i h1 h2 h3=>simp
 | more k y i j l ks h1 h2 h3 h4 h5 h6 ih =>
   rw [List.dropLast_cons_of_ne_nil (by simp),List.count_cons]
   have h7 : l.count n ≤ (j :: l).count n:=by rw [List.count_cons]; omega
   rw [List.count_cons]
   by_cases hk : k = m
   ·subst hk
    have : i = n:=hu i n h1 hn (by rw [h2,hm]) (by rw [h2,hm])
    subst this
    simp only [beq_self_eq_true,if_true]
    omega
   ·have hk' : (k == m) = false:=by simpa using hk
    rw [hk']
    simp only [Bool.false_eq_true,if_false]
    omega
theorem PathA.mids {k : Int} {l : List Nat} {ks : List Int} (h : PathA A E sinks c k l ks) {m : Int} (hm : m ∈ (k :: ks).dropLast) : ∃ n,n < A.length ∧ arcD A n = ⟨2 + 2 * m,3 + 2 * m,c m - 1⟩:=by
 induction h with
 | last k i h1 h2 h3=>simp at hm
 | more k y i j l ks h1 h2 h3 h4 h5 h6 ih =>
   rw [List.dropLast_cons_of_ne_nil (by simp)] at hm
   rcases List.mem_cons.1 hm with rfl | hm
   ·exact ⟨i,h1,h2⟩
   ·exact ih hm
theorem KeyNet.whole (h : KeyNet A E seeds sinks c) {l : List Nat} (hw : WayA A 0 l 1) : ∃ x i l' ks,l = i :: l' ∧ i < A.length ∧ x ∈ seeds ∧ 0 ≤ x ∧ arcD A i = ⟨0,2 + 2 * x,c x⟩ ∧ PathA A E sinks c x l' ks ∧ keysA A l = x :: ks:=by
 cases l with
 | nil=>have : (0 : Int) = 1:=hw; omega
 | cons i l =>
   obtain ⟨h1,h2,h3⟩:=hw
   rcases h.kind i h1 with ⟨x,hs,hx,e⟩ | ⟨x,hx,e⟩ | ⟨x,hs,hx,e⟩ | ⟨x,y,hx,hy,_,e⟩
   ·rw [e] at h3
    obtain ⟨ks,hp⟩:=h.path l.length l x (Nat.le_refl _) hx h3
    refine ⟨x,i,l,ks,rfl,h1,hs,hx,e,hp,?_⟩
    have hk:=hp.keys
    unfold keysA metA at hk ⊢
    rw [List.map_cons,List.filterMap_cons,e]
    simp only
    rw [keyT_entry hx,hk]
   ·rw [e] at h2; simp only at h2; omega
   ·rw [e] at h2; simp only at h2; omega
   ·rw [e] at h2; simp only at h2; omega
theorem keysA_nodup {l : List Nat} (h : (metA A l).Nodup) : (keysA A l).Nodup:=by
 unfold keysA
 refine List.Pairwise.filterMap _ (fun a a' hne b hb b' hb'=>?_) h
 unfold keyT at hb hb'
 split at hb <;> split at hb' <;> simp at hb hb' <;> omega
def sumN (g : List Nat → Nat) (W : List (List Nat)) : Nat:=(W.map g).sum
theorem sumN_cons (g : List Nat → Nat) (w : List Nat) (W : List (List Nat)) : sumN g (w :: W) = g w + sumN g W:=by simp [sumN]
theorem nodup_of_count {l : List Int} (h : ∀ x,l.count x ≤ 1) : l.Nodup:=by
 induction l with
 | nil=>exact List.nodup_nil
 | cons x l ih =>
   rw [List.nodup_cons]
   refine ⟨fun hm=>?_,ih fun y=>?_⟩
   ·have h1:=h x
    rw [List.count_cons_self] at h1
    have h2:=List.count_pos_iff.2 hm
    omega
   ·have h1:=h y
    rw [List.count_cons] at h1
    omega
theorem begC_le {A : List Ed} {n : Nat} {k : Int} : ∀ {W : List (List Nat)},(∀ w ∈ W,(keysA A w).head? = some k → 1 ≤ w.count n) → begC (W.map (keysA A)) k ≤ sumN (List.count n) W
 | [],_=>by simp [begC,sumN]
 | w :: W,h=>by
   have ih:=begC_le (n:=n) (k:=k) fun x hx=>h x (List.mem_cons_of_mem w hx)
   have h1:=h w (List.mem_cons_self ..)
   unfold begC at ih ⊢
   rw [List.map_cons,List.countP_cons,sumN_cons]
   by_cases hk : (keysA A w).head? = some k
   ·have:=h1 hk
    simp only [hk,decide_true,if_true]
    omega
   ·simp only [hk,decide_false,Bool.false_eq_true,if_false]
    omega
theorem begC_zero {A : List Ed} {k : Int} : ∀ {W : List (List Nat)},begC (W.map (keysA A)) k = 0 ∨ ∃ w ∈ W,(keysA A w).head? = some k
 | []=>.inl rfl
 | w :: W=>by
   by_cases hk : (keysA A w).head? = some k
   ·exact .inr ⟨w,List.mem_cons_self ..,hk⟩
   ·rcases begC_zero (A:=A) (k:=k) (W:=W) with h | ⟨x,hx,hx2⟩
    ·left
     unfold begC at h ⊢
     rw [List.map_cons,List.countP_cons,h]
     simp [hk]
    ·exact .inr ⟨x,List.mem_cons_of_mem _ hx,hx2⟩
theorem useC_le {A : List Ed} {n : Nat} {k : Int} : ∀ {W : List (List Nat)},(∀ w ∈ W,(keysA A w).dropLast.count k ≤ w.count n) → useC (W.map (keysA A)) k ≤ sumN (List.count n) W
 | [],_=>by simp [useC,sumN]
 | w :: W,h=>by
   have ih:=useC_le (n:=n) (k:=k) fun x hx=>h x (List.mem_cons_of_mem w hx)
   have h1:=h w (List.mem_cons_self ..)
   unfold useC at ih ⊢
   rw [List.map_cons,List.flatMap_cons,List.count_append,sumN_cons]
   omega
theorem useC_zero {A : List Ed} {k : Int} : ∀ {W : List (List Nat)},useC (W.map (keysA A)) k = 0 ∨ ∃ w ∈ W,k ∈ (keysA A w).dropLast
 | []=>.inl rfl
 | w :: W=>by
   by_cases hk : k ∈ (keysA A w).dropLast
   ·exact .inr ⟨w,List.mem_cons_self ..,hk⟩
   ·rcases useC_zero (A:=A) (k:=k) (W:=W) with h | ⟨x,hx,hx2⟩
    ·left
     unfold useC at h ⊢
     rw [List.map_cons,List.flatMap_cons,List.count_append,h,List.count_eq_zero.2 hk]
    ·exact .inr ⟨x,List.mem_cons_of_mem _ hx,hx2⟩
theorem lasts_le {A : List Ed} {n : Nat} {k : Int} : ∀ {W : List (List Nat)},(∀ w ∈ W,(keysA A w).getLast? = some k → 1 ≤ w.count n) → (lasts (W.map (keysA A))).count k ≤ sumN (List.count n) W
 | [],_=>by simp [lasts,sumN]
 | w :: W,h=>by
   have ih:=lasts_le (n:=n) (k:=k) fun x hx=>h x (List.mem_cons_of_mem w hx)
   have h1:=h w (List.mem_cons_self ..)
   unfold lasts at ih ⊢
   rw [List.map_cons,List.filterMap_cons,sumN_cons]
   cases hl : (keysA A w).getLast? with
   | none=>simp only; omega
   | some z =>
     simp only [List.count_cons]
     by_cases hz : z = k
     ·subst hz
      have:=h1 hl
      simp only [beq_self_eq_true,if_true]
      omega
     ·have : (z == k) = false:=by simpa using hz
      rw [this]
      simp only [Bool.false_eq_true,if_false]
      omega
theorem ways_serve {A : List Ed} {E : Int → Int → Prop} {seeds sinks : List Int} {cl : List Int} {f : List Int} {W : List (List Nat)}
  (hk : KeyNet A E seeds sinks fun x=>cl.getD x.toNat 0) (hf : Fit2 A f) (hw : ∀ w ∈ W,WayA A 0 w 1 ∧ (metA A w).Nodup) (hs : ∀ i,i < A.length → (sumN (List.count i) W : Int) ≤ f.getD i 0) (hc : ∀ x ∈ cl,0 ≤ x) :
  RoomP cl (W.map (keysA A)) ∧ (lasts (W.map (keysA A))).Nodup ∧ (∀ k ∈ lasts (W.map (keysA A)),k ∈ sinks) ∧
  ∀ p ∈ W.map (keysA A),(∃ k,p.head? = some k ∧ k ∈ seeds) ∧ p.Nodup ∧ ∀ i (h : i + 1 < p.length),E p[i] p[i + 1]:=by
 have hfit:=(fit2_iff.1 hf).2
 have hlast : ∀ w ∈ W,∃ z,(keysA A w).getLast? = some z ∧ z ∈ sinks ∧ ∃ i ∈ w,i < A.length ∧ arcD A i = ⟨2 + 2 * z,1,1⟩:=fun w hwW=>by
  obtain ⟨x,i,l',ks,rfl,hi,hxs,hx0,he,hp,hkk⟩:=hk.whole (hw w hwW).1
  obtain ⟨z,hz,hzs,m,hm,hm2,hm3⟩:=hp.ends
  exact ⟨z,by rw [hkk]; exact hz,hzs,m,List.mem_cons_of_mem _ hm,hm2,hm3⟩
 refine ⟨fun k hkl=>⟨?_,?_⟩,nodup_of_count fun z=>?_,fun z hz=>?_,fun p hp=>?_⟩
 ·have hck:=hc _ (List.getElem_mem hkl)
  have hcg : cl.getD k 0 = cl[k]:=by rw [List.getD_eq_getElem?_getD,List.getElem?_eq_getElem hkl,Option.getD_some]
  rcases begC_zero (A:=A) (k:=(k : Int)) (W:=W) with h | ⟨w,hwW,hh⟩
  ·rw [h]; exact hck
  ·obtain ⟨x,i,l',ks,rfl,hi,hxs,hx0,he,hp,hkk⟩:=hk.whole (hw w hwW).1
   rw [hkk] at hh
   have hxk : x = k:=Option.some.inj hh
   subst hxk
   have h1:=begC_le (A:=A) (n:=i) (k:=(k : Int)) (W:=W) fun v hvW hvk=>by
    obtain ⟨y,j,l2,ks2,rfl,hj,_,_,he2,_,hkk2⟩:=hk.whole (hw v hvW).1
    rw [hkk2] at hvk
    have hyk : y = k:=Option.some.inj hvk
    have : j = i:=hk.uniq j i hj hi (by rw [he2,he]) (by rw [he2,he,hyk])
    subst this
    rw [List.count_cons_self]
    omega
   have h2:=hs i hi
   have h3:=(hfit i hi).2
   rw [he] at h3
   simp only [Int.toNat_natCast] at h3
   rw [hcg] at h3
   omega
 ·have hck:=hc _ (List.getElem_mem hkl)
  have hcg : cl.getD k 0 = cl[k]:=by rw [List.getD_eq_getElem?_getD,List.getElem?_eq_getElem hkl,Option.getD_some]
  rcases useC_zero (A:=A) (k:=(k : Int)) (W:=W) with h | ⟨w,hwW,hh⟩
  ·rw [h]; omega
  ·obtain ⟨x,i,l',ks,rfl,hi,hxs,hx0,he,hp,hkk⟩:=hk.whole (hw w hwW).1
   rw [hkk] at hh
   obtain ⟨n,hn,hnA⟩:=hp.mids hh
   have h1:=useC_le (A:=A) (n:=n) (k:=(k : Int)) (W:=W) fun v hvW=>by
    obtain ⟨y,j,l2,ks2,rfl,hj,_,_,he2,hp2,hkk2⟩:=hk.whole (hw v hvW).1
    rw [hkk2,List.count_cons]
    have:=hp2.uses hk.uniq hn hnA
    omega
   have h2:=hs n hn
   have h3:=(hfit n hn).2
   rw [hnA] at h3
   simp only [Int.toNat_natCast] at h3
   rw [hcg] at h3
   omega
 ·by_cases hz : z ∈ lasts (W.map (keysA A))
  ·obtain ⟨p,hp,hpz⟩:=List.mem_filterMap.1 hz
   obtain ⟨w,hwW,rfl⟩:=List.mem_map.1 hp
   obtain ⟨y,hy,hys,i,hiw,hi,hiA⟩:=hlast w hwW
   rw [hpz] at hy
   have hzy : z = y:=Option.some.inj hy
   subst hzy
   have h1:=lasts_le (A:=A) (n:=i) (k:=z) (W:=W) fun v hvW hvz=>by
    obtain ⟨y,hy,_,j,hjv,hj,hjA⟩:=hlast v hvW
    rw [hvz] at hy
    have hzy : z = y:=Option.some.inj hy
    have : j = i:=hk.uniq j i hj hi (by rw [hjA,hiA,hzy]) (by rw [hjA,hiA])
    subst this
    exact List.count_pos_iff.2 hjv
   have h2:=hs i hi
   have h3:=(hfit i hi).2
   rw [hiA] at h3
   simp only at h3
   omega
  ·rw [List.count_eq_zero.2 hz]
   omega
 ·obtain ⟨p,hp,hpz⟩:=List.mem_filterMap.1 hz
  obtain ⟨w,hwW,rfl⟩:=List.mem_map.1 hp
  obtain ⟨y,hy,hys,_⟩:=hlast w hwW
  rw [hpz] at hy
  rw [Option.some.inj hy]
  exact hys
 ·obtain ⟨w,hwW,rfl⟩:=List.mem_map.1 hp
  refine ⟨?_,keysA_nodup (hw w hwW).2,?_⟩
  ·obtain ⟨x,i,l',ks,rfl,hi,hxs,hx0,he,hp,hkk⟩:=hk.whole (hw w hwW).1
   exact ⟨x,by rw [hkk]; rfl,hxs⟩
  ·obtain ⟨x,i,l',ks,rfl,hi,hxs,hx0,he,hp,hkk⟩:=hk.whole (hw w hwW).1
   have:=hp.edges
   intro n hn
   simp only [hkk] at hn ⊢
   exact this n hn
def NextR (A : List Ed) (left : List Int) (node k : Int) : Prop :=
 (k = -1 ∧ ∀ i,i < A.length → ¬ ((arcD A i).f = node ∧ 0 < left.getD i 0)) ∨ ∃ i : Nat,k = i ∧ i < A.length ∧ (arcD A i).f = node ∧ 0 < left.getD i 0
def totN (g : List Int) : Nat:=(g.map Int.toNat).sum
theorem totN_set : ∀ {g : List Int} {k : Nat},k < g.length → 0 < g.getD k 0 → totN (g.set k (g.getD k 0 - 1)) < totN g
 | [],k,h,_=>by simp at h
 | x :: g,0,_,h=>by
   have h : 0 < x:=h
   simp only [List.set_cons_zero,totN,List.map_cons,List.sum_cons,List.getD_cons_zero]
   omega
 | x :: g,k + 1,hk,h=>by
   have ih:=totN_set (g:=g) (k:=k) (by simpa using hk) h
   simp only [List.set_cons_succ,totN,List.map_cons,List.sum_cons,List.getD_cons_succ] at ih ⊢
   omega
theorem WayA.last {A : List Ed} : ∀ {l : List Nat} {u w : Int},WayA A u l w → (u :: metA A l)[l.length]? = some w
 | [],u,w,h=>by
   have : u = w:=h
   simp [metA,this]
 | i :: l,u,w,h=>by
   have:=WayA.last h.2.2
   simpa [metA] using this
structure BalF (N : Nat) (A : List Ed) (f : List Int) : Prop where
 len : f.length = A.length
 nonneg : ∀ i,0 ≤ f.getD i 0
 bal : ∀ x : Int,2 ≤ x → x < N → exF A f x = 0
variable {N : Nat} {A : List Ed} {f g : List Int}
theorem FlowOk.balF (h : FlowOk N A f) : BalF N A f:=by
 have hf:=fit2_iff.1 h.fit
 refine ⟨hf.1,fun i=>?_,fun x h2 h3=>?_⟩
 ·by_cases hi : i < A.length
  ·exact (hf.2 i hi).1
  ·rw [List.getD_eq_getElem?_getD,List.getElem?_eq_none (by rw [hf.1]; omega)]
   exact Int.le_refl _
 ·have:=h.bal x.toNat (by omega) (by omega)
  rw [Int.toNat_of_nonneg (by omega)] at this
  unfold exF
  omega
theorem LeftA.go_on (hn : NetOk N A) (hf : BalF N A f) {l : List Nat} {w : Int} (h : LeftA A f g l w) (hw : w ≠ 1) (hv : l = [] → 0 < exF A f 0) : ∃ i,i < A.length ∧ (arcD A i).f = w ∧ 0 < g.getD i 0:=by
 refine next_ex h.len h.nonneg ?_
 rw [h.ex w]
 have hl:=h.way.last
 cases l with
 | nil =>
   have e : (0 : Int) = w:=h.way
   subst e
   have:=hv rfl
   simp
   exact this
 | cons i l =>
   have hm : w ∈ metA A (i :: l):=by
    rw [List.length_cons,List.getElem?_cons_succ] at hl
    exact List.mem_of_getElem? hl
   have hw0 : w ≠ 0:=fun e=>by
    have:=(List.nodup_cons.1 h.met).1
    exact this (e ▸ hm)
   obtain ⟨j,hj,rfl⟩:=List.mem_map.1 hm
   have hja : j < A.length:=by
    have : ∀ {l : List Nat} {u w : Int},WayA A u l w → ∀ j ∈ l,j < A.length:=by
     intro l
     induction l with
     | nil=>intro _ _ _ j hj; cases hj
     | cons i l ih =>
       intro u w hw j hj
       rcases List.mem_cons.1 hj with rfl | hj
       ·exact hw.1
       ·exact ih hw.2.2 j hj
    exact this h.way j hj
   have ha:=hn.arc _ (arcD_mem hja)
   rw [hf.bal _ (by omega) (by omega),if_neg hw0,if_pos rfl]
   omega
theorem LeftA.balF (hf : BalF N A f) {l : List Nat} (h : LeftA A f g l 1) : BalF N A g ∧ exF A g 0 = exF A f 0 - 1:=by
 refine ⟨⟨h.len,h.nonneg,fun x h2 h3=>?_⟩,?_⟩
 ·rw [h.ex x,hf.bal x h2 h3,if_neg (by omega),if_neg (by omega)]
  rfl
 ·rw [h.ex 0,if_pos rfl,if_neg (by decide)]
  omega
theorem ex0_nonneg (hn : NetOk N A) (hf : BalF N A f) : 0 ≤ exF A f 0:=by
 unfold exF
 rw [in_source hn]
 have : 0 ≤ outF A f 0:=sumF_nonneg hf.nonneg fun e v hv=>by split <;> omega
 omega
structure TakenW (N : Nat) (A : List Ed) (f g : List Int) (W : List (List Nat)) : Prop where
 bal : BalF N A g
 ex : exF A g 0 = exF A f 0 - W.length
 ways : ∀ w ∈ W,WayA A 0 w 1 ∧ (metA A w).Nodup
 used : ∀ i,g.getD i 0 + (sumN (List.count i) W : Int) ≤ f.getD i 0
theorem TakenW.nil (hf : BalF N A f) : TakenW N A f f []:=⟨hf,by simp,by simp,fun i=>by simp [sumN]⟩
theorem TakenW.more {g' : List Int} {W : List (List Nat)} {l : List Nat} (h : TakenW N A f g W) (hl : LeftA A g g' l 1) : TakenW N A f g' (W ++ [l]):=by
 obtain ⟨b1,b2⟩:=hl.balF h.bal
 refine ⟨b1,by rw [b2,h.ex,List.length_append,List.length_singleton]; omega,fun w hw=>?_,fun i=>?_⟩
 ·rcases List.mem_append.1 hw with hw | hw
  ·exact h.ways w hw
  ·rw [List.mem_singleton] at hw
   subst hw
   exact ⟨hl.way,(List.nodup_cons.1 hl.met).2⟩
 ·have h1:=h.used i
  have h2:=hl.used i
  have h3 : sumN (List.count i) (W ++ [l]) = sumN (List.count i) W + l.count i:=by unfold sumN; simp
  rw [h3]
  omega
theorem outs_count (l : List Ed) (key : Int) : (outs l key).length = l.countP fun e=>decide (e.f = key):=by
 induction l with
 | nil=>rfl
 | cons e l ih =>
   unfold outs at *
   by_cases h : e.f = key <;> simp [List.filterMap_cons,List.countP_cons,h,ih]
theorem GrOk.fits {g : Gr} (h : GrOk g) : ∀ e ∈ g.edges,Fits g e:=by
 intro e he
 obtain ⟨i,hi,rfl⟩:=List.mem_iff_getElem.1 he
 exact (h.2 i hi).1
theorem EqG.rfl' (a : Gr) : EqG a a:=⟨rfl,rfl,rfl⟩
abbrev sorted (l : List Int) : List Int:=l.mergeSort fun x y=>decide (x ≤ y)
theorem sorted_len (l : List Int) : (sorted l).length = l.length:=List.length_mergeSort ..
theorem mem_sorted {l : List Int} {x : Int} : x ∈ sorted l ↔ x ∈ l:=List.mem_mergeSort
theorem GrOk.pair {g : Gr} (h : GrOk g) : g.edges.Pairwise Bef:=by
 rw [List.pairwise_iff_getElem]
 intro i j hi hj hij
 exact h.lt j i hi hj hij
theorem ents1 {st st' : St} {i j : Nat} {sn : List Nat} {e e' : Ent} (hsz : st'.sz = st.sz) (hh : st'.h = [(j,some e')]) (hj : j < st'.n) (hs : ∀ k ∈ sn,k ≠ i) (he : st.hp i = some e) (hee : convE [(i,j)] sn st.hp 4 e = e') (hr : e'.ro ≤ e'.rows.length) (ht : ∀ p ∈ st'.t,Wk (conv [(i,j)] sn st.hp 4 (st.get p.1)) p.2) : Le 0 st st' :=
 Le.ents [(i,j)] sn hsz (by simp) (by simp) (by simpa using hj) (by simpa using hs) (Nat.zero_le _) ht (fun p hp=>by
  rw [hh] at hp
  simp at hp
  subst hp
  exact ⟨i,e,e',rfl,by simp,he,EntUp.eq hee hr⟩)
theorem IndexFuncI_ok (f : FuncId) (capt : List AV) (q : Int → Bool) (l : List Int) (hl : l.length ≤ 1099511627776) (hs : Still capt) (hc : ∀ e ∈ l,ACalls Tryz.prog f (AV.I e :: capt) [] (.B (q e)) []) : ACalls Tryz.prog nslices_IndexFunc_Lint_int [ints l,.fn (.func f) [] capt] [] (.I (idxQ l q)) []:=by
 have hs2 : ∀ ρ sn h,capt.map (conv ρ sn h 2) = capt:=fun _ _ _=>hs _ _ _ 1
 have hs3 : ∀ ρ sn h,capt.map (conv ρ sn h 3) = capt:=fun _ _ _=>hs _ _ _ 2
 have hs4 : ∀ ρ sn h,capt.map (conv ρ sn h 4) = capt:=fun _ _ _=>hs _ _ _ 3
 refine sslices_IndexFunc_Lint_int.acalls (Nat.le_of_ble_eq_true rfl) (Nat.le_of_ble_eq_true rfl) (Nat.le_refl _) ?_
 show awp _ 0 _ _ ⟨19,[(0,ints l),(1,.fn (.func f) [] capt)],[],16⟩
 refine awp_seq ?_
 refine awp_run (s:=?s1) rfl ?o1 ?q1
 case o1=>simp; rfl
 refine awp_seq ?_
 refine awp_seq ?_
 refine awp_run (s:=?s2) rfl ?o2 ?q2
 case o2=>simp; rfl
 refine awp_block ?_
 refine awp_loop (ι:=Nat) (fun k=>⟨19,[(0,ints l),(1,.fn (.func f) [] capt),(7,.I l.length),(8,.I k)],[],16⟩) (fun k=>k ≤ l.length ∧ ∀ i,i < k → ∀ h : i < l.length,q l[i] = false) (fun k=>l.length - k) (0) ?_ (Le.snap [] rfl rfl (by simp [hs2,hs3,hs4])) ?_
 ·simp
 rintro k ⟨hk,hp⟩
 refine awp_seq ?_
 refine awp_run (s:=?s3) rfl ?o3 ?q3
 case o3=>simp; rfl
 refine awp_seq ?_
 refine awp_cond _ rfl (fun h4=>?_) fun h4=>?_
 ·try simp at h4
  have hw2 : IntKind.i64.wrap ((k : Int) + 1) = (k : Int) + 1:=w64 (by omega) (by omega)
  have hck:=hc l[k] (List.getElem_mem h4)
  refine awp_skip ?_
  refine awp_seq ?_
  refine awp_block ?_
  refine awp_seq ?_
  refine awp_run (s:=?s5) rfl ?o5 ?q5
  case o5=>simp [h4,hw2]; rfl
  refine awp_seq ?_
  refine awp_run (s:=?s6) rfl ?o6 ?q6
  case o6 =>
   simp [h4,hw2]
   refine call0e hck ?_ ?_
   ·simp [hs2,hs3,hs4]
   simp [h4,hw2]; rfl
  refine awp_cond _ rfl (fun h7=>?_) fun h7=>?_
  ·try simp at h7
   refine awp_seq ?_
   refine awp_run (s:=?s8) rfl ?o8 ?q8
   case o8=>simp [h4,hw2]; rfl
   refine awp_ret ?_
   exact ⟨.inr rfl,RetOk.one (by simp [idxQ_at h4 hp h7])⟩
  try simp at h7
  refine awp_skip ?_
  refine awp_run (s:=?s9) rfl ?o9 ?q9
  case o9=>simp [h4,hw2]; rfl
  refine ⟨k + 1,⟨h4,fun i hi=>?_⟩,by omega,Le.snap [] rfl rfl (by simp [h4,hw2,hs2,hs3,hs4])⟩
  rcases Nat.lt_succ_iff_lt_or_eq.1 hi with h | rfl
  ·exact hp i h
  ·exact fun _=>h7
 try simp at h4
 have hall : ∀ i,i < l.length → ∀ h : i < l.length,q l[i] = false:=fun i hi=>hp i (by omega)
 refine awp_exit ?_
 refine hit ?_
 refine awp_seq ?_
 refine awp_run (s:=?s10) rfl ?o10 ?q10
 case o10=>simp; rfl
 refine awp_ret ?_
 exact ⟨.inr rfl,RetOk.one (by simp [idxQ_no hall])⟩
abbrev rowsI (l : List Int) : List (List AV):=l.map fun e=>[AV.I e]
theorem filter_of_notI {l : List Int} {q : Int → Bool} (h : ∀ i,i < l.length → ∀ h : i < l.length,q l[i] = false) : l.filter (fun e=>!q e) = l:=by
 rw [List.filter_eq_self]
 intro x hx
 obtain ⟨i,hi,rfl⟩:=List.mem_iff_getElem.1 hx
 simp [h i hi hi]
theorem filter_take_succI (l : List Int) (q : Int → Bool) (j : Nat) (h : j < l.length) : (l.take (j + 1)).filter (fun e=>!q e) = (l.take j).filter (fun e=>!q e) ++ if q l[j] = true then [] else [l[j]]:=by
 rw [← List.take_concat_get h,List.concat_eq_append,List.filter_append]
 congr 1
 cases hq : q l[j] <;> simp [hq]
set_option maxRecDepth 100000 in
theorem DeleteFuncI_ok (f : FuncId) (capt : List AV) (q : Int → Bool) (l : List Int) (n m : Nat) (hn : l.length = n) (hm : (l.filter fun e=>!q e).length = m) (hl : n ≤ 1099511627776) (hs : Still capt) (hc : ∀ e ∈ l,ACalls Tryz.prog f (AV.I e :: capt) [] (.B (q e)) []) :
  ACalls Tryz.prog nslices_DeleteFunc_Lint_int [.rs 0 0 n,.fn (.func f) [] capt] [⟨1,rowsI l,0⟩] (.rs 0 0 m) [some ⟨1,rowsI (l.filter fun e=>!q e) ++ List.replicate (n - m) [.I 0],0⟩]:=by
 have hs2 : ∀ ρ sn h,capt.map (conv ρ sn h 2) = capt:=fun _ _ _=>hs _ _ _ 1
 have hs3 : ∀ ρ sn h,capt.map (conv ρ sn h 3) = capt:=fun _ _ _=>hs _ _ _ 2
 have hs4 : ∀ ρ sn h,capt.map (conv ρ sn h 4) = capt:=fun _ _ _=>hs _ _ _ 3
 refine sslices_DeleteFunc_Lint_int.acalls (Nat.le_of_ble_eq_true rfl) (Nat.le_of_ble_eq_true rfl) (Nat.le_of_ble_eq_true rfl) ?_
 show awp _ 1 _ _ ⟨42,[(0,.rs 0 0 n),(1,.fn (.func f) [] capt)],[(0,some ⟨1,rowsI l,0⟩)],16⟩
 have hmn : m ≤ n:=by rw [← hm,← hn]; exact List.length_filter_le _ _
 refine awp_regc ⟨42,[(0,.rs 0 0 n),(1,.fn (.func f) [] capt)],[(0,some ⟨1,rowsI l,0⟩)],24⟩ rfl ?_ ?_
 ·simp
  exact Le.keep rfl (Nat.le_refl _) (by simp) (by simp)
 refine awp_regc ⟨42,[(0,.rs 0 0 n),(1,.fn (.func f) [] capt),(5,.I (idxQ l q))],[(0,some ⟨1,rowsI l,0⟩)],56⟩ rfl ?_ ?_
 ·simp
  refine call0s [0] (IndexFuncI_ok f capt q l (by omega) hs hc) ?_ (.sc _) ?_
  ·simp [hs2,hs3,hs4,← hn,fcd,take_map_len]
  simp
  exact Le.keep rfl (Nat.le_refl _) (by simp) (by simp)
 refine awp_seq ?_
 refine awp_regc ⟨42,[(0,.rs 0 0 n),(1,.fn (.func f) [] capt),(5,.I (idxQ l q)),(12,.B (decide (idxQ l q = -1)))],[(0,some ⟨1,rowsI l,0⟩)],72⟩ rfl ?_ ?_
 ·simp
  exact Le.keep rfl (Nat.le_refl _) (by simp <;> rw [Bool.eq_iff_iff] <;> simp) (by simp)
 refine awp_cond _ rfl (fun h=>?_) fun h=>awp_skip ?_
 ·simp only [decide_eq_true_eq] at h
  have hno : ∀ i,i < l.length → ∀ h : i < l.length,q l[i] = false:=by
   intro i hi _
   unfold idxQ at h
   split at h
   ·omega
   ·rename_i hnl
    have : l.findIdx q = l.length:=by have:=List.findIdx_le_length (xs:=l) (p:=q); omega
    rw [List.findIdx_eq_length] at this
    exact this _ (List.getElem_mem hi)
  have hf:=filter_of_notI hno
  rw [hf] at hm ⊢
  obtain rfl : n = m:=by omega
  refine awp_seq ?_
  refine awp_run (s:=?s1) rfl ?o1 ?q1
  case o1=>simp; rfl
  refine awp_ret ?_
  refine ⟨.inr rfl,⟨[.rs 0 0 n],rfl,[],[],by simp [List.range,List.range.loop],by simp,by simp,?_,?_⟩⟩
  ·simp [List.range,List.range.loop]
  ·simp [List.range,List.range.loop,fcd]
 simp only [decide_eq_false_iff_not] at h
 obtain ⟨i0,hi0,hlt,hbef,hat⟩ : ∃ i0 : Nat,idxQ l q = i0 ∧ i0 < l.length ∧ (∀ i,i < i0 → ∀ h : i < l.length,q l[i] = false) ∧ ∀ h : i0 < l.length,q l[i0] = true:=by
  unfold idxQ at h ⊢
  split at h
  ·rename_i hlt
   refine ⟨l.findIdx q,by rw [if_pos hlt],hlt,fun i hi _=>?_,fun h=>List.findIdx_getElem (w:=h)⟩
   simpa using List.not_of_lt_findIdx hi
  ·omega
 rw [hi0]
 have hA0 : (l.take (i0 + 1)).filter (fun e=>!q e) = l.take i0:=by
  rw [filter_take_succI l q i0 hlt,if_pos (hat hlt),List.append_nil]
  refine filter_of_notI fun i hi h=>?_
  rw [List.length_take] at hi
  simp only [List.getElem_take]
  exact hbef i (by omega) (by omega)
 have hw0 : IntKind.i64.wrap ((i0 : Int) + 1) = ((i0 + 1 : Nat) : Int):=by rw [w64 (by omega) (by omega)]; omega
 let C : Nat × List Int → St:=fun p=>⟨42,[(0,.rs 0 0 n),(1,.fn (.func f) [] capt),(5,.I ((l.take p.1).filter fun e=>!q e).length),(6,.I p.1)],[(0,some ⟨1,rowsI ((l.take p.1).filter (fun e=>!q e) ++ p.2 ++ l.drop p.1),0⟩)],96⟩
 refine awp_seq ?_
 refine awp_regc (C (i0 + 1,[l[i0]])) rfl ?_ ?_
 ·simp [hw0]
  refine Le.keep rfl (Nat.le_refl _) ?_ ?_
  ·simp only [C,hA0]
   simp
   omega
  ·simp only [C,hA0]
   simp
 refine awp_block ?_
 refine awp_loop C (fun p : Nat × List Int=>p.1 ≤ n ∧ p.2 ≠ [] ∧ ((l.take p.1).filter fun e=>!q e).length + p.2.length = p.1) (fun p : Nat × List Int=>n - p.1) (i0 + 1,[l[i0]]) ?_ (Le.refl _ _) ?_
 ·simp only [hA0]
  simp
  omega
 rintro ⟨j,M⟩ ⟨hj,hM,hlen⟩
 simp only at hj hM hlen ⊢
 obtain ⟨A,hA⟩ : ∃ A,A = (l.take j).filter fun e=>!q e:=⟨_,rfl⟩
 rw [← hA] at hlen
 have hC : C (j,M) = ⟨42,[(0,.rs 0 0 n),(1,.fn (.func f) [] capt),(5,.I A.length),(6,.I j)],[(0,some ⟨1,rowsI (A ++ M ++ l.drop j),0⟩)],96⟩:=by subst hA; rfl
 rw [hC]
 refine awp_seq ?_
 refine awp_regc ⟨42,[(0,.rs 0 0 n),(1,.fn (.func f) [] capt),(5,.I A.length),(6,.I j),(19,.B (decide (j < n)))],[(0,some ⟨1,rowsI (A ++ M ++ l.drop j),0⟩)],128⟩ rfl ?_ ?_
 ·simp
  exact Le.keep rfl (Nat.le_refl _) (by simp) (by simp)
 refine awp_cond _ rfl (fun h=>awp_skip ?_) fun h=>awp_exit (hit ?_)
 ·simp only [decide_eq_true_eq] at h
  have hjl : j < l.length:=by omega
  match M,hM,hlen with
  | m0 :: M1,_,hlen =>
  simp only [List.length_cons] at hlen
  have hnext:=filter_take_succI l q j hjl
  rw [← hA] at hnext
  have hget : (rowsI (A ++ m0 :: M1 ++ l.drop j))[j]? = some [AV.I l[j]]:=by
   rw [List.getElem?_map,List.getElem?_append_right (by simp; omega),List.getElem?_drop,show j + (j - (A ++ m0 :: M1).length) = j by simp; omega,List.getElem?_eq_getElem hjl]
   rfl
  have hget2 : (rowsI (A ++ m0 :: M1 ++ l.drop j))[A.length]? = some [AV.I m0]:=by
   rw [List.getElem?_map,List.append_assoc,List.getElem?_append_right (by omega)]
   simp
  have hset : (rowsI (A ++ m0 :: M1 ++ l.drop j)).set A.length [AV.I l[j]] = rowsI ((A ++ [l[j]]) ++ (M1 ++ [l[j]]) ++ l.drop (j + 1)):=by
   have e1 : l.drop j = l[j] :: l.drop (j + 1):=List.drop_eq_getElem_cons hjl
   rw [e1]
   simp [rowsI,List.set_append]
  have hmore : A ++ m0 :: M1 ++ l.drop j = A ++ (m0 :: M1 ++ [l[j]]) ++ l.drop (j + 1):=by
   have e1 : l.drop j = l[j] :: l.drop (j + 1):=List.drop_eq_getElem_cons hjl
   rw [e1]
   simp
  generalize hrows : rowsI (A ++ m0 :: M1 ++ l.drop j) = R at *
  have hRl : R.length = n:=by rw [← hrows]; simp; omega
  have hck:=hc l[j] (List.getElem_mem hjl)
  generalize hv : l[j] = v at *
  refine awp_cut (ι:=List Int × List Int) (fun p=>⟨42,[(0,.rs 0 0 n),(1,.fn (.func f) [] capt),(5,.I p.1.length),(6,.I j)],[(0,some ⟨1,rowsI (p.1 ++ p.2 ++ l.drop (j + 1)),0⟩)],272⟩)
   (fun p=>p.1 = (l.take (j + 1)).filter (fun e=>!q e) ∧ p.2 ≠ [] ∧ p.1.length + p.2.length = j + 1) ?_ ?_
  ·refine awp_block ?_
   refine awp_regc ⟨42,[(0,.rs 0 0 n),(1,.fn (.func f) [] capt),(5,.I A.length),(6,.I j),(7,.I v)],[(0,some ⟨1,R,0⟩)],168⟩ rfl ?_ ?_
   ·simp [h,hget]
    exact Le.keep rfl (Nat.le_refl _) (by simp) (by simp)
   refine awp_regc ⟨42,[(0,.rs 0 0 n),(1,.fn (.func f) [] capt),(5,.I A.length),(6,.I j),(7,.I v),(29,.B (!q v))],[(0,some ⟨1,R,0⟩)],200⟩ rfl ?_ ?_
   ·simp
    refine call0e hck ?_ ?_
    ·simp [hs2,hs3,hs4]
    simp
    exact Le.keep rfl (Nat.le_refl _) (by simp) (by simp)
   refine awp_cond _ rfl (fun h5=>?_) fun h5=>awp_skip ?_
   ·simp only [Bool.not_eq_true'] at h5
    rw [h5] at hnext
    refine awp_regc ⟨42,[(0,.rs 0 0 n),(1,.fn (.func f) [] capt),(5,.I A.length),(6,.I j)],[(0,some ⟨1,rowsI ((A ++ [v]) ++ (M1 ++ [v]) ++ l.drop (j + 1)),0⟩)],240⟩ rfl ?_ ?_
    ·simp [hget2,show A.length < n by omega,splice,hset]
     exact Le.keep rfl (Nat.le_refl _) (by simp) (by simp)
    have hwA : IntKind.i64.wrap ((A.length : Int) + 1) = ((A.length + 1 : Nat) : Int):=by rw [w64 (by omega) (by omega)]; omega
    refine awp_reg rfl ?_
    simp [hwA]
    refine ⟨A ++ [v],M1 ++ [v],⟨by rw [hnext]; simp,by simp,by simp; omega⟩,Le.keep rfl (Nat.le_of_ble_eq_true rfl) (by simp) (by simp)⟩
   ·simp only [Bool.not_eq_false'] at h5
    rw [h5] at hnext
    refine ⟨(A,m0 :: M1 ++ [v]),⟨by rw [hnext]; simp,by simp,by simp; omega⟩,Le.keep rfl (Nat.le_of_ble_eq_true rfl) (by simp) ?_⟩
    rw [← hmore,hrows]
    simp
  rintro ⟨A',M'⟩ ⟨p1,p2,p3⟩
  simp only at p1 p2 p3 ⊢
  have hwj : IntKind.i64.wrap ((j : Int) + 1) = ((j + 1 : Nat) : Int):=by rw [w64 (by omega) (by omega)]; omega
  refine awp_reg rfl ?_
  simp [hwj]
  refine ⟨j + 1,M',⟨by omega,p2,by rw [← p1]; omega⟩,by omega,?_⟩
  have hD : C (j + 1,M') = ⟨42,[(0,.rs 0 0 n),(1,.fn (.func f) [] capt),(5,.I A'.length),(6,.I ((j + 1 : Nat) : Int))],[(0,some ⟨1,rowsI (A' ++ M' ++ l.drop (j + 1)),0⟩)],96⟩:=by rw [p1]
  rw [hD]
  refine Le.ents [(0,0)] [] rfl (by simp) (by simp) (by simp) (by simp) (by simp) (by simp [hs2,hs3,hs4]) fun p hp=>?_
  simp at hp
  subst hp
  exact ⟨0,_,_,rfl,by simp,rfl,EntUp.eq (by simp [fcd]) (by simp)⟩
 simp only [decide_eq_false_iff_not] at h
 obtain rfl : j = n:=by omega
 have hd : l.drop j = []:=List.drop_eq_nil_of_le (by omega)
 have ht : l.take j = l:=List.take_of_length_le (by omega)
 rw [ht] at hA
 rw [hd,List.append_nil]
 rw [← hA] at hm ⊢
 subst hm
 have hAM : (rowsI (A ++ M)).take A.length = rowsI A:=by simp [rowsI]
 have hAd : (rowsI (A ++ M)).drop (A.length + (j - A.length)) = []:=List.drop_eq_nil_of_le (by simp; omega)
 have hAl : (rowsI (A ++ M)).length = j:=by simp; omega
 generalize rowsI (A ++ M) = R at *
 refine awp_regc ⟨42,[(0,.rs 0 0 j),(5,.I A.length)],[(0,some ⟨1,rowsI A ++ List.replicate (j - A.length) [.I 0],0⟩)],160⟩ rfl ?_ ?_
 ·simp
  refine ⟨by omega,by omega,?_⟩
  rw [hAM,hAd]
  exact Le.keep rfl (Nat.le_refl _) (by simp) (by simp)
 refine awp_seq ?_
 refine awp_run (s:=?s2) rfl ?o2 ?q2
 case o2 =>
  simp
  refine ⟨by omega,?_⟩
  rfl
 refine awp_ret ?_
 refine ⟨.inr rfl,⟨[.rs 0 0 A.length],rfl,[],[],by simp [List.range,List.range.loop],by simp,by simp,?_,?_⟩⟩
 ·simp [List.range,List.range.loop]
 ·simp [List.range,List.range.loop,fcd]
def whereQ (n : Nat) (q : Int → Bool) : List Int:=((List.range n).map fun (i : Nat)=>(i : Int)).filter q
theorem whereQ_succ (n : Nat) (q : Int → Bool) : whereQ (n + 1) q = whereQ n q ++ if q n = true then [(n : Int)] else []:=by
 unfold whereQ
 rw [List.range_succ,List.map_append,List.filter_append]
 congr 1
 cases hq : q n <;> simp [hq]
theorem whereQ_le (n : Nat) (q : Int → Bool) : (whereQ n q).length ≤ n:=by
 unfold whereQ
 have:=List.length_filter_le q ((List.range n).map fun (i : Nat)=>(i : Int))
 simpa using this
set_option maxRecDepth 100000 in
theorem Where_ok (f : FuncId) (capt : List AV) (q : Int → Bool) (N : Int) (hN : N ≤ 1000000) (hs : Still capt) (hc : ∀ k : Nat,(k : Int) < N → ACalls Tryz.prog f (AV.I k :: capt) [] (.B (q k)) []) :
  ACalls Tryz.prog nlists_Where [.I N,.fn (.func f) [] capt] [] (.rs 0 0 (whereQ N.toNat q).length) [some ⟨1,rowsI (whereQ N.toNat q),0⟩]:=by
 have hs2 : ∀ ρ sn h,capt.map (conv ρ sn h 2) = capt:=fun _ _ _=>hs _ _ _ 1
 have hs3 : ∀ ρ sn h,capt.map (conv ρ sn h 3) = capt:=fun _ _ _=>hs _ _ _ 2
 have hs4 : ∀ ρ sn h,capt.map (conv ρ sn h 4) = capt:=fun _ _ _=>hs _ _ _ 3
 refine slists_Where.acalls (Nat.le_of_ble_eq_true rfl) (Nat.le_of_ble_eq_true rfl) (Nat.zero_le _) ?_
 show awp _ 0 _ _ ⟨20,[(0,.I N),(1,.fn (.func f) [] capt)],[],16⟩
 refine awp_seq ?_
 refine awp_run (s:=?s0) rfl ?o0 ?q0
 case o0=>simp; rfl
 refine awp_seq ?_
 refine awp_run (s:=?s1) rfl ?o1 ?q1
 case o1=>simp; rfl
 refine awp_seq ?_
 refine awp_seq ?_
 refine awp_run (s:=?s2) rfl ?o2 ?q2
 case o2=>simp; rfl
 refine awp_block ?_
 let C : Nat → St:=fun k=>⟨20,[(1,.fn (.func f) [] capt),(5,.rs 16 0 (whereQ k q).length),(7,.I N),(8,.I k)],[(16,some ⟨1,rowsI (whereQ k q),0⟩)],24⟩
 refine awp_loop C (fun k=>k ≤ N.toNat) (fun k=>N.toNat - k) 0 (Nat.zero_le _) (Le.lst [] [] [(16,1)] rfl (by simp) (by simp) (by simp) (by simp [C]) (by simp) (by simp) (by simp) (by simp [C,Up,whereQ,hs2,hs3,hs4]) (by simp [C,whereQ])) ?_
 intro k hk
 have hwl:=whereQ_le k q
 have hCk : C k = ⟨20,[(1,.fn (.func f) [] capt),(5,.rs 16 0 (whereQ k q).length),(7,.I N),(8,.I k)],[(16,some ⟨1,rowsI (whereQ k q),0⟩)],24⟩:=rfl
 rw [hCk]
 refine awp_regc ⟨20,[(1,.fn (.func f) [] capt),(5,.rs 16 0 (whereQ k q).length),(7,.I N),(8,.I k),(9,.B (decide ((k : Int) < N)))],[(16,some ⟨1,rowsI (whereQ k q),0⟩)],32⟩ rfl ?_ ?_
 ·simp
  exact Le.keep rfl (Nat.le_refl _) (by simp) (by simp)
 refine awp_seq ?_
 refine awp_cond _ rfl (fun h=>awp_skip ?_) fun h=>awp_exit (hit ?_)
 ·simp only [decide_eq_true_eq] at h
  have hck:=hc k h
  have hnext:=whereQ_succ k q
  have hw2 : IntKind.i64.wrap ((k : Int) + 1) = ((k + 1 : Nat) : Int):=by rw [w64 (by omega) (by omega)]; omega
  refine awp_cut (ι:=Unit) (fun _=>⟨20,[(1,.fn (.func f) [] capt),(5,.rs 16 0 (whereQ (k + 1) q).length),(7,.I N),(8,.I k)],[(16,some ⟨1,rowsI (whereQ (k + 1) q),0⟩)],24⟩) (fun _=>True) ?_ fun _ _=>?_
  ·rw [hnext]
   generalize whereQ k q = W at *
   refine awp_block ?_
   refine awp_seq ?_
   refine awp_run (s:=?s3) rfl ?o3 ?q3
   case o3=>simp; rfl
   refine awp_regc ⟨20,[(1,.fn (.func f) [] capt),(5,.rs 16 0 W.length),(6,.I k),(7,.I N),(8,.I k),(13,.B (q k))],[(16,some ⟨1,rowsI W,0⟩)],72⟩ rfl ?_ ?_
   ·simp
    refine call0e hck ?_ ?_
    ·simp [hs2,hs3,hs4]
    simp
    exact Le.keep rfl (Nat.le_refl _) (by simp) (by simp)
   refine awp_cond _ rfl (fun h5=>?_) fun h5=>awp_skip ?_
   ·rw [if_pos h5]
    refine awp_reg rfl ?_
    simp [List.replicate]
    refine ⟨by omega,by omega,ents1 (i:=96) (sn:=[]) rfl rfl (by simp) (by simp) rfl (by simp [fcd,take_map_len]) (by simp) (by simp [hs2,hs3,hs4])⟩
   ·rw [if_neg (by simp [h5]),List.append_nil]
    exact ⟨(),trivial,ents1 (i:=16) (sn:=[]) rfl rfl (by simp) (by simp) rfl (by simp [fcd]) (by simp) (by simp [hs2,hs3,hs4])⟩
  refine awp_reg rfl ?_
  simp [hw2]
  exact ⟨k + 1,by omega,by omega,ents1 (i:=16) (sn:=[]) rfl rfl (by simp [C]) (by simp) rfl (by simp [fcd]) (by simp) (by simp [C,hs2,hs3,hs4])⟩
 simp only [decide_eq_false_iff_not] at h
 obtain rfl : k = N.toNat:=by omega
 generalize whereQ N.toNat q = W at *
 refine awp_seq ?_
 refine awp_run (s:=?s9) rfl ?o9 ?q9
 case o9=>simp; rfl
 refine awp_ret ?_
 exact ⟨.inr rfl,RetOk.out [16] [] rfl (by simp) (by simp) (by simp) (by simp [fcd])⟩
end Go.Proofs.YtlhjelookgjmpaaGreat
