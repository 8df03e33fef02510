/- Texts of this claim, merged. -/
import Derived.Test.YtnphfkceoklkkaaDa9
import Derived.Test.YtnphfkceoklkkaaDa11
import Derived.Test.YtnphfkceoklkkaaDa5
set_option linter.unusedSimpArgs false
set_option linter.unusedVariables false
set_option linter.unusedSectionVars false
/- The reference's answer: from where, and to where, edges lead. -/
namespace Go.Proofs.Ytnphfkceoklkkaa
open Go

theorem ref11_Out_ok (g : Gr) (key : Int) (hl : g.edges.length ≤ 1099511627776) : ACalls Try.prog nref11_Out [eG g, .I key] [] (.rs 0 0 (outs g.edges key).length) [some ⟨1, (outs g.edges key).map fun n => [AV.I n], 0⟩] := by
  refine sref11_Out.acalls (Nat.le_of_ble_eq_true rfl) (Nat.le_of_ble_eq_true rfl) (Nat.zero_le _) ?_
  show awp _ 0 _ _ ⟨32, [(0, eG g), (1, .I key)], [], 16⟩
  refine awp_seq ?_
  refine awp_run (s := ?s0) rfl ?o0 ?q0
  case o0 => simp; rfl
  refine awp_seq ?_
  refine awp_run (s := ?s1) rfl ?o1 ?q1
  case o1 => simp; rfl
  refine awp_seq ?_
  refine awp_seq ?_
  refine awp_run (s := ?s2) rfl ?o2 ?q2
  case o2 => simp; rfl
  refine awp_block ?_
  refine awp_loop (ι := Nat) (fun k => ⟨32, [(1, .I key), (2, .pv (gC g)), (5, .rs 16 0 (outs (g.edges.take k) key).length), (6, .I k)], [(16, some ⟨1, (outs (g.edges.take k) key).map fun n => [AV.I n], 0⟩)], 24⟩) (fun k => k ≤ g.edges.length) (fun k => g.edges.length - k) (0) ?_ (Le.lst [] [16] [(16, 1)] rfl (by simp) (by simp) (by simp) (by simp) (by simp) (by simp) (by simp) (by simp [Up, outs]) (by simp [outs])) ?_
  · simp
  rintro k hk
  have hol : (outs (g.edges.take k) key).length ≤ k := Nat.le_trans (outs_le _ _) (by simp; exact Nat.min_le_left _ _)
  refine awp_seq ?_
  refine awp_seq ?_
  refine awp_run (s := ?s3) rfl ?o3 ?q3
  case o3 => simp; rfl
  refine awp_cond _ rfl (fun h4 => ?_) fun h4 => ?_
  · try simp at h4
    have hw2 : IntKind.i64.wrap ((k : Int) + 1) = (k : Int) + 1 := w64 (by omega) (by omega)
    have hwp : 0 < k → IntKind.i64.wrap ((k : Int) - 1) = ((k - 1 : Nat) : Int) := fun h => by rw [w64 (by omega) (by omega)]; omega
    have hkp : k - 1 < g.edges.length := by omega
    refine awp_skip ?_
    refine awp_seq ?_
    refine awp_block ?_
    refine awp_seq ?_
    refine awp_run (s := ?s5) rfl ?o5 ?q5
    case o5 => simp [h4, hw2, hwp, hkp]; rfl
    refine awp_cond _ rfl (fun h6 => ?_) fun h6 => ?_
    · try simp at h6
      refine awp_run (s := ?s7) rfl ?o7 ?q7
      case o7 =>
        simp [h4, hw2, hwp, hkp, List.replicate]
        refine ⟨by omega, by omega, ?_⟩
        rfl
      refine awp_run (s := ?s8) rfl ?o8 ?q8
      case o8 => simp [h4, hw2, hwp, hkp]; rfl
      have hs := outs_succ g.edges key k h4
      rw [if_pos h6] at hs
      refine ⟨k + 1, h4, by omega, Le.ren1 192 16 [] rfl rfl (Nat.le_of_ble_eq_true rfl) (by decide) rfl (by simp [hs, Function.comp_def, take_map_len]) (by simp) (by simp [hs, hw2])⟩
    try simp at h6
    refine awp_skip ?_
    refine awp_run (s := ?s9) rfl ?o9 ?q9
    case o9 => simp [h4, hw2, hwp, hkp]; rfl
    have hs := outs_succ g.edges key k h4
    rw [if_neg h6, List.append_nil] at hs
    refine ⟨k + 1, h4, by omega, Le.var1 16 [] rfl rfl (Nat.le_of_ble_eq_true rfl) (by decide) rfl (by simp [hs, Function.comp_def, take_map_len]) (by simp) (by simp [hs, hw2])⟩
  try simp at h4
  have hkl : k = g.edges.length := by omega
  subst hkl
  refine awp_exit ?_
  refine hit ?_
  refine awp_seq ?_
  refine awp_run (s := ?s10) rfl ?o10 ?q10
  case o10 => simp; rfl
  refine awp_ret ?_
  exact ⟨.inr rfl, RetOk.out [16] [] rfl (by simp) (by simp) (by simp) (by simp [Function.comp_def])⟩

theorem ref11_In_ok (g : Gr) (key : Int) (hl : g.edges.length ≤ 1099511627776) : ACalls Try.prog nref11_In [eG g, .I key] [] (.rs 0 0 (inns g.edges key).length) [some ⟨1, (inns g.edges key).map fun n => [AV.I n], 0⟩] := by
  refine sref11_In.acalls (Nat.le_of_ble_eq_true rfl) (Nat.le_of_ble_eq_true rfl) (Nat.zero_le _) ?_
  show awp _ 0 _ _ ⟨32, [(0, eG g), (1, .I key)], [], 16⟩
  refine awp_seq ?_
  refine awp_run (s := ?s0) rfl ?o0 ?q0
  case o0 => simp; rfl
  refine awp_seq ?_
  refine awp_run (s := ?s1) rfl ?o1 ?q1
  case o1 => simp; rfl
  refine awp_seq ?_
  refine awp_seq ?_
  refine awp_run (s := ?s2) rfl ?o2 ?q2
  case o2 => simp; rfl
  refine awp_block ?_
  refine awp_loop (ι := Nat) (fun k => ⟨32, [(1, .I key), (2, .pv (gC g)), (5, .rs 16 0 (inns (g.edges.take k) key).length), (6, .I k)], [(16, some ⟨1, (inns (g.edges.take k) key).map fun n => [AV.I n], 0⟩)], 24⟩) (fun k => k ≤ g.edges.length) (fun k => g.edges.length - k) (0) ?_ (Le.lst [] [16] [(16, 1)] rfl (by simp) (by simp) (by simp) (by simp) (by simp) (by simp) (by simp) (by simp [Up, inns]) (by simp [inns])) ?_
  · simp
  rintro k hk
  have hol : (inns (g.edges.take k) key).length ≤ k := Nat.le_trans (inns_le _ _) (by simp; exact Nat.min_le_left _ _)
  refine awp_seq ?_
  refine awp_seq ?_
  refine awp_run (s := ?s3) rfl ?o3 ?q3
  case o3 => simp; rfl
  refine awp_cond _ rfl (fun h4 => ?_) fun h4 => ?_
  · try simp at h4
    have hw2 : IntKind.i64.wrap ((k : Int) + 1) = (k : Int) + 1 := w64 (by omega) (by omega)
    have hwp : 0 < k → IntKind.i64.wrap ((k : Int) - 1) = ((k - 1 : Nat) : Int) := fun h => by rw [w64 (by omega) (by omega)]; omega
    have hkp : k - 1 < g.edges.length := by omega
    refine awp_skip ?_
    refine awp_seq ?_
    refine awp_block ?_
    refine awp_seq ?_
    refine awp_run (s := ?s5) rfl ?o5 ?q5
    case o5 => simp [h4, hw2, hwp, hkp]; rfl
    refine awp_cond _ rfl (fun h6 => ?_) fun h6 => ?_
    · try simp at h6
      refine awp_run (s := ?s7) rfl ?o7 ?q7
      case o7 =>
        simp [h4, hw2, hwp, hkp, List.replicate]
        refine ⟨by omega, by omega, ?_⟩
        rfl
      refine awp_run (s := ?s8) rfl ?o8 ?q8
      case o8 => simp [h4, hw2, hwp, hkp]; rfl
      have hs := inns_succ g.edges key k h4
      rw [if_pos h6] at hs
      refine ⟨k + 1, h4, by omega, Le.ren1 192 16 [] rfl rfl (Nat.le_of_ble_eq_true rfl) (by decide) rfl (by simp [hs, Function.comp_def, take_map_len]) (by simp) (by simp [hs, hw2])⟩
    try simp at h6
    refine awp_skip ?_
    refine awp_run (s := ?s9) rfl ?o9 ?q9
    case o9 => simp [h4, hw2, hwp, hkp]; rfl
    have hs := inns_succ g.edges key k h4
    rw [if_neg h6, List.append_nil] at hs
    refine ⟨k + 1, h4, by omega, Le.var1 16 [] rfl rfl (Nat.le_of_ble_eq_true rfl) (by decide) rfl (by simp [hs, Function.comp_def, take_map_len]) (by simp) (by simp [hs, hw2])⟩
  try simp at h4
  have hkl : k = g.edges.length := by omega
  subst hkl
  refine awp_exit ?_
  refine hit ?_
  refine awp_seq ?_
  refine awp_run (s := ?s10) rfl ?o10 ?q10
  case o10 => simp; rfl
  refine awp_ret ?_
  exact ⟨.inr rfl, RetOk.out [16] [] rfl (by simp) (by simp) (by simp) (by simp [Function.comp_def])⟩


end Go.Proofs.Ytnphfkceoklkkaa

/- Dice. -/
namespace Go.Proofs.Ytnphfkceoklkkaa
open Go

/-- A number modulo another one. -/
def modI (n m : Int) : Int := if m < 1 then 0 else n % m

theorem tmod_emod {n m : Int} (hm : 0 < m) : n.tmod m % m = n % m := by
  have h := Int.mul_tdiv_add_tmod n m
  conv => rhs; rw [← h]
  rw [Int.add_comm, Int.add_mul_emod_self_left]

theorem tmod_range {n m : Int} (hm : 0 < m) : -m < n.tmod m ∧ n.tmod m < m := ⟨Int.lt_tmod_of_pos n hm, Int.tmod_lt_of_pos n hm⟩

/-- What dice at a place give, and where they are then. -/
def nextD (L : List Int) (a : Nat) (n : Int) : Int × Nat := if h : a < L.length then (modI L[a] n, a + 1) else (0, a)

abbrev dice (L : List Int) (a : Nat) : Ent := ⟨2, [[ints L, .I a]], 0⟩

/-- One array passed, and handed back. -/
theorem RetOk.k1 {rs : List (Nat × Option (Bool × Nat))} {st : St} {vs : List AV} {res : AV} {e : Ent} (h1 : resAll st rs = some vs) (hw : Wk (conv [(0, 0)] [] st.hp 4 (resV vs)) res) (he : (st.hp 0).map (convE [(0, 0)] [] st.hp 4) = some e) : RetOk rs 1 st res [some e] :=
  ⟨vs, h1, [], [], by decide, by simp, by simp, hw, by simpa using he⟩

theorem Light_ok (L : List Int) : ACalls Try.prog nmade_Light [ints L] [] (.B (decide (L.length ≤ 400))) [] := by
  refine smade_Light.acalls (Nat.le_of_ble_eq_true rfl) (Nat.le_of_ble_eq_true rfl) (Nat.le_refl _) ?_
  show awp _ 0 _ _ ⟨6, [(0, ints L)], [], 16⟩
  refine awp_seq ?_
  refine awp_run (s := ?s1) rfl ?o1 ?q1
  case o1 => simp; rfl
  refine awp_regc ⟨6, [(2, .B (decide (L.length ≤ 400)))], [], 16⟩ rfl ?_ ?_
  · simp
    exact Le.snap [] rfl rfl (by simp <;> exact wkB (by simp; omega))
  refine awp_ret ?_
  exact ⟨.inr rfl, RetOk.one (by simp)⟩

theorem Mod_ok (n m : Int) (hm : m ≤ 9223372036854775807) : ACalls Try.prog nmade_Mod [.I n, .I m] [] (.I (modI n m)) [] := by
  refine smade_Mod.acalls (Nat.le_of_ble_eq_true rfl) (Nat.le_of_ble_eq_true rfl) (Nat.le_refl _) ?_
  show awp _ 0 _ _ ⟨16, [(0, .I n), (1, .I m)], [], 16⟩
  refine awp_seq ?_
  refine awp_run (s := ?s1) rfl ?o1 ?q1
  case o1 => simp; rfl
  refine awp_seq ?_
  refine awp_seq ?_
  refine awp_run (s := ?s2) rfl ?o2 ?q2
  case o2 => simp; rfl
  refine awp_cond _ rfl (fun h3 => ?_) fun h3 => ?_
  · try simp at h3
    refine awp_seq ?_
    refine awp_run (s := ?s4) rfl ?o4 ?q4
    case o4 => simp; rfl
    refine awp_ret ?_
    exact ⟨.inr rfl, RetOk.one (by simp [modI, h3])⟩
  try simp at h3
  have hm0 : m ≠ 0 := by omega
  have hlt : ¬ m < 1 := by omega
  obtain ⟨t1, t2⟩ := tmod_range (n := n) (m := m) (by omega)
  have te := tmod_emod (n := n) (m := m) (by omega)
  refine awp_skip ?_
  refine awp_seq ?_
  refine awp_run (s := ?s5) rfl ?o5 ?q5
  case o5 => simp [hm0]; rfl
  refine awp_seq ?_
  refine awp_seq ?_
  refine awp_run (s := ?s6) rfl ?o6 ?q6
  case o6 => simp; rfl
  refine awp_cond _ rfl (fun h7 => ?_) fun h7 => ?_
  · try simp at h7
    have hw : IntKind.i64.wrap (n.tmod m + m) = n.tmod m + m := w64 (by omega) (by omega)
    have hr : n % m = n.tmod m + m := by rw [← te, ← Int.add_emod_right, Int.emod_eq_of_lt (by omega) (by omega)]
    refine awp_run (s := ?s8) rfl ?o8 ?q8
    case o8 => simp [hw]; rfl
    refine awp_seq ?_
    refine awp_run (s := ?s9) rfl ?o9 ?q9
    case o9 => simp; rfl
    refine awp_ret ?_
    exact ⟨.inr rfl, RetOk.one (by simp [modI, hlt, hr])⟩
  try simp at h7
  have hr : n % m = n.tmod m := by rw [← te, Int.emod_eq_of_lt (by omega) (by omega)]
  refine awp_skip ?_
  refine awp_seq ?_
  refine awp_run (s := ?s10) rfl ?o10 ?q10
  case o10 => simp; rfl
  refine awp_ret ?_
  exact ⟨.inr rfl, RetOk.one (by simp [modI, hlt, hr])⟩

theorem Roll_ok (L : List Int) : ACalls Try.prog nmade_Roll [ints L] [] (.pt 0 0 0) [some (dice L 0)] := by
  refine smade_Roll.acalls (Nat.le_of_ble_eq_true rfl) (Nat.le_of_ble_eq_true rfl) (Nat.zero_le _) ?_
  show awp _ 0 _ _ ⟨6, [(0, ints L)], [], 16⟩
  refine awp_seq ?_
  refine awp_run (s := ?s1) rfl ?o1 ?q1
  case o1 => simp; rfl
  refine awp_seq ?_
  refine awp_run (s := ?s2) rfl ?o2 ?q2
  case o2 => simp; rfl
  refine awp_ret ?_
  exact ⟨.inr rfl, RetOk.out [40] [] rfl (by simp) (by simp) (by simp) (by simp)⟩

theorem Next_ok (L : List Int) (a : Nat) (n : Int) (hl : L.length ≤ 1099511627776) (ha : a ≤ L.length) (hn : n ≤ 9223372036854775807) : ACalls Try.prog nmade_Dice_Next [.pt 0 0 0, .I n] [dice L a] (.I (nextD L a n).1) [some (dice L (nextD L a n).2)] := by
  refine smade_Dice_Next.acalls (Nat.le_of_ble_eq_true rfl) (Nat.le_of_ble_eq_true rfl) (Nat.le_refl _) ?_
  show awp _ 1 _ _ ⟨35, [(0, .pt 0 0 0), (1, .I n)], [(0, some (dice L a))], 16⟩
  refine awp_seq ?_
  refine awp_run (s := ?s1) rfl ?o1 ?q1
  case o1 => simp; rfl
  refine awp_seq ?_
  refine awp_seq ?_
  refine awp_drun (s := ?s2) (tr := ?t2) rfl ?o2 ?r2 ?q2
  case o2 => simp; constructor <;> rfl
  case r2 => rfl
  refine awp_cond _ rfl (fun h3 => ?_) fun h3 => ?_
  · try simp at h3
    refine awp_seq ?_
    refine awp_run (s := ?s4) rfl ?o4 ?q4
    case o4 => simp; rfl
    refine awp_ret ?_
    have hr : nextD L a n = (0, a) := by unfold nextD; rw [dif_neg (by omega)]
    rw [hr]
    exact ⟨.inr rfl, RetOk.k1 rfl (by simp) (by simp [Function.comp_def])⟩
  try simp at h3
  have hw : IntKind.i64.wrap ((a : Int) + 1) = (a : Int) + 1 := w64 (by omega) (by omega)
  have hw0 : IntKind.i64.wrap (a : Int) = (a : Int) := w64 (by omega) (by omega)
  refine awp_skip ?_
  refine awp_seq ?_
  refine awp_run (s := ?s5) rfl ?o5 ?q5
  case o5 => simp [hw]; rfl
  refine awp_seq ?_
  refine awp_drun (s := ?s6) (tr := ?t6) rfl ?o6 ?r6 ?q6
  case o6 => simp [hw0, h3]; refine call0e (Mod_ok _ _ hn) rfl ?_; simp; constructor <;> rfl
  case r6 => rfl
  refine awp_ret ?_
  have hr : nextD L a n = (modI L[a] n, a + 1) := by unfold nextD; rw [dif_pos h3]
  rw [hr]
  exact ⟨.inr rfl, RetOk.k1 rfl (by simp) (by simp [Function.comp_def])⟩

end Go.Proofs.Ytnphfkceoklkkaa

/- Dice: one of some. -/
namespace Go.Proofs.Ytnphfkceoklkkaa
open Go

theorem modI_lt {n m : Int} (hm : 0 < m) : 0 ≤ modI n m ∧ modI n m < m := by
  unfold modI
  rw [if_neg (by omega)]
  exact ⟨Int.emod_nonneg _ (by omega), Int.emod_lt_of_pos _ hm⟩

theorem nextD_lt {L : List Int} {a : Nat} {n : Int} (hn : 0 < n) : 0 ≤ (nextD L a n).1 ∧ (nextD L a n).1 < n := by
  unfold nextD
  split
  · exact modI_lt hn
  · exact ⟨Int.le_refl _, hn⟩

theorem nextD_le {L : List Int} {a : Nat} {n : Int} (ha : a ≤ L.length) : (nextD L a n).2 ≤ L.length := by
  unfold nextD
  split
  · simp only; omega
  · exact ha

/-- One of some numbers. -/
def ofD (L : List Int) (a : Nat) (l : List Int) : Int := l.getD (nextD L a l.length).1.toNat 0

theorem One_ok (L : List Int) (a : Nat) (n : Int) (hl : L.length ≤ 1099511627776) (ha : a ≤ L.length) (hn0 : 0 ≤ n) (hn : n ≤ 9223372036854775807) : ACalls Try.prog nmade_Dice_One [.pt 0 0 0, .I n] [dice L a] (.B (decide ((nextD L a n).1 = n - 1))) [some (dice L (nextD L a n).2)] := by
  refine smade_Dice_One.acalls (Nat.le_of_ble_eq_true rfl) (Nat.le_of_ble_eq_true rfl) (Nat.le_refl _) ?_
  show awp _ 1 _ _ ⟨11, [(0, .pt 0 0 0), (1, .I n)], [(0, some (dice L a))], 16⟩
  have hw : IntKind.i64.wrap (n - 1) = n - 1 := w64 (by omega) (by omega)
  refine awp_seq ?_
  refine awp_run (s := ?s1) rfl ?o1 ?q1
  case o1 => simp; rfl
  refine awp_seq ?_
  refine awp_run (s := ?s2) rfl ?o2 ?q2
  case o2 =>
    simp
    refine callM1 (i := 0) rfl (e' := dice L a) (by simp [Function.comp_def]) (Next_ok L a n hl ha hn) (by simp) (by simp) ?_
    simp [hw, Function.comp_def]
    rfl
  refine awp_ret ?_
  exact ⟨.inr rfl, RetOk.k1 rfl (by simp <;> exact wkB rfl) (by simp [Function.comp_def])⟩

theorem Of_ok (L : List Int) (a : Nat) (l : List Int) (hl : L.length ≤ 1099511627776) (ha : a ≤ L.length) (h0 : 0 < l.length) (hl2 : l.length ≤ 1099511627776) : ACalls Try.prog nmade_Dice_Of [.pt 0 0 0, ints l] [dice L a] (.I (ofD L a l)) [some (dice L (nextD L a l.length).2)] := by
  refine smade_Dice_Of.acalls (Nat.le_of_ble_eq_true rfl) (Nat.le_of_ble_eq_true rfl) (Nat.le_refl _) ?_
  show awp _ 1 _ _ ⟨12, [(0, .pt 0 0 0), (1, ints l)], [(0, some (dice L a))], 16⟩
  obtain ⟨q, hq, hql⟩ : ∃ q : Nat, (nextD L a l.length).1 = q ∧ q < l.length := by
    have := nextD_lt (L := L) (a := a) (n := l.length) (by omega)
    exact ⟨(nextD L a l.length).1.toNat, by omega, by omega⟩
  have ho : ofD L a l = l[q] := by unfold ofD; rw [hq]; simp [hql]
  refine awp_seq ?_
  refine awp_run (s := ?s1) rfl ?o1 ?q1
  case o1 => simp; rfl
  refine awp_seq ?_
  refine awp_run (s := ?s2) rfl ?o2 ?q2
  case o2 =>
    simp
    refine callM1 (i := 0) rfl (e' := dice L a) (by simp [Function.comp_def]) (Next_ok L a l.length hl ha (by omega)) (by simp) (by simp) ?_
    simp [hq, hql, Function.comp_def]
    rfl
  refine awp_ret ?_
  rw [ho]
  exact ⟨.inr rfl, RetOk.k1 rfl (by simp) (by simp [Function.comp_def])⟩

end Go.Proofs.Ytnphfkceoklkkaa

/- The value-level machine: slices of known capacity; arrays that are handed in and consumed. -/
namespace Go.Proofs.Ytnphfkceoklkkaa
open Go

section
variable {P : Program} {np id : Nat} {h : Nat → Option Ent} {K : AV → List Nat → List (Nat × Option Ent) → Prop} {s i off len c k l m : Nat}
@[simp] theorem k_slkl : aK P np id (.slc s true false false) [.rk i off len c, .sc (.int .i64 (k : Int))] h K = (k ≤ len ∧ len ≤ c ∧ (∃ e, h i = some e ∧ e.s = s) ∧ K (.rk i (off + k) (len - k) (c - k)) [i] []) := by
  rw [k_slc]
  refine propext ⟨?_, ?_⟩
  · rintro ⟨l, r, m, n, h1, h2, h4, h5, h6, h7, h3, h10, h11, h8, h9⟩
    obtain rfl := h6 rfl
    simp at h4 h1
    subst h1
    have : k = l := by omega
    subst this
    obtain rfl := h11 rfl
    exact ⟨h2, h3, h8, h9⟩
  · rintro ⟨h1, h2, h3, h4⟩
    exact ⟨k, len, c, len, rfl, h1, by simp, (fun h => by cases h), fun _ => rfl, (fun h => by cases h), h2, Nat.le_refl _, fun _ => rfl, h3, h4⟩
@[simp] theorem k_slkh : aK P np id (.slc s false true false) [.rk i off len c, .sc (.int .i64 (k : Int))] h K = (k ≤ c ∧ (∃ e, h i = some e ∧ e.s = s) ∧ K (.rk i off k c) [i] []) := by
  rw [k_slc]
  refine propext ⟨?_, ?_⟩
  · rintro ⟨l, r, m, n, h1, h2, h4, h5, h6, h7, h3, h10, h11, h8, h9⟩
    obtain rfl := h5 rfl
    simp at h4 h1
    have : k = r := by omega
    subst this
    obtain rfl := h11 rfl
    exact ⟨h3, h8, by simpa using h9⟩
  · rintro ⟨h1, h3, h4⟩
    exact ⟨0, k, c, len, rfl, Nat.zero_le _, by simp, fun _ => rfl, (fun h => by cases h), (fun h => by cases h), h1, Nat.le_refl _, fun _ => rfl, h3, by simpa using h4⟩
@[simp] theorem k_slklh : aK P np id (.slc s true true false) [.rk i off len c, .sc (.int .i64 (l : Int)), .sc (.int .i64 (k : Int))] h K = (l ≤ k ∧ k ≤ c ∧ (∃ e, h i = some e ∧ e.s = s) ∧ K (.rk i (off + l) (k - l) (c - l)) [i] []) := by
  rw [k_slc]
  refine propext ⟨?_, ?_⟩
  · rintro ⟨l', r, m, n, h1, h2, h4, h5, h6, h7, h3, h10, h11, h8, h9⟩
    simp at h4 h1
    have : k = r := by omega
    subst this
    have : l = l' := by omega
    subst this
    obtain rfl := h11 rfl
    exact ⟨h2, h3, h8, h9⟩
  · rintro ⟨h1, h2, h3, h4⟩
    exact ⟨l, k, c, len, rfl, h1, by simp, (fun h => by cases h), (fun h => by cases h), (fun h => by cases h), h2, Nat.le_refl _, fun _ => rfl, h3, h4⟩
@[simp] theorem k_slkm : aK P np id (.slc s true true true) [.rk i off len c, .sc (.int .i64 (l : Int)), .sc (.int .i64 (k : Int)), .sc (.int .i64 (m : Int))] h K = (l ≤ k ∧ k ≤ m ∧ m ≤ c ∧ (∃ e, h i = some e ∧ e.s = s) ∧ K (.rk i (off + l) (k - l) (m - l)) [i] []) := by
  rw [k_slc]
  refine propext ⟨?_, ?_⟩
  · rintro ⟨l', r, m', n, h1, h2, h4, h5, h6, h7, h3, h10, h11, h8, h9⟩
    simp at h4 h1
    have : k = r := by omega
    subst this
    have : l = l' := by omega
    subst this
    have : m = m' := by omega
    subst this
    exact ⟨h2, h3, h10, h8, h9⟩
  · rintro ⟨h1, h2, h3, h4, h5⟩
    exact ⟨l, k, m, len, rfl, h1, by simp, (fun h => by cases h), (fun h => by cases h), (fun _ => rfl), h2, h3, (fun h => by cases h), h4, h5⟩
@[simp] theorem k_slrl : aK P np id (.slc s true false false) [.rs i off len, .sc (.int .i64 (k : Int))] h K = (k ≤ len ∧ (∃ e, h i = some e ∧ e.s = s) ∧ K (.rs i (off + k) (len - k)) [i] []) := by
  rw [k_slc]
  refine propext ⟨?_, ?_⟩
  · rintro ⟨l, r, m, n, h1, h2, h4, h5, h6, h7, h3, h10, h8, h9⟩
    obtain rfl := h6 rfl
    simp at h4 h1
    subst h1
    have : k = l := by omega
    subst this
    exact ⟨h2, h8, h9⟩
  · rintro ⟨h1, h3, h4⟩
    exact ⟨k, len, 0, len, rfl, h1, by simp, (fun h => by cases h), fun _ => rfl, (fun h => by cases h), Nat.le_refl _, rfl, h3, h4⟩
@[simp] theorem k_slrh : aK P np id (.slc s false true false) [.rs i off len, .sc (.int .i64 (k : Int))] h K = (k ≤ len ∧ (∃ e, h i = some e ∧ e.s = s) ∧ K (.rs i off k) [i] []) := by
  rw [k_slc]
  refine propext ⟨?_, ?_⟩
  · rintro ⟨l, r, m, n, h1, h2, h4, h5, h6, h7, h3, h10, h8, h9⟩
    obtain rfl := h5 rfl
    simp at h4 h1
    have : k = r := by omega
    subst this
    exact ⟨by omega, h8, by simpa using h9⟩
  · rintro ⟨h1, h3, h4⟩
    exact ⟨0, k, 0, len, rfl, Nat.zero_le _, by simp, fun _ => rfl, (fun h => by cases h), (fun h => by cases h), h1, rfl, h3, by simpa using h4⟩
end

/-- Saying less, nothing renamed: capacities stay known. -/
theorem Le.keep {np : Nat} {st st' : St} (hsz : st'.sz = st.sz) (hn : st.n ≤ st'.n) (ht : ∀ p ∈ st'.t, st.get p.1 = p.2) (hh : ∀ p ∈ st'.h, ∀ e, p.2 = some e → st.hp p.1 = some e) : Le np st st' := by
  intro T0 M0 w0 T M a w ok hnp
  have hp : ∀ id e, st'.hp id = some e → st.hp id = some e := by
    intro id e he
    unfold St.hp at he
    cases hl : lkp st'.h id with
    | none => rw [hl] at he; cases he
    | some v =>
      rw [hl] at he
      exact hh _ (lkp_mem hl) e he
  refine ⟨T, M, ⟨ok.sz.trans hsz.symm, ok.df, fun i => ?_, ⟨fun id e he => ok.hs.ent id e (hp id e he), fun id id' e e' g g' b h1 h2 => ok.hs.inj id id' e e' g g' b (hp _ _ h1) (hp _ _ h2)⟩, fun id g hg => Nat.lt_of_lt_of_le (ok.dom id g hg) hn, ok.after⟩, Nat.le_trans hnp hn⟩
  unfold St.get at *
  cases hl : lkp st'.t i with
  | none => exact .dead _ _
  | some v =>
    have := ht _ (lkp_mem hl)
    simp only at this
    show Rep T w M v _
    rw [← this]
    exact ok.tm i

/-- An array that was handed in, or made, goes on alone, under a new number. -/
theorem Le.mv1 {st st' : St} (j i : Nat) {e0 e : Ent} (hsz : st'.sz = st.sz) (hh : st'.h = [(i, some e)]) (hi : i < st'.n) (h1 : 1 ≤ i) (h0 : st.hp j = some e0) (he : convE [(j, i)] [] st.hp 4 e0 = e) (hr : e.ro ≤ e.rows.length)
    (ht : ∀ p ∈ st'.t, Wk (conv [(j, i)] [] st.hp 4 (st.get p.1)) p.2) : Le 1 st st' :=
  Le.lst [(j, i)] [] [] hsz (by simp) (by simp) (by simp [hi]; omega) (by simp) (by simp) (by omega) (by simp) (fun p hp => .inl (ht p hp)) (fun p hp e' he' => by
    rw [hh] at hp
    simp at hp
    subst hp
    cases he'
    exact .inl ⟨(j, i), by simp, rfl, e0, h0, by rw [he]; exact EntUp.rfl' hr⟩)

/-- One array handed in and gone, one handed back. -/
theorem RetOk.m1 {rs : List (Nat × Option (Bool × Nat))} {st : St} {vs : List AV} {res : AV} {e : Ent} (i : Nat) (hi : 1 ≤ i) (h1 : resAll st rs = some vs) (hw : Wk (conv [(0, 0), (i, 1)] [] st.hp 4 (resV vs)) res) (h0 : st.hp 0 = none) (he : (st.hp i).map (convE [(0, 0), (i, 1)] [] st.hp 4) = some e) : RetOk rs 1 st res [none, some e] :=
  ⟨vs, h1, [i], [], by simp [List.range, List.range.loop]; omega, by simpa using hi, by simp, by simpa [List.range, List.range.loop] using hw, by simpa [List.range, List.range.loop, h0] using he⟩

end Go.Proofs.Ytnphfkceoklkkaa

/- slices.Insert of one edge. -/
namespace Go.Proofs.Ytnphfkceoklkkaa
open Go

/-- Rows that no renaming touches. -/
def Flat (R : List (List AV)) : Prop := ∀ ρ sn h n, R.map (List.map (conv ρ sn h (n + 1))) = R

set_option maxRecDepth 100000 in
theorem insE_ok (R : List (List AV)) (row : List AV) (n k : Nat) (hn : R.length = n) (hk : k ≤ n) (hR : Flat R) (hr : Flat [row]) (hl : (n + 1) * 24 ≤ 140737488355328) :
    ACalls Try.prog nslices_Insert_Lapi_Edge_api_Edge [.rs 0 0 n, .I k, .vs 3 false [row]] [⟨3, R, 0⟩] (.rs 1 0 (n + 1)) [none, some ⟨3, R.take k ++ row :: R.drop k, 0⟩] := by
  have hrow : ∀ ρ sn h n, row.map (conv ρ sn h (n + 1)) = row := fun ρ sn h n => by simpa using hr ρ sn h n
  have hflat : ∀ ρ sn h n, (R.take k ++ row :: R.drop k).map (List.map (conv ρ sn h (n + 1))) = R.take k ++ row :: R.drop k := fun ρ sn h n => by
    have := hR ρ sn h n
    rw [List.map_append, List.map_cons, List.map_take, List.map_drop, this, hrow]
  refine acalls_cap fun c hc => ?_
  refine sslices_Insert_Lapi_Edge_api_Edge.acalls (Nat.le_of_ble_eq_true rfl) (Nat.le_of_ble_eq_true rfl) (Nat.le_of_ble_eq_true rfl) ?_
  show awp _ 1 _ _ ⟨95, [(0, .rk 0 0 n c), (1, .I k), (2, .vs 3 false [row])], [(0, some ⟨3, R, 0⟩)], 16⟩
  obtain ⟨n1, hn1⟩ : ∃ n1, n1 = n + 1 := ⟨_, rfl⟩
  obtain ⟨k1, hk1⟩ : ∃ k1, k1 = k + 1 := ⟨_, rfl⟩
  obtain ⟨d, hd⟩ : ∃ d, d = n1 - k := ⟨_, rfl⟩
  have hw1 : IntKind.i64.wrap ((n : Int) + 1) = (n1 : Int) := by rw [w64 (by omega) (by omega)]; omega
  have hw2 : IntKind.i64.wrap ((k : Int) + 1) = (k1 : Int) := by rw [w64 (by omega) (by omega)]; omega
  have hw3 : IntKind.i64.wrap ((n1 : Int) - (k : Int)) = (d : Int) := by rw [w64 (by omega) (by omega)]; omega
  have fin : ∀ (t : List (Nat × AV)) (m : Nat), awp Try.prog 1 .ret (fun e st => (e = .normal ∨ e = .ret) ∧ RetOk [(6, none)] 1 st (.rs 1 0 (n + 1)) [none, some ⟨3, R.take k ++ row :: R.drop k, 0⟩]) ⟨95, [(6, .rs 16 0 n1)], [(16, some ⟨3, R.take k ++ row :: R.drop k, 0⟩)], 24⟩ := by
    intro t m
    refine awp_ret ⟨.inr rfl, ?_⟩
    refine RetOk.m1 (vs := [.rs 16 0 n1]) 16 (by omega) rfl (by simp [hn1]) rfl ?_
    show Option.map _ (some _) = _
    rw [Option.map_some]
    unfold convE
    simp only [hflat]
  refine awp_regc ⟨95, [(0, .rk 0 0 n c), (1, .I k), (2, .vs 3 false [row])], [(0, some ⟨3, R, 0⟩)], 24⟩ rfl ?_ ?_
  · simp
    exact Le.keep rfl (Nat.le_refl _) (by simp) (by simp)
  refine awp_regc ⟨95, [(0, .rk 0 0 n c), (1, .I k), (2, .vs 3 false [row])], [(0, some ⟨3, R, 0⟩)], 48⟩ rfl ?_ ?_
  · simp [hk, hc]
    exact Le.keep rfl (Nat.le_refl _) (by simp) (by simp)
  refine awp_regc ⟨95, [(0, .rk 0 0 n c), (1, .I k), (2, .vs 3 false [row]), (7, .I 1)], [(0, some ⟨3, R, 0⟩)], 72⟩ rfl ?_ ?_
  · simp
    exact Le.keep rfl (Nat.le_refl _) (by simp) (by simp)
  refine awp_seq ?_
  refine awp_regc ⟨95, [(0, .rk 0 0 n c), (1, .I k), (2, .vs 3 false [row]), (7, .I 1), (16, .B false)], [(0, some ⟨3, R, 0⟩)], 88⟩ rfl ?_ ?_
  · simp
    exact Le.keep rfl (Nat.le_refl _) (by simp) (by simp)
  refine awp_cond _ rfl (fun h => by cases h) fun _ => awp_skip ?_
  refine awp_regc ⟨95, [(0, .rk 0 0 n c), (1, .I k), (2, .vs 3 false [row]), (7, .I 1), (8, .I n)], [(0, some ⟨3, R, 0⟩)], 112⟩ rfl ?_ ?_
  · simp
    exact Le.keep rfl (Nat.le_refl _) (by simp) (by simp)
  refine awp_seq ?_
  refine awp_regc ⟨95, [(0, .rk 0 0 n c), (1, .I k), (2, .vs 3 false [row]), (7, .I 1), (8, .I n), (22, .B (decide (k = n)))], [(0, some ⟨3, R, 0⟩)], 136⟩ rfl ?_ ?_
  · simp
    exact Le.keep rfl (Nat.le_refl _) (by simp <;> rw [Bool.eq_iff_iff] <;> simp <;> omega) (by simp)
  refine awp_cond _ rfl (fun h => ?_) fun h => awp_skip ?_
  · -- at the end
    simp at h
    subst h
    have hT : R.take k = R := List.take_of_length_le (by omega)
    have hD : R.drop k = [] := List.drop_eq_nil_of_le (by omega)
    have hD1 : R.drop n1 = [] := List.drop_eq_nil_of_le (by omega)
    simp only [hT, hD] at fin hflat ⊢
    refine awp_regc ⟨95, [(6, .rs 16 0 n1)], [(16, some ⟨3, R ++ [row], 0⟩)], 24⟩ rfl ?_ (fin [] 0)
    simp [hn, ← hn1, hT, hD1]
    refine ⟨by omega, by omega, ?_⟩
    split
    · exact Le.mv1 0 16 rfl rfl (Nat.le_of_ble_eq_true rfl) (by omega) rfl (by simp only [convE, hflat]) (Nat.zero_le _) (by simp)
    · exact Le.mv1 152 16 rfl rfl (Nat.le_of_ble_eq_true rfl) (by omega) rfl (by simp only [convE, hflat]) (Nat.zero_le _) (by simp)
  simp at h
  have hkn : k < n := by omega
  refine awp_seq ?_
  refine awp_regc ⟨95, [(0, .rk 0 0 n c), (1, .I k), (2, .vs 3 false [row]), (7, .I 1), (8, .I n), (31, .B (decide (c < n1)))], [(0, some ⟨3, R, 0⟩)], 184⟩ rfl ?_ ?_
  · simp [hw1]
    exact Le.keep rfl (Nat.le_refl _) (by simp) (by simp)
  refine awp_cond _ rfl (fun h => ?_) fun h => awp_skip ?_
  · -- no room
    simp at h
    have hdn : n - k + 1 = d := by omega
    refine awp_regc ⟨95, [(0, .rk 0 0 n c), (1, .I k), (2, .vs 3 false [row]), (7, .I 1), (8, .I n), (9, .rs 248 0 n1)], [(0, some ⟨3, R, 0⟩), (248, some ⟨3, R.take k ++ List.replicate d [.I 0, .I 0, .I 0], 0⟩)], 264⟩ rfl ?_ ?_
    · have hkd : k + d = n1 := by omega
      simp [hw1, hw3, hkd]
      exact ⟨by omega, by omega, by omega, h, by omega, by omega, Le.keep rfl (Nat.le_refl _) (by simp) (by simp)⟩
    refine awp_regc ⟨95, [(0, .rk 0 0 n c), (1, .I k), (2, .vs 3 false [row]), (7, .I 1), (8, .I n), (9, .rs 248 0 n1)], [(0, some ⟨3, R, 0⟩), (248, some ⟨3, R.take k ++ row :: List.replicate (n - k) [.I 0, .I 0, .I 0], 0⟩)], 304⟩ rfl ?_ ?_
    · have hm : min 1 (n1 - k) = 1 := by omega
      have hl0 : (R.take k).length = k := by simp; omega
      have h1 : (R.take k ++ List.replicate d [AV.I 0, AV.I 0, AV.I 0]).take k = R.take k := by
        rw [List.take_append_of_le_length (by omega), List.take_take]
        congr 1; omega
      have h2 : (R.take k ++ List.replicate d [AV.I 0, AV.I 0, AV.I 0]).drop (k + 1) = List.replicate (n - k) [AV.I 0, AV.I 0, AV.I 0] := by
        rw [List.drop_append, hl0, List.drop_eq_nil_of_le (by omega), List.drop_replicate]
        simp
        omega
      simp [show k ≤ n1 by omega, hm]
      exact ⟨by omega, Le.keep rfl (Nat.le_refl _) (by simp) (by simp [h1, h2])⟩
    refine awp_dregc ⟨95, [(9, .rs 248 0 n1)], [(248, some ⟨3, R.take k ++ row :: R.drop k, 0⟩)], 376⟩ rfl ?_ ?_
    · have hl0 : (R.take k).length = k := by simp; omega
      have hx : List.take (n - k) (List.drop k R) = List.drop k R := List.take_of_length_le (by simp; omega)
      have hxl : (List.drop k R).length = n - k := by simp; omega
      have hm : min (n - k) (n1 - k1) = n - k := by omega
      have h1 : (R.take k ++ row :: List.replicate (n - k) [AV.I 0, AV.I 0, AV.I 0]).take k1 = R.take k ++ [row] := by
        rw [List.take_append, hl0, List.take_of_length_le (by omega), hk1, show k + 1 - k = 1 by omega]
        rfl
      have h2 : (R.take k ++ row :: List.replicate (n - k) [AV.I 0, AV.I 0, AV.I 0]).drop (k1 + (n - k)) = [] := List.drop_eq_nil_of_le (by simp; omega)
      simp [hw2]
      refine ⟨by omega, by omega, by omega, by omega, _, ⟨by omega, hx⟩, rfl, ?_⟩
      rw [hxl, hm, h1, h2, hx]
      exact Le.keep rfl (Nat.le_refl _) (by simp) (by simp)
    refine awp_regc ⟨95, [(6, .rs 16 0 n1)], [(16, some ⟨3, R.take k ++ row :: R.drop k, 0⟩)], 24⟩ rfl ?_ (fin [] 0)
    simp
    exact Le.mv1 248 16 rfl rfl (Nat.le_of_ble_eq_true rfl) (by omega) rfl (by simp only [convE, hflat]) (Nat.zero_le _) (by simp)
  -- room
  simp at h
  refine awp_regc ⟨95, [(0, .rk 0 0 n1 c), (1, .I k), (2, .vs 3 false [row]), (7, .I 1), (8, .I n)], [(0, some ⟨3, R, 0⟩)], 232⟩ rfl ?_ ?_
  · simp [hw1, h]
    exact Le.keep rfl (Nat.le_refl _) (by simp) (by simp)
  refine awp_seq ?_
  refine awp_regc ⟨95, [(0, .rk 0 0 n1 c), (1, .I k), (2, .vs 3 false [row]), (7, .I 1), (8, .I n), (68, .B true)], [(0, some ⟨3, R, 0⟩)], 296⟩ rfl ?_ ?_
  · simp [hw2, h, show k1 ≤ n1 by omega]
    exact Le.keep rfl (Nat.le_refl _) (by simp) (by simp)
  refine awp_cond _ rfl (fun _ => ?_) fun h => by cases h
  have hmin : min (n1 - k) (n1 - k1) = n - k := by omega
  have hRk : (R.drop k).take (n - k) = R.drop k := List.take_of_length_le (by simp; omega)
  refine awp_dregc ⟨95, [(0, .rk 0 0 n1 c), (1, .I k), (2, .vs 3 false [row]), (7, .I 1), (8, .I n)], [(0, some ⟨3, R.take k1 ++ R.drop k, 0⟩)], 368⟩ rfl ?_ ?_
  · simp [hw2, h, show k1 ≤ n1 by omega, show k ≤ n1 by omega, hmin, hn, show k + (n - k) ≤ n by omega, show k1 ≤ n by omega, hRk, Nat.min_eq_left (show n - k ≤ n1 - k by omega)]
    refine ⟨rfl, Le.keep rfl (Nat.le_refl _) (by simp) (by simp; omega)⟩
  refine awp_regc ⟨95, [(0, .rk 0 0 n1 c)], [(0, some ⟨3, R.take k ++ row :: R.drop k, 0⟩)], 408⟩ rfl ?_ ?_
  · have hm : min 1 (n1 - k) = 1 := by omega
    have h1 : (R.take k1 ++ R.drop k).take k = R.take k := by
      rw [List.take_append_of_le_length (by simp; omega), List.take_take]
      congr 1; omega
    have h2 : (R.take k1 ++ R.drop k).drop (k + 1) = R.drop k := by
      rw [← hk1, List.drop_append_of_le_length (by simp; omega)]
      rw [List.drop_eq_nil_of_le (by simp; omega)]; rfl
    simp [h, show k ≤ n1 by omega, hm, hn]
    exact ⟨by omega, Le.keep rfl (Nat.le_refl _) (by simp) (by simp [h1, h2])⟩
  refine awp_regc ⟨95, [(6, .rs 16 0 n1)], [(16, some ⟨3, R.take k ++ row :: R.drop k, 0⟩)], 24⟩ rfl ?_ (fin [] 0)
  simp
  exact Le.mv1 0 16 rfl rfl (Nat.le_of_ble_eq_true rfl) (by omega) rfl (by simp only [convE, hflat]) (Nat.zero_le _) (by simp)

set_option maxRecDepth 100000 in
theorem delE_ok (R : List (List AV)) (n k k1 : Nat) (hn : R.length = n) (hk : k < n) (hk1 : k1 = k + 1) (hR : Flat R) (hl : (n + 1) * 24 ≤ 140737488355328) :
    ACalls Try.prog nslices_Delete_Lapi_Edge_api_Edge [.rs 0 0 n, .I k, .I k1] [⟨3, R, 0⟩] (.rs 0 0 (n - 1)) [some ⟨3, R.take k ++ R.drop k1 ++ [[.I 0, .I 0, .I 0]], 0⟩] := by
  refine acalls_cap fun c hc => ?_
  refine sslices_Delete_Lapi_Edge_api_Edge.acalls (Nat.le_of_ble_eq_true rfl) (Nat.le_of_ble_eq_true rfl) (Nat.le_of_ble_eq_true rfl) ?_
  show awp _ 1 _ _ ⟨33, [(0, .rk 0 0 n c), (1, .I k), (2, .I k1)], [(0, some ⟨3, R, 0⟩)], 16⟩
  obtain ⟨nm, hnm⟩ : ∃ nm, nm = n - 1 := ⟨_, rfl⟩
  refine awp_regc ⟨33, [(0, .rk 0 0 n c), (1, .I k), (2, .I k1)], [(0, some ⟨3, R, 0⟩)], 24⟩ rfl ?_ ?_
  · simp
    exact Le.keep rfl (Nat.le_refl _) (by simp) (by simp)
  refine awp_regc ⟨33, [(0, .rk 0 0 n c), (1, .I k), (2, .I k1)], [(0, some ⟨3, R, 0⟩)], 72⟩ rfl ?_ ?_
  · simp
    exact ⟨by omega, by omega, by omega, Le.keep rfl (Nat.le_refl _) (by simp) (by simp)⟩
  refine awp_seq ?_
  refine awp_regc ⟨33, [(0, .rk 0 0 n c), (1, .I k), (2, .I k1), (16, .B false)], [(0, some ⟨3, R, 0⟩)], 96⟩ rfl ?_ ?_
  · simp
    exact Le.keep rfl (Nat.le_refl _) (by simp; omega) (by simp)
  refine awp_cond _ rfl (fun h => by cases h) fun _ => awp_skip ?_
  refine awp_regc ⟨33, [(0, .rk 0 0 n c), (1, .I k), (2, .I k1), (7, .I n)], [(0, some ⟨3, R, 0⟩)], 120⟩ rfl ?_ ?_
  · simp
    exact Le.keep rfl (Nat.le_refl _) (by simp) (by simp)
  have hx : List.take (n - k1) (List.drop k1 R) = List.drop k1 R := List.take_of_length_le (by simp; omega)
  have hxl : (List.drop k1 R).length = n - k1 := by simp; omega
  have hl0 : (R.take k).length = k := by simp; omega
  refine awp_dregc ⟨33, [(0, .rk 0 0 nm c), (7, .I n)], [(0, some ⟨3, R.take k ++ R.drop k1 ++ R.drop nm, 0⟩)], 184⟩ rfl ?_ ?_
  · simp
    have hkn : k + (n - k1) = nm := by omega
    refine ⟨by omega, by omega, by omega, _, ⟨by omega, hx⟩, by omega, ?_⟩
    rw [hxl, hkn]
    refine ⟨by omega, by omega, ?_⟩
    rw [if_pos (by omega)]
    exact ⟨rfl, Le.keep rfl (Nat.le_refl _) (by simp) (by simp)⟩
  have h1 : (R.take k ++ R.drop k1 ++ R.drop nm).take nm = R.take k ++ R.drop k1 := by
    rw [List.take_append_of_le_length (by simp; omega), List.take_of_length_le (by simp; omega)]
  refine awp_regc ⟨33, [(0, .rk 0 0 nm c)], [(0, some ⟨3, R.take k ++ R.drop k1 ++ [[.I 0, .I 0, .I 0]], 0⟩)], 232⟩ rfl ?_ ?_
  · rw [List.append_assoc] at h1
    have h2 : (R.take k ++ (R.drop k1 ++ R.drop nm)).drop (nm + (n - nm)) = [] := List.drop_eq_nil_of_le (by simp; omega)
    have h3 : n - nm = 1 := by omega
    simp
    refine ⟨by omega, by omega, by omega, ?_⟩
    rw [h1, h2, h3]
    exact Le.keep rfl (Nat.le_refl _) (by simp) (by simp [List.replicate])
  refine awp_seq ?_
  refine awp_run (s := ?s9) rfl ?o9 ?q9
  case o9 => simp; rfl
  refine awp_ret ?_
  refine ⟨.inr rfl, ⟨[.rk 0 0 nm c], rfl, [], [], by simp [List.range, List.range.loop], by simp, by simp, ?_, ?_⟩⟩
  · simp [List.range, List.range.loop, ← hnm]
  · have hflat : ∀ ρ sn h n, (R.take k ++ (R.drop k1 ++ [[AV.I 0, AV.I 0, AV.I 0]])).map (List.map (conv ρ sn h (n + 1))) = R.take k ++ R.drop k1 ++ [[AV.I 0, AV.I 0, AV.I 0]] := fun ρ sn h n => by
      have := hR ρ sn h n
      rw [List.map_append, List.map_append, List.map_take, List.map_drop, this]
      simp
    show [Option.map _ (some _)] = _
    rw [Option.map_some]
    unfold convE
    simp only [List.append_assoc, hflat]

end Go.Proofs.Ytnphfkceoklkkaa

/- A graph with an edge, and without one. -/
namespace Go.Proofs.Ytnphfkceoklkkaa
open Go

theorem flatE (l : List Ed) : Flat (l.map fun e => [AV.I e.f, AV.I e.t, AV.I e.v]) := by
  intro ρ sn h n
  simp [Function.comp_def]

theorem GrOk.lt {g : Gr} (h : GrOk g) : ∀ (j i : Nat) (hi : i < g.edges.length) (hj : j < g.edges.length), i < j → Bef g.edges[i] g.edges[j]
  | 0, _, _, _, h0 => by omega
  | j + 1, i, hi, hj, hij => by
    have h1 : Bef g.edges[j] g.edges[j + 1] := cmpE_lt.1 ((h.2 (j + 1) hj).2.2.2 (by omega))
    rcases Nat.lt_or_ge i j with h2 | h2
    · have h3 := GrOk.lt h j i hi (by omega) h2
      unfold Bef at *
      omega
    · obtain rfl : i = j := by omega
      exact h1

theorem GrOk.mono {g : Gr} (h : GrOk g) (e : Ed) : ∀ (i j : Nat) (hi : i < g.edges.length) (hj : j < g.edges.length), i ≤ j → Bef g.edges[j] e → Bef g.edges[i] e := by
  intro i j hi hj hij hb
  rcases Nat.lt_or_ge i j with h2 | h2
  · have h3 := h.lt j i hi hj h2
    unfold Bef at *
    omega
  · obtain rfl : i = j := by omega
    exact hb

theorem idxE_same (l : List Ed) (e : Ed) : idxE l e = idxE l ⟨e.f, e.t, 0⟩ := rfl

section
variable {P : Program} {np id : Nat} {h : Nat → Option Ent} {K : AV → List Nat → List (Nat × Option Ent) → Prop} {f : FuncId} {first capt args args' : List AV} {res : AV}
/-- A call that is handed one array to keep, and reads another. -/
theorem callM1s {i j : Nat} {e e' ej : Ent} {hs' : List (Option Ent)} (hij : j ≠ i) (hnp : np ≤ j) (hi : h i = some e) (hj : h j = some ej) (hee : convE [(i, 0)] [j] h 4 e = e') (hc : ACalls P f args' [e'] res hs') (h8 : hs'.length ≤ 9) (he : (first ++ args ++ capt).map (conv [(i, 0)] [j] h 4) = args')
    (hk : K (conv (swp [i] id) [] (fun _ => none) 4 res) [i, j] ((hs'.zipIdx.map fun (e, k) => ((i :: (List.range 8).map (id + ·)).getD k 0, e.map (convE (swp [i] id) [] (fun _ => none) 4))) ++ [(j, some { ej with ro := ej.rows.length })])) : aK P np id .call (.fn (.func f) first capt :: args) h K :=
  ⟨[i], [j], true, args', [e'], res, hs', by simp, by simpa using hij, by simpa using hnp, by rw [show [i].zipIdx = [(i, 0)] from rfl, he]; exact wkL_refl _, by rw [show [i].zipIdx = [(i, 0)] from rfl]; simpa [hi] using hee, hc, by simpa using h8, .inl rfl, by simpa [swp, hj] using hk⟩
end

open Classical in
set_option maxRecDepth 100000 in
theorem graph_With_ok (g : Gr) (e : Ed) (hl : g.edges.length * 24 ≤ 140737488355328) (hl2 : g.gone.length * 8 ≤ 140737488355328) : ACalls Try.prog ngraph_With [eG g, eE e] [] (.tup [eG (withR g e).1, .I (withR g e).2]) [] := by
  refine sgraph_With.acalls (Nat.le_of_ble_eq_true rfl) (Nat.le_of_ble_eq_true rfl) (Nat.le_refl _) ?_
  show awp _ 0 _ _ ⟨51, [(0, eG g), (1, eE e)], [], 16⟩
  refine awp_regc ⟨51, [(2, .pv (gC g)), (3, .pv (eC e)), (4, .pt 32 0 0)], [(32, some ⟨3, [[.I 0, .nilS, .nilS]], 0⟩)], 40⟩ rfl ?_ ?_
  · simp
    exact Le.var1 32 [16, 24] rfl rfl (Nat.le_of_ble_eq_true rfl) (by decide) rfl (by simp) (by simp) (by simp)
  refine awp_seq ?_
  refine awp_seq ?_
  refine awp_run (s := ?s1) rfl ?o1 ?q1
  case o1 => simp; refine call0e (graph_Check_ok g (by omega) (by omega)) rfl ?_; simp; rfl
  refine awp_cond _ rfl (fun h2 => ?_) fun h2 => ?_
  · have hg : ¬ GrOk g := by
      intro hg
      simp [hg] at h2
    refine awp_seq ?_
    refine awp_run (s := ?s3) rfl ?o3 ?q3
    case o3 => simp; rfl
    refine awp_ret ?_
    refine ⟨.inr rfl, ?_⟩
    show RetOk [(4, some (true, 3)), (5, none)] 0 _ _ _
    refine RetOk.out (vs := [.agg [.I 0, .nilS, .nilS], .I 14]) [] [] (by simp) (by simp) (by simp) ?_ (by simp)
    have hr : withR g e = (emptyG, 14) := by grind [withR]
    simp [hr, emptyG]
    exact wkT2 (wkA3 (.refl _) (.nil _ _) (.nil _ _)) (.refl _)
  have hg : GrOk g := by
    rcases Classical.em (GrOk g) with h | h
    · exact h
    · simp [h] at h2
  have h500 : g.edges.length ≤ 500 := hg.1.2.2.1
  refine awp_skip ?_
  refine awp_seq ?_
  refine awp_run (s := ?s4) rfl ?o4 ?q4
  case o4 => simp; refine call0e (BinarySearch_ok g.edges e (Nat.le_trans hg.1.2.2.1 (by omega)) (hg.mono e)) rfl ?_; simp [idxE_same]; rfl
  refine awp_seq ?_
  refine awp_block ?_
  refine awp_seq ?_
  refine awp_run (s := ?s5) rfl ?o5 ?q5
  case o5 => simp; refine call0e (graph_fits_ok g e hg.1.1 hg.1.2.1 (by omega)) rfl ?_; simp; rfl
  refine awp_cond _ rfl (fun h6 => ?_) fun h6 => ?_
  · try simp at h6
    refine awp_seq ?_
    refine awp_run (s := ?s7) rfl ?o7 ?q7
    case o7 => simp; rfl
    refine awp_ret ?_
    refine ⟨.inr rfl, ?_⟩
    show RetOk [(4, some (true, 3)), (5, none)] 0 _ _ _
    refine RetOk.out (vs := [.agg [.I 0, .nilS, .nilS], .I 4]) [] [] (by simp) (by simp) (by simp) ?_ (by simp)
    have hr : withR g e = (emptyG, 4) := by grind [withR]
    simp [hr, emptyG]
    exact wkT2 (wkA3 (.refl _) (.nil _ _) (.nil _ _)) (.refl _)
  try simp at h6
  refine awp_seq ?_
  refine awp_run (s := ?s8) rfl ?o8 ?q8
  case o8 => simp; refine call0e (lists_In_ok ..) rfl ?_; simp; rfl
  refine awp_cond _ rfl (fun h9 => ?_) fun h9 => ?_
  · try simp at h9
    refine awp_seq ?_
    refine awp_run (s := ?s10) rfl ?o10 ?q10
    case o10 => simp; rfl
    refine awp_ret ?_
    refine ⟨.inr rfl, ?_⟩
    show RetOk [(4, some (true, 3)), (5, none)] 0 _ _ _
    refine RetOk.out (vs := [.agg [.I 0, .nilS, .nilS], .I 2]) [] [] (by simp) (by simp) (by simp) ?_ (by simp)
    have hr : withR g e = (emptyG, 2) := by grind [withR]
    simp [hr, emptyG]
    exact wkT2 (wkA3 (.refl _) (.nil _ _) (.nil _ _)) (.refl _)
  try simp at h9
  refine awp_seq ?_
  refine awp_run (s := ?s11) rfl ?o11 ?q11
  case o11 => simp; rfl
  refine awp_cond _ rfl (fun h12 => ?_) fun h12 => ?_
  · try simp at h12
    refine awp_seq ?_
    refine awp_run (s := ?s13) rfl ?o13 ?q13
    case o13 => simp; rfl
    refine awp_ret ?_
    refine ⟨.inr rfl, ?_⟩
    show RetOk [(4, some (true, 3)), (5, none)] 0 _ _ _
    refine RetOk.out (vs := [.agg [.I 0, .nilS, .nilS], .I 19]) [] [] (by simp) (by simp) (by simp) ?_ (by simp)
    have hr : withR g e = (emptyG, 19) := by grind [withR]
    simp [hr, emptyG]
    exact wkT2 (wkA3 (.refl _) (.nil _ _) (.nil _ _)) (.refl _)
  try simp at h12
  refine awp_seq ?_
  refine awp_run (s := ?s14) rfl ?o14 ?q14
  case o14 => simp; rfl
  refine awp_cond _ rfl (fun h15 => ?_) fun h15 => ?_
  · try simp at h15
    refine awp_seq ?_
    refine awp_run (s := ?s16) rfl ?o16 ?q16
    case o16 => simp; rfl
    refine awp_ret ?_
    refine ⟨.inr rfl, ?_⟩
    show RetOk [(4, some (true, 3)), (5, none)] 0 _ _ _
    refine RetOk.out (vs := [.agg [.I 0, .nilS, .nilS], .I 3]) [] [] (by simp) (by simp) (by simp) ?_ (by simp)
    have hr : withR g e = (emptyG, 3) := by grind [withR]
    simp [hr, emptyG]
    exact wkT2 (wkA3 (.refl _) (.nil _ _) (.nil _ _)) (.refl _)
  try simp at h15
  refine awp_skip ?_
  refine awp_regc ⟨51, [(3, .pv (eC e)), (4, .pt 32 0 0), (6, .I (idxE g.edges ⟨e.f, e.t, 0⟩)), (8, .pt 288 0 0)], [(32, some ⟨3, [[.I 0, .nilS, .nilS]], 0⟩), (288, some ⟨3, [[.I g.size, .rs 280 0 g.edges.length, .rs 281 0 g.gone.length]], 0⟩), (280, some ⟨3, g.edges.map fun e : Ed => [AV.I e.f, AV.I e.t, AV.I e.v], 0⟩), (281, some ⟨1, g.gone.map fun n => [AV.I n], 0⟩)], 304⟩ rfl ?_ ?_
  · simp
    refine callN2 (graph_copied_ok g hl hl2) rfl ?_
    simp [Function.comp_def]
    exact Le.keep rfl (Nat.le_refl _) (by simp) (by simp)
  have hle := idxE_le g.edges ⟨e.f, e.t, 0⟩
  have hr : withR g e = (plusE g e, 0) := by grind [withR]
  rw [hr]
  unfold plusE
  have hk : ∃ k, k = idxE g.edges ⟨e.f, e.t, 0⟩ := ⟨_, rfl⟩
  obtain ⟨k, hk⟩ := hk
  rw [← hk] at hle ⊢
  obtain ⟨R, hR⟩ : ∃ R, R = g.edges.map fun e : Ed => [AV.I e.f, AV.I e.t, AV.I e.v] := ⟨_, rfl⟩
  rw [← hR]
  have hRl : R.length = g.edges.length := by simp [hR]
  have hRf : Flat R := by rw [hR]; exact flatE _
  obtain ⟨E, hE⟩ : ∃ E, E = g.edges.take k ++ e :: g.edges.drop k := ⟨_, rfl⟩
  have hEl : E.length = g.edges.length + 1 := by subst hE; simp; omega
  have hrows : R.take k ++ [AV.I e.f, AV.I e.t, AV.I e.v] :: R.drop k = E.map fun e : Ed => [AV.I e.f, AV.I e.t, AV.I e.v] := by subst hE hR; simp [List.map_take, List.map_drop]
  have hins := insE_ok R [AV.I e.f, AV.I e.t, AV.I e.v] g.edges.length k hRl hle hRf (flatE [e]) (by omega)
  rw [hrows, ← hEl] at hins
  rw [← hE]
  refine awp_regc ⟨51, [(4, .pt 32 0 0), (8, .pt 288 0 0)], [(32, some ⟨3, [[.I 0, .nilS, .nilS]], 0⟩), (288, some ⟨3, [[.I g.size, .rs 344 0 E.length, .rs 281 0 g.gone.length]], 0⟩), (344, some ⟨3, E.map fun e : Ed => [AV.I e.f, AV.I e.t, AV.I e.v], 0⟩), (281, some ⟨1, g.gone.map fun n => [AV.I n], 0⟩)], 368⟩ rfl ?_ ?_
  · simp
    refine callM1s (i := 280) (j := 336) (by decide) (Nat.zero_le _) rfl rfl ?_ hins (by simp) ?_ ?_
    · have := hRf [(280, 0)] [336]
      simp only [convE, this]
    · simp
    simp [Function.comp_def]
    exact Le.keep rfl (Nat.le_refl _) (by simp) (by simp)
  refine awp_seq ?_
  refine awp_run (s := ?s21) rfl ?o21 ?q21
  case o21 => simp; rfl
  refine awp_ret ?_
  refine ⟨.inr rfl, ?_⟩
  show RetOk [(4, some (true, 3)), (5, none)] 0 _ _ _
  refine RetOk.out (vs := [.agg [.I g.size, .rs 344 0 E.length, .rs 281 0 g.gone.length], .I 0]) [] [344, 281] (by simp) (by simp) (by simp) ?_ (by simp)
  simp [Function.comp_def, take_map_len]

end Go.Proofs.Ytnphfkceoklkkaa

/- Graphs out of dice: what they are, and that they are valid. -/
namespace Go.Proofs.Ytnphfkceoklkkaa
open Go

theorem idxE_bef {l : List Ed} {e : Ed} {i : Nat} (h : i < idxE l e) (hi : i < l.length) : Bef l[i] e := by
  have := List.not_of_lt_findIdx h
  simpa using this

theorem idxE_not {l : List Ed} {e : Ed} (h : idxE l e < l.length) : ¬ Bef l[idxE l e] e := by
  have h1 : l.findIdx (fun x => !decide (Bef x e)) < l.length := h
  have := List.findIdx_getElem (w := h1)
  intro hb
  have h2 : decide (Bef l[l.findIdx (fun x => !decide (Bef x e))] e) = true := decide_eq_true hb
  simp only [h2] at this
  cases this

/-- A valid graph with one edge more that may be in it is valid. -/
theorem plusE_ok {g : Gr} {e : Ed} (hg : GrOk g) (hf : Fits g e) (h1 : 1 ≤ e.v) (h3 : e.v ≤ 3) (ha : ¬ AtE g.edges (idxE g.edges ⟨e.f, e.t, 0⟩) e.f e.t) (hl : g.edges.length < 500) : GrOk (plusE g e) := by
  have hle := idxE_le g.edges ⟨e.f, e.t, 0⟩
  have hb : ∀ i (hi : i < g.edges.length), i < idxE g.edges ⟨e.f, e.t, 0⟩ → Bef g.edges[i] e := fun i hi h => by
    have := idxE_bef h hi
    exact this
  have hn : ∀ (h : idxE g.edges ⟨e.f, e.t, 0⟩ < g.edges.length), Bef e g.edges[idxE g.edges ⟨e.f, e.t, 0⟩] := fun h => by
    have h2 := idxE_not h
    have h4 : ¬ (g.edges[idxE g.edges ⟨e.f, e.t, 0⟩].f = e.f ∧ g.edges[idxE g.edges ⟨e.f, e.t, 0⟩].t = e.t) := fun q => ha ⟨h, q⟩
    simp only [Bef] at h2 ⊢
    omega
  unfold plusE
  generalize idxE g.edges ⟨e.f, e.t, 0⟩ = k at *
  have hlen : (g.edges.take k ++ e :: g.edges.drop k).length = g.edges.length + 1 := by simp; omega
  have hget : ∀ i (hi : i < (g.edges.take k ++ e :: g.edges.drop k).length), (g.edges.take k ++ e :: g.edges.drop k)[i] = if h : i < k then g.edges[i]'(by omega) else if h2 : i = k then e else g.edges[i - 1]'(by omega) := by
    intro i hi
    have htl : (g.edges.take k).length = k := by simp; omega
    by_cases h : i < k
    · rw [dif_pos h, List.getElem_append_left (by omega), List.getElem_take]
    · rw [dif_neg h, List.getElem_append_right (by omega)]
      by_cases h2 : i = k
      · subst h2
        simp [htl]
      · rw [dif_neg h2]
        rw [List.getElem_cons]
        rw [dif_neg (by omega), List.getElem_drop]
        congr 1
        omega
  refine ⟨⟨hg.1.1, hg.1.2.1, by simp only [hlen]; omega, hg.1.2.2.2⟩, fun i hi => ?_⟩
  simp only at hi
  have hfit : ∀ x : Ed, Fits ⟨g.size, g.edges.take k ++ e :: g.edges.drop k, g.gone⟩ x ↔ Fits g x := fun x => Iff.rfl
  simp only [hfit, cmpE_lt, hget]
  have hE := fun j (hj : j < g.edges.length) => hg.2 j hj
  by_cases h : i < k
  · simp only [dif_pos h]
    refine ⟨(hE i (by omega)).1, (hE i (by omega)).2.1, (hE i (by omega)).2.2.1, fun h0 => ?_⟩
    rw [dif_pos (by omega)]
    exact cmpE_lt.1 ((hE i (by omega)).2.2.2 h0)
  · simp only [dif_neg h]
    by_cases h2 : i = k
    · subst h2
      simp only [dif_pos]
      refine ⟨hf, h1, h3, fun h0 => ?_⟩
      rw [dif_pos (by omega)]
      exact hb _ _ (by omega)
    · simp only [dif_neg h2]
      refine ⟨(hE (i - 1) (by omega)).1, (hE (i - 1) (by omega)).2.1, (hE (i - 1) (by omega)).2.2.1, fun h0 => ?_⟩
      rw [dif_neg (by omega)]
      by_cases h4 : i - 1 = k
      · rw [dif_pos h4]
        subst h4
        exact hn _
      · rw [dif_neg h4]
        exact hg.lt _ _ _ _ (by omega)

theorem withR_ok {g : Gr} {e : Ed} (h : (withR g e).2 = 0) : GrOk g ∧ Fits g e ∧ (1 ≤ e.v ∧ e.v ≤ 3) ∧ ¬ AtE g.edges (idxE g.edges ⟨e.f, e.t, 0⟩) e.f e.t ∧ g.edges.length < 500 ∧ (withR g e).1 = plusE g e ∧ GrOk (plusE g e) := by
  have key : GrOk g ∧ Fits g e ∧ (1 ≤ e.v ∧ e.v ≤ 3) ∧ ¬ AtE g.edges (idxE g.edges ⟨e.f, e.t, 0⟩) e.f e.t ∧ g.edges.length ≠ 500 ∧ (withR g e).1 = plusE g e := by
    unfold withR at *
    split at h
    · simp at h
    split at h
    · simp at h
    split at h
    · simp at h
    split at h
    · simp at h
    split at h
    · simp at h
    simp_all
  obtain ⟨h1, h2, h3, h4, h5, h6⟩ := key
  have h7 : g.edges.length < 500 := by have := h1.1.2.2.1; omega
  exact ⟨h1, h2, h3, h4, h7, h6, plusE_ok h1 h2 h3.1 h3.2 h4 h7⟩

/-- One throw for an edge. -/
noncomputable def stepG (L : List Int) (p : Gr × Nat) : Gr × Nat :=
  (if (withR p.1 ⟨(nextD L p.2 p.1.size).1, (nextD L (nextD L p.2 p.1.size).2 p.1.size).1, 1 + (nextD L (nextD L (nextD L p.2 p.1.size).2 p.1.size).2 3).1⟩).2 = 0
    then (withR p.1 ⟨(nextD L p.2 p.1.size).1, (nextD L (nextD L p.2 p.1.size).2 p.1.size).1, 1 + (nextD L (nextD L (nextD L p.2 p.1.size).2 p.1.size).2 3).1⟩).1 else p.1,
   (nextD L (nextD L (nextD L p.2 p.1.size).2 p.1.size).2 3).2)

noncomputable def iterG (L : List Int) : Nat → Gr × Nat → Gr × Nat
  | 0, p => p
  | n + 1, p => iterG L n (stepG L p)

def sizeG (L : List Int) (a : Nat) : Int := if L.length = 0 then 4 else 2 + (nextD L a 8).1

def startG (L : List Int) (a : Nat) : Gr × Nat :=
  if (nextD L (nextD L a 8).2 8).1 = 7 then (⟨sizeG L a, [], [(nextD L (nextD L (nextD L a 8).2 8).2 (sizeG L a)).1]⟩, (nextD L (nextD L (nextD L a 8).2 8).2 (sizeG L a)).2)
  else (⟨sizeG L a, [], []⟩, (nextD L (nextD L a 8).2 8).2)

/-- A graph of up to nine keys, and where the dice are then. -/
noncomputable def graphD (L : List Int) (a : Nat) : Gr × Nat := iterG L (nextD L (startG L a).2 23).1.toNat ((startG L a).1, (nextD L (startG L a).2 23).2)

/-- What made graphs are. -/
structure MadeG (L : List Int) (p : Gr × Nat) : Prop where
  ok : GrOk p.1
  lo : 2 ≤ p.1.size
  hi : p.1.size ≤ 9
  at_ : p.2 ≤ L.length
  few : p.1.gone.length ≤ 1

theorem sizeG_range (L : List Int) (a : Nat) : 2 ≤ sizeG L a ∧ sizeG L a ≤ 9 := by
  have := nextD_lt (L := L) (a := a) (n := 8) (by omega)
  unfold sizeG
  split <;> omega

theorem startG_made (L : List Int) (a : Nat) (ha : a ≤ L.length) : MadeG L (startG L a) := by
  have hs := sizeG_range L a
  have h1 := nextD_le (L := L) (a := a) (n := 8) ha
  have h2 := nextD_le (L := L) (a := (nextD L a 8).2) (n := 8) h1
  have hq := nextD_lt (L := L) (a := (nextD L (nextD L a 8).2 8).2) (n := sizeG L a) (by omega)
  unfold startG
  split
  · refine ⟨⟨⟨by simp only; omega, by simp only; omega, by simp, fun i hi => ?_⟩, fun i hi => absurd hi (by simp)⟩, hs.1, hs.2, nextD_le h2, by simp⟩
    obtain rfl : i = 0 := by simpa using hi
    refine ⟨hq.1, ?_, fun h => by omega⟩
    have := hq.2
    simp only [List.getElem_cons_zero]
    omega
  · exact ⟨⟨⟨by simp only; omega, by simp only; omega, by simp, fun i hi => absurd hi (by simp)⟩, fun i hi => absurd hi (by simp)⟩, hs.1, hs.2, h2, by simp⟩

theorem stepG_made {L : List Int} {p : Gr × Nat} (h : MadeG L p) : MadeG L (stepG L p) := by
  have h3 := nextD_le (n := 3) (nextD_le (n := p.1.size) (nextD_le (n := p.1.size) h.at_))
  unfold stepG
  by_cases hw : (withR p.1 ⟨(nextD L p.2 p.1.size).1, (nextD L (nextD L p.2 p.1.size).2 p.1.size).1, 1 + (nextD L (nextD L (nextD L p.2 p.1.size).2 p.1.size).2 3).1⟩).2 = 0
  · rw [if_pos hw]
    obtain ⟨_, _, _, _, _, q6, q7⟩ := withR_ok hw
    rw [q6]
    exact ⟨q7, h.lo, h.hi, h3, h.few⟩
  · rw [if_neg hw]
    exact ⟨h.ok, h.lo, h.hi, h3, h.few⟩

theorem iterG_made {L : List Int} : ∀ (n : Nat) {p : Gr × Nat}, MadeG L p → MadeG L (iterG L n p)
  | 0, _, h => h
  | n + 1, _, h => iterG_made n (stepG_made h)

theorem graphD_made (L : List Int) (a : Nat) (ha : a ≤ L.length) : MadeG L (graphD L a) := by
  have h := startG_made L a ha
  exact iterG_made _ ⟨h.ok, h.lo, h.hi, nextD_le h.at_, h.few⟩

end Go.Proofs.Ytnphfkceoklkkaa

/- Graphs out of dice: the walk. -/
namespace Go.Proofs.Ytnphfkceoklkkaa
open Go

theorem EntUp.eq {nl : List (Nat × Nat)} {e e' : Ent} (h : e = e') (hr : e'.ro ≤ e'.rows.length) : EntUp nl e e' := by
  subst h
  exact EntUp.rfl' hr

theorem EntUp.row {nl : List (Nat × Nat)} {s ro : Nat} {e : Ent} {r r' : List AV} (h : e = ⟨s, [r], ro⟩) (hr : ro ≤ 1) (hu : UpL nl r r') : EntUp nl e ⟨s, [r'], ro⟩ := by
  subst h
  exact ⟨rfl, Nat.le_refl _, hr, .inr ⟨r, r', rfl, rfl, hu⟩⟩

theorem upL_of {nl : List (Nat × Nat)} : ∀ {xs ys : List AV}, WkL xs ys → UpL nl xs ys
  | [], [], _ => trivial
  | _ :: _, _ :: _, h => ⟨.inl h.1, upL_of h.2⟩
  | [], _ :: _, h => False.elim h
  | _ :: _, [], h => False.elim h

/-- Saying less: the entries that go on, one by one. -/
theorem Le.ents {np : Nat} {st st' : St} (ρ : List (Nat × Nat)) (sn : List Nat) (hsz : st'.sz = st.sz)
    (h0 : (ρ.map (·.1)).Nodup) (h1 : (ρ.map (·.2)).Nodup) (h2 : ∀ p ∈ ρ, p.2 < st'.n ∧ (p.2 < np → p.1 = p.2)) (h4 : ∀ i ∈ sn, np ≤ i ∧ i ∉ ρ.map (·.1)) (h5 : np ≤ st'.n)
    (ht : ∀ p ∈ st'.t, Wk (conv ρ sn st.hp 4 (st.get p.1)) p.2)
    (hh : ∀ p ∈ st'.h, ∃ q e e', p.2 = some e' ∧ (q, p.1) ∈ ρ ∧ st.hp q = some e ∧ EntUp [] (convE ρ sn st.hp 4 e) e') : Le np st st' :=
  Le.lst ρ sn [] hsz h0 h1 h2 (by simp) h4 h5 (by simp) (fun p hp => .inl (ht p hp)) fun p hp e' he' => by
    obtain ⟨q, e, e2, h1, h2, h3, h4⟩ := hh p hp
    rw [he'] at h1
    cases h1
    exact .inl ⟨(q, p.1), h2, rfl, e, h3, h4⟩

theorem Next1_ok (L : List Int) (a : Nat) (n : Int) (hl : L.length ≤ 400) (ha : a ≤ L.length) (hn : n ≤ 9223372036854775807) : ACalls Try.prog nmade_Dice_Next [.pt 0 0 0, .I n] [dice L a] (.I (nextD L a n).1) [some (dice L (nextD L a n).2)] := Next_ok L a n (by omega) ha hn

abbrev zG : Ent := ⟨3, [[.I 0, .nilS, .nilS]], 0⟩
abbrev rowG (g : Gr) : Ent := ⟨3, [gC g], 0⟩

set_option maxRecDepth 100000 in
theorem Graph_ok (L : List Int) (a : Nat) (hl : L.length ≤ 400) (ha : a ≤ L.length) : ACalls Try.prog nmade_Dice_Graph [.pt 0 0 0] [dice L a] (eG (graphD L a).1) [some (dice L (graphD L a).2)] := by
  refine smade_Dice_Graph.acalls (Nat.le_of_ble_eq_true rfl) (Nat.le_of_ble_eq_true rfl) (Nat.le_refl _) ?_
  show awp _ 1 _ _ ⟨53, [(0, .pt 0 0 0)], [(0, some (dice L a))], 16⟩
  have a1 := nextD_le (L := L) (a := a) (n := 8) ha
  have r1 := nextD_lt (L := L) (a := a) (n := 8) (by omega)
  have hs := sizeG_range L a
  have a2 := nextD_le (L := L) (a := (nextD L a 8).2) (n := 8) a1
  have hw1 : IntKind.i64.wrap (2 + (nextD L a 8).1) = 2 + (nextD L a 8).1 := w64 (by omega) (by omega)
  have hm := startG_made L a ha
  refine awp_regc ⟨53, [(0, .pt 0 0 0), (2, .pt 16 0 0)], [(0, some (dice L a)), (16, some zG)], 24⟩ rfl ?_ ?_
  · simp
    exact Le.keep rfl (Nat.le_refl _) (by simp) (by simp)
  refine awp_regc ⟨53, [(0, .pt 0 0 0), (2, .pt 16 0 0), (3, .pt 56 0 0)], [(0, some (dice L (nextD L a 8).2)), (16, some zG), (56, some ⟨3, [[.I (2 + (nextD L a 8).1), .nilS, .nilS]], 0⟩)], 72⟩ rfl ?_ ?_
  · simp
    refine callM1 (i := 0) rfl (e' := dice L a) (by simp [Function.comp_def]) (Next1_ok L a 8 hl ha (by omega)) (by simp) (by simp) ?_
    simp [hw1, Function.comp_def]
    exact Le.keep rfl (Nat.le_refl _) (by simp) (by simp)
  refine awp_cut (ι := Unit) (fun _ => ⟨53, [(0, .pt 0 0 0), (2, .pt 16 0 0), (3, .pt 56 0 0)], [(0, some (dice L (nextD L a 8).2)), (16, some zG), (56, some ⟨3, [[.I (sizeG L a), .nilS, .nilS]], 0⟩)], 136⟩) (fun _ => True) ?_ fun _ _ => ?_
  · refine awp_regc ⟨53, [(0, .pt 0 0 0), (2, .pt 16 0 0), (3, .pt 56 0 0), (16, .B (decide (L.length = 0)))], [(0, some (dice L (nextD L a 8).2)), (16, some zG), (56, some ⟨3, [[.I (2 + (nextD L a 8).1), .nilS, .nilS]], 0⟩)], 120⟩ rfl ?_ ?_
    · simp
      exact Le.keep rfl (Nat.le_refl _) (by simp <;> rw [Bool.eq_iff_iff] <;> simp) (by simp)
    refine awp_cond _ rfl (fun h => ?_) fun h => awp_skip ?_
    · simp only [decide_eq_true_eq] at h
      have hz : sizeG L a = 4 := by unfold sizeG; rw [if_pos h]
      refine awp_reg rfl ?_
      simp
      exact Le.keep rfl (Nat.le_refl _) (by simp) (by simp [hz])
    · simp only [decide_eq_false_iff_not] at h
      have hz : sizeG L a = 2 + (nextD L a 8).1 := by unfold sizeG; rw [if_neg h]
      exact ⟨(), trivial, Le.keep rfl (Nat.le_of_ble_eq_true rfl) (by simp) (by simp [hz])⟩
  refine awp_cut (ι := Unit) (fun _ => ⟨53, [(0, .pt 0 0 0), (2, .pt 16 0 0), (3, .pt 56 0 0)], [(0, some (dice L (startG L a).2)), (16, some zG), (56, some (rowG (startG L a).1))], 208⟩) (fun _ => True) ?_ fun _ _ => ?_
  · refine awp_regc ⟨53, [(0, .pt 0 0 0), (2, .pt 16 0 0), (3, .pt 56 0 0), (19, .B (decide ((nextD L (nextD L a 8).2 8).1 = 7)))], [(0, some (dice L (nextD L (nextD L a 8).2 8).2)), (16, some zG), (56, some ⟨3, [[.I (sizeG L a), .nilS, .nilS]], 0⟩)], 152⟩ rfl ?_ ?_
    · simp
      refine callM1 (i := 0) rfl (e' := dice L (nextD L a 8).2) (by simp [Function.comp_def]) (One_ok L _ 8 (by omega) a1 (by omega) (by omega)) (by simp) (by simp) ?_
      simp [Function.comp_def]
      exact Le.keep rfl (Nat.le_refl _) (by simp) (by simp)
    refine awp_cond _ rfl (fun h => ?_) fun h => awp_skip ?_
    · simp only [decide_eq_true_eq] at h
      have hz : startG L a = (⟨sizeG L a, [], [(nextD L (nextD L (nextD L a 8).2 8).2 (sizeG L a)).1]⟩, (nextD L (nextD L (nextD L a 8).2 8).2 (sizeG L a)).2) := by unfold startG; rw [if_pos h]
      rw [hz]
      refine awp_reg rfl ?_
      simp
      refine callM1 (i := 0) rfl (e' := dice L (nextD L (nextD L a 8).2 8).2) (by simp [Function.comp_def]) (Next1_ok L (nextD L (nextD L a 8).2 8).2 (sizeG L a) hl a2 (by omega)) (by simp) (by simp) ?_
      simp [Function.comp_def]
      refine Le.ents [(0, 0), (16, 16), (56, 56)] [184] rfl (by simp) (by simp) (by simp) (by simp) (by simp) (by simp) fun p hp => ?_
      simp at hp
      rcases hp with rfl | rfl | rfl
      · exact ⟨0, _, _, rfl, by simp, rfl, EntUp.eq (by simp) (by simp)⟩
      · exact ⟨16, _, _, rfl, by simp, rfl, EntUp.eq (by simp) (by simp)⟩
      · exact ⟨56, _, _, rfl, by simp, rfl, EntUp.row (by simp; rfl) (by simp) (upL_of (by simp; exact ⟨.nil _ _, .refl _⟩))⟩
    · simp only [decide_eq_false_iff_not] at h
      have hz : startG L a = (⟨sizeG L a, [], []⟩, (nextD L (nextD L a 8).2 8).2) := by unfold startG; rw [if_neg h]
      rw [hz]
      refine ⟨(), trivial, Le.ents [(0, 0), (16, 16), (56, 56)] [] rfl (by simp) (by simp) (by simp) (by simp) (by simp) (by simp) fun p hp => ?_⟩
      simp at hp
      rcases hp with rfl | rfl | rfl
      · exact ⟨0, _, _, rfl, by simp, rfl, EntUp.eq (by simp) (by simp)⟩
      · exact ⟨16, _, _, rfl, by simp, rfl, EntUp.eq (by simp) (by simp)⟩
      · exact ⟨56, _, _, rfl, by simp, rfl, EntUp.row (by simp; rfl) (by simp) (upL_of (by simp; exact ⟨.nil _ _, .nil _ _⟩))⟩
  have r4 := nextD_lt (L := L) (a := (startG L a).2) (n := 23) (by omega)
  obtain ⟨n0, hn0⟩ : ∃ n0 : Nat, (nextD L (startG L a).2 23).1 = n0 := ⟨(nextD L (startG L a).2 23).1.toNat, by omega⟩
  refine awp_seq ?_
  refine awp_regc ⟨53, [(0, .pt 0 0 0), (2, .pt 16 0 0), (3, .pt 56 0 0), (4, .I n0)], [(0, some (dice L (nextD L (startG L a).2 23).2)), (16, some zG), (56, some (rowG (startG L a).1))], 232⟩ rfl ?_ ?_
  · simp
    refine callM1 (i := 0) rfl (e' := dice L (startG L a).2) (by simp [Function.comp_def]) (Next1_ok L (startG L a).2 23 hl hm.at_ (by omega)) (by simp) (by simp) ?_
    simp [Function.comp_def, hn0]
    exact Le.keep rfl (Nat.le_refl _) (by simp) (by simp)
  refine awp_block ?_
  refine awp_loop (ι := Nat × Gr × Nat) (fun q => ⟨53, [(0, .pt 0 0 0), (2, .pt 16 0 0), (3, .pt 56 0 0), (4, .I q.1)], [(0, some (dice L q.2.2)), (16, some zG), (56, some (rowG q.2.1))], 232⟩)
    (fun q => q.1 ≤ 23 ∧ MadeG L q.2 ∧ iterG L q.1 q.2 = graphD L a) (fun q => q.1) (n0, (startG L a).1, (nextD L (startG L a).2 23).2) ?_ (Le.refl _ _) ?_
  · refine ⟨by simp only; omega, ⟨hm.ok, hm.lo, hm.hi, nextD_le hm.at_, hm.few⟩, ?_⟩
    unfold graphD
    rw [hn0]
    rfl
  rintro ⟨k, p⟩ ⟨hk, hp, hit⟩
  simp only at hk hp hit ⊢
  refine awp_seq ?_
  refine awp_regc ⟨53, [(0, .pt 0 0 0), (2, .pt 16 0 0), (3, .pt 56 0 0), (4, .I k), (29, .B (decide (0 < k)))], [(0, some (dice L p.2)), (16, some zG), (56, some (rowG p.1))], 248⟩ rfl ?_ ?_
  · simp
    exact Le.keep rfl (Nat.le_refl _) (by simp) (by simp)
  refine awp_cond _ rfl (fun h => awp_skip ?_) fun h => awp_exit (Go.Proofs.Ytnphfkceoklkkaa.hit ?_)
  · simp only [decide_eq_true_eq] at h
    refine awp_cut (ι := Unit) (fun _ => ⟨53, [(0, .pt 0 0 0), (2, .pt 16 0 0), (3, .pt 56 0 0), (4, .I k)], [(0, some (dice L (stepG L p).2)), (16, some zG), (56, some (rowG (stepG L p).1))], 440⟩) (fun _ => True) ?_ fun _ _ => ?_
    · refine awp_block ?_
      have q1 := nextD_le (n := p.1.size) hp.at_
      have q2 := nextD_le (n := p.1.size) q1
      have hlo := hp.lo
      have hhi := hp.hi
      have l3 := nextD_lt (L := L) (a := (nextD L (nextD L p.2 p.1.size).2 p.1.size).2) (n := 3) (by omega)
      have hwv : IntKind.i64.wrap (1 + (nextD L (nextD L (nextD L p.2 p.1.size).2 p.1.size).2 3).1) = 1 + (nextD L (nextD L (nextD L p.2 p.1.size).2 p.1.size).2 3).1 := w64 (by omega) (by omega)
      obtain ⟨w, hw⟩ : ∃ w, w = withR p.1 ⟨(nextD L p.2 p.1.size).1, (nextD L (nextD L p.2 p.1.size).2 p.1.size).1, 1 + (nextD L (nextD L (nextD L p.2 p.1.size).2 p.1.size).2 3).1⟩ := ⟨_, rfl⟩
      have hst : stepG L p = (if w.2 = 0 then w.1 else p.1, (nextD L (nextD L (nextD L p.2 p.1.size).2 p.1.size).2 3).2) := by rw [hw]; rfl
      have h500 := hp.ok.1.2.2.1
      have hfew := hp.few
      have hwith := ref11_With_ok p.1 ⟨(nextD L p.2 p.1.size).1, (nextD L (nextD L p.2 p.1.size).2 p.1.size).1, 1 + (nextD L (nextD L (nextD L p.2 p.1.size).2 p.1.size).2 3).1⟩ (by omega) (by omega)
      rw [← hw] at hwith
      rw [hst]
      refine awp_dregc ⟨53, [(0, .pt 0 0 0), (2, .pt 16 0 0), (3, .pt 56 0 0), (4, .I k), (5, .pv (gC w.1)), (6, .I w.2)], [(0, some (dice L (nextD L (nextD L (nextD L p.2 p.1.size).2 p.1.size).2 3).2)), (16, some zG), (56, some (rowG p.1))], 408⟩ rfl ?_ ?_
      · simp
        refine callM1 (i := 0) rfl (e' := dice L p.2) (by simp [Function.comp_def]) (Next1_ok L p.2 p.1.size hl hp.at_ (by omega)) (by simp) (by simp) ?_
        simp [Function.comp_def]
        refine callM1 (i := 0) rfl (e' := dice L (nextD L p.2 p.1.size).2) (by simp [Function.comp_def]) (Next1_ok L (nextD L p.2 p.1.size).2 p.1.size hl q1 (by omega)) (by simp) (by simp) ?_
        simp [Function.comp_def]
        refine callM1 (i := 0) rfl (e' := dice L (nextD L (nextD L p.2 p.1.size).2 p.1.size).2) (by simp [Function.comp_def]) (Next1_ok L (nextD L (nextD L p.2 p.1.size).2 p.1.size).2 3 hl q2 (by omega)) (by simp) (by simp) ?_
        simp [Function.comp_def, hwv]
        refine call0e hwith rfl ?_
        simp
        refine ⟨rfl, Le.ents [(0, 0), (16, 16), (56, 56)] [384] rfl (by simp) (by simp) (by simp) (by simp) (by simp) (by simp) fun p hp => ?_⟩
        simp at hp
        rcases hp with rfl | rfl | rfl
        · exact ⟨0, _, _, rfl, by simp, rfl, EntUp.eq (by simp [Function.comp_def]) (by simp)⟩
        · exact ⟨16, _, _, rfl, by simp, rfl, EntUp.eq (by simp) (by simp)⟩
        · exact ⟨56, _, _, rfl, by simp, rfl, EntUp.eq (by simp) (by simp)⟩
      refine awp_regc ⟨53, [(0, .pt 0 0 0), (2, .pt 16 0 0), (3, .pt 56 0 0), (4, .I k), (5, .pv (gC w.1)), (50, .B (decide (w.2 = 0)))], [(0, some (dice L (nextD L (nextD L (nextD L p.2 p.1.size).2 p.1.size).2 3).2)), (16, some zG), (56, some (rowG p.1))], 424⟩ rfl ?_ ?_
      · simp
        exact Le.keep rfl (Nat.le_refl _) (by simp <;> rw [Bool.eq_iff_iff] <;> simp) (by simp)
      refine awp_cond _ rfl (fun h => ?_) fun h => awp_skip ?_
      · simp only [decide_eq_true_eq] at h
        refine awp_reg rfl ?_
        simp [h]
        exact Le.keep rfl (Nat.le_of_ble_eq_true rfl) (by simp) (by simp)
      · simp only [decide_eq_false_iff_not] at h
        rw [if_neg h]
        exact ⟨(), trivial, Le.keep rfl (Nat.le_of_ble_eq_true rfl) (by simp) (by simp)⟩
    have hwk : IntKind.i64.wrap ((k : Int) - 1) = ((k - 1 : Nat) : Int) := by rw [w64 (by omega) (by omega)]; omega
    refine awp_reg rfl ?_
    simp [hwk]
    refine ⟨k - 1, (stepG L p).1, (stepG L p).2, ⟨by omega, stepG_made hp, ?_⟩, by omega, Le.ents [(0, 0), (16, 16), (56, 56)] [] rfl (by simp) (by simp) (by simp) (by simp) (by simp) (by simp) fun p hp => ?_⟩
    · rw [← hit]
      obtain ⟨k, rfl⟩ : ∃ j, k = j + 1 := ⟨k - 1, by omega⟩
      rfl
    · simp at hp
      rcases hp with rfl | rfl | rfl
      · exact ⟨0, _, _, rfl, by simp, rfl, EntUp.eq (by simp [Function.comp_def]) (by simp)⟩
      · exact ⟨16, _, _, rfl, by simp, rfl, EntUp.eq (by simp) (by simp)⟩
      · exact ⟨56, _, _, rfl, by simp, rfl, EntUp.eq (by simp) (by simp)⟩
  simp only [decide_eq_false_iff_not] at h
  obtain rfl : k = 0 := by omega
  have hpe : p = graphD L a := hit
  rw [← hpe]
  refine awp_regc ⟨53, [(2, .pt 16 0 0)], [(0, some (dice L p.2)), (16, some (rowG p.1))], 264⟩ rfl ?_ ?_
  · simp
    exact Le.keep rfl (Nat.le_refl _) (by simp) (by simp)
  refine awp_ret ?_
  exact ⟨.inr rfl, RetOk.k1 (vs := [eG p.1]) rfl (by simp) (by simp [Function.comp_def])⟩

end Go.Proofs.Ytnphfkceoklkkaa

/- slices.IndexFunc and slices.DeleteFunc of edges, by any function. -/
namespace Go.Proofs.Ytnphfkceoklkkaa
open Go

/-- What is captured names nothing of the caller's own. -/
def Still (capt : List AV) : Prop := ∀ ρ sn h n, capt.map (conv ρ sn h (n + 1)) = capt

/-- The first place for which q holds, or -1. -/
def idxQ {α : Type} (l : List α) (q : α → Bool) : Int := if l.findIdx q < l.length then (l.findIdx q : Int) else -1

theorem idxQ_at {α : Type} {l : List α} {q : α → Bool} {k : Nat} (hk : k < l.length) (h1 : ∀ i, i < k → ∀ h : i < l.length, q l[i] = false) (h2 : q l[k] = true) : idxQ l q = k := by
  have : l.findIdx q = k := by
    rw [List.findIdx_eq hk]
    exact ⟨h2, fun j hj => by simpa using h1 j hj (by omega)⟩
  unfold idxQ
  rw [this, if_pos hk]

theorem idxQ_no {α : Type} {l : List α} {q : α → Bool} (h1 : ∀ i, i < l.length → ∀ h : i < l.length, q l[i] = false) : idxQ l q = -1 := by
  have : l.findIdx q = l.length := by
    rw [List.findIdx_eq_length]
    intro x hx
    obtain ⟨i, hi, rfl⟩ := List.mem_iff_getElem.1 hx
    exact h1 i hi hi
  unfold idxQ
  rw [this, if_neg (by omega)]

theorem IndexFuncE_ok (f : FuncId) (capt : List AV) (q : Ed → Bool) (l : List Ed) (hl : l.length ≤ 1099511627776) (hs : Still capt) (hc : ∀ e ∈ l, ACalls Try.prog f (eE e :: capt) [] (.B (q e)) []) : ACalls Try.prog nslices_IndexFunc_Lapi_Edge_api_Edge [eEs l, .fn (.func f) [] capt] [] (.I (idxQ l q)) [] := by
  have hs2 : ∀ ρ sn h, capt.map (conv ρ sn h 2) = capt := fun _ _ _ => hs _ _ _ 1
  have hs3 : ∀ ρ sn h, capt.map (conv ρ sn h 3) = capt := fun _ _ _ => hs _ _ _ 2
  have hs4 : ∀ ρ sn h, capt.map (conv ρ sn h 4) = capt := fun _ _ _ => hs _ _ _ 3
  refine sslices_IndexFunc_Lapi_Edge_api_Edge.acalls (Nat.le_of_ble_eq_true rfl) (Nat.le_of_ble_eq_true rfl) (Nat.le_refl _) ?_
  show awp _ 0 _ _ ⟨19, [(0, eEs l), (1, .fn (.func f) [] capt)], [], 16⟩
  refine awp_seq ?_
  refine awp_run (s := ?s1) rfl ?o1 ?q1
  case o1 => simp; rfl
  refine awp_seq ?_
  refine awp_seq ?_
  refine awp_run (s := ?s2) rfl ?o2 ?q2
  case o2 => simp; rfl
  refine awp_block ?_
  refine awp_loop (ι := Nat) (fun k => ⟨19, [(0, eEs l), (1, .fn (.func f) [] capt), (7, .I l.length), (8, .I k)], [], 16⟩) (fun k => k ≤ l.length ∧ ∀ i, i < k → ∀ h : i < l.length, q l[i] = false) (fun k => l.length - k) (0) ?_ (Le.snap [] rfl rfl (by simp [hs2, hs3, hs4])) ?_
  · simp
  rintro k ⟨hk, hp⟩
  refine awp_seq ?_
  refine awp_run (s := ?s3) rfl ?o3 ?q3
  case o3 => simp; rfl
  refine awp_seq ?_
  refine awp_cond _ rfl (fun h4 => ?_) fun h4 => ?_
  · try simp at h4
    have hw2 : IntKind.i64.wrap ((k : Int) + 1) = (k : Int) + 1 := w64 (by omega) (by omega)
    have hck := hc l[k] (List.getElem_mem h4)
    refine awp_skip ?_
    refine awp_seq ?_
    refine awp_block ?_
    refine awp_seq ?_
    refine awp_run (s := ?s5) rfl ?o5 ?q5
    case o5 => simp [h4, hw2]; rfl
    refine awp_seq ?_
    refine awp_run (s := ?s6) rfl ?o6 ?q6
    case o6 =>
      simp [h4, hw2]
      refine call0e hck ?_ ?_
      · simp [hs2, hs3, hs4]
      simp [h4, hw2]; rfl
    refine awp_cond _ rfl (fun h7 => ?_) fun h7 => ?_
    · try simp at h7
      refine awp_seq ?_
      refine awp_run (s := ?s8) rfl ?o8 ?q8
      case o8 => simp [h4, hw2]; rfl
      refine awp_ret ?_
      exact ⟨.inr rfl, RetOk.one (by simp [idxQ_at h4 hp h7])⟩
    try simp at h7
    refine awp_skip ?_
    refine awp_run (s := ?s9) rfl ?o9 ?q9
    case o9 => simp [h4, hw2]; rfl
    refine ⟨k + 1, ⟨h4, fun i hi => ?_⟩, by omega, Le.snap [] rfl rfl (by simp [h4, hw2, hs2, hs3, hs4])⟩
    rcases Nat.lt_succ_iff_lt_or_eq.1 hi with h | rfl
    · exact hp i h
    · exact fun _ => h7
  try simp at h4
  have hall : ∀ i, i < l.length → ∀ h : i < l.length, q l[i] = false := fun i hi => hp i (by omega)
  refine awp_exit ?_
  refine hit ?_
  refine awp_seq ?_
  refine awp_run (s := ?s10) rfl ?o10 ?q10
  case o10 => simp; rfl
  refine awp_ret ?_
  exact ⟨.inr rfl, RetOk.one (by simp [idxQ_no hall])⟩

abbrev rowsE (l : List Ed) : List (List AV) := l.map fun e => [AV.I e.f, AV.I e.t, AV.I e.v]

theorem filter_of_not {l : List Ed} {q : Ed → Bool} (h : ∀ i, i < l.length → ∀ h : i < l.length, q l[i] = false) : l.filter (fun e => !q e) = l := by
  rw [List.filter_eq_self]
  intro x hx
  obtain ⟨i, hi, rfl⟩ := List.mem_iff_getElem.1 hx
  simp [h i hi hi]

theorem filter_take_succ (l : List Ed) (q : Ed → Bool) (j : Nat) (h : j < l.length) : (l.take (j + 1)).filter (fun e => !q e) = (l.take j).filter (fun e => !q e) ++ if q l[j] = true then [] else [l[j]] := by
  rw [← List.take_concat_get h, List.concat_eq_append, List.filter_append]
  congr 1
  cases hq : q l[j] <;> simp [hq]

set_option maxRecDepth 100000 in
theorem DeleteFuncE_ok (f : FuncId) (capt : List AV) (q : Ed → Bool) (l : List Ed) (n m : Nat) (hn : l.length = n) (hm : (l.filter fun e => !q e).length = m) (hl : n ≤ 1099511627776) (hs : Still capt) (hc : ∀ e ∈ l, ACalls Try.prog f (eE e :: capt) [] (.B (q e)) []) :
    ACalls Try.prog nslices_DeleteFunc_Lapi_Edge_api_Edge [.rs 0 0 n, .fn (.func f) [] capt] [⟨3, rowsE l, 0⟩] (.rs 0 0 m) [some ⟨3, rowsE (l.filter fun e => !q e) ++ List.replicate (n - m) [.I 0, .I 0, .I 0], 0⟩] := by
  have hs2 : ∀ ρ sn h, capt.map (conv ρ sn h 2) = capt := fun _ _ _ => hs _ _ _ 1
  have hs3 : ∀ ρ sn h, capt.map (conv ρ sn h 3) = capt := fun _ _ _ => hs _ _ _ 2
  have hs4 : ∀ ρ sn h, capt.map (conv ρ sn h 4) = capt := fun _ _ _ => hs _ _ _ 3
  refine sslices_DeleteFunc_Lapi_Edge_api_Edge.acalls (Nat.le_of_ble_eq_true rfl) (Nat.le_of_ble_eq_true rfl) (Nat.le_of_ble_eq_true rfl) ?_
  show awp _ 1 _ _ ⟨42, [(0, .rs 0 0 n), (1, .fn (.func f) [] capt)], [(0, some ⟨3, rowsE l, 0⟩)], 16⟩
  have hmn : m ≤ n := by rw [← hm, ← hn]; exact List.length_filter_le _ _
  refine awp_regc ⟨42, [(0, .rs 0 0 n), (1, .fn (.func f) [] capt)], [(0, some ⟨3, rowsE l, 0⟩)], 24⟩ rfl ?_ ?_
  · simp
    exact Le.keep rfl (Nat.le_refl _) (by simp) (by simp)
  refine awp_regc ⟨42, [(0, .rs 0 0 n), (1, .fn (.func f) [] capt), (5, .I (idxQ l q))], [(0, some ⟨3, rowsE l, 0⟩)], 56⟩ rfl ?_ ?_
  · simp
    refine call0s [0] (IndexFuncE_ok f capt q l (by omega) hs hc) ?_ (.sc _) ?_
    · simp [hs2, hs3, hs4, ← hn, Function.comp_def, take_map_len]
    simp
    exact Le.keep rfl (Nat.le_refl _) (by simp) (by simp)
  refine awp_seq ?_
  refine awp_regc ⟨42, [(0, .rs 0 0 n), (1, .fn (.func f) [] capt), (5, .I (idxQ l q)), (12, .B (decide (idxQ l q = -1)))], [(0, some ⟨3, rowsE l, 0⟩)], 72⟩ rfl ?_ ?_
  · simp
    exact Le.keep rfl (Nat.le_refl _) (by simp <;> rw [Bool.eq_iff_iff] <;> simp) (by simp)
  refine awp_cond _ rfl (fun h => ?_) fun h => awp_skip ?_
  · simp only [decide_eq_true_eq] at h
    have hno : ∀ i, i < l.length → ∀ h : i < l.length, q l[i] = false := by
      intro i hi _
      unfold idxQ at h
      split at h
      · omega
      · rename_i hnl
        have : l.findIdx q = l.length := by have := List.findIdx_le_length (xs := l) (p := q); omega
        rw [List.findIdx_eq_length] at this
        exact this _ (List.getElem_mem hi)
    have hf := filter_of_not hno
    rw [hf] at hm ⊢
    obtain rfl : n = m := by omega
    refine awp_seq ?_
    refine awp_run (s := ?s1) rfl ?o1 ?q1
    case o1 => simp; rfl
    refine awp_ret ?_
    refine ⟨.inr rfl, ⟨[.rs 0 0 n], rfl, [], [], by simp [List.range, List.range.loop], by simp, by simp, ?_, ?_⟩⟩
    · simp [List.range, List.range.loop]
    · simp [List.range, List.range.loop, Function.comp_def]
  simp only [decide_eq_false_iff_not] at h
  obtain ⟨i0, hi0, hlt, hbef, hat⟩ : ∃ i0 : Nat, idxQ l q = i0 ∧ i0 < l.length ∧ (∀ i, i < i0 → ∀ h : i < l.length, q l[i] = false) ∧ ∀ h : i0 < l.length, q l[i0] = true := by
    unfold idxQ at h ⊢
    split at h
    · rename_i hlt
      refine ⟨l.findIdx q, by rw [if_pos hlt], hlt, fun i hi _ => ?_, fun h => List.findIdx_getElem (w := h)⟩
      simpa using List.not_of_lt_findIdx hi
    · omega
  rw [hi0]
  have hA0 : (l.take (i0 + 1)).filter (fun e => !q e) = l.take i0 := by
    rw [filter_take_succ l q i0 hlt, if_pos (hat hlt), List.append_nil]
    refine filter_of_not fun i hi h => ?_
    rw [List.length_take] at hi
    simp only [List.getElem_take]
    exact hbef i (by omega) (by omega)
  have hw0 : IntKind.i64.wrap ((i0 : Int) + 1) = ((i0 + 1 : Nat) : Int) := by rw [w64 (by omega) (by omega)]; omega
  -- the state at the loop's head: j, what was kept, what lies between
  let C : Nat × List Ed → St := fun p => ⟨42, [(0, .rs 0 0 n), (1, .fn (.func f) [] capt), (5, .I ((l.take p.1).filter fun e => !q e).length), (6, .I p.1)], [(0, some ⟨3, rowsE ((l.take p.1).filter (fun e => !q e) ++ p.2 ++ l.drop p.1), 0⟩)], 96⟩
  refine awp_seq ?_
  refine awp_regc (C (i0 + 1, [l[i0]])) rfl ?_ ?_
  · simp [hw0]
    refine Le.keep rfl (Nat.le_refl _) ?_ ?_
    · simp only [C, hA0]
      simp
      omega
    · simp only [C, hA0]
      simp
  refine awp_block ?_
  refine awp_loop C (fun p : Nat × List Ed => p.1 ≤ n ∧ p.2 ≠ [] ∧ ((l.take p.1).filter fun e => !q e).length + p.2.length = p.1) (fun p : Nat × List Ed => n - p.1) (i0 + 1, [l[i0]]) ?_ (Le.refl _ _) ?_
  · simp only [hA0]
    simp
    omega
  rintro ⟨j, M⟩ ⟨hj, hM, hlen⟩
  simp only at hj hM hlen ⊢
  obtain ⟨A, hA⟩ : ∃ A, A = (l.take j).filter fun e => !q e := ⟨_, rfl⟩
  rw [← hA] at hlen
  have hC : C (j, M) = ⟨42, [(0, .rs 0 0 n), (1, .fn (.func f) [] capt), (5, .I A.length), (6, .I j)], [(0, some ⟨3, rowsE (A ++ M ++ l.drop j), 0⟩)], 96⟩ := by subst hA; rfl
  rw [hC]
  refine awp_seq ?_
  refine awp_regc ⟨42, [(0, .rs 0 0 n), (1, .fn (.func f) [] capt), (5, .I A.length), (6, .I j), (19, .B (decide (j < n)))], [(0, some ⟨3, rowsE (A ++ M ++ l.drop j), 0⟩)], 128⟩ rfl ?_ ?_
  · simp
    exact Le.keep rfl (Nat.le_refl _) (by simp) (by simp)
  refine awp_cond _ rfl (fun h => awp_skip ?_) fun h => awp_exit (hit ?_)
  · simp only [decide_eq_true_eq] at h
    have hjl : j < l.length := by omega
    match M, hM, hlen with
    | m0 :: M1, _, hlen =>
    simp only [List.length_cons] at hlen
    have hnext := filter_take_succ l q j hjl
    rw [← hA] at hnext
    have hget : (rowsE (A ++ m0 :: M1 ++ l.drop j))[j]? = some [AV.I l[j].f, AV.I l[j].t, AV.I l[j].v] := by
      rw [List.getElem?_map, List.getElem?_append_right (by simp; omega), List.getElem?_drop, show j + (j - (A ++ m0 :: M1).length) = j by simp; omega, List.getElem?_eq_getElem hjl]
      rfl
    have hget2 : (rowsE (A ++ m0 :: M1 ++ l.drop j))[A.length]? = some [AV.I m0.f, AV.I m0.t, AV.I m0.v] := by
      rw [List.getElem?_map, List.append_assoc, List.getElem?_append_right (by omega)]
      simp
    have hset : (rowsE (A ++ m0 :: M1 ++ l.drop j)).set A.length [AV.I l[j].f, AV.I l[j].t, AV.I l[j].v] = rowsE ((A ++ [l[j]]) ++ (M1 ++ [l[j]]) ++ l.drop (j + 1)) := by
      have e1 : l.drop j = l[j] :: l.drop (j + 1) := List.drop_eq_getElem_cons hjl
      rw [e1]
      simp [rowsE, List.set_append]
    have hmore : A ++ m0 :: M1 ++ l.drop j = A ++ (m0 :: M1 ++ [l[j]]) ++ l.drop (j + 1) := by
      have e1 : l.drop j = l[j] :: l.drop (j + 1) := List.drop_eq_getElem_cons hjl
      rw [e1]
      simp
    generalize hrows : rowsE (A ++ m0 :: M1 ++ l.drop j) = R at *
    have hRl : R.length = n := by rw [← hrows]; simp; omega
    have hck := hc l[j] (List.getElem_mem hjl)
    generalize hv : l[j] = v at *
    refine awp_cut (ι := List Ed × List Ed) (fun p => ⟨42, [(0, .rs 0 0 n), (1, .fn (.func f) [] capt), (5, .I p.1.length), (6, .I j)], [(0, some ⟨3, rowsE (p.1 ++ p.2 ++ l.drop (j + 1)), 0⟩)], 272⟩)
      (fun p => p.1 = (l.take (j + 1)).filter (fun e => !q e) ∧ p.2 ≠ [] ∧ p.1.length + p.2.length = j + 1) ?_ ?_
    · refine awp_block ?_
      refine awp_regc ⟨42, [(0, .rs 0 0 n), (1, .fn (.func f) [] capt), (5, .I A.length), (6, .I j), (7, .pt 160 0 0)], [(0, some ⟨3, R, 0⟩), (160, some ⟨3, [[.I v.f, .I v.t, .I v.v]], 0⟩)], 176⟩ rfl ?_ ?_
      · simp [h, hget]
        exact Le.keep rfl (Nat.le_refl _) (by simp) (by simp)
      refine awp_regc ⟨42, [(0, .rs 0 0 n), (1, .fn (.func f) [] capt), (5, .I A.length), (6, .I j), (7, .pt 160 0 0), (29, .B (!q v))], [(0, some ⟨3, R, 0⟩), (160, some ⟨3, [[.I v.f, .I v.t, .I v.v]], 0⟩)], 208⟩ rfl ?_ ?_
      · simp
        refine call0e hck ?_ ?_
        · simp [hs2, hs3, hs4]
        simp
        exact Le.keep rfl (Nat.le_refl _) (by simp) (by simp)
      refine awp_cond _ rfl (fun h5 => ?_) fun h5 => awp_skip ?_
      · simp only [Bool.not_eq_true'] at h5
        rw [h5] at hnext
        refine awp_regc ⟨42, [(0, .rs 0 0 n), (1, .fn (.func f) [] capt), (5, .I A.length), (6, .I j)], [(0, some ⟨3, rowsE ((A ++ [v]) ++ (M1 ++ [v]) ++ l.drop (j + 1)), 0⟩)], 248⟩ rfl ?_ ?_
        · simp [hget2, show A.length < n by omega, splice, hset]
          exact Le.keep rfl (Nat.le_refl _) (by simp) (by simp)
        have hwA : IntKind.i64.wrap ((A.length : Int) + 1) = ((A.length + 1 : Nat) : Int) := by rw [w64 (by omega) (by omega)]; omega
        refine awp_reg rfl ?_
        simp [hwA]
        refine ⟨A ++ [v], M1 ++ [v], ⟨by rw [hnext]; simp, by simp, by simp; omega⟩, Le.keep rfl (Nat.le_refl _) (by simp) (by simp)⟩
      · simp only [Bool.not_eq_false'] at h5
        rw [h5] at hnext
        refine ⟨(A, m0 :: M1 ++ [v]), ⟨by rw [hnext]; simp, by simp, by simp; omega⟩, Le.keep rfl (Nat.le_of_ble_eq_true rfl) (by simp) ?_⟩
        rw [← hmore, hrows]
        simp
    rintro ⟨A', M'⟩ ⟨p1, p2, p3⟩
    simp only at p1 p2 p3 ⊢
    have hwj : IntKind.i64.wrap ((j : Int) + 1) = ((j + 1 : Nat) : Int) := by rw [w64 (by omega) (by omega)]; omega
    refine awp_reg rfl ?_
    simp [hwj]
    refine ⟨j + 1, M', ⟨by omega, p2, by rw [← p1]; omega⟩, by omega, ?_⟩
    have hD : C (j + 1, M') = ⟨42, [(0, .rs 0 0 n), (1, .fn (.func f) [] capt), (5, .I A'.length), (6, .I ((j + 1 : Nat) : Int))], [(0, some ⟨3, rowsE (A' ++ M' ++ l.drop (j + 1)), 0⟩)], 96⟩ := by rw [p1]
    rw [hD]
    refine Le.ents [(0, 0)] [] rfl (by simp) (by simp) (by simp) (by simp) (by simp) (by simp [hs2, hs3, hs4]) fun p hp => ?_
    simp at hp
    subst hp
    exact ⟨0, _, _, rfl, by simp, rfl, EntUp.eq (by simp [Function.comp_def]) (by simp)⟩
  simp only [decide_eq_false_iff_not] at h
  obtain rfl : j = n := by omega
  have hd : l.drop j = [] := List.drop_eq_nil_of_le (by omega)
  have ht : l.take j = l := List.take_of_length_le (by omega)
  rw [ht] at hA
  rw [hd, List.append_nil]
  rw [← hA] at hm ⊢
  subst hm
  have hAM : (rowsE (A ++ M)).take A.length = rowsE A := by simp [rowsE]
  have hAd : (rowsE (A ++ M)).drop (A.length + (j - A.length)) = [] := List.drop_eq_nil_of_le (by simp; omega)
  have hAl : (rowsE (A ++ M)).length = j := by simp; omega
  generalize rowsE (A ++ M) = R at *
  refine awp_regc ⟨42, [(0, .rs 0 0 j), (5, .I A.length)], [(0, some ⟨3, rowsE A ++ List.replicate (j - A.length) [.I 0, .I 0, .I 0], 0⟩)], 160⟩ rfl ?_ ?_
  · simp
    refine ⟨by omega, by omega, ?_⟩
    rw [hAM, hAd]
    exact Le.keep rfl (Nat.le_refl _) (by simp) (by simp)
  refine awp_seq ?_
  refine awp_run (s := ?s2) rfl ?o2 ?q2
  case o2 =>
    simp
    refine ⟨by omega, ?_⟩
    rfl
  refine awp_ret ?_
  refine ⟨.inr rfl, ⟨[.rs 0 0 A.length], rfl, [], [], by simp [List.range, List.range.loop], by simp, by simp, ?_, ?_⟩⟩
  · simp [List.range, List.range.loop]
  · simp [List.range, List.range.loop, Function.comp_def]

end Go.Proofs.Ytnphfkceoklkkaa

/- Graphs without the edges of a lesser level. -/
namespace Go.Proofs.Ytnphfkceoklkkaa
open Go

def levelG (g : Gr) (v : Int) : Gr := ⟨g.size, g.edges.filter fun e => !decide (e.v < v), g.gone⟩

theorem graph_Level_c1_ok (e : Ed) (v : Int) : ACalls Try.prog ngraph_Level_c1 [eE e, .pv [.I v]] [] (.B (decide (e.v < v))) [] := by
  refine sgraph_Level_c1.acalls (Nat.le_of_ble_eq_true rfl) (Nat.le_of_ble_eq_true rfl) (Nat.le_refl _) ?_
  show awp _ 0 _ _ ⟨8, [(0, eE e), (1, .pv [.I v])], [], 16⟩
  refine awp_regc ⟨8, [(1, .pv [.I v]), (2, .pv (eC e))], [], 16⟩ rfl ?_ ?_
  · simp
    exact Le.snap [16] rfl rfl (by simp)
  refine awp_seq ?_
  refine awp_run (s := ?s1) rfl ?o1 ?q1
  case o1 => simp; rfl
  refine awp_ret ?_
  exact ⟨.inr rfl, RetOk.one (by simp)⟩

set_option maxRecDepth 100000 in
theorem graph_Level_ok (g : Gr) (v : Int) (hl : g.edges.length ≤ 1099511627776) (hl2 : g.gone.length ≤ 1099511627776) : ACalls Try.prog ngraph_Level [eG g, .I v] [] (eG (levelG g v)) [] := by
  refine sgraph_Level.acalls (Nat.le_of_ble_eq_true rfl) (Nat.le_of_ble_eq_true rfl) (Nat.le_refl _) ?_
  show awp _ 0 _ _ ⟨14, [(0, eG g), (1, .I v)], [], 16⟩
  obtain ⟨E, hE⟩ : ∃ E, E = g.edges.filter fun e => !decide (e.v < v) := ⟨_, rfl⟩
  have hEl : E.length ≤ g.edges.length := by rw [hE]; exact List.length_filter_le _ _
  have hdel := DeleteFuncE_ok ngraph_Level_c1 [.pv [.I v]] (fun e => decide (e.v < v)) g.edges g.edges.length E.length rfl (by rw [hE]) hl (fun ρ sn h n => by simp) (fun e _ => graph_Level_c1_ok e v)
  rw [← hE] at hdel
  have hres : levelG g v = ⟨g.size, E, g.gone⟩ := by rw [hE]; rfl
  rw [hres]
  refine awp_regc ⟨14, [(2, .pv (gC g)), (3, .pt 24 0 0), (4, .pt 32 0 0)], [(24, some ⟨1, [[.I v]], 0⟩), (32, some zG)], 40⟩ rfl ?_ ?_
  · simp
    refine Le.ents [(24, 24), (32, 32)] [16] rfl (by simp) (by simp) (by simp) (by simp) (by simp) (by simp) fun p hp => ?_
    simp at hp
    rcases hp with rfl | rfl
    · exact ⟨24, _, _, rfl, by simp, rfl, EntUp.eq (by simp) (by simp)⟩
    · exact ⟨32, _, _, rfl, by simp, rfl, EntUp.eq (by simp) (by simp)⟩
  refine awp_regc ⟨14, [(3, .pt 24 0 0), (4, .pt 32 0 0), (5, .pt 56 0 0)], [(24, some ⟨1, [[.I v]], 0⟩), (32, some zG), (56, some ⟨3, [[.I g.size, .rs 48 0 g.edges.length, .rs 49 0 g.gone.length]], 0⟩), (48, some ⟨3, rowsE g.edges, 0⟩), (49, some ⟨1, g.gone.map fun n => [AV.I n], 0⟩)], 72⟩ rfl ?_ ?_
  · simp
    refine callN2 (graph_copied_ok g (by omega) (by omega)) rfl ?_
    simp [Function.comp_def]
    exact Le.keep rfl (Nat.le_refl _) (by simp) (by simp)
  refine awp_regc ⟨14, [(4, .pt 32 0 0), (5, .pt 56 0 0)], [(32, some zG), (56, some ⟨3, [[.I g.size, .rs 48 0 E.length, .rs 49 0 g.gone.length]], 0⟩), (48, some ⟨3, rowsE E ++ List.replicate (g.edges.length - E.length) [.I 0, .I 0, .I 0], 0⟩), (49, some ⟨1, g.gone.map fun n => [AV.I n], 0⟩)], 120⟩ rfl ?_ ?_
  · simp
    refine callM1s (i := 48) (j := 24) (by decide) (Nat.zero_le _) rfl rfl ?_ hdel (by simp) ?_ ?_
    · simp [Function.comp_def]
    · simp
    simp [Function.comp_def]
    exact Le.keep rfl (Nat.le_refl _) (by simp) (by simp)
  refine awp_seq ?_
  refine awp_run (s := ?s21) rfl ?o21 ?q21
  case o21 => simp; rfl
  refine awp_ret ?_
  refine ⟨.inr rfl, ?_⟩
  show RetOk [(4, some (true, 3))] 0 _ _ _
  refine RetOk.out (vs := [.agg [.I g.size, .rs 48 0 E.length, .rs 49 0 g.gone.length]]) [] [48, 49] (by simp) (by simp) (by simp) ?_ (by simp)
  simp [Function.comp_def, take_map_len]

theorem filterL_succ (l : List Ed) (v : Int) (k : Nat) (h : k < l.length) : (l.take (k + 1)).filter (fun e => !decide (e.v < v)) = (l.take k).filter (fun e => !decide (e.v < v)) ++ if v ≤ l[k].v then [l[k]] else [] := by
  rw [← List.take_concat_get h, List.concat_eq_append, List.filter_append]
  congr 1
  by_cases hq : v ≤ l[k].v
  · have : ¬ l[k].v < v := by omega
    simp [hq, this]
  · have : l[k].v < v := by omega
    simp [hq, this]

set_option maxRecDepth 100000 in
theorem ref11_Level_ok (g : Gr) (v : Int) (hl : g.edges.length ≤ 1099511627776) (hl2 : g.gone.length ≤ 1099511627776) : ACalls Try.prog nref11_Level [eG g, .I v] [] (eG (levelG g v)) [] := by
  refine sref11_Level.acalls (Nat.le_of_ble_eq_true rfl) (Nat.le_of_ble_eq_true rfl) (Nat.le_refl _) ?_
  show awp _ 0 _ _ ⟨36, [(0, eG g), (1, .I v)], [], 16⟩
  refine awp_regc ⟨36, [(1, .I v), (2, .pv (gC g)), (4, .pt 24 0 0)], [(24, some zG)], 32⟩ rfl ?_ ?_
  · simp
    refine Le.ents [(24, 24)] [16] rfl (by simp) (by simp) (by simp) (by simp) (by simp) (by simp) fun p hp => ?_
    simp at hp
    subst hp
    exact ⟨24, _, _, rfl, by simp, rfl, EntUp.eq (by simp) (by simp)⟩
  refine awp_regc ⟨36, [(1, .I v), (2, .pv (gC g)), (4, .pt 24 0 0), (5, .pt 48 0 0)], [(24, some zG), (48, some ⟨3, [[.I g.size, .rs 40 0 g.edges.length, .rs 41 0 g.gone.length]], 0⟩), (40, some ⟨3, rowsE g.edges, 0⟩), (41, some ⟨1, g.gone.map fun n => [AV.I n], 0⟩)], 64⟩ rfl ?_ ?_
  · simp
    refine callN2 (ref11_Copy_ok g (by omega) (by omega)) rfl ?_
    simp [Function.comp_def]
    exact Le.keep rfl (Nat.le_refl _) (by simp) (by simp)
  refine awp_regc ⟨36, [(1, .I v), (2, .pv (gC g)), (4, .pt 24 0 0), (5, .pt 48 0 0)], [(24, some zG), (48, some ⟨3, [[.I g.size, .nilS, ints g.gone]], 0⟩)], 80⟩ rfl ?_ ?_
  · simp
    refine Le.ents [(24, 24), (48, 48)] [41] rfl (by simp) (by simp) (by simp) (by simp) (by simp) (by simp) fun p hp => ?_
    simp at hp
    rcases hp with rfl | rfl
    · exact ⟨24, _, _, rfl, by simp, rfl, EntUp.eq (by simp) (by simp)⟩
    · exact ⟨48, _, _, rfl, by simp, rfl, EntUp.eq (by simp [splice, Function.comp_def, take_map_len]) (by simp)⟩
  refine awp_seq ?_
  refine awp_regc ⟨36, [(1, .I v), (2, .pv (gC g)), (4, .pt 24 0 0), (5, .pt 48 0 0), (6, .I 0)], [(24, some zG), (48, some ⟨3, [[.I g.size, .nilS, ints g.gone]], 0⟩)], 88⟩ rfl ?_ ?_
  · simp
    exact Le.keep rfl (Nat.le_refl _) (by simp) (by simp)
  refine awp_block ?_
  let F : Nat → List Ed := fun k => (g.edges.take k).filter fun e => !decide (e.v < v)
  let C : Nat → St := fun k => ⟨36, [(1, .I v), (2, .pv (gC g)), (4, .pt 24 0 0), (5, .pt 48 0 0), (6, .I k)], [(24, some zG), (48, some ⟨3, [[.I g.size, .rs 16 0 (F k).length, ints g.gone]], 0⟩), (16, some ⟨3, rowsE (F k), 0⟩)], 88⟩
  refine awp_loop C (fun k => k ≤ g.edges.length) (fun k => g.edges.length - k) 0 (Nat.zero_le _) ?_ ?_
  · refine Le.lst [(24, 24), (48, 48)] [] [(16, 3)] rfl (by simp) (by simp) (by simp [C]) (by simp [C]) (by simp) (by simp) (by simp) (by simp [C, Up]) fun p hp e' he' => ?_
    simp [C] at hp
    rcases hp with rfl | rfl | rfl
    · cases he'
      exact .inl ⟨(24, 24), by simp, rfl, _, rfl, EntUp.eq (by simp) (by simp)⟩
    · cases he'
      refine .inl ⟨(48, 48), by simp, rfl, _, rfl, EntUp.row (by simp; rfl) (by simp) ?_⟩
      exact ⟨.inl (.refl _), .inr ⟨rfl, 16, 3, by simp [F], by simp⟩, .inl (.refl _), trivial⟩
    · cases he'
      exact .inr ⟨by simp, by simp [F], rfl⟩
  intro k hk
  have hFl : (F k).length ≤ k := by
    have h1 : (F k).length ≤ (g.edges.take k).length := List.length_filter_le _ _
    simp at h1
    omega
  have hC : C k = ⟨36, [(1, .I v), (2, .pv (gC g)), (4, .pt 24 0 0), (5, .pt 48 0 0), (6, .I k)], [(24, some zG), (48, some ⟨3, [[.I g.size, .rs 16 0 (F k).length, ints g.gone]], 0⟩), (16, some ⟨3, rowsE (F k), 0⟩)], 88⟩ := rfl
  rw [hC]
  refine awp_seq ?_
  refine awp_regc ⟨36, [(1, .I v), (2, .pv (gC g)), (4, .pt 24 0 0), (5, .pt 48 0 0), (6, .I k), (14, .B (decide (k < g.edges.length)))], [(24, some zG), (48, some ⟨3, [[.I g.size, .rs 16 0 (F k).length, ints g.gone]], 0⟩), (16, some ⟨3, rowsE (F k), 0⟩)], 128⟩ rfl ?_ ?_
  · simp
    exact Le.keep rfl (Nat.le_refl _) (by simp) (by simp)
  refine awp_cond _ rfl (fun h => awp_skip ?_) fun h => awp_exit (hit ?_)
  · simp only [decide_eq_true_eq] at h
    have hnext := filterL_succ g.edges v k h
    have hFs : F (k + 1) = F k ++ if v ≤ g.edges[k].v then [g.edges[k]] else [] := hnext
    refine awp_cut (ι := Unit) (fun _ => ⟨36, [(1, .I v), (2, .pv (gC g)), (4, .pt 24 0 0), (5, .pt 48 0 0), (6, .I k)], [(24, some zG), (48, some ⟨3, [[.I g.size, .rs 16 0 (F (k + 1)).length, ints g.gone]], 0⟩), (16, some ⟨3, rowsE (F (k + 1)), 0⟩)], 280⟩) (fun _ => True) ?_ fun _ _ => ?_
    · rw [hFs]
      generalize F k = A at *
      refine awp_block ?_
      refine awp_regc ⟨36, [(1, .I v), (2, .pv (gC g)), (4, .pt 24 0 0), (5, .pt 48 0 0), (6, .I k), (24, .B (decide (v ≤ g.edges[k].v)))], [(24, some zG), (48, some ⟨3, [[.I g.size, .rs 16 0 A.length, ints g.gone]], 0⟩), (16, some ⟨3, rowsE A, 0⟩)], 192⟩ rfl ?_ ?_
      · simp [h]
        exact Le.keep rfl (Nat.le_refl _) (by simp) (by simp)
      refine awp_cond _ rfl (fun h5 => ?_) fun h5 => awp_skip ?_
      · simp only [decide_eq_true_eq] at h5
        rw [if_pos h5]
        refine awp_drw rfl ?_
        have hrl : (rowsE A).length = A.length := by simp
        simp [h, splice, List.replicate]
        refine ⟨by omega, by omega, rfl, ?_⟩
        refine Le.ents [(24, 24), (48, 48), (256, 16)] [] rfl (by simp) (by simp) (by simp) (by simp) (by simp) (by simp) fun p hp => ?_
        simp at hp
        rcases hp with rfl | rfl | rfl
        · exact ⟨24, _, _, rfl, by simp, rfl, EntUp.eq (by simp) (by simp)⟩
        · exact ⟨48, _, _, rfl, by simp, rfl, EntUp.eq (by simp) (by simp)⟩
        · exact ⟨256, _, _, rfl, by simp, rfl, EntUp.eq (by simp [Function.comp_def, take_map_len]) (by simp)⟩
      · simp only [decide_eq_false_iff_not] at h5
        rw [if_neg h5, List.append_nil]
        exact ⟨(), trivial, Le.keep rfl (Nat.le_of_ble_eq_true rfl) (by simp) (by simp)⟩
    have hwj : IntKind.i64.wrap ((k : Int) + 1) = ((k + 1 : Nat) : Int) := by rw [w64 (by omega) (by omega)]; omega
    refine awp_reg rfl ?_
    simp [hwj]
    refine ⟨k + 1, by omega, by omega, ?_⟩
    refine Le.ents [(24, 24), (48, 48), (16, 16)] [] rfl (by simp) (by simp) (by simp [C]) (by simp) (by simp [C]) (by simp [C]) fun p hp => ?_
    simp [C] at hp
    rcases hp with rfl | rfl | rfl
    · exact ⟨24, _, _, rfl, by simp, rfl, EntUp.eq (by simp) (by simp)⟩
    · exact ⟨48, _, _, rfl, by simp, rfl, EntUp.eq (by simp) (by simp)⟩
    · exact ⟨16, _, _, rfl, by simp, rfl, EntUp.eq (by simp [Function.comp_def]) (by simp)⟩
  simp only [decide_eq_false_iff_not] at h
  obtain rfl : k = g.edges.length := by omega
  have hF : F g.edges.length = (levelG g v).edges := by
    show (g.edges.take g.edges.length).filter _ = _
    rw [List.take_of_length_le (Nat.le_refl _)]
    rfl
  rw [hF]
  have hres : levelG g v = ⟨g.size, (levelG g v).edges, g.gone⟩ := rfl
  rw [hres]
  generalize (levelG g v).edges = E at *
  refine awp_seq ?_
  refine awp_run (s := ?s21) rfl ?o21 ?q21
  case o21 => simp; rfl
  refine awp_ret ?_
  refine ⟨.inr rfl, ?_⟩
  show RetOk [(4, some (true, 3))] 0 _ _ _
  refine RetOk.out (vs := [.agg [.I g.size, .rs 16 0 E.length, ints g.gone]]) [] [16] (by simp) (by simp) (by simp) ?_ (by simp)
  simp [Function.comp_def, take_map_len]

end Go.Proofs.Ytnphfkceoklkkaa

/- Edges that come and go; how many edges there are. -/
namespace Go.Proofs.Ytnphfkceoklkkaa
open Go

/-- An edge that comes and goes. -/
theorem plus_minus {g : Gr} {e : Ed} (h : (withR g e).2 = 0) : withoutR (withR g e).1 e.f e.t = (g, 0) ∧ (withR g e).1.edges.length = g.edges.length + 1 ∧ GrOk (withR g e).1 := by
  obtain ⟨h1, h2, h3, h4, h5, h6, h7⟩ := withR_ok h
  rw [h6]
  have hle := idxE_le g.edges ⟨e.f, e.t, 0⟩
  have hb : ∀ i (hi : i < g.edges.length), i < idxE g.edges ⟨e.f, e.t, 0⟩ → Bef g.edges[i] ⟨e.f, e.t, 0⟩ := fun i hi h => idxE_bef h hi
  obtain ⟨k, hk⟩ : ∃ k, k = idxE g.edges ⟨e.f, e.t, 0⟩ := ⟨_, rfl⟩
  have hpe : (plusE g e).edges = g.edges.take k ++ e :: g.edges.drop k := by subst hk; rfl
  have htl : (g.edges.take k).length = k := by simp; omega
  have hlen : (plusE g e).edges.length = g.edges.length + 1 := by rw [hpe]; simp; omega
  have hkk : ∀ h : k < (plusE g e).edges.length, (plusE g e).edges[k] = e := by
    intro h
    simp only [hpe]
    rw [List.getElem_append_right (by omega)]
    simp [htl]
  have hidx : idxE (plusE g e).edges ⟨e.f, e.t, 0⟩ = k := by
    refine idxE_of (by omega) (fun i hi hl => ?_) fun hl => ?_
    · simp only [hpe]
      rw [List.getElem_append_left (by omega), List.getElem_take]
      exact hb i (by omega) (by omega)
    · rw [hkk hl]
      unfold Bef
      simp
  have hat : AtE (plusE g e).edges k e.f e.t := by
    have hl : k < (plusE g e).edges.length := by omega
    exact ⟨hl, by rw [hkk hl], by rw [hkk hl]⟩
  refine ⟨?_, hlen, h7⟩
  unfold withoutR
  rw [if_neg (by simpa using h7), hidx, if_neg (by simpa using hat)]
  unfold minusE
  rw [hidx, hpe]
  have e1 : (g.edges.take k ++ e :: g.edges.drop k).take k = g.edges.take k := by
    rw [List.take_append_of_le_length (by omega), List.take_of_length_le (by omega)]
  have e2 : (g.edges.take k ++ e :: g.edges.drop k).drop (k + 1) = g.edges.drop k := by
    rw [List.drop_append, htl, List.drop_eq_nil_of_le (by omega), show k + 1 - k = 1 by omega]
    rfl
  rw [e1, e2, List.take_append_drop]
  rfl

theorem outs_count (l : List Ed) (key : Int) : (outs l key).length = l.countP fun e => decide (e.f = key) := by
  induction l with
  | nil => rfl
  | cons e l ih =>
    unfold outs at *
    by_cases h : e.f = key <;> simp [List.filterMap_cons, List.countP_cons, h, ih]

theorem inns_count (l : List Ed) (key : Int) : (inns l key).length = l.countP fun e => decide (e.t = key) := by
  induction l with
  | nil => rfl
  | cons e l ih =>
    unfold inns at *
    by_cases h : e.t = key <;> simp [List.filterMap_cons, List.countP_cons, h, ih]

/-- How many edges begin, and end, below a key. -/
def lowF (l : List Ed) (k : Nat) : Nat := l.countP fun e => decide (e.f < (k : Int))
def lowT (l : List Ed) (k : Nat) : Nat := l.countP fun e => decide (e.t < (k : Int))

theorem lowF_succ (l : List Ed) (k : Nat) : lowF l (k + 1) = lowF l k + (outs l k).length := by
  rw [outs_count]
  unfold lowF
  induction l with
  | nil => rfl
  | cons e l ih =>
    simp only [List.countP_cons, ih, decide_eq_true_eq]
    repeat' split
    all_goals omega

theorem lowT_succ (l : List Ed) (k : Nat) : lowT l (k + 1) = lowT l k + (inns l k).length := by
  rw [inns_count]
  unfold lowT
  induction l with
  | nil => rfl
  | cons e l ih =>
    simp only [List.countP_cons, ih, decide_eq_true_eq]
    repeat' split
    all_goals omega

theorem GrOk.fits {g : Gr} (h : GrOk g) : ∀ e ∈ g.edges, Fits g e := by
  intro e he
  obtain ⟨i, hi, rfl⟩ := List.mem_iff_getElem.1 he
  exact (h.2 i hi).1

theorem lowF_zero {g : Gr} (h : GrOk g) : lowF g.edges 0 = 0 := by
  unfold lowF
  rw [List.countP_eq_zero]
  intro e he
  have := (h.fits e he).1
  simp
  omega

theorem lowT_zero {g : Gr} (h : GrOk g) : lowT g.edges 0 = 0 := by
  unfold lowT
  rw [List.countP_eq_zero]
  intro e he
  have := (h.fits e he).2.2.1
  simp
  omega

theorem lowF_all {g : Gr} (h : GrOk g) {k : Nat} (hk : g.size ≤ k) : lowF g.edges k = g.edges.length := by
  unfold lowF
  rw [List.countP_eq_length]
  intro e he
  have := (h.fits e he).2.1
  simp
  omega

theorem lowT_all {g : Gr} (h : GrOk g) {k : Nat} (hk : g.size ≤ k) : lowT g.edges k = g.edges.length := by
  unfold lowT
  rw [List.countP_eq_length]
  intro e he
  have := (h.fits e he).2.2.2.1
  simp
  omega

theorem lowF_le (l : List Ed) (k : Nat) : lowF l k ≤ l.length := List.countP_le_length
theorem lowT_le (l : List Ed) (k : Nat) : lowT l k ≤ l.length := List.countP_le_length

theorem out_in {l : List Ed} {k t : Int} (h : t ∈ outs l k) : k ∈ inns l t := by
  unfold outs at h
  unfold inns
  simp only [List.mem_filterMap] at h ⊢
  obtain ⟨e, he, h⟩ := h
  split at h
  · rename_i hf
    refine ⟨e, he, ?_⟩
    rw [if_pos (by simpa using h), hf]
  · cases h

end Go.Proofs.Ytnphfkceoklkkaa

/- A graph without an edge. -/
namespace Go.Proofs.Ytnphfkceoklkkaa
open Go

open Classical in
set_option maxRecDepth 100000 in
theorem graph_Without_ok (g : Gr) (f t : Int) (hl : g.edges.length * 24 ≤ 140737488355328) (hl2 : g.gone.length * 8 ≤ 140737488355328) : ACalls Try.prog ngraph_Without [eG g, .I f, .I t] [] (.tup [eG (withoutR g f t).1, .I (withoutR g f t).2]) [] := by
  refine sgraph_Without.acalls (Nat.le_of_ble_eq_true rfl) (Nat.le_of_ble_eq_true rfl) (Nat.le_refl _) ?_
  show awp _ 0 _ _ ⟨37, [(0, eG g), (1, .I f), (2, .I t)], [], 16⟩
  refine awp_regc ⟨37, [(1, .I f), (2, .I t), (3, .pv (gC g)), (6, .pt 24 0 0)], [(24, some ⟨3, [[.I 0, .nilS, .nilS]], 0⟩)], 32⟩ rfl ?_ ?_
  · simp
    exact Le.var1 24 [16] rfl rfl (Nat.le_of_ble_eq_true rfl) (by decide) rfl (by simp) (by simp) (by simp)
  refine awp_seq ?_
  refine awp_seq ?_
  refine awp_run (s := ?s1) rfl ?o1 ?q1
  case o1 => simp; refine call0e (graph_Check_ok g (by omega) (by omega)) rfl ?_; simp; rfl
  refine awp_cond _ rfl (fun h2 => ?_) fun h2 => ?_
  · have hg : ¬ GrOk g := by
      intro hg
      simp [hg] at h2
    refine awp_seq ?_
    refine awp_run (s := ?s3) rfl ?o3 ?q3
    case o3 => simp; rfl
    refine awp_ret ?_
    refine ⟨.inr rfl, ?_⟩
    show RetOk [(6, some (true, 3)), (7, none)] 0 _ _ _
    refine RetOk.out (vs := [.agg [.I 0, .nilS, .nilS], .I 14]) [] [] (by simp) (by simp) (by simp) ?_ (by simp)
    have hr : withoutR g f t = (emptyG, 14) := by grind [withoutR]
    simp [hr, emptyG]
    exact wkT2 (wkA3 (.refl _) (.nil _ _) (.nil _ _)) (.refl _)
  have hg : GrOk g := by
    rcases Classical.em (GrOk g) with h | h
    · exact h
    · simp [h] at h2
  have h500 : g.edges.length ≤ 500 := hg.1.2.2.1
  refine awp_skip ?_
  refine awp_seq ?_
  refine awp_run (s := ?s4) rfl ?o4 ?q4
  case o4 => simp; refine call0e (BinarySearch_ok g.edges ⟨f, t, 0⟩ (Nat.le_trans hg.1.2.2.1 (by omega)) (hg.mono _)) rfl ?_; simp; rfl
  refine awp_seq ?_
  refine awp_seq ?_
  refine awp_run (s := ?s5) rfl ?o5 ?q5
  case o5 => simp; rfl
  refine awp_cond _ rfl (fun h6 => ?_) fun h6 => ?_
  · try simp at h6
    refine awp_seq ?_
    refine awp_run (s := ?s7) rfl ?o7 ?q7
    case o7 => simp; rfl
    refine awp_ret ?_
    refine ⟨.inr rfl, ?_⟩
    show RetOk [(6, some (true, 3)), (7, none)] 0 _ _ _
    refine RetOk.out (vs := [.agg [.I 0, .nilS, .nilS], .I 19]) [] [] (by simp) (by simp) (by simp) ?_ (by simp)
    have hr : withoutR g f t = (emptyG, 19) := by grind [withoutR]
    simp [hr, emptyG]
    exact wkT2 (wkA3 (.refl _) (.nil _ _) (.nil _ _)) (.refl _)
  try simp at h6
  refine awp_skip ?_
  refine awp_regc ⟨37, [(6, .pt 24 0 0), (8, .I (idxE g.edges ⟨f, t, 0⟩)), (10, .pt 176 0 0)], [(24, some ⟨3, [[.I 0, .nilS, .nilS]], 0⟩), (176, some ⟨3, [[.I g.size, .rs 168 0 g.edges.length, .rs 169 0 g.gone.length]], 0⟩), (168, some ⟨3, g.edges.map fun e : Ed => [AV.I e.f, AV.I e.t, AV.I e.v], 0⟩), (169, some ⟨1, g.gone.map fun n => [AV.I n], 0⟩)], 192⟩ rfl ?_ ?_
  · simp
    refine callN2 (graph_copied_ok g hl hl2) rfl ?_
    simp [Function.comp_def]
    exact Le.keep rfl (Nat.le_refl _) (by simp) (by simp)
  have hr : withoutR g f t = (minusE g f t, 0) := by grind [withoutR]
  rw [hr]
  unfold minusE
  have hlt : idxE g.edges ⟨f, t, 0⟩ < g.edges.length := h6.1
  have hk : ∃ k, k = idxE g.edges ⟨f, t, 0⟩ := ⟨_, rfl⟩
  obtain ⟨k, hk⟩ := hk
  rw [← hk] at hlt ⊢
  obtain ⟨k1, hk1⟩ : ∃ k1, k1 = k + 1 := ⟨_, rfl⟩
  have hw : IntKind.i64.wrap ((k : Int) + 1) = (k1 : Int) := by rw [w64 (by omega) (by omega)]; omega
  obtain ⟨R, hR⟩ : ∃ R, R = g.edges.map fun e : Ed => [AV.I e.f, AV.I e.t, AV.I e.v] := ⟨_, rfl⟩
  rw [← hR]
  have hRl : R.length = g.edges.length := by simp [hR]
  have hRf : Flat R := by rw [hR]; exact flatE _
  obtain ⟨E, hE⟩ : ∃ E, E = g.edges.take k ++ g.edges.drop k1 := ⟨_, rfl⟩
  have hEl : E.length = g.edges.length - 1 := by subst hE; simp; omega
  have hrows : R.take k ++ R.drop k1 = E.map fun e : Ed => [AV.I e.f, AV.I e.t, AV.I e.v] := by subst hE hR; simp [List.map_take, List.map_drop]
  have hins := delE_ok R g.edges.length k k1 hRl hlt hk1 hRf (by omega)
  rw [hrows, ← hEl] at hins
  rw [← hk1, ← hE]
  refine awp_regc ⟨37, [(6, .pt 24 0 0), (10, .pt 176 0 0)], [(24, some ⟨3, [[.I 0, .nilS, .nilS]], 0⟩), (176, some ⟨3, [[.I g.size, .rs 168 0 E.length, .rs 169 0 g.gone.length]], 0⟩), (168, some ⟨3, (E.map fun e : Ed => [AV.I e.f, AV.I e.t, AV.I e.v]) ++ [[.I 0, .I 0, .I 0]], 0⟩), (169, some ⟨1, g.gone.map fun n => [AV.I n], 0⟩)], 256⟩ rfl ?_ ?_
  · simp [hw]
    refine callM1 (i := 168) rfl ?_ hins (by simp) ?_ ?_
    · have := hRf [(168, 0)] []
      simp only [convE, this]
    · simp
    simp [Function.comp_def]
    exact Le.keep rfl (Nat.le_refl _) (by simp) (by simp)
  refine awp_seq ?_
  refine awp_run (s := ?s21) rfl ?o21 ?q21
  case o21 => simp; rfl
  refine awp_ret ?_
  refine ⟨.inr rfl, ?_⟩
  show RetOk [(6, some (true, 3)), (7, none)] 0 _ _ _
  refine RetOk.out (vs := [.agg [.I g.size, .rs 168 0 E.length, .rs 169 0 g.gone.length], .I 0]) [] [168, 169] (by simp) (by simp) (by simp) ?_ (by simp)
  simp [Function.comp_def, take_map_len]

end Go.Proofs.Ytnphfkceoklkkaa
