/- Texts of this claim, merged. -/
import Derived.Test.YtnphfkceoklkkaaVf12
import Derived.Test.YtnphfkceoklkkaaVf14
import Derived.Test.YtnphfkceoklkkaaVf5
import Derived.Test.YtnphfkceoklkkaaVf9
import Derived.Test.YtnphfkceoklkkaaVf11
set_option linter.unusedSimpArgs false
set_option linter.unusedVariables false
set_option linter.unusedSectionVars false
/- The reference's answer: from where, and to where, edges lead. -/
namespace Go.Proofs.Ytnphfkceoklkkaa
open Go

theorem ref11_Out_ok (g : Gr) (key : Int) (hl : g.edges.length ≤ 1099511627776) : ACalls Try.prog nref11_Out [eG g, .I key] [] (.rs 0 0 (outs g.edges key).length) [some ⟨1, (outs g.edges key).map fun n => [AV.I n], 0⟩] := by
  refine sref11_Out.acalls (Nat.le_of_ble_eq_true rfl) (Nat.le_of_ble_eq_true rfl) (Nat.zero_le _) ?_
  show awp _ 0 _ _ ⟨32, [(0, eG g), (1, .I key)], [], 16⟩
  refine awp_seq ?_
  refine awp_run (s := ?s0) rfl ?o0 ?q0
  case o0 => simp; rfl
  refine awp_seq ?_
  refine awp_run (s := ?s1) rfl ?o1 ?q1
  case o1 => simp; rfl
  refine awp_seq ?_
  refine awp_seq ?_
  refine awp_run (s := ?s2) rfl ?o2 ?q2
  case o2 => simp; rfl
  refine awp_block ?_
  refine awp_loop (ι := Nat) (fun k => ⟨32, [(1, .I key), (2, .pv (gC g)), (5, .rs 16 0 (outs (g.edges.take k) key).length), (6, .I k)], [(16, some ⟨1, (outs (g.edges.take k) key).map fun n => [AV.I n], 0⟩)], 24⟩) (fun k => k ≤ g.edges.length) (fun k => g.edges.length - k) (0) ?_ (Le.lst [] [16] [(16, 1)] rfl (by simp) (by simp) (by simp) (by simp) (by simp) (by simp) (by simp) (by simp [Up, outs]) (by simp [outs])) ?_
  · simp
  rintro k hk
  have hol : (outs (g.edges.take k) key).length ≤ k := Nat.le_trans (outs_le _ _) (by simp; exact Nat.min_le_left _ _)
  refine awp_seq ?_
  refine awp_seq ?_
  refine awp_run (s := ?s3) rfl ?o3 ?q3
  case o3 => simp; rfl
  refine awp_cond _ rfl (fun h4 => ?_) fun h4 => ?_
  · try simp at h4
    have hw2 : IntKind.i64.wrap ((k : Int) + 1) = (k : Int) + 1 := w64 (by omega) (by omega)
    have hwp : 0 < k → IntKind.i64.wrap ((k : Int) - 1) = ((k - 1 : Nat) : Int) := fun h => by rw [w64 (by omega) (by omega)]; omega
    have hkp : k - 1 < g.edges.length := by omega
    refine awp_skip ?_
    refine awp_seq ?_
    refine awp_block ?_
    refine awp_seq ?_
    refine awp_run (s := ?s5) rfl ?o5 ?q5
    case o5 => simp [h4, hw2, hwp, hkp]; rfl
    refine awp_cond _ rfl (fun h6 => ?_) fun h6 => ?_
    · try simp at h6
      refine awp_run (s := ?s7) rfl ?o7 ?q7
      case o7 =>
        simp [h4, hw2, hwp, hkp, List.replicate]
        refine ⟨by omega, by omega, ?_⟩
        rfl
      refine awp_run (s := ?s8) rfl ?o8 ?q8
      case o8 => simp [h4, hw2, hwp, hkp]; rfl
      have hs := outs_succ g.edges key k h4
      rw [if_pos h6] at hs
      refine ⟨k + 1, h4, by omega, Le.ren1 192 16 [] rfl rfl (Nat.le_of_ble_eq_true rfl) (by decide) rfl (by simp [hs, Function.comp_def, take_map_len]) (by simp) (by simp [hs, hw2])⟩
    try simp at h6
    refine awp_skip ?_
    refine awp_run (s := ?s9) rfl ?o9 ?q9
    case o9 => simp [h4, hw2, hwp, hkp]; rfl
    have hs := outs_succ g.edges key k h4
    rw [if_neg h6, List.append_nil] at hs
    refine ⟨k + 1, h4, by omega, Le.var1 16 [] rfl rfl (Nat.le_of_ble_eq_true rfl) (by decide) rfl (by simp [hs, Function.comp_def, take_map_len]) (by simp) (by simp [hs, hw2])⟩
  try simp at h4
  have hkl : k = g.edges.length := by omega
  subst hkl
  refine awp_exit ?_
  refine hit ?_
  refine awp_seq ?_
  refine awp_run (s := ?s10) rfl ?o10 ?q10
  case o10 => simp; rfl
  refine awp_ret ?_
  exact ⟨.inr rfl, RetOk.out [16] [] rfl (by simp) (by simp) (by simp) (by simp [Function.comp_def])⟩

theorem ref11_In_ok (g : Gr) (key : Int) (hl : g.edges.length ≤ 1099511627776) : ACalls Try.prog nref11_In [eG g, .I key] [] (.rs 0 0 (inns g.edges key).length) [some ⟨1, (inns g.edges key).map fun n => [AV.I n], 0⟩] := by
  refine sref11_In.acalls (Nat.le_of_ble_eq_true rfl) (Nat.le_of_ble_eq_true rfl) (Nat.zero_le _) ?_
  show awp _ 0 _ _ ⟨32, [(0, eG g), (1, .I key)], [], 16⟩
  refine awp_seq ?_
  refine awp_run (s := ?s0) rfl ?o0 ?q0
  case o0 => simp; rfl
  refine awp_seq ?_
  refine awp_run (s := ?s1) rfl ?o1 ?q1
  case o1 => simp; rfl
  refine awp_seq ?_
  refine awp_seq ?_
  refine awp_run (s := ?s2) rfl ?o2 ?q2
  case o2 => simp; rfl
  refine awp_block ?_
  refine awp_loop (ι := Nat) (fun k => ⟨32, [(1, .I key), (2, .pv (gC g)), (5, .rs 16 0 (inns (g.edges.take k) key).length), (6, .I k)], [(16, some ⟨1, (inns (g.edges.take k) key).map fun n => [AV.I n], 0⟩)], 24⟩) (fun k => k ≤ g.edges.length) (fun k => g.edges.length - k) (0) ?_ (Le.lst [] [16] [(16, 1)] rfl (by simp) (by simp) (by simp) (by simp) (by simp) (by simp) (by simp) (by simp [Up, inns]) (by simp [inns])) ?_
  · simp
  rintro k hk
  have hol : (inns (g.edges.take k) key).length ≤ k := Nat.le_trans (inns_le _ _) (by simp; exact Nat.min_le_left _ _)
  refine awp_seq ?_
  refine awp_seq ?_
  refine awp_run (s := ?s3) rfl ?o3 ?q3
  case o3 => simp; rfl
  refine awp_cond _ rfl (fun h4 => ?_) fun h4 => ?_
  · try simp at h4
    have hw2 : IntKind.i64.wrap ((k : Int) + 1) = (k : Int) + 1 := w64 (by omega) (by omega)
    have hwp : 0 < k → IntKind.i64.wrap ((k : Int) - 1) = ((k - 1 : Nat) : Int) := fun h => by rw [w64 (by omega) (by omega)]; omega
    have hkp : k - 1 < g.edges.length := by omega
    refine awp_skip ?_
    refine awp_seq ?_
    refine awp_block ?_
    refine awp_seq ?_
    refine awp_run (s := ?s5) rfl ?o5 ?q5
    case o5 => simp [h4, hw2, hwp, hkp]; rfl
    refine awp_cond _ rfl (fun h6 => ?_) fun h6 => ?_
    · try simp at h6
      refine awp_run (s := ?s7) rfl ?o7 ?q7
      case o7 =>
        simp [h4, hw2, hwp, hkp, List.replicate]
        refine ⟨by omega, by omega, ?_⟩
        rfl
      refine awp_run (s := ?s8) rfl ?o8 ?q8
      case o8 => simp [h4, hw2, hwp, hkp]; rfl
      have hs := inns_succ g.edges key k h4
      rw [if_pos h6] at hs
      refine ⟨k + 1, h4, by omega, Le.ren1 192 16 [] rfl rfl (Nat.le_of_ble_eq_true rfl) (by decide) rfl (by simp [hs, Function.comp_def, take_map_len]) (by simp) (by simp [hs, hw2])⟩
    try simp at h6
    refine awp_skip ?_
    refine awp_run (s := ?s9) rfl ?o9 ?q9
    case o9 => simp [h4, hw2, hwp, hkp]; rfl
    have hs := inns_succ g.edges key k h4
    rw [if_neg h6, List.append_nil] at hs
    refine ⟨k + 1, h4, by omega, Le.var1 16 [] rfl rfl (Nat.le_of_ble_eq_true rfl) (by decide) rfl (by simp [hs, Function.comp_def, take_map_len]) (by simp) (by simp [hs, hw2])⟩
  try simp at h4
  have hkl : k = g.edges.length := by omega
  subst hkl
  refine awp_exit ?_
  refine hit ?_
  refine awp_seq ?_
  refine awp_run (s := ?s10) rfl ?o10 ?q10
  case o10 => simp; rfl
  refine awp_ret ?_
  exact ⟨.inr rfl, RetOk.out [16] [] rfl (by simp) (by simp) (by simp) (by simp [Function.comp_def])⟩


end Go.Proofs.Ytnphfkceoklkkaa

/- Dice. -/
namespace Go.Proofs.Ytnphfkceoklkkaa
open Go

/-- A number modulo another one. -/
def modI (n m : Int) : Int := if m < 1 then 0 else n % m

theorem tmod_emod {n m : Int} (hm : 0 < m) : n.tmod m % m = n % m := by
  have h := Int.mul_tdiv_add_tmod n m
  conv => rhs; rw [← h]
  rw [Int.add_comm, Int.add_mul_emod_self_left]

theorem tmod_range {n m : Int} (hm : 0 < m) : -m < n.tmod m ∧ n.tmod m < m := ⟨Int.lt_tmod_of_pos n hm, Int.tmod_lt_of_pos n hm⟩

/-- What dice at a place give, and where they are then. -/
def nextD (L : List Int) (a : Nat) (n : Int) : Int × Nat := if h : a < L.length then (modI L[a] n, a + 1) else (0, a)

abbrev dice (L : List Int) (a : Nat) : Ent := ⟨2, [[ints L, .I a]], 0⟩

/-- One array passed, and handed back. -/
theorem RetOk.k1 {rs : List (Nat × Option (Bool × Nat))} {st : St} {vs : List AV} {res : AV} {e : Ent} (h1 : resAll st rs = some vs) (hw : Wk (conv [(0, 0)] [] st.hp 4 (resV vs)) res) (he : (st.hp 0).map (convE [(0, 0)] [] st.hp 4) = some e) : RetOk rs 1 st res [some e] :=
  ⟨vs, h1, [], [], by decide, by simp, by simp, hw, by simpa using he⟩

theorem Light_ok (L : List Int) : ACalls Try.prog nmade_Light [ints L] [] (.B (decide (L.length ≤ 400))) [] := by
  refine smade_Light.acalls (Nat.le_of_ble_eq_true rfl) (Nat.le_of_ble_eq_true rfl) (Nat.le_refl _) ?_
  show awp _ 0 _ _ ⟨6, [(0, ints L)], [], 16⟩
  refine awp_seq ?_
  refine awp_run (s := ?s1) rfl ?o1 ?q1
  case o1 => simp; rfl
  refine awp_regc ⟨6, [(2, .B (decide (L.length ≤ 400)))], [], 16⟩ rfl ?_ ?_
  · simp
    exact Le.snap [] rfl rfl (by simp <;> exact wkB (by simp; omega))
  refine awp_ret ?_
  exact ⟨.inr rfl, RetOk.one (by simp)⟩

theorem Mod_ok (n m : Int) (hm : m ≤ 9223372036854775807) : ACalls Try.prog nmade_Mod [.I n, .I m] [] (.I (modI n m)) [] := by
  refine smade_Mod.acalls (Nat.le_of_ble_eq_true rfl) (Nat.le_of_ble_eq_true rfl) (Nat.le_refl _) ?_
  show awp _ 0 _ _ ⟨16, [(0, .I n), (1, .I m)], [], 16⟩
  refine awp_seq ?_
  refine awp_run (s := ?s1) rfl ?o1 ?q1
  case o1 => simp; rfl
  refine awp_seq ?_
  refine awp_seq ?_
  refine awp_run (s := ?s2) rfl ?o2 ?q2
  case o2 => simp; rfl
  refine awp_cond _ rfl (fun h3 => ?_) fun h3 => ?_
  · try simp at h3
    refine awp_seq ?_
    refine awp_run (s := ?s4) rfl ?o4 ?q4
    case o4 => simp; rfl
    refine awp_ret ?_
    exact ⟨.inr rfl, RetOk.one (by simp [modI, h3])⟩
  try simp at h3
  have hm0 : m ≠ 0 := by omega
  have hlt : ¬ m < 1 := by omega
  obtain ⟨t1, t2⟩ := tmod_range (n := n) (m := m) (by omega)
  have te := tmod_emod (n := n) (m := m) (by omega)
  refine awp_skip ?_
  refine awp_seq ?_
  refine awp_run (s := ?s5) rfl ?o5 ?q5
  case o5 => simp [hm0]; rfl
  refine awp_seq ?_
  refine awp_seq ?_
  refine awp_run (s := ?s6) rfl ?o6 ?q6
  case o6 => simp; rfl
  refine awp_cond _ rfl (fun h7 => ?_) fun h7 => ?_
  · try simp at h7
    have hw : IntKind.i64.wrap (n.tmod m + m) = n.tmod m + m := w64 (by omega) (by omega)
    have hr : n % m = n.tmod m + m := by rw [← te, ← Int.add_emod_right, Int.emod_eq_of_lt (by omega) (by omega)]
    refine awp_run (s := ?s8) rfl ?o8 ?q8
    case o8 => simp [hw]; rfl
    refine awp_seq ?_
    refine awp_run (s := ?s9) rfl ?o9 ?q9
    case o9 => simp; rfl
    refine awp_ret ?_
    exact ⟨.inr rfl, RetOk.one (by simp [modI, hlt, hr])⟩
  try simp at h7
  have hr : n % m = n.tmod m := by rw [← te, Int.emod_eq_of_lt (by omega) (by omega)]
  refine awp_skip ?_
  refine awp_seq ?_
  refine awp_run (s := ?s10) rfl ?o10 ?q10
  case o10 => simp; rfl
  refine awp_ret ?_
  exact ⟨.inr rfl, RetOk.one (by simp [modI, hlt, hr])⟩

theorem Roll_ok (L : List Int) : ACalls Try.prog nmade_Roll [ints L] [] (.pt 0 0 0) [some (dice L 0)] := by
  refine smade_Roll.acalls (Nat.le_of_ble_eq_true rfl) (Nat.le_of_ble_eq_true rfl) (Nat.zero_le _) ?_
  show awp _ 0 _ _ ⟨6, [(0, ints L)], [], 16⟩
  refine awp_seq ?_
  refine awp_run (s := ?s1) rfl ?o1 ?q1
  case o1 => simp; rfl
  refine awp_seq ?_
  refine awp_run (s := ?s2) rfl ?o2 ?q2
  case o2 => simp; rfl
  refine awp_ret ?_
  exact ⟨.inr rfl, RetOk.out [40] [] rfl (by simp) (by simp) (by simp) (by simp)⟩

theorem Next_ok (L : List Int) (a : Nat) (n : Int) (hl : L.length ≤ 1099511627776) (ha : a ≤ L.length) (hn : n ≤ 9223372036854775807) : ACalls Try.prog nmade_Dice_Next [.pt 0 0 0, .I n] [dice L a] (.I (nextD L a n).1) [some (dice L (nextD L a n).2)] := by
  refine smade_Dice_Next.acalls (Nat.le_of_ble_eq_true rfl) (Nat.le_of_ble_eq_true rfl) (Nat.le_refl _) ?_
  show awp _ 1 _ _ ⟨35, [(0, .pt 0 0 0), (1, .I n)], [(0, some (dice L a))], 16⟩
  refine awp_seq ?_
  refine awp_run (s := ?s1) rfl ?o1 ?q1
  case o1 => simp; rfl
  refine awp_seq ?_
  refine awp_seq ?_
  refine awp_drun (s := ?s2) (tr := ?t2) rfl ?o2 ?r2 ?q2
  case o2 => simp; constructor <;> rfl
  case r2 => rfl
  refine awp_cond _ rfl (fun h3 => ?_) fun h3 => ?_
  · try simp at h3
    refine awp_seq ?_
    refine awp_run (s := ?s4) rfl ?o4 ?q4
    case o4 => simp; rfl
    refine awp_ret ?_
    have hr : nextD L a n = (0, a) := by unfold nextD; rw [dif_neg (by omega)]
    rw [hr]
    exact ⟨.inr rfl, RetOk.k1 rfl (by simp) (by simp [Function.comp_def])⟩
  try simp at h3
  have hw : IntKind.i64.wrap ((a : Int) + 1) = (a : Int) + 1 := w64 (by omega) (by omega)
  have hw0 : IntKind.i64.wrap (a : Int) = (a : Int) := w64 (by omega) (by omega)
  refine awp_skip ?_
  refine awp_seq ?_
  refine awp_run (s := ?s5) rfl ?o5 ?q5
  case o5 => simp [hw]; rfl
  refine awp_seq ?_
  refine awp_drun (s := ?s6) (tr := ?t6) rfl ?o6 ?r6 ?q6
  case o6 => simp [hw0, h3]; refine call0e (Mod_ok _ _ hn) rfl ?_; simp; constructor <;> rfl
  case r6 => rfl
  refine awp_ret ?_
  have hr : nextD L a n = (modI L[a] n, a + 1) := by unfold nextD; rw [dif_pos h3]
  rw [hr]
  exact ⟨.inr rfl, RetOk.k1 rfl (by simp) (by simp [Function.comp_def])⟩

end Go.Proofs.Ytnphfkceoklkkaa

/- Dice: one of some. -/
namespace Go.Proofs.Ytnphfkceoklkkaa
open Go

theorem modI_lt {n m : Int} (hm : 0 < m) : 0 ≤ modI n m ∧ modI n m < m := by
  unfold modI
  rw [if_neg (by omega)]
  exact ⟨Int.emod_nonneg _ (by omega), Int.emod_lt_of_pos _ hm⟩

theorem nextD_lt {L : List Int} {a : Nat} {n : Int} (hn : 0 < n) : 0 ≤ (nextD L a n).1 ∧ (nextD L a n).1 < n := by
  unfold nextD
  split
  · exact modI_lt hn
  · exact ⟨Int.le_refl _, hn⟩

theorem nextD_le {L : List Int} {a : Nat} {n : Int} (ha : a ≤ L.length) : (nextD L a n).2 ≤ L.length := by
  unfold nextD
  split
  · simp only; omega
  · exact ha

/-- One of some numbers. -/
def ofD (L : List Int) (a : Nat) (l : List Int) : Int := l.getD (nextD L a l.length).1.toNat 0

theorem One_ok (L : List Int) (a : Nat) (n : Int) (hl : L.length ≤ 1099511627776) (ha : a ≤ L.length) (hn0 : 0 ≤ n) (hn : n ≤ 9223372036854775807) : ACalls Try.prog nmade_Dice_One [.pt 0 0 0, .I n] [dice L a] (.B (decide ((nextD L a n).1 = n - 1))) [some (dice L (nextD L a n).2)] := by
  refine smade_Dice_One.acalls (Nat.le_of_ble_eq_true rfl) (Nat.le_of_ble_eq_true rfl) (Nat.le_refl _) ?_
  show awp _ 1 _ _ ⟨11, [(0, .pt 0 0 0), (1, .I n)], [(0, some (dice L a))], 16⟩
  have hw : IntKind.i64.wrap (n - 1) = n - 1 := w64 (by omega) (by omega)
  refine awp_seq ?_
  refine awp_run (s := ?s1) rfl ?o1 ?q1
  case o1 => simp; rfl
  refine awp_seq ?_
  refine awp_run (s := ?s2) rfl ?o2 ?q2
  case o2 =>
    simp
    refine callM1 (i := 0) rfl (e' := dice L a) (by simp [Function.comp_def]) (Next_ok L a n hl ha hn) (by simp) (by simp) ?_
    simp [hw, Function.comp_def]
    rfl
  refine awp_ret ?_
  exact ⟨.inr rfl, RetOk.k1 rfl (by simp <;> exact wkB rfl) (by simp [Function.comp_def])⟩

theorem Of_ok (L : List Int) (a : Nat) (l : List Int) (hl : L.length ≤ 1099511627776) (ha : a ≤ L.length) (h0 : 0 < l.length) (hl2 : l.length ≤ 1099511627776) : ACalls Try.prog nmade_Dice_Of [.pt 0 0 0, ints l] [dice L a] (.I (ofD L a l)) [some (dice L (nextD L a l.length).2)] := by
  refine smade_Dice_Of.acalls (Nat.le_of_ble_eq_true rfl) (Nat.le_of_ble_eq_true rfl) (Nat.le_refl _) ?_
  show awp _ 1 _ _ ⟨12, [(0, .pt 0 0 0), (1, ints l)], [(0, some (dice L a))], 16⟩
  obtain ⟨q, hq, hql⟩ : ∃ q : Nat, (nextD L a l.length).1 = q ∧ q < l.length := by
    have := nextD_lt (L := L) (a := a) (n := l.length) (by omega)
    exact ⟨(nextD L a l.length).1.toNat, by omega, by omega⟩
  have ho : ofD L a l = l[q] := by unfold ofD; rw [hq]; simp [hql]
  refine awp_seq ?_
  refine awp_run (s := ?s1) rfl ?o1 ?q1
  case o1 => simp; rfl
  refine awp_seq ?_
  refine awp_run (s := ?s2) rfl ?o2 ?q2
  case o2 =>
    simp
    refine callM1 (i := 0) rfl (e' := dice L a) (by simp [Function.comp_def]) (Next_ok L a l.length hl ha (by omega)) (by simp) (by simp) ?_
    simp [hq, hql, Function.comp_def]
    rfl
  refine awp_ret ?_
  rw [ho]
  exact ⟨.inr rfl, RetOk.k1 rfl (by simp) (by simp [Function.comp_def])⟩

end Go.Proofs.Ytnphfkceoklkkaa

/- The value-level machine: slices of known capacity; arrays that are handed in and consumed. -/
namespace Go.Proofs.Ytnphfkceoklkkaa
open Go

section
variable {P : Program} {np id : Nat} {h : Nat → Option Ent} {K : AV → List Nat → List (Nat × Option Ent) → Prop} {s i off len c k l m : Nat}
@[simp] theorem k_slkl : aK P np id (.slc s true false false) [.rk i off len c, .sc (.int .i64 (k : Int))] h K = (k ≤ len ∧ len ≤ c ∧ (∃ e, h i = some e ∧ e.s = s) ∧ K (.rk i (off + k) (len - k) (c - k)) [i] []) := by
  rw [k_slc]
  refine propext ⟨?_, ?_⟩
  · rintro ⟨l, r, m, n, h1, h2, h4, h5, h6, h7, h3, h10, h11, h8, h9⟩
    obtain rfl := h6 rfl
    simp at h4 h1
    subst h1
    have : k = l := by omega
    subst this
    obtain rfl := h11 rfl
    exact ⟨h2, h3, h8, h9⟩
  · rintro ⟨h1, h2, h3, h4⟩
    exact ⟨k, len, c, len, rfl, h1, by simp, (fun h => by cases h), fun _ => rfl, (fun h => by cases h), h2, Nat.le_refl _, fun _ => rfl, h3, h4⟩
@[simp] theorem k_slkh : aK P np id (.slc s false true false) [.rk i off len c, .sc (.int .i64 (k : Int))] h K = (k ≤ c ∧ (∃ e, h i = some e ∧ e.s = s) ∧ K (.rk i off k c) [i] []) := by
  rw [k_slc]
  refine propext ⟨?_, ?_⟩
  · rintro ⟨l, r, m, n, h1, h2, h4, h5, h6, h7, h3, h10, h11, h8, h9⟩
    obtain rfl := h5 rfl
    simp at h4 h1
    have : k = r := by omega
    subst this
    obtain rfl := h11 rfl
    exact ⟨h3, h8, by simpa using h9⟩
  · rintro ⟨h1, h3, h4⟩
    exact ⟨0, k, c, len, rfl, Nat.zero_le _, by simp, fun _ => rfl, (fun h => by cases h), (fun h => by cases h), h1, Nat.le_refl _, fun _ => rfl, h3, by simpa using h4⟩
@[simp] theorem k_slklh : aK P np id (.slc s true true false) [.rk i off len c, .sc (.int .i64 (l : Int)), .sc (.int .i64 (k : Int))] h K = (l ≤ k ∧ k ≤ c ∧ (∃ e, h i = some e ∧ e.s = s) ∧ K (.rk i (off + l) (k - l) (c - l)) [i] []) := by
  rw [k_slc]
  refine propext ⟨?_, ?_⟩
  · rintro ⟨l', r, m, n, h1, h2, h4, h5, h6, h7, h3, h10, h11, h8, h9⟩
    simp at h4 h1
    have : k = r := by omega
    subst this
    have : l = l' := by omega
    subst this
    obtain rfl := h11 rfl
    exact ⟨h2, h3, h8, h9⟩
  · rintro ⟨h1, h2, h3, h4⟩
    exact ⟨l, k, c, len, rfl, h1, by simp, (fun h => by cases h), (fun h => by cases h), (fun h => by cases h), h2, Nat.le_refl _, fun _ => rfl, h3, h4⟩
@[simp] theorem k_slkm : aK P np id (.slc s true true true) [.rk i off len c, .sc (.int .i64 (l : Int)), .sc (.int .i64 (k : Int)), .sc (.int .i64 (m : Int))] h K = (l ≤ k ∧ k ≤ m ∧ m ≤ c ∧ (∃ e, h i = some e ∧ e.s = s) ∧ K (.rk i (off + l) (k - l) (m - l)) [i] []) := by
  rw [k_slc]
  refine propext ⟨?_, ?_⟩
  · rintro ⟨l', r, m', n, h1, h2, h4, h5, h6, h7, h3, h10, h11, h8, h9⟩
    simp at h4 h1
    have : k = r := by omega
    subst this
    have : l = l' := by omega
    subst this
    have : m = m' := by omega
    subst this
    exact ⟨h2, h3, h10, h8, h9⟩
  · rintro ⟨h1, h2, h3, h4, h5⟩
    exact ⟨l, k, m, len, rfl, h1, by simp, (fun h => by cases h), (fun h => by cases h), (fun _ => rfl), h2, h3, (fun h => by cases h), h4, h5⟩
@[simp] theorem k_slrl : aK P np id (.slc s true false false) [.rs i off len, .sc (.int .i64 (k : Int))] h K = (k ≤ len ∧ (∃ e, h i = some e ∧ e.s = s) ∧ K (.rs i (off + k) (len - k)) [i] []) := by
  rw [k_slc]
  refine propext ⟨?_, ?_⟩
  · rintro ⟨l, r, m, n, h1, h2, h4, h5, h6, h7, h3, h10, h8, h9⟩
    obtain rfl := h6 rfl
    simp at h4 h1
    subst h1
    have : k = l := by omega
    subst this
    exact ⟨h2, h8, h9⟩
  · rintro ⟨h1, h3, h4⟩
    exact ⟨k, len, 0, len, rfl, h1, by simp, (fun h => by cases h), fun _ => rfl, (fun h => by cases h), Nat.le_refl _, rfl, h3, h4⟩
@[simp] theorem k_slrh : aK P np id (.slc s false true false) [.rs i off len, .sc (.int .i64 (k : Int))] h K = (k ≤ len ∧ (∃ e, h i = some e ∧ e.s = s) ∧ K (.rs i off k) [i] []) := by
  rw [k_slc]
  refine propext ⟨?_, ?_⟩
  · rintro ⟨l, r, m, n, h1, h2, h4, h5, h6, h7, h3, h10, h8, h9⟩
    obtain rfl := h5 rfl
    simp at h4 h1
    have : k = r := by omega
    subst this
    exact ⟨by omega, h8, by simpa using h9⟩
  · rintro ⟨h1, h3, h4⟩
    exact ⟨0, k, 0, len, rfl, Nat.zero_le _, by simp, fun _ => rfl, (fun h => by cases h), (fun h => by cases h), h1, rfl, h3, by simpa using h4⟩
end

/-- Saying less, nothing renamed: capacities stay known. -/
theorem Le.keep {np : Nat} {st st' : St} (hsz : st'.sz = st.sz) (hn : st.n ≤ st'.n) (ht : ∀ p ∈ st'.t, st.get p.1 = p.2) (hh : ∀ p ∈ st'.h, ∀ e, p.2 = some e → st.hp p.1 = some e) : Le np st st' := by
  intro T0 M0 w0 T M a w ok hnp
  have hp : ∀ id e, st'.hp id = some e → st.hp id = some e := by
    intro id e he
    unfold St.hp at he
    cases hl : lkp st'.h id with
    | none => rw [hl] at he; cases he
    | some v =>
      rw [hl] at he
      exact hh _ (lkp_mem hl) e he
  refine ⟨T, M, ⟨ok.sz.trans hsz.symm, ok.df, fun i => ?_, ⟨fun id e he => ok.hs.ent id e (hp id e he), fun id id' e e' g g' b h1 h2 => ok.hs.inj id id' e e' g g' b (hp _ _ h1) (hp _ _ h2)⟩, fun id g hg => Nat.lt_of_lt_of_le (ok.dom id g hg) hn, ok.after⟩, Nat.le_trans hnp hn⟩
  unfold St.get at *
  cases hl : lkp st'.t i with
  | none => exact .dead _ _
  | some v =>
    have := ht _ (lkp_mem hl)
    simp only at this
    show Rep T w M v _
    rw [← this]
    exact ok.tm i

/-- An array that was handed in, or made, goes on alone, under a new number. -/
theorem Le.mv1 {st st' : St} (j i : Nat) {e0 e : Ent} (hsz : st'.sz = st.sz) (hh : st'.h = [(i, some e)]) (hi : i < st'.n) (h1 : 1 ≤ i) (h0 : st.hp j = some e0) (he : convE [(j, i)] [] st.hp 4 e0 = e) (hr : e.ro ≤ e.rows.length)
    (ht : ∀ p ∈ st'.t, Wk (conv [(j, i)] [] st.hp 4 (st.get p.1)) p.2) : Le 1 st st' :=
  Le.lst [(j, i)] [] [] hsz (by simp) (by simp) (by simp [hi]; omega) (by simp) (by simp) (by omega) (by simp) (fun p hp => .inl (ht p hp)) (fun p hp e' he' => by
    rw [hh] at hp
    simp at hp
    subst hp
    cases he'
    exact .inl ⟨(j, i), by simp, rfl, e0, h0, by rw [he]; exact EntUp.rfl' hr⟩)

/-- One array handed in and gone, one handed back. -/
theorem RetOk.m1 {rs : List (Nat × Option (Bool × Nat))} {st : St} {vs : List AV} {res : AV} {e : Ent} (i : Nat) (hi : 1 ≤ i) (h1 : resAll st rs = some vs) (hw : Wk (conv [(0, 0), (i, 1)] [] st.hp 4 (resV vs)) res) (h0 : st.hp 0 = none) (he : (st.hp i).map (convE [(0, 0), (i, 1)] [] st.hp 4) = some e) : RetOk rs 1 st res [none, some e] :=
  ⟨vs, h1, [i], [], by simp [List.range, List.range.loop]; omega, by simpa using hi, by simp, by simpa [List.range, List.range.loop] using hw, by simpa [List.range, List.range.loop, h0] using he⟩

end Go.Proofs.Ytnphfkceoklkkaa

/- slices.Insert of one edge. -/
namespace Go.Proofs.Ytnphfkceoklkkaa
open Go

/-- Rows that no renaming touches. -/
def Flat (R : List (List AV)) : Prop := ∀ ρ sn h n, R.map (List.map (conv ρ sn h (n + 1))) = R

set_option maxRecDepth 100000 in
theorem insE_ok (R : List (List AV)) (row : List AV) (n k : Nat) (hn : R.length = n) (hk : k ≤ n) (hR : Flat R) (hr : Flat [row]) (hl : (n + 1) * 24 ≤ 140737488355328) :
    ACalls Try.prog nslices_Insert_Lapi_Edge_api_Edge [.rs 0 0 n, .I k, .vs 3 false [row]] [⟨3, R, 0⟩] (.rs 1 0 (n + 1)) [none, some ⟨3, R.take k ++ row :: R.drop k, 0⟩] := by
  have hrow : ∀ ρ sn h n, row.map (conv ρ sn h (n + 1)) = row := fun ρ sn h n => by simpa using hr ρ sn h n
  have hflat : ∀ ρ sn h n, (R.take k ++ row :: R.drop k).map (List.map (conv ρ sn h (n + 1))) = R.take k ++ row :: R.drop k := fun ρ sn h n => by
    have := hR ρ sn h n
    rw [List.map_append, List.map_cons, List.map_take, List.map_drop, this, hrow]
  refine acalls_cap fun c hc => ?_
  refine sslices_Insert_Lapi_Edge_api_Edge.acalls (Nat.le_of_ble_eq_true rfl) (Nat.le_of_ble_eq_true rfl) (Nat.le_of_ble_eq_true rfl) ?_
  show awp _ 1 _ _ ⟨95, [(0, .rk 0 0 n c), (1, .I k), (2, .vs 3 false [row])], [(0, some ⟨3, R, 0⟩)], 16⟩
  obtain ⟨n1, hn1⟩ : ∃ n1, n1 = n + 1 := ⟨_, rfl⟩
  obtain ⟨k1, hk1⟩ : ∃ k1, k1 = k + 1 := ⟨_, rfl⟩
  obtain ⟨d, hd⟩ : ∃ d, d = n1 - k := ⟨_, rfl⟩
  have hw1 : IntKind.i64.wrap ((n : Int) + 1) = (n1 : Int) := by rw [w64 (by omega) (by omega)]; omega
  have hw2 : IntKind.i64.wrap ((k : Int) + 1) = (k1 : Int) := by rw [w64 (by omega) (by omega)]; omega
  have hw3 : IntKind.i64.wrap ((n1 : Int) - (k : Int)) = (d : Int) := by rw [w64 (by omega) (by omega)]; omega
  have fin : ∀ (t : List (Nat × AV)) (m : Nat), awp Try.prog 1 .ret (fun e st => (e = .normal ∨ e = .ret) ∧ RetOk [(6, none)] 1 st (.rs 1 0 (n + 1)) [none, some ⟨3, R.take k ++ row :: R.drop k, 0⟩]) ⟨95, [(6, .rs 16 0 n1)], [(16, some ⟨3, R.take k ++ row :: R.drop k, 0⟩)], 24⟩ := by
    intro t m
    refine awp_ret ⟨.inr rfl, ?_⟩
    refine RetOk.m1 (vs := [.rs 16 0 n1]) 16 (by omega) rfl (by simp [hn1]) rfl ?_
    show Option.map _ (some _) = _
    rw [Option.map_some]
    unfold convE
    simp only [hflat]
  refine awp_regc ⟨95, [(0, .rk 0 0 n c), (1, .I k), (2, .vs 3 false [row])], [(0, some ⟨3, R, 0⟩)], 24⟩ rfl ?_ ?_
  · simp
    exact Le.keep rfl (Nat.le_refl _) (by simp) (by simp)
  refine awp_regc ⟨95, [(0, .rk 0 0 n c), (1, .I k), (2, .vs 3 false [row])], [(0, some ⟨3, R, 0⟩)], 48⟩ rfl ?_ ?_
  · simp [hk, hc]
    exact Le.keep rfl (Nat.le_refl _) (by simp) (by simp)
  refine awp_regc ⟨95, [(0, .rk 0 0 n c), (1, .I k), (2, .vs 3 false [row]), (7, .I 1)], [(0, some ⟨3, R, 0⟩)], 72⟩ rfl ?_ ?_
  · simp
    exact Le.keep rfl (Nat.le_refl _) (by simp) (by simp)
  refine awp_seq ?_
  refine awp_regc ⟨95, [(0, .rk 0 0 n c), (1, .I k), (2, .vs 3 false [row]), (7, .I 1), (16, .B false)], [(0, some ⟨3, R, 0⟩)], 88⟩ rfl ?_ ?_
  · simp
    exact Le.keep rfl (Nat.le_refl _) (by simp) (by simp)
  refine awp_cond _ rfl (fun h => by cases h) fun _ => awp_skip ?_
  refine awp_regc ⟨95, [(0, .rk 0 0 n c), (1, .I k), (2, .vs 3 false [row]), (7, .I 1), (8, .I n)], [(0, some ⟨3, R, 0⟩)], 112⟩ rfl ?_ ?_
  · simp
    exact Le.keep rfl (Nat.le_refl _) (by simp) (by simp)
  refine awp_seq ?_
  refine awp_regc ⟨95, [(0, .rk 0 0 n c), (1, .I k), (2, .vs 3 false [row]), (7, .I 1), (8, .I n), (22, .B (decide (k = n)))], [(0, some ⟨3, R, 0⟩)], 136⟩ rfl ?_ ?_
  · simp
    exact Le.keep rfl (Nat.le_refl _) (by simp <;> rw [Bool.eq_iff_iff] <;> simp <;> omega) (by simp)
  refine awp_cond _ rfl (fun h => ?_) fun h => awp_skip ?_
  · -- at the end
    simp at h
    subst h
    have hT : R.take k = R := List.take_of_length_le (by omega)
    have hD : R.drop k = [] := List.drop_eq_nil_of_le (by omega)
    have hD1 : R.drop n1 = [] := List.drop_eq_nil_of_le (by omega)
    simp only [hT, hD] at fin hflat ⊢
    refine awp_regc ⟨95, [(6, .rs 16 0 n1)], [(16, some ⟨3, R ++ [row], 0⟩)], 24⟩ rfl ?_ (fin [] 0)
    simp [hn, ← hn1, hT, hD1]
    refine ⟨by omega, by omega, ?_⟩
    split
    · exact Le.mv1 0 16 rfl rfl (Nat.le_of_ble_eq_true rfl) (by omega) rfl (by simp only [convE, hflat]) (Nat.zero_le _) (by simp)
    · exact Le.mv1 152 16 rfl rfl (Nat.le_of_ble_eq_true rfl) (by omega) rfl (by simp only [convE, hflat]) (Nat.zero_le _) (by simp)
  simp at h
  have hkn : k < n := by omega
  refine awp_seq ?_
  refine awp_regc ⟨95, [(0, .rk 0 0 n c), (1, .I k), (2, .vs 3 false [row]), (7, .I 1), (8, .I n), (31, .B (decide (c < n1)))], [(0, some ⟨3, R, 0⟩)], 184⟩ rfl ?_ ?_
  · simp [hw1]
    exact Le.keep rfl (Nat.le_refl _) (by simp) (by simp)
  refine awp_cond _ rfl (fun h => ?_) fun h => awp_skip ?_
  · -- no room
    simp at h
    have hdn : n - k + 1 = d := by omega
    refine awp_regc ⟨95, [(0, .rk 0 0 n c), (1, .I k), (2, .vs 3 false [row]), (7, .I 1), (8, .I n), (9, .rs 248 0 n1)], [(0, some ⟨3, R, 0⟩), (248, some ⟨3, R.take k ++ List.replicate d [.I 0, .I 0, .I 0], 0⟩)], 264⟩ rfl ?_ ?_
    · have hkd : k + d = n1 := by omega
      simp [hw1, hw3, hkd]
      exact ⟨by omega, by omega, by omega, h, by omega, by omega, Le.keep rfl (Nat.le_refl _) (by simp) (by simp)⟩
    refine awp_regc ⟨95, [(0, .rk 0 0 n c), (1, .I k), (2, .vs 3 false [row]), (7, .I 1), (8, .I n), (9, .rs 248 0 n1)], [(0, some ⟨3, R, 0⟩), (248, some ⟨3, R.take k ++ row :: List.replicate (n - k) [.I 0, .I 0, .I 0], 0⟩)], 304⟩ rfl ?_ ?_
    · have hm : min 1 (n1 - k) = 1 := by omega
      have hl0 : (R.take k).length = k := by simp; omega
      have h1 : (R.take k ++ List.replicate d [AV.I 0, AV.I 0, AV.I 0]).take k = R.take k := by
        rw [List.take_append_of_le_length (by omega), List.take_take]
        congr 1; omega
      have h2 : (R.take k ++ List.replicate d [AV.I 0, AV.I 0, AV.I 0]).drop (k + 1) = List.replicate (n - k) [AV.I 0, AV.I 0, AV.I 0] := by
        rw [List.drop_append, hl0, List.drop_eq_nil_of_le (by omega), List.drop_replicate]
        simp
        omega
      simp [show k ≤ n1 by omega, hm]
      exact ⟨by omega, Le.keep rfl (Nat.le_refl _) (by simp) (by simp [h1, h2])⟩
    refine awp_dregc ⟨95, [(9, .rs 248 0 n1)], [(248, some ⟨3, R.take k ++ row :: R.drop k, 0⟩)], 376⟩ rfl ?_ ?_
    · have hl0 : (R.take k).length = k := by simp; omega
      have hx : List.take (n - k) (List.drop k R) = List.drop k R := List.take_of_length_le (by simp; omega)
      have hxl : (List.drop k R).length = n - k := by simp; omega
      have hm : min (n - k) (n1 - k1) = n - k := by omega
      have h1 : (R.take k ++ row :: List.replicate (n - k) [AV.I 0, AV.I 0, AV.I 0]).take k1 = R.take k ++ [row] := by
        rw [List.take_append, hl0, List.take_of_length_le (by omega), hk1, show k + 1 - k = 1 by omega]
        rfl
      have h2 : (R.take k ++ row :: List.replicate (n - k) [AV.I 0, AV.I 0, AV.I 0]).drop (k1 + (n - k)) = [] := List.drop_eq_nil_of_le (by simp; omega)
      simp [hw2]
      refine ⟨by omega, by omega, by omega, by omega, _, ⟨by omega, hx⟩, rfl, ?_⟩
      rw [hxl, hm, h1, h2, hx]
      exact Le.keep rfl (Nat.le_refl _) (by simp) (by simp)
    refine awp_regc ⟨95, [(6, .rs 16 0 n1)], [(16, some ⟨3, R.take k ++ row :: R.drop k, 0⟩)], 24⟩ rfl ?_ (fin [] 0)
    simp
    exact Le.mv1 248 16 rfl rfl (Nat.le_of_ble_eq_true rfl) (by omega) rfl (by simp only [convE, hflat]) (Nat.zero_le _) (by simp)
  -- room
  simp at h
  refine awp_regc ⟨95, [(0, .rk 0 0 n1 c), (1, .I k), (2, .vs 3 false [row]), (7, .I 1), (8, .I n)], [(0, some ⟨3, R, 0⟩)], 232⟩ rfl ?_ ?_
  · simp [hw1, h]
    exact Le.keep rfl (Nat.le_refl _) (by simp) (by simp)
  refine awp_seq ?_
  refine awp_regc ⟨95, [(0, .rk 0 0 n1 c), (1, .I k), (2, .vs 3 false [row]), (7, .I 1), (8, .I n), (68, .B true)], [(0, some ⟨3, R, 0⟩)], 296⟩ rfl ?_ ?_
  · simp [hw2, h, show k1 ≤ n1 by omega]
    exact Le.keep rfl (Nat.le_refl _) (by simp) (by simp)
  refine awp_cond _ rfl (fun _ => ?_) fun h => by cases h
  have hmin : min (n1 - k) (n1 - k1) = n - k := by omega
  have hRk : (R.drop k).take (n - k) = R.drop k := List.take_of_length_le (by simp; omega)
  refine awp_dregc ⟨95, [(0, .rk 0 0 n1 c), (1, .I k), (2, .vs 3 false [row]), (7, .I 1), (8, .I n)], [(0, some ⟨3, R.take k1 ++ R.drop k, 0⟩)], 368⟩ rfl ?_ ?_
  · simp [hw2, h, show k1 ≤ n1 by omega, show k ≤ n1 by omega, hmin, hn, show k + (n - k) ≤ n by omega, show k1 ≤ n by omega, hRk, Nat.min_eq_left (show n - k ≤ n1 - k by omega)]
    refine ⟨rfl, Le.keep rfl (Nat.le_refl _) (by simp) (by simp; omega)⟩
  refine awp_regc ⟨95, [(0, .rk 0 0 n1 c)], [(0, some ⟨3, R.take k ++ row :: R.drop k, 0⟩)], 408⟩ rfl ?_ ?_
  · have hm : min 1 (n1 - k) = 1 := by omega
    have h1 : (R.take k1 ++ R.drop k).take k = R.take k := by
      rw [List.take_append_of_le_length (by simp; omega), List.take_take]
      congr 1; omega
    have h2 : (R.take k1 ++ R.drop k).drop (k + 1) = R.drop k := by
      rw [← hk1, List.drop_append_of_le_length (by simp; omega)]
      rw [List.drop_eq_nil_of_le (by simp; omega)]; rfl
    simp [h, show k ≤ n1 by omega, hm, hn]
    exact ⟨by omega, Le.keep rfl (Nat.le_refl _) (by simp) (by simp [h1, h2])⟩
  refine awp_regc ⟨95, [(6, .rs 16 0 n1)], [(16, some ⟨3, R.take k ++ row :: R.drop k, 0⟩)], 24⟩ rfl ?_ (fin [] 0)
  simp
  exact Le.mv1 0 16 rfl rfl (Nat.le_of_ble_eq_true rfl) (by omega) rfl (by simp only [convE, hflat]) (Nat.zero_le _) (by simp)

set_option maxRecDepth 100000 in
theorem delE_ok (R : List (List AV)) (n k k1 : Nat) (hn : R.length = n) (hk : k < n) (hk1 : k1 = k + 1) (hR : Flat R) (hl : (n + 1) * 24 ≤ 140737488355328) :
    ACalls Try.prog nslices_Delete_Lapi_Edge_api_Edge [.rs 0 0 n, .I k, .I k1] [⟨3, R, 0⟩] (.rs 0 0 (n - 1)) [some ⟨3, R.take k ++ R.drop k1 ++ [[.I 0, .I 0, .I 0]], 0⟩] := by
  refine acalls_cap fun c hc => ?_
  refine sslices_Delete_Lapi_Edge_api_Edge.acalls (Nat.le_of_ble_eq_true rfl) (Nat.le_of_ble_eq_true rfl) (Nat.le_of_ble_eq_true rfl) ?_
  show awp _ 1 _ _ ⟨33, [(0, .rk 0 0 n c), (1, .I k), (2, .I k1)], [(0, some ⟨3, R, 0⟩)], 16⟩
  obtain ⟨nm, hnm⟩ : ∃ nm, nm = n - 1 := ⟨_, rfl⟩
  refine awp_regc ⟨33, [(0, .rk 0 0 n c), (1, .I k), (2, .I k1)], [(0, some ⟨3, R, 0⟩)], 24⟩ rfl ?_ ?_
  · simp
    exact Le.keep rfl (Nat.le_refl _) (by simp) (by simp)
  refine awp_regc ⟨33, [(0, .rk 0 0 n c), (1, .I k), (2, .I k1)], [(0, some ⟨3, R, 0⟩)], 72⟩ rfl ?_ ?_
  · simp
    exact ⟨by omega, by omega, by omega, Le.keep rfl (Nat.le_refl _) (by simp) (by simp)⟩
  refine awp_seq ?_
  refine awp_regc ⟨33, [(0, .rk 0 0 n c), (1, .I k), (2, .I k1), (16, .B false)], [(0, some ⟨3, R, 0⟩)], 96⟩ rfl ?_ ?_
  · simp
    exact Le.keep rfl (Nat.le_refl _) (by simp; omega) (by simp)
  refine awp_cond _ rfl (fun h => by cases h) fun _ => awp_skip ?_
  refine awp_regc ⟨33, [(0, .rk 0 0 n c), (1, .I k), (2, .I k1), (7, .I n)], [(0, some ⟨3, R, 0⟩)], 120⟩ rfl ?_ ?_
  · simp
    exact Le.keep rfl (Nat.le_refl _) (by simp) (by simp)
  have hx : List.take (n - k1) (List.drop k1 R) = List.drop k1 R := List.take_of_length_le (by simp; omega)
  have hxl : (List.drop k1 R).length = n - k1 := by simp; omega
  have hl0 : (R.take k).length = k := by simp; omega
  refine awp_dregc ⟨33, [(0, .rk 0 0 nm c), (7, .I n)], [(0, some ⟨3, R.take k ++ R.drop k1 ++ R.drop nm, 0⟩)], 184⟩ rfl ?_ ?_
  · simp
    have hkn : k + (n - k1) = nm := by omega
    refine ⟨by omega, by omega, by omega, _, ⟨by omega, hx⟩, by omega, ?_⟩
    rw [hxl, hkn]
    refine ⟨by omega, by omega, ?_⟩
    rw [if_pos (by omega)]
    exact ⟨rfl, Le.keep rfl (Nat.le_refl _) (by simp) (by simp)⟩
  have h1 : (R.take k ++ R.drop k1 ++ R.drop nm).take nm = R.take k ++ R.drop k1 := by
    rw [List.take_append_of_le_length (by simp; omega), List.take_of_length_le (by simp; omega)]
  refine awp_regc ⟨33, [(0, .rk 0 0 nm c)], [(0, some ⟨3, R.take k ++ R.drop k1 ++ [[.I 0, .I 0, .I 0]], 0⟩)], 232⟩ rfl ?_ ?_
  · rw [List.append_assoc] at h1
    have h2 : (R.take k ++ (R.drop k1 ++ R.drop nm)).drop (nm + (n - nm)) = [] := List.drop_eq_nil_of_le (by simp; omega)
    have h3 : n - nm = 1 := by omega
    simp
    refine ⟨by omega, by omega, by omega, ?_⟩
    rw [h1, h2, h3]
    exact Le.keep rfl (Nat.le_refl _) (by simp) (by simp [List.replicate])
  refine awp_seq ?_
  refine awp_run (s := ?s9) rfl ?o9 ?q9
  case o9 => simp; rfl
  refine awp_ret ?_
  refine ⟨.inr rfl, ⟨[.rk 0 0 nm c], rfl, [], [], by simp [List.range, List.range.loop], by simp, by simp, ?_, ?_⟩⟩
  · simp [List.range, List.range.loop, ← hnm]
  · have hflat : ∀ ρ sn h n, (R.take k ++ (R.drop k1 ++ [[AV.I 0, AV.I 0, AV.I 0]])).map (List.map (conv ρ sn h (n + 1))) = R.take k ++ R.drop k1 ++ [[AV.I 0, AV.I 0, AV.I 0]] := fun ρ sn h n => by
      have := hR ρ sn h n
      rw [List.map_append, List.map_append, List.map_take, List.map_drop, this]
      simp
    show [Option.map _ (some _)] = _
    rw [Option.map_some]
    unfold convE
    simp only [List.append_assoc, hflat]

end Go.Proofs.Ytnphfkceoklkkaa

/- A graph with an edge, and without one. -/
namespace Go.Proofs.Ytnphfkceoklkkaa
open Go

theorem flatE (l : List Ed) : Flat (l.map fun e => [AV.I e.f, AV.I e.t, AV.I e.v]) := by
  intro ρ sn h n
  simp [Function.comp_def]

theorem GrOk.lt {g : Gr} (h : GrOk g) : ∀ (j i : Nat) (hi : i < g.edges.length) (hj : j < g.edges.length), i < j → Bef g.edges[i] g.edges[j]
  | 0, _, _, _, h0 => by omega
  | j + 1, i, hi, hj, hij => by
    have h1 : Bef g.edges[j] g.edges[j + 1] := cmpE_lt.1 ((h.2 (j + 1) hj).2.2.2 (by omega))
    rcases Nat.lt_or_ge i j with h2 | h2
    · have h3 := GrOk.lt h j i hi (by omega) h2
      unfold Bef at *
      omega
    · obtain rfl : i = j := by omega
      exact h1

theorem GrOk.mono {g : Gr} (h : GrOk g) (e : Ed) : ∀ (i j : Nat) (hi : i < g.edges.length) (hj : j < g.edges.length), i ≤ j → Bef g.edges[j] e → Bef g.edges[i] e := by
  intro i j hi hj hij hb
  rcases Nat.lt_or_ge i j with h2 | h2
  · have h3 := h.lt j i hi hj h2
    unfold Bef at *
    omega
  · obtain rfl : i = j := by omega
    exact hb

theorem idxE_same (l : List Ed) (e : Ed) : idxE l e = idxE l ⟨e.f, e.t, 0⟩ := rfl

section
variable {P : Program} {np id : Nat} {h : Nat → Option Ent} {K : AV → List Nat → List (Nat × Option Ent) → Prop} {f : FuncId} {first capt args args' : List AV} {res : AV}
/-- A call that is handed one array to keep, and reads another. -/
theorem callM1s {i j : Nat} {e e' ej : Ent} {hs' : List (Option Ent)} (hij : j ≠ i) (hnp : np ≤ j) (hi : h i = some e) (hj : h j = some ej) (hee : convE [(i, 0)] [j] h 4 e = e') (hc : ACalls P f args' [e'] res hs') (h8 : hs'.length ≤ 9) (he : (first ++ args ++ capt).map (conv [(i, 0)] [j] h 4) = args')
    (hk : K (conv (swp [i] id) [] (fun _ => none) 4 res) [i, j] ((hs'.zipIdx.map fun (e, k) => ((i :: (List.range 8).map (id + ·)).getD k 0, e.map (convE (swp [i] id) [] (fun _ => none) 4))) ++ [(j, some { ej with ro := ej.rows.length })])) : aK P np id .call (.fn (.func f) first capt :: args) h K :=
  ⟨[i], [j], true, args', [e'], res, hs', by simp, by simpa using hij, by simpa using hnp, by rw [show [i].zipIdx = [(i, 0)] from rfl, he]; exact wkL_refl _, by rw [show [i].zipIdx = [(i, 0)] from rfl]; simpa [hi] using hee, hc, by simpa using h8, .inl rfl, by simpa [swp, hj] using hk⟩
end

open Classical in
set_option maxRecDepth 100000 in
theorem graph_With_ok (g : Gr) (e : Ed) (hl : g.edges.length * 24 ≤ 140737488355328) (hl2 : g.gone.length * 8 ≤ 140737488355328) : ACalls Try.prog ngraph_With [eG g, eE e] [] (.tup [eG (withR g e).1, .I (withR g e).2]) [] := by
  refine sgraph_With.acalls (Nat.le_of_ble_eq_true rfl) (Nat.le_of_ble_eq_true rfl) (Nat.le_refl _) ?_
  show awp _ 0 _ _ ⟨51, [(0, eG g), (1, eE e)], [], 16⟩
  refine awp_regc ⟨51, [(2, .pv (gC g)), (3, .pv (eC e)), (4, .pt 32 0 0)], [(32, some ⟨3, [[.I 0, .nilS, .nilS]], 0⟩)], 40⟩ rfl ?_ ?_
  · simp
    exact Le.var1 32 [16, 24] rfl rfl (Nat.le_of_ble_eq_true rfl) (by decide) rfl (by simp) (by simp) (by simp)
  refine awp_seq ?_
  refine awp_seq ?_
  refine awp_run (s := ?s1) rfl ?o1 ?q1
  case o1 => simp; refine call0e (graph_Check_ok g (by omega) (by omega)) rfl ?_; simp; rfl
  refine awp_cond _ rfl (fun h2 => ?_) fun h2 => ?_
  · have hg : ¬ GrOk g := by
      intro hg
      simp [hg] at h2
    refine awp_seq ?_
    refine awp_run (s := ?s3) rfl ?o3 ?q3
    case o3 => simp; rfl
    refine awp_ret ?_
    refine ⟨.inr rfl, ?_⟩
    show RetOk [(4, some (true, 3)), (5, none)] 0 _ _ _
    refine RetOk.out (vs := [.agg [.I 0, .nilS, .nilS], .I 14]) [] [] (by simp) (by simp) (by simp) ?_ (by simp)
    have hr : withR g e = (emptyG, 14) := by grind [withR]
    simp [hr, emptyG]
    exact wkT2 (wkA3 (.refl _) (.nil _ _) (.nil _ _)) (.refl _)
  have hg : GrOk g := by
    rcases Classical.em (GrOk g) with h | h
    · exact h
    · simp [h] at h2
  have h500 : g.edges.length ≤ 500 := hg.1.2.2.1
  refine awp_skip ?_
  refine awp_seq ?_
  refine awp_run (s := ?s4) rfl ?o4 ?q4
  case o4 => simp; refine call0e (BinarySearch_ok g.edges e (Nat.le_trans hg.1.2.2.1 (by omega)) (hg.mono e)) rfl ?_; simp [idxE_same]; rfl
  refine awp_seq ?_
  refine awp_block ?_
  refine awp_seq ?_
  refine awp_run (s := ?s5) rfl ?o5 ?q5
  case o5 => simp; refine call0e (graph_fits_ok g e hg.1.1 hg.1.2.1 (by omega)) rfl ?_; simp; rfl
  refine awp_cond _ rfl (fun h6 => ?_) fun h6 => ?_
  · try simp at h6
    refine awp_seq ?_
    refine awp_run (s := ?s7) rfl ?o7 ?q7
    case o7 => simp; rfl
    refine awp_ret ?_
    refine ⟨.inr rfl, ?_⟩
    show RetOk [(4, some (true, 3)), (5, none)] 0 _ _ _
    refine RetOk.out (vs := [.agg [.I 0, .nilS, .nilS], .I 4]) [] [] (by simp) (by simp) (by simp) ?_ (by simp)
    have hr : withR g e = (emptyG, 4) := by grind [withR]
    simp [hr, emptyG]
    exact wkT2 (wkA3 (.refl _) (.nil _ _) (.nil _ _)) (.refl _)
  try simp at h6
  refine awp_seq ?_
  refine awp_run (s := ?s8) rfl ?o8 ?q8
  case o8 => simp; refine call0e (lists_In_ok ..) rfl ?_; simp; rfl
  refine awp_cond _ rfl (fun h9 => ?_) fun h9 => ?_
  · try simp at h9
    refine awp_seq ?_
    refine awp_run (s := ?s10) rfl ?o10 ?q10
    case o10 => simp; rfl
    refine awp_ret ?_
    refine ⟨.inr rfl, ?_⟩
    show RetOk [(4, some (true, 3)), (5, none)] 0 _ _ _
    refine RetOk.out (vs := [.agg [.I 0, .nilS, .nilS], .I 2]) [] [] (by simp) (by simp) (by simp) ?_ (by simp)
    have hr : withR g e = (emptyG, 2) := by grind [withR]
    simp [hr, emptyG]
    exact wkT2 (wkA3 (.refl _) (.nil _ _) (.nil _ _)) (.refl _)
  try simp at h9
  refine awp_seq ?_
  refine awp_run (s := ?s11) rfl ?o11 ?q11
  case o11 => simp; rfl
  refine awp_cond _ rfl (fun h12 => ?_) fun h12 => ?_
  · try simp at h12
    refine awp_seq ?_
    refine awp_run (s := ?s13) rfl ?o13 ?q13
    case o13 => simp; rfl
    refine awp_ret ?_
    refine ⟨.inr rfl, ?_⟩
    show RetOk [(4, some (true, 3)), (5, none)] 0 _ _ _
    refine RetOk.out (vs := [.agg [.I 0, .nilS, .nilS], .I 19]) [] [] (by simp) (by simp) (by simp) ?_ (by simp)
    have hr : withR g e = (emptyG, 19) := by grind [withR]
    simp [hr, emptyG]
    exact wkT2 (wkA3 (.refl _) (.nil _ _) (.nil _ _)) (.refl _)
  try simp at h12
  refine awp_seq ?_
  refine awp_run (s := ?s14) rfl ?o14 ?q14
  case o14 => simp; rfl
  refine awp_cond _ rfl (fun h15 => ?_) fun h15 => ?_
  · try simp at h15
    refine awp_seq ?_
    refine awp_run (s := ?s16) rfl ?o16 ?q16
    case o16 => simp; rfl
    refine awp_ret ?_
    refine ⟨.inr rfl, ?_⟩
    show RetOk [(4, some (true, 3)), (5, none)] 0 _ _ _
    refine RetOk.out (vs := [.agg [.I 0, .nilS, .nilS], .I 3]) [] [] (by simp) (by simp) (by simp) ?_ (by simp)
    have hr : withR g e = (emptyG, 3) := by grind [withR]
    simp [hr, emptyG]
    exact wkT2 (wkA3 (.refl _) (.nil _ _) (.nil _ _)) (.refl _)
  try simp at h15
  refine awp_skip ?_
  refine awp_regc ⟨51, [(3, .pv (eC e)), (4, .pt 32 0 0), (6, .I (idxE g.edges ⟨e.f, e.t, 0⟩)), (8, .pt 288 0 0)], [(32, some ⟨3, [[.I 0, .nilS, .nilS]], 0⟩), (288, some ⟨3, [[.I g.size, .rs 280 0 g.edges.length, .rs 281 0 g.gone.length]], 0⟩), (280, some ⟨3, g.edges.map fun e : Ed => [AV.I e.f, AV.I e.t, AV.I e.v], 0⟩), (281, some ⟨1, g.gone.map fun n => [AV.I n], 0⟩)], 304⟩ rfl ?_ ?_
  · simp
    refine callN2 (graph_copied_ok g hl hl2) rfl ?_
    simp [Function.comp_def]
    exact Le.keep rfl (Nat.le_refl _) (by simp) (by simp)
  have hle := idxE_le g.edges ⟨e.f, e.t, 0⟩
  have hr : withR g e = (plusE g e, 0) := by grind [withR]
  rw [hr]
  unfold plusE
  have hk : ∃ k, k = idxE g.edges ⟨e.f, e.t, 0⟩ := ⟨_, rfl⟩
  obtain ⟨k, hk⟩ := hk
  rw [← hk] at hle ⊢
  obtain ⟨R, hR⟩ : ∃ R, R = g.edges.map fun e : Ed => [AV.I e.f, AV.I e.t, AV.I e.v] := ⟨_, rfl⟩
  rw [← hR]
  have hRl : R.length = g.edges.length := by simp [hR]
  have hRf : Flat R := by rw [hR]; exact flatE _
  obtain ⟨E, hE⟩ : ∃ E, E = g.edges.take k ++ e :: g.edges.drop k := ⟨_, rfl⟩
  have hEl : E.length = g.edges.length + 1 := by subst hE; simp; omega
  have hrows : R.take k ++ [AV.I e.f, AV.I e.t, AV.I e.v] :: R.drop k = E.map fun e : Ed => [AV.I e.f, AV.I e.t, AV.I e.v] := by subst hE hR; simp [List.map_take, List.map_drop]
  have hins := insE_ok R [AV.I e.f, AV.I e.t, AV.I e.v] g.edges.length k hRl hle hRf (flatE [e]) (by omega)
  rw [hrows, ← hEl] at hins
  rw [← hE]
  refine awp_regc ⟨51, [(4, .pt 32 0 0), (8, .pt 288 0 0)], [(32, some ⟨3, [[.I 0, .nilS, .nilS]], 0⟩), (288, some ⟨3, [[.I g.size, .rs 344 0 E.length, .rs 281 0 g.gone.length]], 0⟩), (344, some ⟨3, E.map fun e : Ed => [AV.I e.f, AV.I e.t, AV.I e.v], 0⟩), (281, some ⟨1, g.gone.map fun n => [AV.I n], 0⟩)], 368⟩ rfl ?_ ?_
  · simp
    refine callM1s (i := 280) (j := 336) (by decide) (Nat.zero_le _) rfl rfl ?_ hins (by simp) ?_ ?_
    · have := hRf [(280, 0)] [336]
      simp only [convE, this]
    · simp
    simp [Function.comp_def]
    exact Le.keep rfl (Nat.le_refl _) (by simp) (by simp)
  refine awp_seq ?_
  refine awp_run (s := ?s21) rfl ?o21 ?q21
  case o21 => simp; rfl
  refine awp_ret ?_
  refine ⟨.inr rfl, ?_⟩
  show RetOk [(4, some (true, 3)), (5, none)] 0 _ _ _
  refine RetOk.out (vs := [.agg [.I g.size, .rs 344 0 E.length, .rs 281 0 g.gone.length], .I 0]) [] [344, 281] (by simp) (by simp) (by simp) ?_ (by simp)
  simp [Function.comp_def, take_map_len]

end Go.Proofs.Ytnphfkceoklkkaa

/- Graphs out of dice: what they are, and that they are valid. -/
namespace Go.Proofs.Ytnphfkceoklkkaa
open Go

theorem idxE_bef {l : List Ed} {e : Ed} {i : Nat} (h : i < idxE l e) (hi : i < l.length) : Bef l[i] e := by
  have := List.not_of_lt_findIdx h
  simpa using this

theorem idxE_not {l : List Ed} {e : Ed} (h : idxE l e < l.length) : ¬ Bef l[idxE l e] e := by
  have h1 : l.findIdx (fun x => !decide (Bef x e)) < l.length := h
  have := List.findIdx_getElem (w := h1)
  intro hb
  have h2 : decide (Bef l[l.findIdx (fun x => !decide (Bef x e))] e) = true := decide_eq_true hb
  simp only [h2] at this
  cases this

/-- A valid graph with one edge more that may be in it is valid. -/
theorem plusE_ok {g : Gr} {e : Ed} (hg : GrOk g) (hf : Fits g e) (h1 : 1 ≤ e.v) (h3 : e.v ≤ 3) (ha : ¬ AtE g.edges (idxE g.edges ⟨e.f, e.t, 0⟩) e.f e.t) (hl : g.edges.length < 500) : GrOk (plusE g e) := by
  have hle := idxE_le g.edges ⟨e.f, e.t, 0⟩
  have hb : ∀ i (hi : i < g.edges.length), i < idxE g.edges ⟨e.f, e.t, 0⟩ → Bef g.edges[i] e := fun i hi h => by
    have := idxE_bef h hi
    exact this
  have hn : ∀ (h : idxE g.edges ⟨e.f, e.t, 0⟩ < g.edges.length), Bef e g.edges[idxE g.edges ⟨e.f, e.t, 0⟩] := fun h => by
    have h2 := idxE_not h
    have h4 : ¬ (g.edges[idxE g.edges ⟨e.f, e.t, 0⟩].f = e.f ∧ g.edges[idxE g.edges ⟨e.f, e.t, 0⟩].t = e.t) := fun q => ha ⟨h, q⟩
    simp only [Bef] at h2 ⊢
    omega
  unfold plusE
  generalize idxE g.edges ⟨e.f, e.t, 0⟩ = k at *
  have hlen : (g.edges.take k ++ e :: g.edges.drop k).length = g.edges.length + 1 := by simp; omega
  have hget : ∀ i (hi : i < (g.edges.take k ++ e :: g.edges.drop k).length), (g.edges.take k ++ e :: g.edges.drop k)[i] = if h : i < k then g.edges[i]'(by omega) else if h2 : i = k then e else g.edges[i - 1]'(by omega) := by
    intro i hi
    have htl : (g.edges.take k).length = k := by simp; omega
    by_cases h : i < k
    · rw [dif_pos h, List.getElem_append_left (by omega), List.getElem_take]
    · rw [dif_neg h, List.getElem_append_right (by omega)]
      by_cases h2 : i = k
      · subst h2
        simp [htl]
      · rw [dif_neg h2]
        rw [List.getElem_cons]
        rw [dif_neg (by omega), List.getElem_drop]
        congr 1
        omega
  refine ⟨⟨hg.1.1, hg.1.2.1, by simp only [hlen]; omega, hg.1.2.2.2⟩, fun i hi => ?_⟩
  simp only at hi
  have hfit : ∀ x : Ed, Fits ⟨g.size, g.edges.take k ++ e :: g.edges.drop k, g.gone⟩ x ↔ Fits g x := fun x => Iff.rfl
  simp only [hfit, cmpE_lt, hget]
  have hE := fun j (hj : j < g.edges.length) => hg.2 j hj
  by_cases h : i < k
  · simp only [dif_pos h]
    refine ⟨(hE i (by omega)).1, (hE i (by omega)).2.1, (hE i (by omega)).2.2.1, fun h0 => ?_⟩
    rw [dif_pos (by omega)]
    exact cmpE_lt.1 ((hE i (by omega)).2.2.2 h0)
  · simp only [dif_neg h]
    by_cases h2 : i = k
    · subst h2
      simp only [dif_pos]
      refine ⟨hf, h1, h3, fun h0 => ?_⟩
      rw [dif_pos (by omega)]
      exact hb _ _ (by omega)
    · simp only [dif_neg h2]
      refine ⟨(hE (i - 1) (by omega)).1, (hE (i - 1) (by omega)).2.1, (hE (i - 1) (by omega)).2.2.1, fun h0 => ?_⟩
      rw [dif_neg (by omega)]
      by_cases h4 : i - 1 = k
      · rw [dif_pos h4]
        subst h4
        exact hn _
      · rw [dif_neg h4]
        exact hg.lt _ _ _ _ (by omega)

theorem withR_ok {g : Gr} {e : Ed} (h : (withR g e).2 = 0) : GrOk g ∧ Fits g e ∧ (1 ≤ e.v ∧ e.v ≤ 3) ∧ ¬ AtE g.edges (idxE g.edges ⟨e.f, e.t, 0⟩) e.f e.t ∧ g.edges.length < 500 ∧ (withR g e).1 = plusE g e ∧ GrOk (plusE g e) := by
  have key : GrOk g ∧ Fits g e ∧ (1 ≤ e.v ∧ e.v ≤ 3) ∧ ¬ AtE g.edges (idxE g.edges ⟨e.f, e.t, 0⟩) e.f e.t ∧ g.edges.length ≠ 500 ∧ (withR g e).1 = plusE g e := by
    unfold withR at *
    split at h
    · simp at h
    split at h
    · simp at h
    split at h
    · simp at h
    split at h
    · simp at h
    split at h
    · simp at h
    simp_all
  obtain ⟨h1, h2, h3, h4, h5, h6⟩ := key
  have h7 : g.edges.length < 500 := by have := h1.1.2.2.1; omega
  exact ⟨h1, h2, h3, h4, h7, h6, plusE_ok h1 h2 h3.1 h3.2 h4 h7⟩

/-- One throw for an edge. -/
noncomputable def stepG (L : List Int) (p : Gr × Nat) : Gr × Nat :=
  (if (withR p.1 ⟨(nextD L p.2 p.1.size).1, (nextD L (nextD L p.2 p.1.size).2 p.1.size).1, 1 + (nextD L (nextD L (nextD L p.2 p.1.size).2 p.1.size).2 3).1⟩).2 = 0
    then (withR p.1 ⟨(nextD L p.2 p.1.size).1, (nextD L (nextD L p.2 p.1.size).2 p.1.size).1, 1 + (nextD L (nextD L (nextD L p.2 p.1.size).2 p.1.size).2 3).1⟩).1 else p.1,
   (nextD L (nextD L (nextD L p.2 p.1.size).2 p.1.size).2 3).2)

noncomputable def iterG (L : List Int) : Nat → Gr × Nat → Gr × Nat
  | 0, p => p
  | n + 1, p => iterG L n (stepG L p)

def sizeG (L : List Int) (a : Nat) : Int := if L.length = 0 then 4 else 2 + (nextD L a 8).1

def startG (L : List Int) (a : Nat) : Gr × Nat :=
  if (nextD L (nextD L a 8).2 8).1 = 7 then (⟨sizeG L a, [], [(nextD L (nextD L (nextD L a 8).2 8).2 (sizeG L a)).1]⟩, (nextD L (nextD L (nextD L a 8).2 8).2 (sizeG L a)).2)
  else (⟨sizeG L a, [], []⟩, (nextD L (nextD L a 8).2 8).2)

/-- A graph of up to nine keys, and where the dice are then. -/
noncomputable def graphD (L : List Int) (a : Nat) : Gr × Nat := iterG L (nextD L (startG L a).2 23).1.toNat ((startG L a).1, (nextD L (startG L a).2 23).2)

/-- What made graphs are. -/
structure MadeG (L : List Int) (p : Gr × Nat) : Prop where
  ok : GrOk p.1
  lo : 2 ≤ p.1.size
  hi : p.1.size ≤ 9
  at_ : p.2 ≤ L.length
  few : p.1.gone.length ≤ 1

theorem sizeG_range (L : List Int) (a : Nat) : 2 ≤ sizeG L a ∧ sizeG L a ≤ 9 := by
  have := nextD_lt (L := L) (a := a) (n := 8) (by omega)
  unfold sizeG
  split <;> omega

theorem startG_made (L : List Int) (a : Nat) (ha : a ≤ L.length) : MadeG L (startG L a) := by
  have hs := sizeG_range L a
  have h1 := nextD_le (L := L) (a := a) (n := 8) ha
  have h2 := nextD_le (L := L) (a := (nextD L a 8).2) (n := 8) h1
  have hq := nextD_lt (L := L) (a := (nextD L (nextD L a 8).2 8).2) (n := sizeG L a) (by omega)
  unfold startG
  split
  · refine ⟨⟨⟨by simp only; omega, by simp only; omega, by simp, fun i hi => ?_⟩, fun i hi => absurd hi (by simp)⟩, hs.1, hs.2, nextD_le h2, by simp⟩
    obtain rfl : i = 0 := by simpa using hi
    refine ⟨hq.1, ?_, fun h => by omega⟩
    have := hq.2
    simp only [List.getElem_cons_zero]
    omega
  · exact ⟨⟨⟨by simp only; omega, by simp only; omega, by simp, fun i hi => absurd hi (by simp)⟩, fun i hi => absurd hi (by simp)⟩, hs.1, hs.2, h2, by simp⟩

theorem stepG_made {L : List Int} {p : Gr × Nat} (h : MadeG L p) : MadeG L (stepG L p) := by
  have h3 := nextD_le (n := 3) (nextD_le (n := p.1.size) (nextD_le (n := p.1.size) h.at_))
  unfold stepG
  by_cases hw : (withR p.1 ⟨(nextD L p.2 p.1.size).1, (nextD L (nextD L p.2 p.1.size).2 p.1.size).1, 1 + (nextD L (nextD L (nextD L p.2 p.1.size).2 p.1.size).2 3).1⟩).2 = 0
  · rw [if_pos hw]
    obtain ⟨_, _, _, _, _, q6, q7⟩ := withR_ok hw
    rw [q6]
    exact ⟨q7, h.lo, h.hi, h3, h.few⟩
  · rw [if_neg hw]
    exact ⟨h.ok, h.lo, h.hi, h3, h.few⟩

theorem iterG_made {L : List Int} : ∀ (n : Nat) {p : Gr × Nat}, MadeG L p → MadeG L (iterG L n p)
  | 0, _, h => h
  | n + 1, _, h => iterG_made n (stepG_made h)

theorem graphD_made (L : List Int) (a : Nat) (ha : a ≤ L.length) : MadeG L (graphD L a) := by
  have h := startG_made L a ha
  exact iterG_made _ ⟨h.ok, h.lo, h.hi, nextD_le h.at_, h.few⟩

end Go.Proofs.Ytnphfkceoklkkaa

/- Graphs out of dice: the walk. -/
namespace Go.Proofs.Ytnphfkceoklkkaa
open Go

theorem EntUp.eq {nl : List (Nat × Nat)} {e e' : Ent} (h : e = e') (hr : e'.ro ≤ e'.rows.length) : EntUp nl e e' := by
  subst h
  exact EntUp.rfl' hr

theorem EntUp.row {nl : List (Nat × Nat)} {s ro : Nat} {e : Ent} {r r' : List AV} (h : e = ⟨s, [r], ro⟩) (hr : ro ≤ 1) (hu : UpL nl r r') : EntUp nl e ⟨s, [r'], ro⟩ := by
  subst h
  exact ⟨rfl, Nat.le_refl _, hr, .inr ⟨r, r', rfl, rfl, hu⟩⟩

theorem upL_of {nl : List (Nat × Nat)} : ∀ {xs ys : List AV}, WkL xs ys → UpL nl xs ys
  | [], [], _ => trivial
  | _ :: _, _ :: _, h => ⟨.inl h.1, upL_of h.2⟩
  | [], _ :: _, h => False.elim h
  | _ :: _, [], h => False.elim h

/-- Saying less: the entries that go on, one by one. -/
theorem Le.ents {np : Nat} {st st' : St} (ρ : List (Nat × Nat)) (sn : List Nat) (hsz : st'.sz = st.sz)
    (h0 : (ρ.map (·.1)).Nodup) (h1 : (ρ.map (·.2)).Nodup) (h2 : ∀ p ∈ ρ, p.2 < st'.n ∧ (p.2 < np → p.1 = p.2)) (h4 : ∀ i ∈ sn, np ≤ i ∧ i ∉ ρ.map (·.1)) (h5 : np ≤ st'.n)
    (ht : ∀ p ∈ st'.t, Wk (conv ρ sn st.hp 4 (st.get p.1)) p.2)
    (hh : ∀ p ∈ st'.h, ∃ q e e', p.2 = some e' ∧ (q, p.1) ∈ ρ ∧ st.hp q = some e ∧ EntUp [] (convE ρ sn st.hp 4 e) e') : Le np st st' :=
  Le.lst ρ sn [] hsz h0 h1 h2 (by simp) h4 h5 (by simp) (fun p hp => .inl (ht p hp)) fun p hp e' he' => by
    obtain ⟨q, e, e2, h1, h2, h3, h4⟩ := hh p hp
    rw [he'] at h1
    cases h1
    exact .inl ⟨(q, p.1), h2, rfl, e, h3, h4⟩

theorem Next1_ok (L : List Int) (a : Nat) (n : Int) (hl : L.length ≤ 400) (ha : a ≤ L.length) (hn : n ≤ 9223372036854775807) : ACalls Try.prog nmade_Dice_Next [.pt 0 0 0, .I n] [dice L a] (.I (nextD L a n).1) [some (dice L (nextD L a n).2)] := Next_ok L a n (by omega) ha hn

abbrev zG : Ent := ⟨3, [[.I 0, .nilS, .nilS]], 0⟩
abbrev rowG (g : Gr) : Ent := ⟨3, [gC g], 0⟩

set_option maxRecDepth 100000 in
theorem Graph_ok (L : List Int) (a : Nat) (hl : L.length ≤ 400) (ha : a ≤ L.length) : ACalls Try.prog nmade_Dice_Graph [.pt 0 0 0] [dice L a] (eG (graphD L a).1) [some (dice L (graphD L a).2)] := by
  refine smade_Dice_Graph.acalls (Nat.le_of_ble_eq_true rfl) (Nat.le_of_ble_eq_true rfl) (Nat.le_refl _) ?_
  show awp _ 1 _ _ ⟨53, [(0, .pt 0 0 0)], [(0, some (dice L a))], 16⟩
  have a1 := nextD_le (L := L) (a := a) (n := 8) ha
  have r1 := nextD_lt (L := L) (a := a) (n := 8) (by omega)
  have hs := sizeG_range L a
  have a2 := nextD_le (L := L) (a := (nextD L a 8).2) (n := 8) a1
  have hw1 : IntKind.i64.wrap (2 + (nextD L a 8).1) = 2 + (nextD L a 8).1 := w64 (by omega) (by omega)
  have hm := startG_made L a ha
  refine awp_regc ⟨53, [(0, .pt 0 0 0), (2, .pt 16 0 0)], [(0, some (dice L a)), (16, some zG)], 24⟩ rfl ?_ ?_
  · simp
    exact Le.keep rfl (Nat.le_refl _) (by simp) (by simp)
  refine awp_regc ⟨53, [(0, .pt 0 0 0), (2, .pt 16 0 0), (3, .pt 56 0 0)], [(0, some (dice L (nextD L a 8).2)), (16, some zG), (56, some ⟨3, [[.I (2 + (nextD L a 8).1), .nilS, .nilS]], 0⟩)], 72⟩ rfl ?_ ?_
  · simp
    refine callM1 (i := 0) rfl (e' := dice L a) (by simp [Function.comp_def]) (Next1_ok L a 8 hl ha (by omega)) (by simp) (by simp) ?_
    simp [hw1, Function.comp_def]
    exact Le.keep rfl (Nat.le_refl _) (by simp) (by simp)
  refine awp_cut (ι := Unit) (fun _ => ⟨53, [(0, .pt 0 0 0), (2, .pt 16 0 0), (3, .pt 56 0 0)], [(0, some (dice L (nextD L a 8).2)), (16, some zG), (56, some ⟨3, [[.I (sizeG L a), .nilS, .nilS]], 0⟩)], 136⟩) (fun _ => True) ?_ fun _ _ => ?_
  · refine awp_regc ⟨53, [(0, .pt 0 0 0), (2, .pt 16 0 0), (3, .pt 56 0 0), (16, .B (decide (L.length = 0)))], [(0, some (dice L (nextD L a 8).2)), (16, some zG), (56, some ⟨3, [[.I (2 + (nextD L a 8).1), .nilS, .nilS]], 0⟩)], 120⟩ rfl ?_ ?_
    · simp
      exact Le.keep rfl (Nat.le_refl _) (by simp <;> rw [Bool.eq_iff_iff] <;> simp) (by simp)
    refine awp_cond _ rfl (fun h => ?_) fun h => awp_skip ?_
    · simp only [decide_eq_true_eq] at h
      have hz : sizeG L a = 4 := by unfold sizeG; rw [if_pos h]
      refine awp_reg rfl ?_
      simp
      exact Le.keep rfl (Nat.le_refl _) (by simp) (by simp [hz])
    · simp only [decide_eq_false_iff_not] at h
      have hz : sizeG L a = 2 + (nextD L a 8).1 := by unfold sizeG; rw [if_neg h]
      exact ⟨(), trivial, Le.keep rfl (Nat.le_of_ble_eq_true rfl) (by simp) (by simp [hz])⟩
  refine awp_cut (ι := Unit) (fun _ => ⟨53, [(0, .pt 0 0 0), (2, .pt 16 0 0), (3, .pt 56 0 0)], [(0, some (dice L (startG L a).2)), (16, some zG), (56, some (rowG (startG L a).1))], 208⟩) (fun _ => True) ?_ fun _ _ => ?_
  · refine awp_regc ⟨53, [(0, .pt 0 0 0), (2, .pt 16 0 0), (3, .pt 56 0 0), (19, .B (decide ((nextD L (nextD L a 8).2 8).1 = 7)))], [(0, some (dice L (nextD L (nextD L a 8).2 8).2)), (16, some zG), (56, some ⟨3, [[.I (sizeG L a), .nilS, .nilS]], 0⟩)], 152⟩ rfl ?_ ?_
    · simp
      refine callM1 (i := 0) rfl (e' := dice L (nextD L a 8).2) (by simp [Function.comp_def]) (One_ok L _ 8 (by omega) a1 (by omega) (by omega)) (by simp) (by simp) ?_
      simp [Function.comp_def]
      exact Le.keep rfl (Nat.le_refl _) (by simp) (by simp)
    refine awp_cond _ rfl (fun h => ?_) fun h => awp_skip ?_
    · simp only [decide_eq_true_eq] at h
      have hz : startG L a = (⟨sizeG L a, [], [(nextD L (nextD L (nextD L a 8).2 8).2 (sizeG L a)).1]⟩, (nextD L (nextD L (nextD L a 8).2 8).2 (sizeG L a)).2) := by unfold startG; rw [if_pos h]
      rw [hz]
      refine awp_reg rfl ?_
      simp
      refine callM1 (i := 0) rfl (e' := dice L (nextD L (nextD L a 8).2 8).2) (by simp [Function.comp_def]) (Next1_ok L (nextD L (nextD L a 8).2 8).2 (sizeG L a) hl a2 (by omega)) (by simp) (by simp) ?_
      simp [Function.comp_def]
      refine Le.ents [(0, 0), (16, 16), (56, 56)] [184] rfl (by simp) (by simp) (by simp) (by simp) (by simp) (by simp) fun p hp => ?_
      simp at hp
      rcases hp with rfl | rfl | rfl
      · exact ⟨0, _, _, rfl, by simp, rfl, EntUp.eq (by simp) (by simp)⟩
      · exact ⟨16, _, _, rfl, by simp, rfl, EntUp.eq (by simp) (by simp)⟩
      · exact ⟨56, _, _, rfl, by simp, rfl, EntUp.row (by simp; rfl) (by simp) (upL_of (by simp; exact ⟨.nil _ _, .refl _⟩))⟩
    · simp only [decide_eq_false_iff_not] at h
      have hz : startG L a = (⟨sizeG L a, [], []⟩, (nextD L (nextD L a 8).2 8).2) := by unfold startG; rw [if_neg h]
      rw [hz]
      refine ⟨(), trivial, Le.ents [(0, 0), (16, 16), (56, 56)] [] rfl (by simp) (by simp) (by simp) (by simp) (by simp) (by simp) fun p hp => ?_⟩
      simp at hp
      rcases hp with rfl | rfl | rfl
      · exact ⟨0, _, _, rfl, by simp, rfl, EntUp.eq (by simp) (by simp)⟩
      · exact ⟨16, _, _, rfl, by simp, rfl, EntUp.eq (by simp) (by simp)⟩
      · exact ⟨56, _, _, rfl, by simp, rfl, EntUp.row (by simp; rfl) (by simp) (upL_of (by simp; exact ⟨.nil _ _, .nil _ _⟩))⟩
  have r4 := nextD_lt (L := L) (a := (startG L a).2) (n := 23) (by omega)
  obtain ⟨n0, hn0⟩ : ∃ n0 : Nat, (nextD L (startG L a).2 23).1 = n0 := ⟨(nextD L (startG L a).2 23).1.toNat, by omega⟩
  refine awp_seq ?_
  refine awp_regc ⟨53, [(0, .pt 0 0 0), (2, .pt 16 0 0), (3, .pt 56 0 0), (4, .I n0)], [(0, some (dice L (nextD L (startG L a).2 23).2)), (16, some zG), (56, some (rowG (startG L a).1))], 232⟩ rfl ?_ ?_
  · simp
    refine callM1 (i := 0) rfl (e' := dice L (startG L a).2) (by simp [Function.comp_def]) (Next1_ok L (startG L a).2 23 hl hm.at_ (by omega)) (by simp) (by simp) ?_
    simp [Function.comp_def, hn0]
    exact Le.keep rfl (Nat.le_refl _) (by simp) (by simp)
  refine awp_block ?_
  refine awp_loop (ι := Nat × Gr × Nat) (fun q => ⟨53, [(0, .pt 0 0 0), (2, .pt 16 0 0), (3, .pt 56 0 0), (4, .I q.1)], [(0, some (dice L q.2.2)), (16, some zG), (56, some (rowG q.2.1))], 232⟩)
    (fun q => q.1 ≤ 23 ∧ MadeG L q.2 ∧ iterG L q.1 q.2 = graphD L a) (fun q => q.1) (n0, (startG L a).1, (nextD L (startG L a).2 23).2) ?_ (Le.refl _ _) ?_
  · refine ⟨by simp only; omega, ⟨hm.ok, hm.lo, hm.hi, nextD_le hm.at_, hm.few⟩, ?_⟩
    unfold graphD
    rw [hn0]
    rfl
  rintro ⟨k, p⟩ ⟨hk, hp, hit⟩
  simp only at hk hp hit ⊢
  refine awp_seq ?_
  refine awp_regc ⟨53, [(0, .pt 0 0 0), (2, .pt 16 0 0), (3, .pt 56 0 0), (4, .I k), (29, .B (decide (0 < k)))], [(0, some (dice L p.2)), (16, some zG), (56, some (rowG p.1))], 248⟩ rfl ?_ ?_
  · simp
    exact Le.keep rfl (Nat.le_refl _) (by simp) (by simp)
  refine awp_cond _ rfl (fun h => awp_skip ?_) fun h => awp_exit (Go.Proofs.Ytnphfkceoklkkaa.hit ?_)
  · simp only [decide_eq_true_eq] at h
    refine awp_cut (ι := Unit) (fun _ => ⟨53, [(0, .pt 0 0 0), (2, .pt 16 0 0), (3, .pt 56 0 0), (4, .I k)], [(0, some (dice L (stepG L p).2)), (16, some zG), (56, some (rowG (stepG L p).1))], 440⟩) (fun _ => True) ?_ fun _ _ => ?_
    · refine awp_block ?_
      have q1 := nextD_le (n := p.1.size) hp.at_
      have q2 := nextD_le (n := p.1.size) q1
      have hlo := hp.lo
      have hhi := hp.hi
      have l3 := nextD_lt (L := L) (a := (nextD L (nextD L p.2 p.1.size).2 p.1.size).2) (n := 3) (by omega)
      have hwv : IntKind.i64.wrap (1 + (nextD L (nextD L (nextD L p.2 p.1.size).2 p.1.size).2 3).1) = 1 + (nextD L (nextD L (nextD L p.2 p.1.size).2 p.1.size).2 3).1 := w64 (by omega) (by omega)
      obtain ⟨w, hw⟩ : ∃ w, w = withR p.1 ⟨(nextD L p.2 p.1.size).1, (nextD L (nextD L p.2 p.1.size).2 p.1.size).1, 1 + (nextD L (nextD L (nextD L p.2 p.1.size).2 p.1.size).2 3).1⟩ := ⟨_, rfl⟩
      have hst : stepG L p = (if w.2 = 0 then w.1 else p.1, (nextD L (nextD L (nextD L p.2 p.1.size).2 p.1.size).2 3).2) := by rw [hw]; rfl
      have h500 := hp.ok.1.2.2.1
      have hfew := hp.few
      have hwith := ref11_With_ok p.1 ⟨(nextD L p.2 p.1.size).1, (nextD L (nextD L p.2 p.1.size).2 p.1.size).1, 1 + (nextD L (nextD L (nextD L p.2 p.1.size).2 p.1.size).2 3).1⟩ (by omega) (by omega)
      rw [← hw] at hwith
      rw [hst]
      refine awp_dregc ⟨53, [(0, .pt 0 0 0), (2, .pt 16 0 0), (3, .pt 56 0 0), (4, .I k), (5, .pv (gC w.1)), (6, .I w.2)], [(0, some (dice L (nextD L (nextD L (nextD L p.2 p.1.size).2 p.1.size).2 3).2)), (16, some zG), (56, some (rowG p.1))], 408⟩ rfl ?_ ?_
      · simp
        refine callM1 (i := 0) rfl (e' := dice L p.2) (by simp [Function.comp_def]) (Next1_ok L p.2 p.1.size hl hp.at_ (by omega)) (by simp) (by simp) ?_
        simp [Function.comp_def]
        refine callM1 (i := 0) rfl (e' := dice L (nextD L p.2 p.1.size).2) (by simp [Function.comp_def]) (Next1_ok L (nextD L p.2 p.1.size).2 p.1.size hl q1 (by omega)) (by simp) (by simp) ?_
        simp [Function.comp_def]
        refine callM1 (i := 0) rfl (e' := dice L (nextD L (nextD L p.2 p.1.size).2 p.1.size).2) (by simp [Function.comp_def]) (Next1_ok L (nextD L (nextD L p.2 p.1.size).2 p.1.size).2 3 hl q2 (by omega)) (by simp) (by simp) ?_
        simp [Function.comp_def, hwv]
        refine call0e hwith rfl ?_
        simp
        refine ⟨rfl, Le.ents [(0, 0), (16, 16), (56, 56)] [384] rfl (by simp) (by simp) (by simp) (by simp) (by simp) (by simp) fun p hp => ?_⟩
        simp at hp
        rcases hp with rfl | rfl | rfl
        · exact ⟨0, _, _, rfl, by simp, rfl, EntUp.eq (by simp [Function.comp_def]) (by simp)⟩
        · exact ⟨16, _, _, rfl, by simp, rfl, EntUp.eq (by simp) (by simp)⟩
        · exact ⟨56, _, _, rfl, by simp, rfl, EntUp.eq (by simp) (by simp)⟩
      refine awp_regc ⟨53, [(0, .pt 0 0 0), (2, .pt 16 0 0), (3, .pt 56 0 0), (4, .I k), (5, .pv (gC w.1)), (50, .B (decide (w.2 = 0)))], [(0, some (dice L (nextD L (nextD L (nextD L p.2 p.1.size).2 p.1.size).2 3).2)), (16, some zG), (56, some (rowG p.1))], 424⟩ rfl ?_ ?_
      · simp
        exact Le.keep rfl (Nat.le_refl _) (by simp <;> rw [Bool.eq_iff_iff] <;> simp) (by simp)
      refine awp_cond _ rfl (fun h => ?_) fun h => awp_skip ?_
      · simp only [decide_eq_true_eq] at h
        refine awp_reg rfl ?_
        simp [h]
        exact Le.keep rfl (Nat.le_of_ble_eq_true rfl) (by simp) (by simp)
      · simp only [decide_eq_false_iff_not] at h
        rw [if_neg h]
        exact ⟨(), trivial, Le.keep rfl (Nat.le_of_ble_eq_true rfl) (by simp) (by simp)⟩
    have hwk : IntKind.i64.wrap ((k : Int) - 1) = ((k - 1 : Nat) : Int) := by rw [w64 (by omega) (by omega)]; omega
    refine awp_reg rfl ?_
    simp [hwk]
    refine ⟨k - 1, (stepG L p).1, (stepG L p).2, ⟨by omega, stepG_made hp, ?_⟩, by omega, Le.ents [(0, 0), (16, 16), (56, 56)] [] rfl (by simp) (by simp) (by simp) (by simp) (by simp) (by simp) fun p hp => ?_⟩
    · rw [← hit]
      obtain ⟨k, rfl⟩ : ∃ j, k = j + 1 := ⟨k - 1, by omega⟩
      rfl
    · simp at hp
      rcases hp with rfl | rfl | rfl
      · exact ⟨0, _, _, rfl, by simp, rfl, EntUp.eq (by simp [Function.comp_def]) (by simp)⟩
      · exact ⟨16, _, _, rfl, by simp, rfl, EntUp.eq (by simp) (by simp)⟩
      · exact ⟨56, _, _, rfl, by simp, rfl, EntUp.eq (by simp) (by simp)⟩
  simp only [decide_eq_false_iff_not] at h
  obtain rfl : k = 0 := by omega
  have hpe : p = graphD L a := hit
  rw [← hpe]
  refine awp_regc ⟨53, [(2, .pt 16 0 0)], [(0, some (dice L p.2)), (16, some (rowG p.1))], 264⟩ rfl ?_ ?_
  · simp
    exact Le.keep rfl (Nat.le_refl _) (by simp) (by simp)
  refine awp_ret ?_
  exact ⟨.inr rfl, RetOk.k1 (vs := [eG p.1]) rfl (by simp) (by simp [Function.comp_def])⟩

end Go.Proofs.Ytnphfkceoklkkaa

/- Numbers and strings as bytes: ref02.Int, Text, Ints. -/
namespace Go.Proofs.Ytnphfkceoklkkaa
open Go

/-- Rows of numbers of one kind. -/
abbrev rowsK (k : IntKind) (l : List Int) : List (List AV) := l.map fun x => [AV.sc (.int k x)]
/-- A slice of bytes that nobody writes. -/
abbrev bys (l : List Int) : AV := .vs 1 false (rowsK .u8 l)

section
variable {P : Program} {np id : Nat} {h : Nat → Option Ent} {K : AV → List Nat → List (Nat × Option Ent) → Prop} {f : FuncId} {first capt args args' : List AV} {res : AV}
/-- A call that reads arrays, and makes one that hangs on none of those. -/
theorem callN1q (sn : List Nat) {e : Ent} (hc : ACalls P f args' [] res [some e]) (he : (first ++ args ++ capt).map (conv [] sn h 4) = args') (hp : Plain res) (hpe : PlainE e)
    (hk : K (conv (swp [] id) [] (fun _ => none) 4 res) sn [(id, some (convE (swp [] id) [] (fun _ => none) 4 e))]) : aK P np id .call (.fn (.func f) first capt :: args) h K :=
  ⟨[], sn, false, args', [], res, [some e], by simp, by simp, by simp, by rw [List.zipIdx_nil, he]; exact wkL_refl _, rfl, hc, by simp, .inr ⟨hp, fun e' he' => by simp at he'; subst he'; exact hpe⟩, by simpa [swp] using hk⟩
/-- A call that makes one array, its arguments said more weakly. -/
theorem callN1w {e : Ent} (hc : ACalls P f args' [] res [some e]) (he : WkL ((first ++ args ++ capt).map (conv [] [] h 4)) args')
    (hk : K (conv (swp [] id) [] (fun _ => none) 4 res) [] [(id, some (convE (swp [] id) [] (fun _ => none) 4 e))]) : aK P np id .call (.fn (.func f) first capt :: args) h K :=
  ⟨[], [], true, args', [], res, [some e], by simp, by simp, by simp, by rw [List.zipIdx_nil]; exact he, rfl, hc, by simp, .inl rfl, hk⟩
end

theorem plainK {k : IntKind} {l : List Int} : PlainE ⟨1, rowsK k l, 0⟩ := by
  intro row hrow x hx
  simp only [List.mem_map] at hrow
  obtain ⟨y, _, rfl⟩ := hrow
  simp at hx
  subst hx
  exact .sc _

theorem rowsK_flat (k : IntKind) (l : List Int) (ρ sn h m) : (rowsK k l).map (List.map (conv ρ sn h (m + 1))) = rowsK k l := by simp [Function.comp_def]

theorem rowsK_len (k : IntKind) (l : List Int) : (rowsK k l).length = l.length := by simp

/-- One array at hand, under the number i before and j behind. -/
theorem Le.K1 {st st' : St} {k : IntKind} {l : List Int} (i j : Nat) (sn : List Nat) (hsz : st'.sz = st.sz) (hh : st'.h = [(j, some ⟨1, rowsK k l, 0⟩)]) (hi : j < st'.n) (hs : ∀ j ∈ sn, j ≠ i) (h0 : st.hp i = some ⟨1, rowsK k l, 0⟩)
    (ht : ∀ p ∈ st'.t, Wk (conv [(i, j)] sn st.hp 4 (st.get p.1)) p.2) : Le 0 st st' :=
  Le.ren1 i j sn hsz hh hi hs h0 (by simp only [convE, rowsK_flat]) (Nat.zero_le _) ht

/-- The bytes of a number, the greatest first. -/
def byteN (v : Int) (k : Nat) : Int := IntKind.u8.wrap (v.fdiv (2 ^ (min (8 * k) 64)))
def intYn (v : Int) (n : Nat) : List Int := (List.range n).map fun j => byteN v (7 - j)
def intY (v : Int) : List Int := intYn v 8
theorem intYn_len (v : Int) (n : Nat) : (intYn v n).length = n := by simp [intYn]
theorem intY_len (v : Int) : (intY v).length = 8 := intYn_len v 8
theorem intYn_succ (v : Int) (n : Nat) : intYn v (n + 1) = intYn v n ++ [byteN v (7 - n)] := by simp [intYn, List.range_succ]

set_option maxRecDepth 100000 in
theorem ref02_Int_ok (b : List Int) (v : Int) (n : Nat) (hn : n = b.length + 8) (hl : b.length ≤ 1099511627776) : ACalls Try.prog nref02_Int [bys b, .I v] [] (.rs 0 0 n) [some ⟨1, rowsK .u8 (b ++ intY v), 0⟩] := by
  refine sref02_Int.acalls (Nat.le_of_ble_eq_true rfl) (Nat.le_of_ble_eq_true rfl) (Nat.zero_le _) ?_
  show awp _ 0 _ _ ⟨23, [(0, bys b), (1, .I v)], [], 16⟩
  refine awp_regc ⟨23, [(0, bys b), (1, .I v)], [], 24⟩ rfl (by simp; exact Le.snap [] rfl rfl (by simp)) ?_
  let Y : Nat → List Int := fun j => b ++ intYn v j
  have hYl : ∀ j, (Y j).length = b.length + j := fun j => by simp only [Y]; rw [List.length_append, intYn_len]
  have hYs : ∀ j, Y (j + 1) = Y j ++ [byteN v (7 - j)] := fun j => by simp only [Y]; rw [intYn_succ, List.append_assoc]
  have hY0 : Y 0 = b := by simp [Y, intYn]
  have hY8 : b ++ intY v = Y 8 := rfl
  rw [hY8, hn]
  refine awp_regc ⟨23, [(1, .I v), (5, .rs 32 0 (b.length + 0))], [(32, some ⟨1, rowsK .u8 (Y 0), 0⟩)], 48⟩ rfl ?_ ?_
  · simp [hY0]
    repeat' apply And.intro
    all_goals first | omega | exact Le.keep rfl (Nat.le_refl _) (by simp) (by simp)
  clear_value Y
  refine awp_seq ?_
  refine awp_regc ⟨23, [(1, .I v), (5, .rs 32 0 (b.length + 0)), (6, .I (7 - (0 : Nat)))], [(32, some ⟨1, rowsK .u8 (Y 0), 0⟩)], 56⟩ rfl ?_ ?_
  · simp
    exact Le.keep rfl (Nat.le_refl _) (by simp) (by simp)
  refine awp_block ?_
  refine awp_loop (ι := Nat) (fun j => ⟨23, [(1, .I v), (5, .rs 32 0 (b.length + j)), (6, .I (7 - (j : Int)))], [(32, some ⟨1, rowsK .u8 (Y j), 0⟩)], 56⟩) (fun j => j ≤ 8) (fun j => 8 - j) 0 (by omega) (Le.refl _ _) ?_
  intro j hj
  refine awp_seq ?_
  refine awp_regc ⟨23, [(1, .I v), (5, .rs 32 0 (b.length + j)), (6, .I (7 - (j : Int))), (10, .B (decide (j < 8)))], [(32, some ⟨1, rowsK .u8 (Y j), 0⟩)], 72⟩ rfl ?_ ?_
  · simp
    exact Le.keep rfl (Nat.le_refl _) (by simp; omega) (by simp)
  refine awp_cond _ rfl (fun h => awp_skip ?_) fun h => awp_exit (hit ?_)
  · simp only [decide_eq_true_eq] at h
    have hl1 := hYl j
    have hs := hYs j
    refine awp_cut (ι := Unit) (fun _ => ⟨23, [(1, .I v), (5, .rs 32 0 (b.length + (j + 1))), (6, .I (7 - (j : Int)))], [(32, some ⟨1, rowsK .u8 (Y (j + 1)), 0⟩)], 152⟩) (fun _ => True) ?_ fun _ _ => ?_
    · rw [hs]
      generalize Y j = A at *
      obtain ⟨k, hk⟩ : ∃ k : Nat, 7 - (j : Int) = k := ⟨7 - j, by omega⟩
      have hk2 : 7 - j = k := by omega
      have hw1 : IntKind.i64.wrap (8 * (k : Int)) = ((8 * k : Nat) : Int) := by rw [w64 (by omega) (by omega)]; omega
      have hw2 : IntKind.u64.wrap ((8 * k : Nat) : Int) = ((8 * k : Nat) : Int) := by rw [IntKind.wrap_u64]; omega
      have hb : byteN v k = IntKind.u8.wrap (v.fdiv (2 ^ (min (8 * k) 64))) := rfl
      rw [hk, hk2]
      generalize byteN v k = y at hb ⊢
      obtain ⟨s, hse⟩ : ∃ s, s = 8 * k := ⟨_, rfl⟩
      rw [← hse] at hw1 hw2 hb
      have htk : List.take (b.length + j) (rowsK .u8 A) = rowsK .u8 A := List.take_of_length_le (by rw [rowsK_len]; omega)
      refine awp_block ?_
      refine awp_reg rfl ?_
      simp [hw1, hw2, IntKind.bits, ← hb, hl1]
      repeat' apply And.intro
      all_goals first | omega | exact Le.ren1 136 32 [] rfl rfl (by simp) (by simp) rfl (by simp only [convE]; simp [htk, Function.comp_def]) (by simp) (by simp; exact wkE (by simp; omega))
    have hwj : IntKind.i64.wrap (7 - (j : Int) - 1) = 7 - ((j + 1 : Nat) : Int) := by rw [w64 (by omega) (by omega)]; omega
    refine awp_reg rfl ?_
    simp [hwj]
    exact ⟨j + 1, by omega, by omega, Le.K1 32 32 [] rfl rfl (by simp) (by simp) rfl (by simp)⟩
  simp only [decide_eq_false_iff_not] at h
  obtain rfl : j = 8 := by omega
  refine awp_seq ?_
  refine awp_run (s := ?z9) rfl ?p9 ?r9
  case p9 => simp; rfl
  refine awp_ret ?_
  exact ⟨.inr rfl, RetOk.out [32] [] rfl (by simp) (by simp) (by simp) (by simp [Function.comp_def])⟩

/-- The bytes of a string. -/
def strY (s : ByteArray) : List Int := s.data.toList.map fun b => (b.toNat : Int)
theorem strY_len (s : ByteArray) : (strY s).length = s.size := by
  show (s.data.toList.map _).length = s.data.size
  simp
theorem byteRows_eq (s : ByteArray) : byteRows s = rowsK .u8 (strY s) := by
  unfold byteRows strY
  rw [rowsK, List.map_map]
  rfl
def textY (s : ByteArray) : List Int := intY s.size ++ strY s
theorem textY_len (s : ByteArray) : (textY s).length = s.size + 8 := by rw [textY, List.length_append, intY_len, strY_len]; omega

set_option maxRecDepth 100000 in
theorem ref02_Text_ok (b : List Int) (s : ByteArray) (n : Nat) (hn : n = b.length + (s.size + 8)) (hl : b.length ≤ 1099511627776) (hs : s.size ≤ 1099511627776) : ACalls Try.prog nref02_Text [bys b, .sc (.string s)] [] (.rs 0 0 n) [some ⟨1, rowsK .u8 (b ++ textY s), 0⟩] := by
  refine sref02_Text.acalls (Nat.le_of_ble_eq_true rfl) (Nat.le_of_ble_eq_true rfl) (Nat.zero_le _) ?_
  show awp _ 0 _ _ ⟨11, [(0, bys b), (1, .sc (.string s))], [], 16⟩
  refine awp_regc ⟨11, [(0, bys b), (1, .sc (.string s))], [], 24⟩ rfl (by simp; exact Le.snap [] rfl rfl (by simp)) ?_
  have hI := ref02_Int_ok b s.size _ rfl hl
  have e : b ++ textY s = (b ++ intY s.size) ++ strY s := by rw [textY, List.append_assoc]
  have hYl : (b ++ intY s.size).length = b.length + 8 := by rw [List.length_append, intY_len]
  rw [e]
  generalize b ++ intY s.size = Y at *
  have htk : List.take (b.length + 8) (rowsK .u8 Y) = rowsK .u8 Y := List.take_of_length_le (by rw [rowsK_len]; omega)
  refine awp_regc ⟨11, [(4, .rs 64 0 n)], [(64, some ⟨1, rowsK .u8 (Y ++ strY s), 0⟩)], 80⟩ rfl ?_ ?_
  · simp
    refine callN1 hI rfl ?_
    simp [Function.comp_def, byteRows_eq, hYl]
    refine ⟨_, _, _, ⟨htk, rfl, rfl⟩, ?_⟩
    simp [hYl]
    repeat' apply And.intro
    all_goals first | omega | exact Le.keep rfl (Nat.le_refl _) (by simp; omega) (by simp)
  refine awp_ret ?_
  exact ⟨.inr rfl, RetOk.out [64] [] rfl (by simp) (by simp) (by simp) (by simp [Function.comp_def])⟩

/-- The bytes of a list of numbers. -/
def intsY (l : List Int) : List Int := intY l.length ++ l.flatMap intY
theorem flatI_len (l : List Int) : (l.flatMap intY).length = 8 * l.length := by
  induction l with
  | nil => rfl
  | cons x l ih => rw [List.flatMap_cons, List.length_append, ih, intY_len]; simp; omega
theorem intsY_len (l : List Int) : (intsY l).length = 8 * l.length + 8 := by rw [intsY, List.length_append, intY_len, flatI_len]; omega

set_option maxRecDepth 100000 in
theorem ref02_Ints_ok (b l : List Int) (n : Nat) (hn : n = b.length + (8 * l.length + 8)) (hl : b.length ≤ 1000000000) (hll : l.length ≤ 1000000) : ACalls Try.prog nref02_Ints [bys b, ints l] [] (.rs 0 0 n) [some ⟨1, rowsK .u8 (b ++ intsY l), 0⟩] := by
  refine sref02_Ints.acalls (Nat.le_of_ble_eq_true rfl) (Nat.le_of_ble_eq_true rfl) (Nat.zero_le _) ?_
  show awp _ 0 _ _ ⟨24, [(0, bys b), (1, ints l)], [], 16⟩
  refine awp_regc ⟨24, [(0, bys b), (1, ints l)], [], 24⟩ rfl (by simp; exact Le.snap [] rfl rfl (by simp)) ?_
  have hI := ref02_Int_ok b l.length _ rfl (by omega)
  obtain ⟨B, hB⟩ : ∃ B, B = b ++ intY l.length := ⟨_, rfl⟩
  have hBl : B.length = b.length + 8 := by rw [hB, List.length_append, intY_len]
  rw [← hB] at hI
  have e : ∀ j, b ++ intsY (l.take j) = b ++ intsY (l.take j) := fun _ => rfl
  let Y : Nat → List Int := fun j => B ++ (l.take j).flatMap intY
  have hYl : ∀ j, j ≤ l.length → (Y j).length = b.length + 8 + 8 * j := fun j hj => by
    simp only [Y]
    rw [List.length_append, flatI_len, hBl, List.length_take]
    congr 2
    omega
  have hYs : ∀ j (h : j < l.length), Y (j + 1) = Y j ++ intY l[j] := fun j h => by
    simp only [Y]
    rw [List.take_succ_eq_append_getElem h, List.flatMap_append]
    simp
  have hY0 : Y 0 = B := by simp [Y]
  have hYn : Y l.length = b ++ intsY l := by simp [Y, hB, intsY]
  rw [← hYn, hn]
  refine awp_regc ⟨24, [(1, ints l), (5, .rs 48 0 (b.length + 8 + 8 * 0))], [(48, some ⟨1, rowsK .u8 (Y 0), 0⟩)], 64⟩ rfl ?_ ?_
  · simp
    refine callN1 hI rfl ?_
    simp [Function.comp_def]
    exact Le.keep rfl (Nat.le_refl _) (by simp) (by simp [hY0])
  clear_value Y
  refine awp_seq ?_
  refine awp_regc ⟨24, [(1, ints l), (5, .rs 48 0 (b.length + 8 + 8 * 0)), (6, .I (0 : Nat))], [(48, some ⟨1, rowsK .u8 (Y 0), 0⟩)], 72⟩ rfl ?_ ?_
  · simp
    exact Le.keep rfl (Nat.le_refl _) (by simp) (by simp)
  refine awp_block ?_
  refine awp_loop (ι := Nat) (fun j => ⟨24, [(1, ints l), (5, .rs 48 0 (b.length + 8 + 8 * j)), (6, .I j)], [(48, some ⟨1, rowsK .u8 (Y j), 0⟩)], 72⟩) (fun j => j ≤ l.length) (fun j => l.length - j) 0 (by omega) (Le.refl _ _) ?_
  intro j hj
  refine awp_seq ?_
  refine awp_regc ⟨24, [(1, ints l), (5, .rs 48 0 (b.length + 8 + 8 * j)), (6, .I j), (14, .B (decide (j < l.length)))], [(48, some ⟨1, rowsK .u8 (Y j), 0⟩)], 104⟩ rfl ?_ ?_
  · simp
    exact Le.keep rfl (Nat.le_refl _) (by simp) (by simp)
  refine awp_cond _ rfl (fun h => awp_skip ?_) fun h => awp_exit (hit ?_)
  · simp only [decide_eq_true_eq] at h
    have hs := hYs j h
    have hl1 := hYl j hj
    have hl2 := hYl (j + 1) h
    have hI2 := ref02_Int_ok (Y j) l[j] _ rfl (by omega)
    rw [← hs] at hI2
    have hg : l[j]? = some l[j] := List.getElem?_eq_getElem h
    refine awp_cut (ι := Unit) (fun _ => ⟨24, [(1, ints l), (5, .rs 48 0 (b.length + 8 + 8 * (j + 1))), (6, .I j)], [(48, some ⟨1, rowsK .u8 (Y (j + 1)), 0⟩)], 160⟩) (fun _ => True) ?_ fun _ _ => ?_
    · generalize Y (j + 1) = Z at *
      generalize Y j = A at *
      refine awp_block ?_
      refine awp_reg rfl ?_
      simp [h, hg]
      refine callN1q [48] hI2 (by simp [Function.comp_def, ← hl1, take_map_len]) (.rs _ _ _) plainK ?_
      simp [Function.comp_def]
      exact Le.K1 144 48 [] rfl rfl (by simp) (by simp) (by simp [Function.comp_def]) (by simp; exact wkE (by simp; omega))
    have hwj : IntKind.i64.wrap ((j : Int) + 1) = ((j + 1 : Nat) : Int) := by rw [w64 (by omega) (by omega)]; omega
    refine awp_reg rfl ?_
    simp [hwj]
    exact ⟨j + 1, by omega, by omega, Le.K1 48 48 [] rfl rfl (by simp) (by simp) rfl (by simp)⟩
  simp only [decide_eq_false_iff_not] at h
  obtain rfl : j = l.length := by omega
  refine awp_seq ?_
  refine awp_run (s := ?z9) rfl ?p9 ?r9
  case p9 => simp; rfl
  refine awp_ret ?_
  exact ⟨.inr rfl, RetOk.out [48] [] rfl (by simp) (by simp) (by simp; exact wkE (by simp; omega)) (by simp [Function.comp_def])⟩

end Go.Proofs.Ytnphfkceoklkkaa

/- One block of the digest (ref01.turn, constants, block). -/
namespace Go.Proofs.Ytnphfkceoklkkaa
open Go

/-- Words. -/
abbrev wds (l : List Int) : AV := .vs 1 false (rowsK .u32 l)
abbrev wd (x : Int) : AV := .sc (.int .u32 x)

def u2 (op : BinOp) (a b : Int) : Int := match binV op (.int .u32 a) (.int .u32 b) with | some (.int _ n) => n | _ => 0
def sh (op : BinOp) (a n : Int) : Int := match binV op (.int .u32 a) (.int .u64 n) with | some (.int _ n) => n | _ => 0
def nt (a : Int) : Int := match unV .xor (.int .u32 a) with | some (.int _ n) => n | _ => 0
def turnF (x n : Int) : Int := u2 .or (sh .shr x n) (sh .shl x (32 - n))

section
variable {P : Program} {np id : Nat} {h : Nat → Option Ent} {K : AV → List Nat → List (Nat × Option Ent) → Prop}
theorem k_u2 (op : BinOp) (ho : op = .add ∨ op = .xor ∨ op = .and ∨ op = .or) {a b : Int} : aK P np id (.bin op) [.sc (.int .u32 a), .sc (.int .u32 b)] h K = K (.sc (.int .u32 (u2 op a b))) [] [] := by
  refine propext ?_
  rcases ho with rfl | rfl | rfl | rfl
  all_goals
    constructor
    · rintro ⟨v, hv, hk⟩
      cases hv
      exact hk
    · exact fun hk => ⟨_, rfl, hk⟩
@[simp high] theorem k_uadd {a b : Int} : aK P np id (.bin .add) [.sc (.int .u32 a), .sc (.int .u32 b)] h K = K (.sc (.int .u32 (u2 .add a b))) [] [] := k_u2 _ (.inl rfl)
@[simp high] theorem k_uxor {a b : Int} : aK P np id (.bin .xor) [.sc (.int .u32 a), .sc (.int .u32 b)] h K = K (.sc (.int .u32 (u2 .xor a b))) [] [] := k_u2 _ (.inr (.inl rfl))
@[simp high] theorem k_uand {a b : Int} : aK P np id (.bin .and) [.sc (.int .u32 a), .sc (.int .u32 b)] h K = K (.sc (.int .u32 (u2 .and a b))) [] [] := k_u2 _ (.inr (.inr (.inl rfl)))
@[simp high] theorem k_uor {a b : Int} : aK P np id (.bin .or) [.sc (.int .u32 a), .sc (.int .u32 b)] h K = K (.sc (.int .u32 (u2 .or a b))) [] [] := k_u2 _ (.inr (.inr (.inr rfl)))
theorem k_sh (op : BinOp) (ho : op = .shl ∨ op = .shr) {a n : Int} (hn : 0 ≤ n) : aK P np id (.bin op) [.sc (.int .u32 a), .sc (.int .u64 n)] h K = K (.sc (.int .u32 (sh op a n))) [] [] := by
  refine propext ?_
  have e : binV op (.int .u32 a) (.int .u64 n) = some (.int .u32 (sh op a n)) := by
    rcases ho with rfl | rfl <;> simp [binV, sh, hn]
  constructor
  · rintro ⟨v, hv, hk⟩
    rw [e] at hv
    cases hv
    exact hk
  · exact fun hk => ⟨_, e, hk⟩
@[simp high] theorem k_ushl {a n : Int} (hn : 0 ≤ n) : aK P np id (.bin .shl) [.sc (.int .u32 a), .sc (.int .u64 n)] h K = K (.sc (.int .u32 (sh .shl a n))) [] [] := k_sh _ (.inl rfl) hn
@[simp high] theorem k_ushr {a n : Int} (hn : 0 ≤ n) : aK P np id (.bin .shr) [.sc (.int .u32 a), .sc (.int .u64 n)] h K = K (.sc (.int .u32 (sh .shr a n))) [] [] := k_sh _ (.inr rfl) hn
@[simp high] theorem k_unt {a : Int} : aK P np id (.un .xor) [.sc (.int .u32 a)] h K = K (.sc (.int .u32 (nt a))) [] [] := by
  refine propext ⟨?_, fun hk => ⟨_, rfl, hk⟩⟩
  rintro ⟨v, hv, hk⟩
  cases hv
  exact hk
end

theorem ref01_turn_ok (x n : Int) (h0 : 0 ≤ n) (h1 : n ≤ 32) : ACalls Try.prog nref01_turn [wd x, .sc (.int .u64 n)] [] (wd (turnF x n)) [] := by
  refine sref01_turn.acalls (Nat.le_of_ble_eq_true rfl) (Nat.le_of_ble_eq_true rfl) (Nat.le_refl _) ?_
  show awp _ 0 _ _ ⟨13, [(0, wd x), (1, .sc (.int .u64 n))], [], 16⟩
  have hw : IntKind.u64.wrap (32 - n) = 32 - n := by rw [IntKind.wrap_u64]; omega
  have h2 : 0 ≤ 32 - n := by omega
  refine awp_seq ?_
  refine awp_run (s := ?s0) rfl ?o0 ?q0
  case o0 => simp; rfl
  refine awp_regc ⟨13, [(4, wd (turnF x n))], [], 96⟩ rfl ?_ ?_
  · simp [h0, h1, h2, hw]
    exact Le.snap [] rfl rfl (by simp [turnF])
  refine awp_ret ?_
  exact ⟨.inr rfl, RetOk.one (by simp)⟩

/-- The numbers that the rounds add. -/
def conK : List Int := [1116352408, 1899447441, 3049323471, 3921009573, 961987163, 1508970993, 2453635748, 2870763221, 3624381080, 310598401, 607225278, 1426881987, 1925078388, 2162078206, 2614888103, 3248222580, 3835390401, 4022224774, 264347078, 604807628, 770255983, 1249150122, 1555081692, 1996064986, 2554220882, 2821834349, 2952996808, 3210313671, 3336571891, 3584528711, 113926993, 338241895, 666307205, 773529912, 1294757372, 1396182291, 1695183700, 1986661051, 2177026350, 2456956037, 2730485921, 2820302411, 3259730800, 3345764771, 3516065817, 3600352804, 4094571909, 275423344, 430227734, 506948616, 659060556, 883997877, 958139571, 1322822218, 1537002063, 1747873779, 1955562222, 2024104815, 2227730452, 2361852424, 2428436474, 2756734187, 3204031479, 3329325298]
theorem conK_len : conK.length = 64 := rfl
theorem conK_ok : ACalls Try.prog nref01_constants [] [] (.rs 0 0 64) [some ⟨1, rowsK .u32 conK, 0⟩] := by
  refine sref01_constants.acalls (Nat.le_of_ble_eq_true rfl) (Nat.le_of_ble_eq_true rfl) (Nat.zero_le _) ?_
  show awp _ 0 _ _ ⟨2, [], [], 16⟩
  refine awp_seq ?_
  refine awp_run (s := ?s0) rfl ?o0 ?q0
  case o0 => simp; rfl
  refine awp_seq ?_
  refine awp_run (s := ?s1) rfl ?o1 ?q1
  case o1 => simp; rfl
  refine awp_ret ?_
  exact ⟨.inr rfl, RetOk.out [24] [] rfl (by simp) (by simp) (by simp) (by simp [conK])⟩

/-- The i-th number of a list. -/
abbrev gt (l : List Int) (i : Nat) : Int := l.getD i 0
theorem gt_of {l : List Int} {i n : Nat} (hl : l.length = n) (h : i < n) : ∃ (h : i < l.length), l[i] = gt l i := by
  have h2 : i < l.length := by omega
  exact ⟨h2, by simp [gt, h2]⟩
theorem gt_row {k : IntKind} {l : List Int} {i n : Nat} (hl : l.length = n) (h : i < n) : (rowsK k l)[i]? = some [AV.sc (.int k (gt l i))] := by
  have h2 : i < l.length := by omega
  simp [gt, h2]

def wordF (a b c d : Int) : Int := u2 .or (u2 .or (u2 .or (sh .shl (IntKind.u32.wrap a) 24) (sh .shl (IntKind.u32.wrap b) 16)) (sh .shl (IntKind.u32.wrap c) 8)) (IntKind.u32.wrap d)
def s0F (x : Int) : Int := u2 .xor (u2 .xor (turnF x 7) (turnF x 18)) (sh .shr x 3)
def s1F (x : Int) : Int := u2 .xor (u2 .xor (turnF x 17) (turnF x 19)) (sh .shr x 10)

def w0F (B : List Int) : Nat → List Int
  | 0 => List.replicate 64 0
  | i + 1 => (w0F B i).set i (wordF (gt B (4 * i)) (gt B (4 * i + 1)) (gt B (4 * i + 2)) (gt B (4 * i + 3)))
def w1F (B : List Int) : Nat → List Int
  | 0 => w0F B 16
  | i + 1 => (w1F B i).set (i + 16) (u2 .add (u2 .add (u2 .add (gt (w1F B i) i) (s0F (gt (w1F B i) (i + 1)))) (gt (w1F B i) (i + 9))) (s1F (gt (w1F B i) (i + 14))))
def r3 (x a b c : Int) : Int := u2 .xor (u2 .xor (turnF x a) (turnF x b)) (turnF x c)
def xF (v : List Int) (k w : Int) : Int := u2 .add (u2 .add (u2 .add (u2 .add (gt v 7) (r3 (gt v 4) 6 11 25)) (u2 .xor (u2 .and (gt v 4) (gt v 5)) (u2 .and (nt (gt v 4)) (gt v 6)))) k) w
def mF (v : List Int) : Int := u2 .xor (u2 .xor (u2 .and (gt v 0) (gt v 1)) (u2 .and (gt v 0) (gt v 2))) (u2 .and (gt v 1) (gt v 2))
def vF (H B C : List Int) : Nat → List Int
  | 0 => H
  | i + 1 =>
    let v := vF H B C i
    let x := xF v (gt C i) (gt (w1F B 48) i)
    [u2 .add (u2 .add x (r3 (gt v 0) 2 13 22)) (mF v), gt v 0, gt v 1, gt v 2, u2 .add (gt v 3) x, gt v 4, gt v 5, gt v 6]
def oF (H B C : List Int) : Nat → List Int
  | 0 => vF H B C 64
  | i + 1 => (oF H B C i).set i (u2 .add (gt (oF H B C i) i) (gt H i))
/-- What a block makes of eight words. -/
def blockF (H B C : List Int) : List Int := oF H B C 8

theorem w0F_len (B : List Int) : ∀ i, (w0F B i).length = 64
  | 0 => by simp [w0F]
  | i + 1 => by rw [w0F, List.length_set, w0F_len B i]
theorem w1F_len (B : List Int) : ∀ i, (w1F B i).length = 64
  | 0 => w0F_len B 16
  | i + 1 => by rw [w1F, List.length_set, w1F_len B i]
theorem vF_len {H B C : List Int} (hH : H.length = 8) : ∀ i, (vF H B C i).length = 8
  | 0 => hH
  | i + 1 => rfl
theorem oF_len {H B C : List Int} (hH : H.length = 8) : ∀ i, (oF H B C i).length = 8
  | 0 => vF_len hH 64
  | i + 1 => by rw [oF, List.length_set, oF_len hH i]

end Go.Proofs.Ytnphfkceoklkkaa

/- One block of the digest: the walk. -/
namespace Go.Proofs.Ytnphfkceoklkkaa
open Go

/-- .. rows given by name. -/
theorem Le.X1 {st st' : St} {X : List (List AV)} (hflat : ∀ ρ sn h m, X.map (List.map (conv ρ sn h (m + 1))) = X) (i j : Nat) (sn : List Nat) (hsz : st'.sz = st.sz) (hh : st'.h = [(j, some ⟨1, X, 0⟩)]) (hi : j < st'.n) (hs : ∀ j ∈ sn, j ≠ i) (h0 : st.hp i = some ⟨1, X, 0⟩)
    (ht : ∀ p ∈ st'.t, Wk (conv [(i, j)] sn st.hp 4 (st.get p.1)) p.2) : Le 0 st st' :=
  Le.ren1 i j sn hsz hh hi hs h0 (by simp only [convE, hflat]) (Nat.zero_le _) ht

set_option maxHeartbeats 8000000 in
set_option maxRecDepth 100000 in
theorem ref01_block_ok (H B C : List Int) (hH : H.length = 8) (hB : B.length = 64) (hC : C.length = 64) : ACalls Try.prog nref01_block [wds H, bys B, wds C] [] (.rs 0 0 8) [some ⟨1, rowsK .u32 (blockF H B C), 0⟩] := by
  refine sref01_block.acalls (Nat.le_of_ble_eq_true rfl) (Nat.le_of_ble_eq_true rfl) (Nat.zero_le _) ?_
  show awp _ 0 _ _ ⟨256, [(0, wds H), (1, bys B), (2, wds C)], [], 16⟩
  have hfl : ∀ (l : List Int) ρ sn h m, (rowsK .u32 l).map (List.map (conv ρ sn h (m + 1))) = rowsK .u32 l := fun l => rowsK_flat .u32 l
  refine awp_regc ⟨256, [(0, wds H), (1, bys B), (2, wds C)], [], 24⟩ rfl (by simp; exact Le.snap [] rfl rfl (by simp)) ?_
  refine awp_regc ⟨256, [(0, wds H), (1, bys B), (2, wds C), (7, .rs 24 0 64)], [(24, some ⟨1, rowsK .u32 (w0F B 0), 0⟩)], 40⟩ rfl ?_ ?_
  · simp
    exact Le.keep rfl (Nat.le_refl _) (by simp) (by simp [w0F])
  refine awp_seq ?_
  refine awp_regc ⟨256, [(0, wds H), (1, bys B), (2, wds C), (7, .rs 24 0 64), (8, .I (0 : Nat))], [(24, some ⟨1, rowsK .u32 (w0F B 0), 0⟩)], 48⟩ rfl ?_ ?_
  · simp
    exact Le.keep rfl (Nat.le_refl _) (by simp) (by simp)
  refine awp_block ?_
  refine awp_loop (ι := Nat) (fun i => ⟨256, [(0, wds H), (1, bys B), (2, wds C), (7, .rs 24 0 64), (8, .I i)], [(24, some ⟨1, rowsK .u32 (w0F B i), 0⟩)], 48⟩) (fun i => i ≤ 16) (fun i => 16 - i) 0 (by omega) (Le.refl _ _) ?_
  intro i hi
  refine awp_seq ?_
  refine awp_regc ⟨256, [(0, wds H), (1, bys B), (2, wds C), (7, .rs 24 0 64), (8, .I i), (21, .B (decide (i < 16)))], [(24, some ⟨1, rowsK .u32 (w0F B i), 0⟩)], 64⟩ rfl ?_ ?_
  · simp
    exact Le.keep rfl (Nat.le_refl _) (by simp <;> omega) (by simp)
  refine awp_cond _ rfl (fun h => awp_skip ?_) fun h => awp_exit (hit ?_)
  · simp only [decide_eq_true_eq] at h
    refine awp_cut (ι := Unit) (fun _ => ⟨256, [(0, wds H), (1, bys B), (2, wds C), (7, .rs 24 0 64), (8, .I i)], [(24, some ⟨1, rowsK .u32 (w0F B (i + 1)), 0⟩)], 360⟩) (fun _ => True) ?_ fun _ _ => ?_
    · obtain ⟨p, hp⟩ : ∃ p, p = 4 * i := ⟨_, rfl⟩
      obtain ⟨p1, hp1⟩ : ∃ q, q = p + 1 := ⟨_, rfl⟩
      obtain ⟨p2, hp2⟩ : ∃ q, q = p + 2 := ⟨_, rfl⟩
      obtain ⟨p3, hp3⟩ : ∃ q, q = p + 3 := ⟨_, rfl⟩
      have hw0 : IntKind.i64.wrap (4 * (i : Int)) = (p : Int) := by rw [w64 (by omega) (by omega)]; omega
      have hw1 : IntKind.i64.wrap ((p : Int) + 1) = (p1 : Int) := by rw [w64 (by omega) (by omega)]; omega
      have hw2 : IntKind.i64.wrap ((p : Int) + 2) = (p2 : Int) := by rw [w64 (by omega) (by omega)]; omega
      have hw3 : IntKind.i64.wrap ((p : Int) + 3) = (p3 : Int) := by rw [w64 (by omega) (by omega)]; omega
      obtain ⟨l0, g0⟩ := gt_of hB (show p < 64 by omega)
      obtain ⟨l1, g1⟩ := gt_of hB (show p1 < 64 by omega)
      obtain ⟨l2, g2⟩ := gt_of hB (show p2 < 64 by omega)
      obtain ⟨l3, g3⟩ := gt_of hB (show p3 < 64 by omega)
      have hs : rowsK .u32 (w0F B (i + 1)) = (rowsK .u32 (w0F B i)).set i [wd (wordF (gt B p) (gt B p1) (gt B p2) (gt B p3))] := by rw [w0F, rowsK, List.map_set, hp1, hp2, hp3, hp]
      obtain ⟨z, hz⟩ : ∃ z, z = wordF (gt B p) (gt B p1) (gt B p2) (gt B p3) := ⟨_, rfl⟩
      rw [← hz] at hs
      rw [hs]
      have hg := gt_row (k := .u32) (w0F_len B i) (show i < 64 by omega)
      have hX := hfl (w0F B i)
      generalize rowsK .u32 (w0F B i) = X at *
      generalize gt (w0F B i) i = o at *
      have hXl : ∀ ρ sn h m, (X.set i [wd z]).map (List.map (conv ρ sn h (m + 1))) = X.set i [wd z] := fun ρ sn h m => by rw [List.map_set, hX]; simp
      generalize hc0 : gt B p = c0 at *
      generalize hc1 : gt B p1 = c1 at *
      generalize hc2 : gt B p2 = c2 at *
      generalize hc3 : gt B p3 = c3 at *
      refine awp_block ?_
      refine awp_drw rfl ?_
      simp [hw0, hw1, hw2, hw3, l0, l1, l2, l3, g0, g1, g2, g3, h, hg, show (i : Int) < 64 by omega, show i < 64 by omega, splice]
      have hz2 : u2 .or (u2 .or (u2 .or (sh .shl (IntKind.u32.wrap c0) 24) (sh .shl (IntKind.u32.wrap c1) 16)) (sh .shl (IntKind.u32.wrap c2) 8)) (IntKind.u32.wrap c3) = z := hz.symm
      simp only [hz2]
      exact ⟨rfl, Le.X1 hXl 24 24 [] rfl rfl (by simp) (by simp) rfl (by simp)⟩
    have hwi : IntKind.i64.wrap ((i : Int) + 1) = ((i + 1 : Nat) : Int) := by rw [w64 (by omega) (by omega)]; omega
    refine awp_reg rfl ?_
    simp [hwi]
    exact ⟨i + 1, by omega, by omega, Le.K1 24 24 [] rfl rfl (by simp) (by simp) rfl (by simp)⟩
  simp only [decide_eq_false_iff_not] at h
  obtain rfl : i = 16 := by omega
  -- the further words
  refine awp_seq ?_
  refine awp_regc ⟨256, [(0, wds H), (2, wds C), (7, .rs 24 0 64), (9, .I (0 + 16 : Nat))], [(24, some ⟨1, rowsK .u32 (w1F B 0), 0⟩)], 72⟩ rfl ?_ ?_
  · simp [w1F]
    exact Le.keep rfl (Nat.le_refl _) (by simp) (by simp)
  refine awp_block ?_
  refine awp_loop (ι := Nat) (fun i => ⟨256, [(0, wds H), (2, wds C), (7, .rs 24 0 64), (9, .I (i + 16 : Nat))], [(24, some ⟨1, rowsK .u32 (w1F B i), 0⟩)], 72⟩) (fun i => i ≤ 48) (fun i => 48 - i) 0 (by omega) (Le.refl _ _) ?_
  intro i hi
  obtain ⟨m, hm⟩ : ∃ m, m = i + 16 := ⟨_, rfl⟩
  rw [← hm]
  refine awp_seq ?_
  refine awp_regc ⟨256, [(0, wds H), (2, wds C), (7, .rs 24 0 64), (9, .I m), (61, .B (decide (i < 48)))], [(24, some ⟨1, rowsK .u32 (w1F B i), 0⟩)], 88⟩ rfl ?_ ?_
  · simp
    exact Le.keep rfl (Nat.le_refl _) (by simp; omega) (by simp)
  refine awp_cond _ rfl (fun h => awp_skip ?_) fun h => awp_exit (hit ?_)
  · simp only [decide_eq_true_eq] at h
    refine awp_cut (ι := Unit) (fun _ => ⟨256, [(0, wds H), (2, wds C), (7, .rs 24 0 64), (9, .I m)], [(24, some ⟨1, rowsK .u32 (w1F B (i + 1)), 0⟩)], 576⟩) (fun _ => True) ?_ fun _ _ => ?_
    · have hw15 : IntKind.i64.wrap ((m : Int) - 15) = ((i + 1 : Nat) : Int) := by rw [w64 (by omega) (by omega)]; omega
      have hw2 : IntKind.i64.wrap ((m : Int) - 2) = ((i + 14 : Nat) : Int) := by rw [w64 (by omega) (by omega)]; omega
      have hw16 : IntKind.i64.wrap ((m : Int) - 16) = ((i : Nat) : Int) := by rw [w64 (by omega) (by omega)]; omega
      have hw7 : IntKind.i64.wrap ((m : Int) - 7) = ((i + 9 : Nat) : Int) := by rw [w64 (by omega) (by omega)]; omega
      have hlen := w1F_len B i
      have g15 := gt_row (k := .u32) hlen (show i + 1 < 64 by omega)
      have g2 := gt_row (k := .u32) hlen (show i + 14 < 64 by omega)
      have g16 := gt_row (k := .u32) hlen (show i < 64 by omega)
      have g7 := gt_row (k := .u32) hlen (show i + 9 < 64 by omega)
      have gm := gt_row (k := .u32) hlen (show m < 64 by omega)
      have hs : rowsK .u32 (w1F B (i + 1)) = (rowsK .u32 (w1F B i)).set m [wd (u2 .add (u2 .add (u2 .add (gt (w1F B i) i) (s0F (gt (w1F B i) (i + 1)))) (gt (w1F B i) (i + 9))) (s1F (gt (w1F B i) (i + 14))))] := by rw [w1F, rowsK, List.map_set, hm]
      have hX := hfl (w1F B i)
      generalize gt (w1F B i) (i + 1) = a15 at *
      generalize gt (w1F B i) (i + 14) = a2 at *
      generalize gt (w1F B i) i = a16 at *
      generalize gt (w1F B i) (i + 9) = a7 at *
      generalize gt (w1F B i) m = am at *
      generalize rowsK .u32 (w1F B i) = X at *
      obtain ⟨q15, hq15⟩ : ∃ q, q = i + 1 := ⟨_, rfl⟩
      obtain ⟨q2, hq2⟩ : ∃ q, q = i + 14 := ⟨_, rfl⟩
      obtain ⟨q7, hq7⟩ : ∃ q, q = i + 9 := ⟨_, rfl⟩
      rw [← hq15] at hw15 g15
      rw [← hq2] at hw2 g2
      rw [← hq7] at hw7 g7
      obtain ⟨b15, hb15⟩ : ∃ b, b = s0F a15 := ⟨_, rfl⟩
      obtain ⟨b2, hb2⟩ : ∃ b, b = s1F a2 := ⟨_, rfl⟩
      rw [← hb15, ← hb2] at hs
      obtain ⟨z, hz⟩ : ∃ z, z = u2 .add (u2 .add (u2 .add a16 b15) a7) b2 := ⟨_, rfl⟩
      rw [← hz] at hs
      rw [hs]
      have hXl : ∀ ρ sn h m', (X.set m [wd z]).map (List.map (conv ρ sn h (m' + 1))) = X.set m [wd z] := fun ρ sn h m' => by rw [List.map_set, hX]; simp
      refine awp_block ?_
      refine awp_dregc ⟨256, [(0, wds H), (2, wds C), (7, .rs 24 0 64), (9, .I m), (10, wd b15)], [(24, some ⟨1, X, 0⟩)], 256⟩ rfl ?_ ?_
      · simp [hw15, g15, show q15 < 64 by omega, show (q15 : Int) < 64 by omega]
        refine call0e (ref01_turn_ok a15 7 (by decide) (by decide)) rfl ?_
        simp [hw15, g15, show q15 < 64 by omega, show (q15 : Int) < 64 by omega]
        refine call0e (ref01_turn_ok a15 18 (by decide) (by decide)) rfl ?_
        simp [hw15, g15, show q15 < 64 by omega, show (q15 : Int) < 64 by omega]
        exact ⟨rfl, Le.keep rfl (Nat.le_refl _) (by simp [hb15, s0F]) (by simp)⟩
      refine awp_dregc ⟨256, [(0, wds H), (2, wds C), (7, .rs 24 0 64), (9, .I m), (10, wd b15), (11, wd b2)], [(24, some ⟨1, X, 0⟩)], 424⟩ rfl ?_ ?_
      · simp [hw2, g2, show q2 < 64 by omega, show (q2 : Int) < 64 by omega]
        refine call0e (ref01_turn_ok a2 17 (by decide) (by decide)) rfl ?_
        simp [hw2, g2, show q2 < 64 by omega, show (q2 : Int) < 64 by omega]
        refine call0e (ref01_turn_ok a2 19 (by decide) (by decide)) rfl ?_
        simp [hw2, g2, show q2 < 64 by omega, show (q2 : Int) < 64 by omega]
        exact ⟨rfl, Le.keep rfl (Nat.le_refl _) (by simp [hb2, s1F]) (by simp)⟩
      refine awp_drw rfl ?_
      simp [hw16, hw7, g16, g7, gm, show q7 < 64 by omega, show i < 64 by omega, show m < 64 by omega, show (q7 : Int) < 64 by omega, show (i : Int) < 64 by omega, show (m : Int) < 64 by omega, splice, ← hz]
      exact ⟨rfl, Le.X1 hXl 24 24 [] rfl rfl (by simp) (by simp) rfl (by simp)⟩
    have hwi : IntKind.i64.wrap ((m : Int) + 1) = ((i + 1 + 16 : Nat) : Int) := by rw [w64 (by omega) (by omega)]; omega
    refine awp_reg rfl ?_
    simp [hwi]
    exact ⟨i + 1, by omega, by omega, Le.K1 24 24 [] rfl rfl (by simp) (by simp) rfl (by simp)⟩
  simp only [decide_eq_false_iff_not] at h
  obtain rfl : i = 48 := by omega
  -- the rounds
  obtain ⟨W, hW⟩ : ∃ W, W = w1F B 48 := ⟨_, rfl⟩
  have hWl : W.length = 64 := by rw [hW]; exact w1F_len B 48
  rw [← hW]
  refine awp_regc ⟨256, [(0, wds H), (2, wds C), (7, wds W), (12, .rs 96 0 8)], [(96, some ⟨1, rowsK .u32 (vF H B C 0), 0⟩)], 112⟩ rfl ?_ ?_
  · simp [hH]
    have htk : List.take 64 (rowsK .u32 W) = rowsK .u32 W := List.take_of_length_le (by rw [rowsK_len]; omega)
    exact Le.ren1 96 96 [24] rfl rfl (by simp) (by simp) rfl (by simp [vF, Function.comp_def]) (by simp) (by simp [Function.comp_def, hWl]; rw [List.take_of_length_le (by simp; omega)]; exact .refl _)
  refine awp_seq ?_
  refine awp_regc ⟨256, [(0, wds H), (2, wds C), (7, wds W), (12, .rs 96 0 8), (13, .I (0 : Nat))], [(96, some ⟨1, rowsK .u32 (vF H B C 0), 0⟩)], 120⟩ rfl ?_ ?_
  · simp
    exact Le.keep rfl (Nat.le_refl _) (by simp) (by simp)
  refine awp_block ?_
  refine awp_loop (ι := Nat) (fun i => ⟨256, [(0, wds H), (2, wds C), (7, wds W), (12, .rs 96 0 8), (13, .I i)], [(96, some ⟨1, rowsK .u32 (vF H B C i), 0⟩)], 120⟩) (fun i => i ≤ 64) (fun i => 64 - i) 0 (by omega) (Le.refl _ _) ?_
  intro i hi
  refine awp_seq ?_
  refine awp_regc ⟨256, [(0, wds H), (2, wds C), (7, wds W), (12, .rs 96 0 8), (13, .I i), (125, .B (decide (i < 64)))], [(96, some ⟨1, rowsK .u32 (vF H B C i), 0⟩)], 136⟩ rfl ?_ ?_
  · simp
    exact Le.keep rfl (Nat.le_refl _) (by simp <;> omega) (by simp)
  refine awp_cond _ rfl (fun h => awp_skip ?_) fun h => awp_exit (hit ?_)
  · simp only [decide_eq_true_eq] at h
    refine awp_cut (ι := Unit) (fun _ => ⟨256, [(0, wds H), (2, wds C), (7, wds W), (12, .rs 96 0 8), (13, .I i)], [(96, some ⟨1, rowsK .u32 (vF H B C (i + 1)), 0⟩)], 1088⟩) (fun _ => True) ?_ fun _ _ => ?_
    · have hvl := vF_len (B := B) (C := C) hH i
      have hs : vF H B C (i + 1) = [u2 .add (u2 .add (xF (vF H B C i) (gt C i) (gt W i)) (r3 (gt (vF H B C i) 0) 2 13 22)) (mF (vF H B C i)), gt (vF H B C i) 0, gt (vF H B C i) 1, gt (vF H B C i) 2, u2 .add (gt (vF H B C i) 3) (xF (vF H B C i) (gt C i) (gt W i)), gt (vF H B C i) 4, gt (vF H B C i) 5, gt (vF H B C i) 6] := by rw [hW]; rfl
      rw [hs]
      generalize vF H B C i = v at *
      have g0 := gt_row (k := .u32) hvl (show 0 < 8 by omega)
      have g1 := gt_row (k := .u32) hvl (show 1 < 8 by omega)
      have g2 := gt_row (k := .u32) hvl (show 2 < 8 by omega)
      have g3 := gt_row (k := .u32) hvl (show 3 < 8 by omega)
      have g4 := gt_row (k := .u32) hvl (show 4 < 8 by omega)
      have g5 := gt_row (k := .u32) hvl (show 5 < 8 by omega)
      have g6 := gt_row (k := .u32) hvl (show 6 < 8 by omega)
      have g7 := gt_row (k := .u32) hvl (show 7 < 8 by omega)
      obtain ⟨lc, gc⟩ := gt_of hC h
      obtain ⟨lw, gw⟩ := gt_of hWl h
      have hxF : xF v (gt C i) (gt W i) = u2 .add (u2 .add (u2 .add (u2 .add (gt v 7) (r3 (gt v 4) 6 11 25)) (u2 .xor (u2 .and (gt v 4) (gt v 5)) (u2 .and (nt (gt v 4)) (gt v 6)))) (gt C i)) (gt W i) := rfl
      have hmF : mF v = u2 .xor (u2 .xor (u2 .and (gt v 0) (gt v 1)) (u2 .and (gt v 0) (gt v 2))) (u2 .and (gt v 1) (gt v 2)) := rfl
      have hX := hfl v
      generalize gt C i = ck at *
      generalize gt W i = wk at *
      generalize rowsK .u32 v = X at *
      generalize gt v 0 = v0 at *
      generalize gt v 1 = v1 at *
      generalize gt v 2 = v2 at *
      generalize gt v 3 = v3 at *
      generalize gt v 4 = v4 at *
      generalize gt v 5 = v5 at *
      generalize gt v 6 = v6 at *
      generalize gt v 7 = v7 at *
      obtain ⟨s, hsd⟩ : ∃ s, s = r3 v4 6 11 25 := ⟨_, rfl⟩
      obtain ⟨c, hcd⟩ : ∃ c, c = u2 .xor (u2 .and v4 v5) (u2 .and (nt v4) v6) := ⟨_, rfl⟩
      obtain ⟨x, hxd⟩ : ∃ x, x = xF v ck wk := ⟨_, rfl⟩
      obtain ⟨s', hsd'⟩ : ∃ s, s = r3 v0 2 13 22 := ⟨_, rfl⟩
      obtain ⟨y, hyd⟩ : ∃ y, y = mF v := ⟨_, rfl⟩
      rw [← hsd, ← hcd, ← hxd] at hxF
      rw [← hyd] at hmF
      rw [← hxd, ← hsd', ← hyd]
      clear hxd hyd
      refine awp_block ?_
      refine awp_dregc ⟨256, [(0, wds H), (2, wds C), (7, wds W), (12, .rs 96 0 8), (13, .I i), (14, wd s)], [(96, some ⟨1, X, 0⟩)], 256⟩ rfl ?_ ?_
      · simp [g4]
        refine call0e (ref01_turn_ok v4 6 (by decide) (by decide)) rfl ?_
        simp [g4]
        refine call0e (ref01_turn_ok v4 11 (by decide) (by decide)) rfl ?_
        simp [g4]
        refine call0e (ref01_turn_ok v4 25 (by decide) (by decide)) rfl ?_
        simp
        exact ⟨rfl, Le.keep rfl (Nat.le_refl _) (by simp [hsd, r3]) (by simp)⟩
      refine awp_dregc ⟨256, [(0, wds H), (2, wds C), (7, wds W), (12, .rs 96 0 8), (13, .I i), (14, wd s), (15, wd c)], [(96, some ⟨1, X, 0⟩)], 392⟩ rfl ?_ ?_
      · simp [g4, g5, g6]
        exact ⟨rfl, Le.keep rfl (Nat.le_refl _) (by simp [hcd]) (by simp)⟩
      refine awp_dregc ⟨256, [(0, wds H), (2, wds C), (7, wds W), (12, .rs 96 0 8), (13, .I i), (16, wd x)], [(96, some ⟨1, X, 0⟩)], 536⟩ rfl ?_ ?_
      · simp [g7, lc, gc, lw, gw]
        exact ⟨rfl, Le.keep rfl (Nat.le_refl _) (by simp [hxF]) (by simp)⟩
      refine awp_dregc ⟨256, [(0, wds H), (2, wds C), (7, wds W), (12, .rs 96 0 8), (13, .I i), (16, wd x), (14, wd s')], [(96, some ⟨1, X, 0⟩)], 656⟩ rfl ?_ ?_
      · simp [g0]
        refine call0e (ref01_turn_ok v0 2 (by decide) (by decide)) rfl ?_
        simp [g0]
        refine call0e (ref01_turn_ok v0 13 (by decide) (by decide)) rfl ?_
        simp [g0]
        refine call0e (ref01_turn_ok v0 22 (by decide) (by decide)) rfl ?_
        simp
        exact ⟨rfl, Le.keep rfl (Nat.le_refl _) (by simp [hsd', r3]) (by simp)⟩
      refine awp_dregc ⟨256, [(0, wds H), (2, wds C), (7, wds W), (12, .rs 96 0 8), (13, .I i), (16, wd x), (14, wd s'), (17, wd y)], [(96, some ⟨1, X, 0⟩)], 848⟩ rfl ?_ ?_
      · simp [g0, g1, g2]
        exact ⟨rfl, Le.keep rfl (Nat.le_refl _) (by simp [hmF]) (by simp)⟩
      refine awp_drw rfl ?_
      simp [g0, g1, g2, g3, g4, g5, g6]
      exact ⟨rfl, Le.ren1 1072 96 [] rfl rfl (by simp) (by simp) rfl (by simp) (by simp) (by simp)⟩
    have hwi : IntKind.i64.wrap ((i : Int) + 1) = ((i + 1 : Nat) : Int) := by rw [w64 (by omega) (by omega)]; omega
    refine awp_reg rfl ?_
    simp [hwi]
    exact ⟨i + 1, by omega, by omega, Le.K1 96 96 [] rfl rfl (by simp) (by simp) rfl (by simp)⟩
  simp only [decide_eq_false_iff_not] at h
  obtain rfl : i = 64 := by omega
  -- what was is added
  refine awp_seq ?_
  refine awp_regc ⟨256, [(0, wds H), (12, .rs 96 0 8), (18, .I (0 : Nat))], [(96, some ⟨1, rowsK .u32 (oF H B C 0), 0⟩)], 144⟩ rfl ?_ ?_
  · simp
    exact Le.keep rfl (Nat.le_refl _) (by simp) (by simp [oF])
  refine awp_block ?_
  refine awp_loop (ι := Nat) (fun i => ⟨256, [(0, wds H), (12, .rs 96 0 8), (18, .I i)], [(96, some ⟨1, rowsK .u32 (oF H B C i), 0⟩)], 144⟩) (fun i => i ≤ 8) (fun i => 8 - i) 0 (by omega) (Le.refl _ _) ?_
  intro i hi
  refine awp_seq ?_
  refine awp_regc ⟨256, [(0, wds H), (12, .rs 96 0 8), (18, .I i), (242, .B (decide (i < 8)))], [(96, some ⟨1, rowsK .u32 (oF H B C i), 0⟩)], 160⟩ rfl ?_ ?_
  · simp
    exact Le.keep rfl (Nat.le_refl _) (by simp <;> omega) (by simp)
  refine awp_cond _ rfl (fun h => awp_skip ?_) fun h => awp_exit (hit ?_)
  · simp only [decide_eq_true_eq] at h
    refine awp_cut (ι := Unit) (fun _ => ⟨256, [(0, wds H), (12, .rs 96 0 8), (18, .I i)], [(96, some ⟨1, rowsK .u32 (oF H B C (i + 1)), 0⟩)], 248⟩) (fun _ => True) ?_ fun _ _ => ?_
    · have hol := oF_len (B := B) (C := C) hH i
      have hg := gt_row (k := .u32) hol h
      obtain ⟨lh, gh⟩ := gt_of hH h
      obtain ⟨z, hz⟩ : ∃ z, z = u2 .add (gt (oF H B C i) i) (gt H i) := ⟨_, rfl⟩
      have hs : rowsK .u32 (oF H B C (i + 1)) = (rowsK .u32 (oF H B C i)).set i [wd z] := by rw [oF, rowsK, List.map_set, hz]
      rw [hs]
      have hX := hfl (oF H B C i)
      generalize gt (oF H B C i) i = a at *
      generalize gt H i = b at *
      generalize rowsK .u32 (oF H B C i) = X at *
      have hXl : ∀ ρ sn h m, (X.set i [wd z]).map (List.map (conv ρ sn h (m + 1))) = X.set i [wd z] := fun ρ sn h m => by rw [List.map_set, hX]; simp
      refine awp_block ?_
      refine awp_drw rfl ?_
      simp [hg, lh, gh, h, show (i : Int) < 8 by omega, splice, ← hz]
      exact ⟨rfl, Le.X1 hXl 96 96 [] rfl rfl (by simp) (by simp) rfl (by simp)⟩
    have hwi : IntKind.i64.wrap ((i : Int) + 1) = ((i + 1 : Nat) : Int) := by rw [w64 (by omega) (by omega)]; omega
    refine awp_reg rfl ?_
    simp [hwi]
    exact ⟨i + 1, by omega, by omega, Le.K1 96 96 [] rfl rfl (by simp) (by simp) rfl (by simp)⟩
  simp only [decide_eq_false_iff_not] at h
  obtain rfl : i = 8 := by omega
  refine awp_seq ?_
  refine awp_run (s := ?z9) rfl ?p9 ?r9
  case p9 => simp; rfl
  refine awp_ret ?_
  exact ⟨.inr rfl, RetOk.out [96] [] rfl (by simp) (by simp) (by simp) (by simp [blockF, Function.comp_def])⟩

end Go.Proofs.Ytnphfkceoklkkaa
