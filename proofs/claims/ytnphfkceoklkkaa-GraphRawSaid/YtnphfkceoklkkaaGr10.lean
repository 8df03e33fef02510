/- Texts of this claim, merged. -/
import Derived.Test.YtnphfkceoklkkaaGr9
import Derived.Test.YtnphfkceoklkkaaGr5
set_option linter.unusedSimpArgs false
set_option linter.unusedVariables false
set_option linter.unusedSectionVars false
/- The search for an edge. -/
namespace Go.Proofs.Ytnphfkceoklkkaa
open Go

@[simp] theorem conv_fn {ρ : List (Nat × Nat)} {sn : List Nat} {h : Nat → Option Ent} {n : Nat} {f : Fn} {a b : List AV} : conv ρ sn h (n + 1) (.fn f a b) = .fn f (a.map (conv ρ sn h n)) (b.map (conv ρ sn h n)) := (rfl)

theorem BinarySearch_ok (l : List Ed) (e : Ed) (hl : l.length ≤ 1099511627776) (hm : ∀ (i j : Nat) (hi : i < l.length) (hj : j < l.length), i ≤ j → Bef l[j] e → Bef l[i] e) : ACalls Try.prog nslices_BinarySearchFunc_Lapi_Edge_api_Edge_api_Edge [eEs l, eE e, .fn (.func ngraph_compare) [] []] [] (.tup [.I (idxE l e), .B (decide (AtE l (idxE l e) e.f e.t))]) [] := by
  refine sslices_BinarySearchFunc_Lapi_Edge_api_Edge_api_Edge.acalls (Nat.le_of_ble_eq_true rfl) (Nat.le_of_ble_eq_true rfl) (Nat.le_refl _) ?_
  show awp _ 0 _ _ ⟨49, [(0, eEs l), (1, eE e), (2, .fn (.func ngraph_compare) [] [])], [], 16⟩
  refine awp_regc ⟨49, [(0, eEs l), (2, .fn (.func ngraph_compare) [] []), (4, .pv (eC e))], [], 16⟩ rfl ?_ ?_
  · simp
    exact Le.snap [16] rfl rfl (by simp)
  refine awp_seq ?_
  refine awp_run (s := ?s1) rfl ?o1 ?q1
  case o1 => simp; rfl
  refine awp_seq ?_
  refine awp_run (s := ?s2) rfl ?o2 ?q2
  case o2 => simp; rfl
  refine awp_seq ?_
  refine awp_block ?_
  refine awp_loop (ι := Nat × Nat) (fun p => ⟨49, [(0, eEs l), (2, .fn (.func ngraph_compare) [] []), (4, .pv (eC e)), (8, .I l.length), (9, .I p.1), (10, .I p.2)], [], 16⟩) (fun p => p.1 ≤ p.2 ∧ p.2 ≤ l.length ∧ (∀ q, q < p.1 → BefAt l e q) ∧ ∀ q (h : q < l.length), p.2 ≤ q → ¬ Bef l[q] e) (fun p => p.2 - p.1) ((0, l.length)) ?_ (Le.snap [] rfl rfl (by simp)) ?_
  · simp
    intro q h h2
    omega
  rintro ⟨i, j⟩ ⟨hij, hjn, hlo, hhi⟩
  simp only at hij hjn hlo hhi
  refine awp_seq ?_
  refine awp_seq ?_
  refine awp_run (s := ?s3) rfl ?o3 ?q3
  case o3 => simp; rfl
  refine awp_cond _ rfl (fun h4 => ?_) fun h4 => ?_
  · try simp at h4
    refine awp_skip ?_
    refine awp_block ?_
    have hw : IntKind.i64.wrap ((i : Int) + (j : Int)) = (i : Int) + (j : Int) := w64 (by omega) (by omega)
    have hu : IntKind.u64.wrap ((i : Int) + (j : Int)) = (i : Int) + (j : Int) := by rw [IntKind.wrap_u64]; omega
    have hd : Int.fdiv ((i : Int) + (j : Int)) 2 = (((i + j) / 2 : Nat) : Int) := by rw [Int.fdiv_eq_ediv_of_nonneg _ (by decide)]; omega
    have hw3 : IntKind.i64.wrap (((i + j) / 2 : Nat) : Int) = (((i + j) / 2 : Nat) : Int) := w64 (by omega) (by omega)
    refine awp_regc ⟨49, [(0, eEs l), (2, .fn (.func ngraph_compare) [] []), (4, .pv (eC e)), (8, .I l.length), (9, .I i), (10, .I j), (11, .I ((i + j) / 2 : Nat))], [], 16⟩ rfl ?_ ?_
    · simp [hw, hu, hd, hw3, IntKind.bits, -Int.natCast_ediv, -Int.natCast_add]
      exact Le.snap [] rfl rfl (by simp [hw, hu, hd, hw3])
    obtain ⟨m, hmd⟩ : ∃ m, m = (i + j) / 2 := ⟨_, rfl⟩
    rw [← hmd]
    have hml : m < l.length := by omega
    have hm1 : IntKind.i64.wrap ((m : Int) + 1) = (m : Int) + 1 := w64 (by omega) (by omega)
    refine awp_seq ?_
    refine awp_drun (s := ?s6) (tr := ?t6) rfl ?o6 ?r6 ?q6
    case o6 => simp [hml]; refine call0e (graph_compare_ok l[m] e) rfl ?_; simp; constructor <;> rfl
    case r6 => rfl
    refine awp_cond _ rfl (fun h7 => ?_) fun h7 => ?_
    · simp only [decide_eq_true_eq, decide_eq_false_iff_not, cmpE_lt] at h7
      refine awp_run (s := ?s8) rfl ?o8 ?q8
      case o8 => simp; rfl
      refine ⟨(m + 1, j), ⟨by simp only; omega, hjn, fun q hq hql => ?_, hhi⟩, by simp only; omega, Le.snap [] rfl rfl (by simp [hm1])⟩
      exact hm q m hql hml (by simp only at hq; omega) h7
    simp only [decide_eq_true_eq, decide_eq_false_iff_not, cmpE_lt] at h7
    refine awp_run (s := ?s9) rfl ?o9 ?q9
    case o9 => simp; rfl
    refine ⟨(i, m), ⟨by simp only; omega, by simp only; omega, hlo, fun q hql hq hb => ?_⟩, by simp only; omega, Le.snap [] rfl rfl (by simp)⟩
    exact h7 (hm m q hml hql hq hb)
  try simp at h4
  refine awp_exit ?_
  refine hit ?_
  have hji : j = i := by omega
  subst hji
  rw [idxE_of hjn hlo (fun h => hhi _ h (Nat.le_refl _))]
  refine awp_dregc ⟨49, [(6, .I j), (7, .B (decide (AtE l j e.f e.t)))], [], 16⟩ rfl ?_ ?_
  · simp
    repeat' first
      | (refine callf ngraph_compare rfl ?_; refine call0e (graph_compare_ok _ e) rfl ?_; simp)
      | (refine gcase (fun hb => ?_) (fun hb => ?_) <;> (try rw [hb]) <;> (try simp at hb) <;> simp [*])
    all_goals exact ⟨rfl, Le.snap [] rfl rfl (by simp <;> exact wkB (by (try simp at *); grind [AtE, cmpE_eq]))⟩
  refine awp_ret ?_
  exact ⟨.inr rfl, RetOk.out [] [] rfl (by simp) (by simp) (by simp) (by simp)⟩

end Go.Proofs.Ytnphfkceoklkkaa

/- The value-level machine: slices of known capacity; arrays that are handed in and consumed. -/
namespace Go.Proofs.Ytnphfkceoklkkaa
open Go

section
variable {P : Program} {np id : Nat} {h : Nat → Option Ent} {K : AV → List Nat → List (Nat × Option Ent) → Prop} {s i off len c k l m : Nat}
@[simp] theorem k_slkl : aK P np id (.slc s true false false) [.rk i off len c, .sc (.int .i64 (k : Int))] h K = (k ≤ len ∧ len ≤ c ∧ (∃ e, h i = some e ∧ e.s = s) ∧ K (.rk i (off + k) (len - k) (c - k)) [i] []) := by
  rw [k_slc]
  refine propext ⟨?_, ?_⟩
  · rintro ⟨l, r, m, n, h1, h2, h4, h5, h6, h7, h3, h10, h11, h8, h9⟩
    obtain rfl := h6 rfl
    simp at h4 h1
    subst h1
    have : k = l := by omega
    subst this
    obtain rfl := h11 rfl
    exact ⟨h2, h3, h8, h9⟩
  · rintro ⟨h1, h2, h3, h4⟩
    exact ⟨k, len, c, len, rfl, h1, by simp, (fun h => by cases h), fun _ => rfl, (fun h => by cases h), h2, Nat.le_refl _, fun _ => rfl, h3, h4⟩
@[simp] theorem k_slkh : aK P np id (.slc s false true false) [.rk i off len c, .sc (.int .i64 (k : Int))] h K = (k ≤ c ∧ (∃ e, h i = some e ∧ e.s = s) ∧ K (.rk i off k c) [i] []) := by
  rw [k_slc]
  refine propext ⟨?_, ?_⟩
  · rintro ⟨l, r, m, n, h1, h2, h4, h5, h6, h7, h3, h10, h11, h8, h9⟩
    obtain rfl := h5 rfl
    simp at h4 h1
    have : k = r := by omega
    subst this
    obtain rfl := h11 rfl
    exact ⟨h3, h8, by simpa using h9⟩
  · rintro ⟨h1, h3, h4⟩
    exact ⟨0, k, c, len, rfl, Nat.zero_le _, by simp, fun _ => rfl, (fun h => by cases h), (fun h => by cases h), h1, Nat.le_refl _, fun _ => rfl, h3, by simpa using h4⟩
@[simp] theorem k_slklh : aK P np id (.slc s true true false) [.rk i off len c, .sc (.int .i64 (l : Int)), .sc (.int .i64 (k : Int))] h K = (l ≤ k ∧ k ≤ c ∧ (∃ e, h i = some e ∧ e.s = s) ∧ K (.rk i (off + l) (k - l) (c - l)) [i] []) := by
  rw [k_slc]
  refine propext ⟨?_, ?_⟩
  · rintro ⟨l', r, m, n, h1, h2, h4, h5, h6, h7, h3, h10, h11, h8, h9⟩
    simp at h4 h1
    have : k = r := by omega
    subst this
    have : l = l' := by omega
    subst this
    obtain rfl := h11 rfl
    exact ⟨h2, h3, h8, h9⟩
  · rintro ⟨h1, h2, h3, h4⟩
    exact ⟨l, k, c, len, rfl, h1, by simp, (fun h => by cases h), (fun h => by cases h), (fun h => by cases h), h2, Nat.le_refl _, fun _ => rfl, h3, h4⟩
@[simp] theorem k_slkm : aK P np id (.slc s true true true) [.rk i off len c, .sc (.int .i64 (l : Int)), .sc (.int .i64 (k : Int)), .sc (.int .i64 (m : Int))] h K = (l ≤ k ∧ k ≤ m ∧ m ≤ c ∧ (∃ e, h i = some e ∧ e.s = s) ∧ K (.rk i (off + l) (k - l) (m - l)) [i] []) := by
  rw [k_slc]
  refine propext ⟨?_, ?_⟩
  · rintro ⟨l', r, m', n, h1, h2, h4, h5, h6, h7, h3, h10, h11, h8, h9⟩
    simp at h4 h1
    have : k = r := by omega
    subst this
    have : l = l' := by omega
    subst this
    have : m = m' := by omega
    subst this
    exact ⟨h2, h3, h10, h8, h9⟩
  · rintro ⟨h1, h2, h3, h4, h5⟩
    exact ⟨l, k, m, len, rfl, h1, by simp, (fun h => by cases h), (fun h => by cases h), (fun _ => rfl), h2, h3, (fun h => by cases h), h4, h5⟩
@[simp] theorem k_slrl : aK P np id (.slc s true false false) [.rs i off len, .sc (.int .i64 (k : Int))] h K = (k ≤ len ∧ (∃ e, h i = some e ∧ e.s = s) ∧ K (.rs i (off + k) (len - k)) [i] []) := by
  rw [k_slc]
  refine propext ⟨?_, ?_⟩
  · rintro ⟨l, r, m, n, h1, h2, h4, h5, h6, h7, h3, h10, h8, h9⟩
    obtain rfl := h6 rfl
    simp at h4 h1
    subst h1
    have : k = l := by omega
    subst this
    exact ⟨h2, h8, h9⟩
  · rintro ⟨h1, h3, h4⟩
    exact ⟨k, len, 0, len, rfl, h1, by simp, (fun h => by cases h), fun _ => rfl, (fun h => by cases h), Nat.le_refl _, rfl, h3, h4⟩
@[simp] theorem k_slrh : aK P np id (.slc s false true false) [.rs i off len, .sc (.int .i64 (k : Int))] h K = (k ≤ len ∧ (∃ e, h i = some e ∧ e.s = s) ∧ K (.rs i off k) [i] []) := by
  rw [k_slc]
  refine propext ⟨?_, ?_⟩
  · rintro ⟨l, r, m, n, h1, h2, h4, h5, h6, h7, h3, h10, h8, h9⟩
    obtain rfl := h5 rfl
    simp at h4 h1
    have : k = r := by omega
    subst this
    exact ⟨by omega, h8, by simpa using h9⟩
  · rintro ⟨h1, h3, h4⟩
    exact ⟨0, k, 0, len, rfl, Nat.zero_le _, by simp, fun _ => rfl, (fun h => by cases h), (fun h => by cases h), h1, rfl, h3, by simpa using h4⟩
end

/-- Saying less, nothing renamed: capacities stay known. -/
theorem Le.keep {np : Nat} {st st' : St} (hsz : st'.sz = st.sz) (hn : st.n ≤ st'.n) (ht : ∀ p ∈ st'.t, st.get p.1 = p.2) (hh : ∀ p ∈ st'.h, ∀ e, p.2 = some e → st.hp p.1 = some e) : Le np st st' := by
  intro T0 M0 w0 T M a w ok hnp
  have hp : ∀ id e, st'.hp id = some e → st.hp id = some e := by
    intro id e he
    unfold St.hp at he
    cases hl : lkp st'.h id with
    | none => rw [hl] at he; cases he
    | some v =>
      rw [hl] at he
      exact hh _ (lkp_mem hl) e he
  refine ⟨T, M, ⟨ok.sz.trans hsz.symm, ok.df, fun i => ?_, ⟨fun id e he => ok.hs.ent id e (hp id e he), fun id id' e e' g g' b h1 h2 => ok.hs.inj id id' e e' g g' b (hp _ _ h1) (hp _ _ h2)⟩, fun id g hg => Nat.lt_of_lt_of_le (ok.dom id g hg) hn, ok.after⟩, Nat.le_trans hnp hn⟩
  unfold St.get at *
  cases hl : lkp st'.t i with
  | none => exact .dead _ _
  | some v =>
    have := ht _ (lkp_mem hl)
    simp only at this
    show Rep T w M v _
    rw [← this]
    exact ok.tm i

/-- An array that was handed in, or made, goes on alone, under a new number. -/
theorem Le.mv1 {st st' : St} (j i : Nat) {e0 e : Ent} (hsz : st'.sz = st.sz) (hh : st'.h = [(i, some e)]) (hi : i < st'.n) (h1 : 1 ≤ i) (h0 : st.hp j = some e0) (he : convE [(j, i)] [] st.hp 4 e0 = e) (hr : e.ro ≤ e.rows.length)
    (ht : ∀ p ∈ st'.t, Wk (conv [(j, i)] [] st.hp 4 (st.get p.1)) p.2) : Le 1 st st' :=
  Le.lst [(j, i)] [] [] hsz (by simp) (by simp) (by simp [hi]; omega) (by simp) (by simp) (by omega) (by simp) (fun p hp => .inl (ht p hp)) (fun p hp e' he' => by
    rw [hh] at hp
    simp at hp
    subst hp
    cases he'
    exact .inl ⟨(j, i), by simp, rfl, e0, h0, by rw [he]; exact EntUp.rfl' hr⟩)

/-- One array handed in and gone, one handed back. -/
theorem RetOk.m1 {rs : List (Nat × Option (Bool × Nat))} {st : St} {vs : List AV} {res : AV} {e : Ent} (i : Nat) (hi : 1 ≤ i) (h1 : resAll st rs = some vs) (hw : Wk (conv [(0, 0), (i, 1)] [] st.hp 4 (resV vs)) res) (h0 : st.hp 0 = none) (he : (st.hp i).map (convE [(0, 0), (i, 1)] [] st.hp 4) = some e) : RetOk rs 1 st res [none, some e] :=
  ⟨vs, h1, [i], [], by simp [List.range, List.range.loop]; omega, by simpa using hi, by simp, by simpa [List.range, List.range.loop] using hw, by simpa [List.range, List.range.loop, h0] using he⟩

end Go.Proofs.Ytnphfkceoklkkaa

/- slices.Insert of one edge. -/
namespace Go.Proofs.Ytnphfkceoklkkaa
open Go

/-- Rows that no renaming touches. -/
def Flat (R : List (List AV)) : Prop := ∀ ρ sn h n, R.map (List.map (conv ρ sn h (n + 1))) = R

set_option maxRecDepth 100000 in
theorem insE_ok (R : List (List AV)) (row : List AV) (n k : Nat) (hn : R.length = n) (hk : k ≤ n) (hR : Flat R) (hr : Flat [row]) (hl : (n + 1) * 24 ≤ 140737488355328) :
    ACalls Try.prog nslices_Insert_Lapi_Edge_api_Edge [.rs 0 0 n, .I k, .vs 3 false [row]] [⟨3, R, 0⟩] (.rs 1 0 (n + 1)) [none, some ⟨3, R.take k ++ row :: R.drop k, 0⟩] := by
  have hrow : ∀ ρ sn h n, row.map (conv ρ sn h (n + 1)) = row := fun ρ sn h n => by simpa using hr ρ sn h n
  have hflat : ∀ ρ sn h n, (R.take k ++ row :: R.drop k).map (List.map (conv ρ sn h (n + 1))) = R.take k ++ row :: R.drop k := fun ρ sn h n => by
    have := hR ρ sn h n
    rw [List.map_append, List.map_cons, List.map_take, List.map_drop, this, hrow]
  refine acalls_cap fun c hc => ?_
  refine sslices_Insert_Lapi_Edge_api_Edge.acalls (Nat.le_of_ble_eq_true rfl) (Nat.le_of_ble_eq_true rfl) (Nat.le_of_ble_eq_true rfl) ?_
  show awp _ 1 _ _ ⟨95, [(0, .rk 0 0 n c), (1, .I k), (2, .vs 3 false [row])], [(0, some ⟨3, R, 0⟩)], 16⟩
  obtain ⟨n1, hn1⟩ : ∃ n1, n1 = n + 1 := ⟨_, rfl⟩
  obtain ⟨k1, hk1⟩ : ∃ k1, k1 = k + 1 := ⟨_, rfl⟩
  obtain ⟨d, hd⟩ : ∃ d, d = n1 - k := ⟨_, rfl⟩
  have hw1 : IntKind.i64.wrap ((n : Int) + 1) = (n1 : Int) := by rw [w64 (by omega) (by omega)]; omega
  have hw2 : IntKind.i64.wrap ((k : Int) + 1) = (k1 : Int) := by rw [w64 (by omega) (by omega)]; omega
  have hw3 : IntKind.i64.wrap ((n1 : Int) - (k : Int)) = (d : Int) := by rw [w64 (by omega) (by omega)]; omega
  have fin : ∀ (t : List (Nat × AV)) (m : Nat), awp Try.prog 1 .ret (fun e st => (e = .normal ∨ e = .ret) ∧ RetOk [(6, none)] 1 st (.rs 1 0 (n + 1)) [none, some ⟨3, R.take k ++ row :: R.drop k, 0⟩]) ⟨95, [(6, .rs 16 0 n1)], [(16, some ⟨3, R.take k ++ row :: R.drop k, 0⟩)], 24⟩ := by
    intro t m
    refine awp_ret ⟨.inr rfl, ?_⟩
    refine RetOk.m1 (vs := [.rs 16 0 n1]) 16 (by omega) rfl (by simp [hn1]) rfl ?_
    show Option.map _ (some _) = _
    rw [Option.map_some]
    unfold convE
    simp only [hflat]
  refine awp_regc ⟨95, [(0, .rk 0 0 n c), (1, .I k), (2, .vs 3 false [row])], [(0, some ⟨3, R, 0⟩)], 24⟩ rfl ?_ ?_
  · simp
    exact Le.keep rfl (Nat.le_refl _) (by simp) (by simp)
  refine awp_regc ⟨95, [(0, .rk 0 0 n c), (1, .I k), (2, .vs 3 false [row])], [(0, some ⟨3, R, 0⟩)], 48⟩ rfl ?_ ?_
  · simp [hk, hc]
    exact Le.keep rfl (Nat.le_refl _) (by simp) (by simp)
  refine awp_regc ⟨95, [(0, .rk 0 0 n c), (1, .I k), (2, .vs 3 false [row]), (7, .I 1)], [(0, some ⟨3, R, 0⟩)], 72⟩ rfl ?_ ?_
  · simp
    exact Le.keep rfl (Nat.le_refl _) (by simp) (by simp)
  refine awp_seq ?_
  refine awp_regc ⟨95, [(0, .rk 0 0 n c), (1, .I k), (2, .vs 3 false [row]), (7, .I 1), (16, .B false)], [(0, some ⟨3, R, 0⟩)], 88⟩ rfl ?_ ?_
  · simp
    exact Le.keep rfl (Nat.le_refl _) (by simp) (by simp)
  refine awp_cond _ rfl (fun h => by cases h) fun _ => awp_skip ?_
  refine awp_regc ⟨95, [(0, .rk 0 0 n c), (1, .I k), (2, .vs 3 false [row]), (7, .I 1), (8, .I n)], [(0, some ⟨3, R, 0⟩)], 112⟩ rfl ?_ ?_
  · simp
    exact Le.keep rfl (Nat.le_refl _) (by simp) (by simp)
  refine awp_seq ?_
  refine awp_regc ⟨95, [(0, .rk 0 0 n c), (1, .I k), (2, .vs 3 false [row]), (7, .I 1), (8, .I n), (22, .B (decide (k = n)))], [(0, some ⟨3, R, 0⟩)], 136⟩ rfl ?_ ?_
  · simp
    exact Le.keep rfl (Nat.le_refl _) (by simp <;> rw [Bool.eq_iff_iff] <;> simp <;> omega) (by simp)
  refine awp_cond _ rfl (fun h => ?_) fun h => awp_skip ?_
  · -- at the end
    simp at h
    subst h
    have hT : R.take k = R := List.take_of_length_le (by omega)
    have hD : R.drop k = [] := List.drop_eq_nil_of_le (by omega)
    have hD1 : R.drop n1 = [] := List.drop_eq_nil_of_le (by omega)
    simp only [hT, hD] at fin hflat ⊢
    refine awp_regc ⟨95, [(6, .rs 16 0 n1)], [(16, some ⟨3, R ++ [row], 0⟩)], 24⟩ rfl ?_ (fin [] 0)
    simp [hn, ← hn1, hT, hD1]
    refine ⟨by omega, by omega, ?_⟩
    split
    · exact Le.mv1 0 16 rfl rfl (Nat.le_of_ble_eq_true rfl) (by omega) rfl (by simp only [convE, hflat]) (Nat.zero_le _) (by simp)
    · exact Le.mv1 152 16 rfl rfl (Nat.le_of_ble_eq_true rfl) (by omega) rfl (by simp only [convE, hflat]) (Nat.zero_le _) (by simp)
  simp at h
  have hkn : k < n := by omega
  refine awp_seq ?_
  refine awp_regc ⟨95, [(0, .rk 0 0 n c), (1, .I k), (2, .vs 3 false [row]), (7, .I 1), (8, .I n), (31, .B (decide (c < n1)))], [(0, some ⟨3, R, 0⟩)], 184⟩ rfl ?_ ?_
  · simp [hw1]
    exact Le.keep rfl (Nat.le_refl _) (by simp) (by simp)
  refine awp_cond _ rfl (fun h => ?_) fun h => awp_skip ?_
  · -- no room
    simp at h
    have hdn : n - k + 1 = d := by omega
    refine awp_regc ⟨95, [(0, .rk 0 0 n c), (1, .I k), (2, .vs 3 false [row]), (7, .I 1), (8, .I n), (9, .rs 248 0 n1)], [(0, some ⟨3, R, 0⟩), (248, some ⟨3, R.take k ++ List.replicate d [.I 0, .I 0, .I 0], 0⟩)], 264⟩ rfl ?_ ?_
    · have hkd : k + d = n1 := by omega
      simp [hw1, hw3, hkd]
      exact ⟨by omega, by omega, by omega, h, by omega, by omega, Le.keep rfl (Nat.le_refl _) (by simp) (by simp)⟩
    refine awp_regc ⟨95, [(0, .rk 0 0 n c), (1, .I k), (2, .vs 3 false [row]), (7, .I 1), (8, .I n), (9, .rs 248 0 n1)], [(0, some ⟨3, R, 0⟩), (248, some ⟨3, R.take k ++ row :: List.replicate (n - k) [.I 0, .I 0, .I 0], 0⟩)], 304⟩ rfl ?_ ?_
    · have hm : min 1 (n1 - k) = 1 := by omega
      have hl0 : (R.take k).length = k := by simp; omega
      have h1 : (R.take k ++ List.replicate d [AV.I 0, AV.I 0, AV.I 0]).take k = R.take k := by
        rw [List.take_append_of_le_length (by omega), List.take_take]
        congr 1; omega
      have h2 : (R.take k ++ List.replicate d [AV.I 0, AV.I 0, AV.I 0]).drop (k + 1) = List.replicate (n - k) [AV.I 0, AV.I 0, AV.I 0] := by
        rw [List.drop_append, hl0, List.drop_eq_nil_of_le (by omega), List.drop_replicate]
        simp
        omega
      simp [show k ≤ n1 by omega, hm]
      exact ⟨by omega, Le.keep rfl (Nat.le_refl _) (by simp) (by simp [h1, h2])⟩
    refine awp_dregc ⟨95, [(9, .rs 248 0 n1)], [(248, some ⟨3, R.take k ++ row :: R.drop k, 0⟩)], 376⟩ rfl ?_ ?_
    · have hl0 : (R.take k).length = k := by simp; omega
      have hx : List.take (n - k) (List.drop k R) = List.drop k R := List.take_of_length_le (by simp; omega)
      have hxl : (List.drop k R).length = n - k := by simp; omega
      have hm : min (n - k) (n1 - k1) = n - k := by omega
      have h1 : (R.take k ++ row :: List.replicate (n - k) [AV.I 0, AV.I 0, AV.I 0]).take k1 = R.take k ++ [row] := by
        rw [List.take_append, hl0, List.take_of_length_le (by omega), hk1, show k + 1 - k = 1 by omega]
        rfl
      have h2 : (R.take k ++ row :: List.replicate (n - k) [AV.I 0, AV.I 0, AV.I 0]).drop (k1 + (n - k)) = [] := List.drop_eq_nil_of_le (by simp; omega)
      simp [hw2]
      refine ⟨by omega, by omega, by omega, by omega, _, ⟨by omega, hx⟩, rfl, ?_⟩
      rw [hxl, hm, h1, h2, hx]
      exact Le.keep rfl (Nat.le_refl _) (by simp) (by simp)
    refine awp_regc ⟨95, [(6, .rs 16 0 n1)], [(16, some ⟨3, R.take k ++ row :: R.drop k, 0⟩)], 24⟩ rfl ?_ (fin [] 0)
    simp
    exact Le.mv1 248 16 rfl rfl (Nat.le_of_ble_eq_true rfl) (by omega) rfl (by simp only [convE, hflat]) (Nat.zero_le _) (by simp)
  -- room
  simp at h
  refine awp_regc ⟨95, [(0, .rk 0 0 n1 c), (1, .I k), (2, .vs 3 false [row]), (7, .I 1), (8, .I n)], [(0, some ⟨3, R, 0⟩)], 232⟩ rfl ?_ ?_
  · simp [hw1, h]
    exact Le.keep rfl (Nat.le_refl _) (by simp) (by simp)
  refine awp_seq ?_
  refine awp_regc ⟨95, [(0, .rk 0 0 n1 c), (1, .I k), (2, .vs 3 false [row]), (7, .I 1), (8, .I n), (68, .B true)], [(0, some ⟨3, R, 0⟩)], 296⟩ rfl ?_ ?_
  · simp [hw2, h, show k1 ≤ n1 by omega]
    exact Le.keep rfl (Nat.le_refl _) (by simp) (by simp)
  refine awp_cond _ rfl (fun _ => ?_) fun h => by cases h
  have hmin : min (n1 - k) (n1 - k1) = n - k := by omega
  have hRk : (R.drop k).take (n - k) = R.drop k := List.take_of_length_le (by simp; omega)
  refine awp_dregc ⟨95, [(0, .rk 0 0 n1 c), (1, .I k), (2, .vs 3 false [row]), (7, .I 1), (8, .I n)], [(0, some ⟨3, R.take k1 ++ R.drop k, 0⟩)], 368⟩ rfl ?_ ?_
  · simp [hw2, h, show k1 ≤ n1 by omega, show k ≤ n1 by omega, hmin, hn, show k + (n - k) ≤ n by omega, show k1 ≤ n by omega, hRk, Nat.min_eq_left (show n - k ≤ n1 - k by omega)]
    refine ⟨rfl, Le.keep rfl (Nat.le_refl _) (by simp) (by simp; omega)⟩
  refine awp_regc ⟨95, [(0, .rk 0 0 n1 c)], [(0, some ⟨3, R.take k ++ row :: R.drop k, 0⟩)], 408⟩ rfl ?_ ?_
  · have hm : min 1 (n1 - k) = 1 := by omega
    have h1 : (R.take k1 ++ R.drop k).take k = R.take k := by
      rw [List.take_append_of_le_length (by simp; omega), List.take_take]
      congr 1; omega
    have h2 : (R.take k1 ++ R.drop k).drop (k + 1) = R.drop k := by
      rw [← hk1, List.drop_append_of_le_length (by simp; omega)]
      rw [List.drop_eq_nil_of_le (by simp; omega)]; rfl
    simp [h, show k ≤ n1 by omega, hm, hn]
    exact ⟨by omega, Le.keep rfl (Nat.le_refl _) (by simp) (by simp [h1, h2])⟩
  refine awp_regc ⟨95, [(6, .rs 16 0 n1)], [(16, some ⟨3, R.take k ++ row :: R.drop k, 0⟩)], 24⟩ rfl ?_ (fin [] 0)
  simp
  exact Le.mv1 0 16 rfl rfl (Nat.le_of_ble_eq_true rfl) (by omega) rfl (by simp only [convE, hflat]) (Nat.zero_le _) (by simp)

set_option maxRecDepth 100000 in
theorem delE_ok (R : List (List AV)) (n k k1 : Nat) (hn : R.length = n) (hk : k < n) (hk1 : k1 = k + 1) (hR : Flat R) (hl : (n + 1) * 24 ≤ 140737488355328) :
    ACalls Try.prog nslices_Delete_Lapi_Edge_api_Edge [.rs 0 0 n, .I k, .I k1] [⟨3, R, 0⟩] (.rs 0 0 (n - 1)) [some ⟨3, R.take k ++ R.drop k1 ++ [[.I 0, .I 0, .I 0]], 0⟩] := by
  refine acalls_cap fun c hc => ?_
  refine sslices_Delete_Lapi_Edge_api_Edge.acalls (Nat.le_of_ble_eq_true rfl) (Nat.le_of_ble_eq_true rfl) (Nat.le_of_ble_eq_true rfl) ?_
  show awp _ 1 _ _ ⟨33, [(0, .rk 0 0 n c), (1, .I k), (2, .I k1)], [(0, some ⟨3, R, 0⟩)], 16⟩
  obtain ⟨nm, hnm⟩ : ∃ nm, nm = n - 1 := ⟨_, rfl⟩
  refine awp_regc ⟨33, [(0, .rk 0 0 n c), (1, .I k), (2, .I k1)], [(0, some ⟨3, R, 0⟩)], 24⟩ rfl ?_ ?_
  · simp
    exact Le.keep rfl (Nat.le_refl _) (by simp) (by simp)
  refine awp_regc ⟨33, [(0, .rk 0 0 n c), (1, .I k), (2, .I k1)], [(0, some ⟨3, R, 0⟩)], 72⟩ rfl ?_ ?_
  · simp
    exact ⟨by omega, by omega, by omega, Le.keep rfl (Nat.le_refl _) (by simp) (by simp)⟩
  refine awp_seq ?_
  refine awp_regc ⟨33, [(0, .rk 0 0 n c), (1, .I k), (2, .I k1), (16, .B false)], [(0, some ⟨3, R, 0⟩)], 96⟩ rfl ?_ ?_
  · simp
    exact Le.keep rfl (Nat.le_refl _) (by simp; omega) (by simp)
  refine awp_cond _ rfl (fun h => by cases h) fun _ => awp_skip ?_
  refine awp_regc ⟨33, [(0, .rk 0 0 n c), (1, .I k), (2, .I k1), (7, .I n)], [(0, some ⟨3, R, 0⟩)], 120⟩ rfl ?_ ?_
  · simp
    exact Le.keep rfl (Nat.le_refl _) (by simp) (by simp)
  have hx : List.take (n - k1) (List.drop k1 R) = List.drop k1 R := List.take_of_length_le (by simp; omega)
  have hxl : (List.drop k1 R).length = n - k1 := by simp; omega
  have hl0 : (R.take k).length = k := by simp; omega
  refine awp_dregc ⟨33, [(0, .rk 0 0 nm c), (7, .I n)], [(0, some ⟨3, R.take k ++ R.drop k1 ++ R.drop nm, 0⟩)], 184⟩ rfl ?_ ?_
  · simp
    have hkn : k + (n - k1) = nm := by omega
    refine ⟨by omega, by omega, by omega, _, ⟨by omega, hx⟩, by omega, ?_⟩
    rw [hxl, hkn]
    refine ⟨by omega, by omega, ?_⟩
    rw [if_pos (by omega)]
    exact ⟨rfl, Le.keep rfl (Nat.le_refl _) (by simp) (by simp)⟩
  have h1 : (R.take k ++ R.drop k1 ++ R.drop nm).take nm = R.take k ++ R.drop k1 := by
    rw [List.take_append_of_le_length (by simp; omega), List.take_of_length_le (by simp; omega)]
  refine awp_regc ⟨33, [(0, .rk 0 0 nm c)], [(0, some ⟨3, R.take k ++ R.drop k1 ++ [[.I 0, .I 0, .I 0]], 0⟩)], 232⟩ rfl ?_ ?_
  · rw [List.append_assoc] at h1
    have h2 : (R.take k ++ (R.drop k1 ++ R.drop nm)).drop (nm + (n - nm)) = [] := List.drop_eq_nil_of_le (by simp; omega)
    have h3 : n - nm = 1 := by omega
    simp
    refine ⟨by omega, by omega, by omega, ?_⟩
    rw [h1, h2, h3]
    exact Le.keep rfl (Nat.le_refl _) (by simp) (by simp [List.replicate])
  refine awp_seq ?_
  refine awp_run (s := ?s9) rfl ?o9 ?q9
  case o9 => simp; rfl
  refine awp_ret ?_
  refine ⟨.inr rfl, ⟨[.rk 0 0 nm c], rfl, [], [], by simp [List.range, List.range.loop], by simp, by simp, ?_, ?_⟩⟩
  · simp [List.range, List.range.loop, ← hnm]
  · have hflat : ∀ ρ sn h n, (R.take k ++ (R.drop k1 ++ [[AV.I 0, AV.I 0, AV.I 0]])).map (List.map (conv ρ sn h (n + 1))) = R.take k ++ R.drop k1 ++ [[AV.I 0, AV.I 0, AV.I 0]] := fun ρ sn h n => by
      have := hR ρ sn h n
      rw [List.map_append, List.map_append, List.map_take, List.map_drop, this]
      simp
    show [Option.map _ (some _)] = _
    rw [Option.map_some]
    unfold convE
    simp only [List.append_assoc, hflat]

end Go.Proofs.Ytnphfkceoklkkaa

/- A graph with an edge, and without one. -/
namespace Go.Proofs.Ytnphfkceoklkkaa
open Go

theorem flatE (l : List Ed) : Flat (l.map fun e => [AV.I e.f, AV.I e.t, AV.I e.v]) := by
  intro ρ sn h n
  simp [Function.comp_def]

theorem GrOk.lt {g : Gr} (h : GrOk g) : ∀ (j i : Nat) (hi : i < g.edges.length) (hj : j < g.edges.length), i < j → Bef g.edges[i] g.edges[j]
  | 0, _, _, _, h0 => by omega
  | j + 1, i, hi, hj, hij => by
    have h1 : Bef g.edges[j] g.edges[j + 1] := cmpE_lt.1 ((h.2 (j + 1) hj).2.2.2 (by omega))
    rcases Nat.lt_or_ge i j with h2 | h2
    · have h3 := GrOk.lt h j i hi (by omega) h2
      unfold Bef at *
      omega
    · obtain rfl : i = j := by omega
      exact h1

theorem GrOk.mono {g : Gr} (h : GrOk g) (e : Ed) : ∀ (i j : Nat) (hi : i < g.edges.length) (hj : j < g.edges.length), i ≤ j → Bef g.edges[j] e → Bef g.edges[i] e := by
  intro i j hi hj hij hb
  rcases Nat.lt_or_ge i j with h2 | h2
  · have h3 := h.lt j i hi hj h2
    unfold Bef at *
    omega
  · obtain rfl : i = j := by omega
    exact hb

theorem idxE_same (l : List Ed) (e : Ed) : idxE l e = idxE l ⟨e.f, e.t, 0⟩ := rfl

section
variable {P : Program} {np id : Nat} {h : Nat → Option Ent} {K : AV → List Nat → List (Nat × Option Ent) → Prop} {f : FuncId} {first capt args args' : List AV} {res : AV}
/-- A call that is handed one array to keep, and reads another. -/
theorem callM1s {i j : Nat} {e e' ej : Ent} {hs' : List (Option Ent)} (hij : j ≠ i) (hnp : np ≤ j) (hi : h i = some e) (hj : h j = some ej) (hee : convE [(i, 0)] [j] h 4 e = e') (hc : ACalls P f args' [e'] res hs') (h8 : hs'.length ≤ 9) (he : (first ++ args ++ capt).map (conv [(i, 0)] [j] h 4) = args')
    (hk : K (conv (swp [i] id) [] (fun _ => none) 4 res) [i, j] ((hs'.zipIdx.map fun (e, k) => ((i :: (List.range 8).map (id + ·)).getD k 0, e.map (convE (swp [i] id) [] (fun _ => none) 4))) ++ [(j, some { ej with ro := ej.rows.length })])) : aK P np id .call (.fn (.func f) first capt :: args) h K :=
  ⟨[i], [j], true, args', [e'], res, hs', by simp, by simpa using hij, by simpa using hnp, by rw [show [i].zipIdx = [(i, 0)] from rfl, he]; exact wkL_refl _, by rw [show [i].zipIdx = [(i, 0)] from rfl]; simpa [hi] using hee, hc, by simpa using h8, .inl rfl, by simpa [swp, hj] using hk⟩
end

open Classical in
set_option maxRecDepth 100000 in
theorem graph_With_ok (g : Gr) (e : Ed) (hl : g.edges.length * 24 ≤ 140737488355328) (hl2 : g.gone.length * 8 ≤ 140737488355328) : ACalls Try.prog ngraph_With [eG g, eE e] [] (.tup [eG (withR g e).1, .I (withR g e).2]) [] := by
  refine sgraph_With.acalls (Nat.le_of_ble_eq_true rfl) (Nat.le_of_ble_eq_true rfl) (Nat.le_refl _) ?_
  show awp _ 0 _ _ ⟨51, [(0, eG g), (1, eE e)], [], 16⟩
  refine awp_regc ⟨51, [(2, .pv (gC g)), (3, .pv (eC e)), (4, .pt 32 0 0)], [(32, some ⟨3, [[.I 0, .nilS, .nilS]], 0⟩)], 40⟩ rfl ?_ ?_
  · simp
    exact Le.var1 32 [16, 24] rfl rfl (Nat.le_of_ble_eq_true rfl) (by decide) rfl (by simp) (by simp) (by simp)
  refine awp_seq ?_
  refine awp_seq ?_
  refine awp_run (s := ?s1) rfl ?o1 ?q1
  case o1 => simp; refine call0e (graph_Check_ok g (by omega) (by omega)) rfl ?_; simp; rfl
  refine awp_cond _ rfl (fun h2 => ?_) fun h2 => ?_
  · have hg : ¬ GrOk g := by
      intro hg
      simp [hg] at h2
    refine awp_seq ?_
    refine awp_run (s := ?s3) rfl ?o3 ?q3
    case o3 => simp; rfl
    refine awp_ret ?_
    refine ⟨.inr rfl, ?_⟩
    show RetOk [(4, some (true, 3)), (5, none)] 0 _ _ _
    refine RetOk.out (vs := [.agg [.I 0, .nilS, .nilS], .I 14]) [] [] (by simp) (by simp) (by simp) ?_ (by simp)
    have hr : withR g e = (emptyG, 14) := by grind [withR]
    simp [hr, emptyG]
    exact wkT2 (wkA3 (.refl _) (.nil _ _) (.nil _ _)) (.refl _)
  have hg : GrOk g := by
    rcases Classical.em (GrOk g) with h | h
    · exact h
    · simp [h] at h2
  have h500 : g.edges.length ≤ 500 := hg.1.2.2.1
  refine awp_skip ?_
  refine awp_seq ?_
  refine awp_run (s := ?s4) rfl ?o4 ?q4
  case o4 => simp; refine call0e (BinarySearch_ok g.edges e (Nat.le_trans hg.1.2.2.1 (by omega)) (hg.mono e)) rfl ?_; simp [idxE_same]; rfl
  refine awp_seq ?_
  refine awp_block ?_
  refine awp_seq ?_
  refine awp_run (s := ?s5) rfl ?o5 ?q5
  case o5 => simp; refine call0e (graph_fits_ok g e hg.1.1 hg.1.2.1 (by omega)) rfl ?_; simp; rfl
  refine awp_cond _ rfl (fun h6 => ?_) fun h6 => ?_
  · try simp at h6
    refine awp_seq ?_
    refine awp_run (s := ?s7) rfl ?o7 ?q7
    case o7 => simp; rfl
    refine awp_ret ?_
    refine ⟨.inr rfl, ?_⟩
    show RetOk [(4, some (true, 3)), (5, none)] 0 _ _ _
    refine RetOk.out (vs := [.agg [.I 0, .nilS, .nilS], .I 4]) [] [] (by simp) (by simp) (by simp) ?_ (by simp)
    have hr : withR g e = (emptyG, 4) := by grind [withR]
    simp [hr, emptyG]
    exact wkT2 (wkA3 (.refl _) (.nil _ _) (.nil _ _)) (.refl _)
  try simp at h6
  refine awp_seq ?_
  refine awp_run (s := ?s8) rfl ?o8 ?q8
  case o8 => simp; refine call0e (lists_In_ok ..) rfl ?_; simp; rfl
  refine awp_cond _ rfl (fun h9 => ?_) fun h9 => ?_
  · try simp at h9
    refine awp_seq ?_
    refine awp_run (s := ?s10) rfl ?o10 ?q10
    case o10 => simp; rfl
    refine awp_ret ?_
    refine ⟨.inr rfl, ?_⟩
    show RetOk [(4, some (true, 3)), (5, none)] 0 _ _ _
    refine RetOk.out (vs := [.agg [.I 0, .nilS, .nilS], .I 2]) [] [] (by simp) (by simp) (by simp) ?_ (by simp)
    have hr : withR g e = (emptyG, 2) := by grind [withR]
    simp [hr, emptyG]
    exact wkT2 (wkA3 (.refl _) (.nil _ _) (.nil _ _)) (.refl _)
  try simp at h9
  refine awp_seq ?_
  refine awp_run (s := ?s11) rfl ?o11 ?q11
  case o11 => simp; rfl
  refine awp_cond _ rfl (fun h12 => ?_) fun h12 => ?_
  · try simp at h12
    refine awp_seq ?_
    refine awp_run (s := ?s13) rfl ?o13 ?q13
    case o13 => simp; rfl
    refine awp_ret ?_
    refine ⟨.inr rfl, ?_⟩
    show RetOk [(4, some (true, 3)), (5, none)] 0 _ _ _
    refine RetOk.out (vs := [.agg [.I 0, .nilS, .nilS], .I 19]) [] [] (by simp) (by simp) (by simp) ?_ (by simp)
    have hr : withR g e = (emptyG, 19) := by grind [withR]
    simp [hr, emptyG]
    exact wkT2 (wkA3 (.refl _) (.nil _ _) (.nil _ _)) (.refl _)
  try simp at h12
  refine awp_seq ?_
  refine awp_run (s := ?s14) rfl ?o14 ?q14
  case o14 => simp; rfl
  refine awp_cond _ rfl (fun h15 => ?_) fun h15 => ?_
  · try simp at h15
    refine awp_seq ?_
    refine awp_run (s := ?s16) rfl ?o16 ?q16
    case o16 => simp; rfl
    refine awp_ret ?_
    refine ⟨.inr rfl, ?_⟩
    show RetOk [(4, some (true, 3)), (5, none)] 0 _ _ _
    refine RetOk.out (vs := [.agg [.I 0, .nilS, .nilS], .I 3]) [] [] (by simp) (by simp) (by simp) ?_ (by simp)
    have hr : withR g e = (emptyG, 3) := by grind [withR]
    simp [hr, emptyG]
    exact wkT2 (wkA3 (.refl _) (.nil _ _) (.nil _ _)) (.refl _)
  try simp at h15
  refine awp_skip ?_
  refine awp_regc ⟨51, [(3, .pv (eC e)), (4, .pt 32 0 0), (6, .I (idxE g.edges ⟨e.f, e.t, 0⟩)), (8, .pt 288 0 0)], [(32, some ⟨3, [[.I 0, .nilS, .nilS]], 0⟩), (288, some ⟨3, [[.I g.size, .rs 280 0 g.edges.length, .rs 281 0 g.gone.length]], 0⟩), (280, some ⟨3, g.edges.map fun e : Ed => [AV.I e.f, AV.I e.t, AV.I e.v], 0⟩), (281, some ⟨1, g.gone.map fun n => [AV.I n], 0⟩)], 304⟩ rfl ?_ ?_
  · simp
    refine callN2 (graph_copied_ok g hl hl2) rfl ?_
    simp [Function.comp_def]
    exact Le.keep rfl (Nat.le_refl _) (by simp) (by simp)
  have hle := idxE_le g.edges ⟨e.f, e.t, 0⟩
  have hr : withR g e = (plusE g e, 0) := by grind [withR]
  rw [hr]
  unfold plusE
  have hk : ∃ k, k = idxE g.edges ⟨e.f, e.t, 0⟩ := ⟨_, rfl⟩
  obtain ⟨k, hk⟩ := hk
  rw [← hk] at hle ⊢
  obtain ⟨R, hR⟩ : ∃ R, R = g.edges.map fun e : Ed => [AV.I e.f, AV.I e.t, AV.I e.v] := ⟨_, rfl⟩
  rw [← hR]
  have hRl : R.length = g.edges.length := by simp [hR]
  have hRf : Flat R := by rw [hR]; exact flatE _
  obtain ⟨E, hE⟩ : ∃ E, E = g.edges.take k ++ e :: g.edges.drop k := ⟨_, rfl⟩
  have hEl : E.length = g.edges.length + 1 := by subst hE; simp; omega
  have hrows : R.take k ++ [AV.I e.f, AV.I e.t, AV.I e.v] :: R.drop k = E.map fun e : Ed => [AV.I e.f, AV.I e.t, AV.I e.v] := by subst hE hR; simp [List.map_take, List.map_drop]
  have hins := insE_ok R [AV.I e.f, AV.I e.t, AV.I e.v] g.edges.length k hRl hle hRf (flatE [e]) (by omega)
  rw [hrows, ← hEl] at hins
  rw [← hE]
  refine awp_regc ⟨51, [(4, .pt 32 0 0), (8, .pt 288 0 0)], [(32, some ⟨3, [[.I 0, .nilS, .nilS]], 0⟩), (288, some ⟨3, [[.I g.size, .rs 344 0 E.length, .rs 281 0 g.gone.length]], 0⟩), (344, some ⟨3, E.map fun e : Ed => [AV.I e.f, AV.I e.t, AV.I e.v], 0⟩), (281, some ⟨1, g.gone.map fun n => [AV.I n], 0⟩)], 368⟩ rfl ?_ ?_
  · simp
    refine callM1s (i := 280) (j := 336) (by decide) (Nat.zero_le _) rfl rfl ?_ hins (by simp) ?_ ?_
    · have := hRf [(280, 0)] [336]
      simp only [convE, this]
    · simp
    simp [Function.comp_def]
    exact Le.keep rfl (Nat.le_refl _) (by simp) (by simp)
  refine awp_seq ?_
  refine awp_run (s := ?s21) rfl ?o21 ?q21
  case o21 => simp; rfl
  refine awp_ret ?_
  refine ⟨.inr rfl, ?_⟩
  show RetOk [(4, some (true, 3)), (5, none)] 0 _ _ _
  refine RetOk.out (vs := [.agg [.I g.size, .rs 344 0 E.length, .rs 281 0 g.gone.length], .I 0]) [] [344, 281] (by simp) (by simp) (by simp) ?_ (by simp)
  simp [Function.comp_def, take_map_len]

end Go.Proofs.Ytnphfkceoklkkaa

/- A graph without an edge. -/
namespace Go.Proofs.Ytnphfkceoklkkaa
open Go

open Classical in
set_option maxRecDepth 100000 in
theorem graph_Without_ok (g : Gr) (f t : Int) (hl : g.edges.length * 24 ≤ 140737488355328) (hl2 : g.gone.length * 8 ≤ 140737488355328) : ACalls Try.prog ngraph_Without [eG g, .I f, .I t] [] (.tup [eG (withoutR g f t).1, .I (withoutR g f t).2]) [] := by
  refine sgraph_Without.acalls (Nat.le_of_ble_eq_true rfl) (Nat.le_of_ble_eq_true rfl) (Nat.le_refl _) ?_
  show awp _ 0 _ _ ⟨37, [(0, eG g), (1, .I f), (2, .I t)], [], 16⟩
  refine awp_regc ⟨37, [(1, .I f), (2, .I t), (3, .pv (gC g)), (6, .pt 24 0 0)], [(24, some ⟨3, [[.I 0, .nilS, .nilS]], 0⟩)], 32⟩ rfl ?_ ?_
  · simp
    exact Le.var1 24 [16] rfl rfl (Nat.le_of_ble_eq_true rfl) (by decide) rfl (by simp) (by simp) (by simp)
  refine awp_seq ?_
  refine awp_seq ?_
  refine awp_run (s := ?s1) rfl ?o1 ?q1
  case o1 => simp; refine call0e (graph_Check_ok g (by omega) (by omega)) rfl ?_; simp; rfl
  refine awp_cond _ rfl (fun h2 => ?_) fun h2 => ?_
  · have hg : ¬ GrOk g := by
      intro hg
      simp [hg] at h2
    refine awp_seq ?_
    refine awp_run (s := ?s3) rfl ?o3 ?q3
    case o3 => simp; rfl
    refine awp_ret ?_
    refine ⟨.inr rfl, ?_⟩
    show RetOk [(6, some (true, 3)), (7, none)] 0 _ _ _
    refine RetOk.out (vs := [.agg [.I 0, .nilS, .nilS], .I 14]) [] [] (by simp) (by simp) (by simp) ?_ (by simp)
    have hr : withoutR g f t = (emptyG, 14) := by grind [withoutR]
    simp [hr, emptyG]
    exact wkT2 (wkA3 (.refl _) (.nil _ _) (.nil _ _)) (.refl _)
  have hg : GrOk g := by
    rcases Classical.em (GrOk g) with h | h
    · exact h
    · simp [h] at h2
  have h500 : g.edges.length ≤ 500 := hg.1.2.2.1
  refine awp_skip ?_
  refine awp_seq ?_
  refine awp_run (s := ?s4) rfl ?o4 ?q4
  case o4 => simp; refine call0e (BinarySearch_ok g.edges ⟨f, t, 0⟩ (Nat.le_trans hg.1.2.2.1 (by omega)) (hg.mono _)) rfl ?_; simp; rfl
  refine awp_seq ?_
  refine awp_seq ?_
  refine awp_run (s := ?s5) rfl ?o5 ?q5
  case o5 => simp; rfl
  refine awp_cond _ rfl (fun h6 => ?_) fun h6 => ?_
  · try simp at h6
    refine awp_seq ?_
    refine awp_run (s := ?s7) rfl ?o7 ?q7
    case o7 => simp; rfl
    refine awp_ret ?_
    refine ⟨.inr rfl, ?_⟩
    show RetOk [(6, some (true, 3)), (7, none)] 0 _ _ _
    refine RetOk.out (vs := [.agg [.I 0, .nilS, .nilS], .I 19]) [] [] (by simp) (by simp) (by simp) ?_ (by simp)
    have hr : withoutR g f t = (emptyG, 19) := by grind [withoutR]
    simp [hr, emptyG]
    exact wkT2 (wkA3 (.refl _) (.nil _ _) (.nil _ _)) (.refl _)
  try simp at h6
  refine awp_skip ?_
  refine awp_regc ⟨37, [(6, .pt 24 0 0), (8, .I (idxE g.edges ⟨f, t, 0⟩)), (10, .pt 176 0 0)], [(24, some ⟨3, [[.I 0, .nilS, .nilS]], 0⟩), (176, some ⟨3, [[.I g.size, .rs 168 0 g.edges.length, .rs 169 0 g.gone.length]], 0⟩), (168, some ⟨3, g.edges.map fun e : Ed => [AV.I e.f, AV.I e.t, AV.I e.v], 0⟩), (169, some ⟨1, g.gone.map fun n => [AV.I n], 0⟩)], 192⟩ rfl ?_ ?_
  · simp
    refine callN2 (graph_copied_ok g hl hl2) rfl ?_
    simp [Function.comp_def]
    exact Le.keep rfl (Nat.le_refl _) (by simp) (by simp)
  have hr : withoutR g f t = (minusE g f t, 0) := by grind [withoutR]
  rw [hr]
  unfold minusE
  have hlt : idxE g.edges ⟨f, t, 0⟩ < g.edges.length := h6.1
  have hk : ∃ k, k = idxE g.edges ⟨f, t, 0⟩ := ⟨_, rfl⟩
  obtain ⟨k, hk⟩ := hk
  rw [← hk] at hlt ⊢
  obtain ⟨k1, hk1⟩ : ∃ k1, k1 = k + 1 := ⟨_, rfl⟩
  have hw : IntKind.i64.wrap ((k : Int) + 1) = (k1 : Int) := by rw [w64 (by omega) (by omega)]; omega
  obtain ⟨R, hR⟩ : ∃ R, R = g.edges.map fun e : Ed => [AV.I e.f, AV.I e.t, AV.I e.v] := ⟨_, rfl⟩
  rw [← hR]
  have hRl : R.length = g.edges.length := by simp [hR]
  have hRf : Flat R := by rw [hR]; exact flatE _
  obtain ⟨E, hE⟩ : ∃ E, E = g.edges.take k ++ g.edges.drop k1 := ⟨_, rfl⟩
  have hEl : E.length = g.edges.length - 1 := by subst hE; simp; omega
  have hrows : R.take k ++ R.drop k1 = E.map fun e : Ed => [AV.I e.f, AV.I e.t, AV.I e.v] := by subst hE hR; simp [List.map_take, List.map_drop]
  have hins := delE_ok R g.edges.length k k1 hRl hlt hk1 hRf (by omega)
  rw [hrows, ← hEl] at hins
  rw [← hk1, ← hE]
  refine awp_regc ⟨37, [(6, .pt 24 0 0), (10, .pt 176 0 0)], [(24, some ⟨3, [[.I 0, .nilS, .nilS]], 0⟩), (176, some ⟨3, [[.I g.size, .rs 168 0 E.length, .rs 169 0 g.gone.length]], 0⟩), (168, some ⟨3, (E.map fun e : Ed => [AV.I e.f, AV.I e.t, AV.I e.v]) ++ [[.I 0, .I 0, .I 0]], 0⟩), (169, some ⟨1, g.gone.map fun n => [AV.I n], 0⟩)], 256⟩ rfl ?_ ?_
  · simp [hw]
    refine callM1 (i := 168) rfl ?_ hins (by simp) ?_ ?_
    · have := hRf [(168, 0)] []
      simp only [convE, this]
    · simp
    simp [Function.comp_def]
    exact Le.keep rfl (Nat.le_refl _) (by simp) (by simp)
  refine awp_seq ?_
  refine awp_run (s := ?s21) rfl ?o21 ?q21
  case o21 => simp; rfl
  refine awp_ret ?_
  refine ⟨.inr rfl, ?_⟩
  show RetOk [(6, some (true, 3)), (7, none)] 0 _ _ _
  refine RetOk.out (vs := [.agg [.I g.size, .rs 168 0 E.length, .rs 169 0 g.gone.length], .I 0]) [] [168, 169] (by simp) (by simp) (by simp) ?_ (by simp)
  simp [Function.comp_def, take_map_len]

end Go.Proofs.Ytnphfkceoklkkaa

/- The law of graphs: its helpers. -/
namespace Go.Proofs.Ytnphfkceoklkkaa
open Go

theorem EqG.rfl' (a : Gr) : EqG a a := ⟨rfl, rfl, rfl⟩

theorem law11_same_ok (a b : Gr) (e f : Int) (hl : a.edges.length ≤ 140737488355328) (hl2 : a.gone.length ≤ 140737488355328) : ACalls Try.prog nlaw11_same [eG a, eG b, .I e, .I f] [] (.B (decide (e = f ∧ EqG a b))) [] := by
  refine slaw11_same.acalls (Nat.le_of_ble_eq_true rfl) (Nat.le_of_ble_eq_true rfl) (Nat.le_refl _) ?_
  show awp _ 0 _ _ ⟨17, [(0, eG a), (1, eG b), (2, .I e), (3, .I f)], [], 16⟩
  refine awp_regc ⟨17, [(2, .I e), (3, .I f), (4, .pv (gC a)), (5, .pv (gC b))], [], 16⟩ rfl ?_ ?_
  · simp
    exact Le.snap [16, 24] rfl rfl (by simp)
  refine awp_regc ⟨17, [(8, .B (decide (e = f ∧ EqG a b)))], [], 16⟩ rfl ?_ ?_
  · simp
    repeat' first
      | (refine callf nref11_Same rfl ?_; refine call0e (ref11_Same_ok a b hl hl2) rfl ?_; simp)
      | (refine gcase (fun hb => ?_) (fun hb => ?_) <;> (try rw [hb]) <;> (try simp at hb) <;> simp [*])
    all_goals exact Le.snap [] rfl rfl (by simp <;> exact wkB (by (try simp at *); grind))
  refine awp_ret ?_
  exact ⟨.inr rfl, RetOk.one (by simp)⟩

theorem withR_le (g : Gr) (e : Ed) (h : g.edges.length * 24 ≤ 140737488355000) (h2 : g.gone.length ≤ 140737488355328) : (withR g e).1.edges.length ≤ 140737488355328 ∧ (withR g e).1.gone.length ≤ 140737488355328 := by
  unfold withR
  repeat' split
  all_goals (simp [emptyG, plusE] <;> omega)

theorem withoutR_le (g : Gr) (f t : Int) (h : g.edges.length * 24 ≤ 140737488355000) (h2 : g.gone.length ≤ 140737488355328) : (withoutR g f t).1.edges.length ≤ 140737488355328 ∧ (withoutR g f t).1.gone.length ≤ 140737488355328 := by
  unfold withoutR
  repeat' split
  all_goals (simp [emptyG, minusE] <;> omega)

open Classical in
set_option maxRecDepth 100000 in
theorem law11_agree_ok (g : Gr) (x : Ed) (hl : g.edges.length * 24 ≤ 140737488355000) (hl2 : g.gone.length * 8 ≤ 140737488355328) : ACalls Try.prog nlaw11_agree [eG g, eE x] [] (.B true) [] := by
  refine slaw11_agree.acalls (Nat.le_of_ble_eq_true rfl) (Nat.le_of_ble_eq_true rfl) (Nat.le_refl _) ?_
  show awp _ 0 _ _ ⟨62, [(0, eG g), (1, eE x)], [], 16⟩
  have hw := withR_le g x hl (by omega)
  have hv := withoutR_le g x.f x.t hl (by omega)
  refine awp_regc ⟨62, [(2, .pv (gC g)), (3, .pv (eC x))], [], 16⟩ rfl ?_ ?_
  · simp
    exact Le.snap [16, 24] rfl rfl (by simp)
  refine awp_regc ⟨62, [(2, .pv (gC g)), (3, .pv (eC x)), (5, .pv (gC (withR g x).1)), (6, .I (withR g x).2)], [], 16⟩ rfl ?_ ?_
  · simp
    repeat' first
      | (refine callf ngraph_With rfl ?_; refine call0e (graph_With_ok g x (by omega) hl2) rfl ?_; simp)
    all_goals exact Le.snap [64] rfl rfl (by simp)
  refine awp_regc ⟨62, [(2, .pv (gC g)), (3, .pv (eC x)), (5, .pv (gC (withR g x).1)), (6, .I (withR g x).2), (7, .pv (gC (withR g x).1)), (8, .I (withR g x).2)], [], 16⟩ rfl ?_ ?_
  · simp
    repeat' first
      | (refine callf nref11_With rfl ?_; refine call0e (ref11_With_ok g x (by omega) hl2) rfl ?_; simp)
    all_goals exact Le.snap [64] rfl rfl (by simp)
  refine awp_regc ⟨62, [(2, .pv (gC g)), (3, .pv (eC x)), (5, .pv (gC (withR g x).1)), (6, .I (withR g x).2), (7, .pv (gC (withR g x).1)), (8, .I (withR g x).2), (9, .pv (gC (withoutR g x.f x.t).1)), (10, .I (withoutR g x.f x.t).2)], [], 16⟩ rfl ?_ ?_
  · simp
    repeat' first
      | (refine callf ngraph_Without rfl ?_; refine call0e (graph_Without_ok g x.f x.t (by omega) hl2) rfl ?_; simp)
    all_goals exact Le.snap [88] rfl rfl (by simp)
  refine awp_regc ⟨62, [(2, .pv (gC g)), (5, .pv (gC (withR g x).1)), (6, .I (withR g x).2), (7, .pv (gC (withR g x).1)), (8, .I (withR g x).2), (9, .pv (gC (withoutR g x.f x.t).1)), (10, .I (withoutR g x.f x.t).2), (11, .pv (gC (withoutR g x.f x.t).1)), (12, .I (withoutR g x.f x.t).2)], [], 16⟩ rfl ?_ ?_
  · simp
    repeat' first
      | (refine callf nref11_Without rfl ?_; refine call0e (ref11_Without_ok g x.f x.t (by omega) hl2) rfl ?_; simp)
    all_goals exact Le.snap [88] rfl rfl (by simp)
  refine awp_dregc ⟨62, [(4, .B true)], [], 16⟩ rfl ?_ ?_
  · simp
    repeat' first
      | (refine callf ngraph_Check rfl ?_; refine call0e (graph_Check_ok g (by omega) (by omega)) rfl ?_; simp)
      | (refine callf nref11_Check rfl ?_; refine call0e (ref11_Check_ok g (by omega) (by omega)) rfl ?_; simp)
      | (refine callf nlaw11_same rfl ?_; refine call0e (law11_same_ok _ _ _ _ (by first | exact hw.1 | exact hv.1) (by first | exact hw.2 | exact hv.2)) rfl ?_; simp)
      | (refine gcase (fun hb => ?_) (fun hb => ?_) <;> (try rw [hb]) <;> (try simp at hb) <;> simp [*])
    all_goals exact ⟨rfl, Le.snap [] rfl rfl (by simp <;> exact wkB (by (try simp at *); grind [EqG]))⟩
  refine awp_ret ?_
  exact ⟨.inr rfl, RetOk.one (by simp)⟩

abbrev gA : Gr := ⟨3, [⟨0, 2, 2⟩], []⟩
abbrev gN : Gr := ⟨3, [], []⟩

theorem gN_ok : GrOk gN := by
  refine ⟨⟨by decide, by decide, by decide, fun i h => absurd h (by simp)⟩, fun i h => absurd h (by simp)⟩

theorem gA_ok : GrOk gA := by
  refine ⟨⟨by decide, by decide, by decide, fun i h => absurd h (by simp)⟩, fun i h => ?_⟩
  obtain rfl : i = 0 := by simpa using h
  refine ⟨?_, ?_, ?_, fun h => by omega⟩
  · show Fits gA ⟨0, 2, 2⟩
    decide
  · show (1 : Int) ≤ 2
    decide
  · show (2 : Int) ≤ 3
    decide

theorem g65_bad : ¬ GrOk ⟨65, [], []⟩ := fun h => by have := h.1.2.1; simp at this

theorem withR_N : withR gN ⟨0, 2, 2⟩ = (gA, 0) := by
  have h1 : Fits gN ⟨0, 2, 2⟩ := by decide
  have h2 : ¬ AtE gN.edges (idxE gN.edges ⟨0, 2, 0⟩) 0 2 := by decide
  have h3 : plusE gN ⟨0, 2, 2⟩ = gA := rfl
  unfold withR
  simp only [gN_ok, h1, not_true_eq_false, if_false, h3]
  rw [if_neg (by decide), if_neg (by simpa using h2), if_neg (by decide)]

theorem withoutR_A : withoutR gA 0 2 = (gN, 0) := by
  have h2 : AtE gA.edges (idxE gA.edges ⟨0, 2, 0⟩) 0 2 := by decide
  have h3 : minusE gA 0 2 = gN := rfl
  unfold withoutR
  simp only [gA_ok, h2, not_true_eq_false, if_false, h3]

open Classical in
set_option maxRecDepth 100000 in
theorem law11_awake_ok : ACalls Try.prog nlaw11_awake [] [] (.B true) [] := by
  refine slaw11_awake.acalls (Nat.le_of_ble_eq_true rfl) (Nat.le_of_ble_eq_true rfl) (Nat.le_refl _) ?_
  show awp _ 0 _ _ ⟨64, [], [], 16⟩
  refine awp_seq ?_
  refine awp_run (s := ?s1) rfl ?o1 ?q1
  case o1 => simp; rfl
  refine awp_regc ⟨64, [(1, .pv (gC gA)), (2, .I 0)], [], 16⟩ rfl ?_ ?_
  · simp
    repeat' first
      | (refine callf ngraph_With rfl ?_; refine call0 (graph_With_ok gN ⟨0, 2, 2⟩ (by simp) (by simp)) (by simp; exact wkA3 (.refl _) (.nil _ _) (.nil _ _)) ?_; simp [withR_N])
    all_goals exact Le.snap [72] rfl rfl (by simp; exact .refl _)
  refine awp_regc ⟨64, [(1, .pv (gC gA)), (2, .I 0), (3, .pv (gC gN)), (4, .I 0)], [], 16⟩ rfl ?_ ?_
  · simp
    repeat' first
      | (refine callf ngraph_Without rfl ?_; refine call0e (graph_Without_ok gA 0 2 (by simp) (by simp)) rfl ?_; simp [withoutR_A])
    all_goals exact Le.snap [56] rfl rfl (by simp; exact .refl _)
  have hO : outs [⟨0, 2, 2⟩] 0 = [2] := rfl
  have hI : inns [⟨0, 2, 2⟩] 2 = [0] := rfl
  refine awp_regc ⟨64, [(1, .pv (gC gA)), (2, .I 0), (3, .pv (gC gN)), (4, .I 0), (5, .vs 1 false [[.I 2]])], [], 16⟩ rfl ?_ ?_
  · simp
    refine callN1 (graph_Out_ok gA 0 (by simp)) rfl ?_
    simp [hO]
    exact Le.snap [24] rfl rfl (by simp)
  refine awp_regc ⟨64, [(0, .B true)], [], 16⟩ rfl ?_ ?_
  · simp
    repeat' first
      | (refine callf ngraph_Check rfl ?_; refine call0e (graph_Check_ok gA (by simp) (by simp)) rfl ?_; simp [gA_ok])
      | (refine callf ngraph_Check rfl ?_; refine call0 (graph_Check_ok ⟨65, [], []⟩ (by simp) (by simp)) (by simp; exact wkA3 (.refl _) (.nil _ _) (.nil _ _)) ?_; simp [g65_bad])
      | (refine callf ngraph_In rfl ?_; refine callN1 (graph_In_ok gA 2 (by simp)) rfl ?_; simp [hI])
      | (refine gcase (fun hb => ?_) (fun hb => ?_) <;> (try rw [hb]) <;> (try simp at hb) <;> simp [*])
    all_goals exact Le.snap [] rfl rfl (by simp <;> exact wkB (by (try simp at *); grind))
  refine awp_ret ?_
  exact ⟨.inr rfl, RetOk.one (by simp)⟩

end Go.Proofs.Ytnphfkceoklkkaa

/- The law of graphs, raw. -/
namespace Go.Proofs.Ytnphfkceoklkkaa
open Go

def Big (g o : Gr) : Prop := 60 < g.edges.length ∨ 100 < g.gone.length ∨ 60 < o.edges.length ∨ 100 < o.gone.length
instance (g o : Gr) : Decidable (Big g o) := by unfold Big; infer_instance

set_option maxRecDepth 100000 in
theorem law11_GraphRaw_ok (g o : Gr) (x : Ed) : ACalls Try.prog nlaw11_GraphRaw [eG g, eE x, eG o] [] (.B true) [] := by
  refine slaw11_GraphRaw.acalls (Nat.le_of_ble_eq_true rfl) (Nat.le_of_ble_eq_true rfl) (Nat.le_refl _) ?_
  show awp _ 0 _ _ ⟨50, [(0, eG g), (1, eE x), (2, eG o)], [], 16⟩
  refine awp_regc ⟨50, [(3, .pv (gC g)), (4, .pv (eC x)), (5, .pv (gC o))], [], 16⟩ rfl ?_ ?_
  · simp
    exact Le.snap [16, 24, 32] rfl rfl (by simp)
  refine awp_seq ?_
  refine awp_regc ⟨50, [(3, .pv (gC g)), (4, .pv (eC x)), (5, .pv (gC o)), (28, .B (decide (Big g o)))], [], 16⟩ rfl ?_ ?_
  · simp
    repeat' first
      | (refine gcase (fun hb => ?_) (fun hb => ?_) <;> (try rw [hb]) <;> (try simp at hb) <;> simp [*])
    all_goals exact Le.snap [] rfl rfl (by simp <;> exact wkB (by (try simp at *); grind [Big, EqG]))
  refine awp_cond _ rfl (fun h1 => ?_) fun h1 => ?_
  · try simp at h1
    refine awp_seq ?_
    refine awp_run (s := ?s2) rfl ?o2 ?q2
    case o2 => simp; refine call0e (law11_awake_ok) rfl ?_; simp; rfl
    refine awp_ret ?_
    exact ⟨.inr rfl, RetOk.one (by simp)⟩
  try simp at h1
  refine awp_skip ?_
  have hb : ¬ Big g o := by simpa using h1
  unfold Big at hb
  refine awp_dregc ⟨50, [(6, .B true)], [], 16⟩ rfl ?_ ?_
  · simp
    repeat' first
      | (refine callf nlaw11_awake rfl ?_; refine call0e (law11_awake_ok) rfl ?_; simp)
      | (refine callf nlaw11_agree rfl ?_; refine call0e (law11_agree_ok g x (by omega) (by omega)) rfl ?_; simp)
      | (refine callf ngraph_Same rfl ?_; refine call0e (graph_Same_ok g _ (by omega) (by omega)) rfl ?_; simp)
      | (refine callf nref11_Same rfl ?_; refine call0e (ref11_Same_ok g o (by omega) (by omega)) rfl ?_; simp)
      | (refine gcase (fun hb => ?_) (fun hb => ?_) <;> (try rw [hb]) <;> (try simp at hb) <;> simp [*])
    all_goals exact ⟨rfl, Le.snap [] rfl rfl (by simp <;> exact wkB (by (try simp at *); grind [Big, EqG]))⟩
  refine awp_ret ?_
  exact ⟨.inr rfl, RetOk.one (by simp)⟩

end Go.Proofs.Ytnphfkceoklkkaa
