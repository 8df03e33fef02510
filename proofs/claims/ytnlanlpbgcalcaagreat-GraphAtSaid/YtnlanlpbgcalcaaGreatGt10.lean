/- Texts of this claim, merged. -/
import Derived.Test.YtnlanlpbgcalcaaGreatGt9
set_option linter.unusedSimpArgs false
set_option linter.unusedVariables false
set_option linter.unusedSectionVars false
namespace Go.Proofs.YtnlanlpbgcalcaaGreat
open Go
abbrev rwI (l : List Int) : List (List AV) := l.map fun n => [AV.I n]
theorem rwI_flat (l : List Int) (ρ sn h m) : (rwI l).map (List.map (conv ρ sn h (m + 1))) = rwI l := by simp [Function.comp_def]
theorem Le.N1 {st st' : St} {z : Nat} {X : List (List AV)} (hflat : ∀ ρ sn h m, X.map (List.map (conv ρ sn h (m + 1))) = X) (hsz : st'.sz = st.sz) (hn : 1 ≤ st'.n) (hh : st'.h = [(0, some ⟨z, X, 0⟩)]) (he : st.hp 0 = some ⟨z, X, 0⟩) (ht : ∀ p ∈ st'.t, Wk (conv [(0, 0)] [] st.hp 4 (st.get p.1)) p.2) : Le 1 st st' :=
  Le.ents [(0, 0)] [] hsz (by simp) (by simp) (by simp; omega) (by simp) hn ht (fun p hp => by
    rw [hh] at hp
    simp at hp
    subst hp
    exact ⟨0, _, _, rfl, by simp, he, EntUp.eq (by simp only [convE, hflat]) (by simp)⟩)
set_option maxHeartbeats 1000000 in
set_option maxRecDepth 100000 in
theorem Compact_asc (z : List Int) (n : Nat) (hn : z.length = n) (hl : n ≤ 1000000) (hz : z.Pairwise (· < ·)) : ACalls Tryz.prog nslices_Compact_Lint_int [.rs 0 0 n] [⟨1, rwI z, 0⟩] (.rs 0 0 n) [some ⟨1, rwI z, 0⟩] := by
  refine sslices_Compact_Lint_int.acalls (Nat.le_of_ble_eq_true rfl) (Nat.le_of_ble_eq_true rfl) (Nat.le_of_ble_eq_true rfl) ?_
  show awp _ 1 _ _ ⟨61, [(0, .rs 0 0 n)], [(0, some ⟨1, rwI z, 0⟩)], 16⟩
  have hlt : ∀ i, (h : i + 1 < n) → ∃ a b : Int, (rwI z)[i]? = some [AV.I a] ∧ (rwI z)[i + 1]? = some [AV.I b] ∧ a < b := fun i h => by
    refine ⟨z[i], z[i + 1], ?_, ?_, List.pairwise_iff_getElem.1 hz i (i + 1) _ _ (by omega)⟩
    · rw [rwI, List.getElem?_map, List.getElem?_eq_getElem (by omega)]; rfl
    · rw [rwI, List.getElem?_map, List.getElem?_eq_getElem (by omega)]; rfl
  have hXf := rwI_flat z
  have hXl : (rwI z).length = n := by rw [rwI, List.length_map, hn]
  generalize rwI z = X at *
  refine awp_regc ⟨61, [(0, .rs 0 0 n)], [(0, some ⟨1, X, 0⟩)], 24⟩ rfl ?_ ?_
  · simp
    exact Le.keep rfl (Nat.le_refl _) (by simp) (by simp)
  refine awp_seq ?_
  refine awp_regc ⟨61, [(0, .rs 0 0 n), (8, .B (decide (n < 2)))], [(0, some ⟨1, X, 0⟩)], 48⟩ rfl ?_ ?_
  · simp
    exact Le.keep rfl (Nat.le_refl _) (by simp <;> omega) (by simp)
  refine awp_cond _ rfl (fun h => ?_) fun h => awp_skip ?_
  · refine awp_seq ?_
    refine awp_run (s := ?s1) rfl ?o1 ?q1
    case o1 => simp; rfl
    refine awp_ret ?_
    exact ⟨.inr rfl, RetOk.k1 rfl (by simp) (by simp [hXf])⟩
  simp only [decide_eq_false_iff_not] at h
  refine awp_seq ?_
  refine awp_seq ?_
  refine awp_run (s := ?s2) rfl ?o2 ?q2
  case o2 => simp; rfl
  refine awp_block ?_
  refine awp_loop (ι := Nat) (fun k => ⟨61, [(0, .rs 0 0 n), (3, .I (k + 1 : Nat))], [(0, some ⟨1, X, 0⟩)], 56⟩) (fun k => k + 1 ≤ n) (fun k => n - k) 0 (by omega) ?_ ?_
  · exact Le.N1 hXf rfl (by simp) rfl rfl (by simp)
  intro k hk
  obtain ⟨q, hq⟩ : ∃ q, q = k + 1 := ⟨_, rfl⟩
  rw [← hq]
  refine awp_seq ?_
  refine awp_regc ⟨61, [(0, .rs 0 0 n), (3, .I q), (13, .B (decide (q < n)))], [(0, some ⟨1, X, 0⟩)], 88⟩ rfl ?_ ?_
  · simp
    exact Le.keep rfl (Nat.le_refl _) (by simp) (by simp)
  refine awp_cond _ rfl (fun h2 => awp_skip ?_) fun h2 => awp_exit (hit ?_)
  · simp only [decide_eq_true_eq] at h2
    obtain ⟨a, b, h3, h4, h5⟩ := hlt k (by omega)
    rw [← hq] at h4
    have hwq : IntKind.i64.wrap ((q : Int) - 1) = (k : Int) := by rw [w64 (by omega) (by omega)]; omega
    have hwk : IntKind.i64.wrap ((q : Int) + 1) = ((k + 1 + 1 : Nat) : Int) := by rw [w64 (by omega) (by omega)]; omega
    have hne : (b == a) = false := by simp; omega
    have hkn : k < n := by omega
    refine awp_cut (ι := Unit) (fun _ => ⟨61, [(0, .rs 0 0 n), (3, .I q)], [(0, some ⟨1, X, 0⟩)], 168⟩) (fun _ => True) ?_ fun _ _ => ?_
    · refine awp_block ?_
      refine awp_dregc ⟨61, [(0, .rs 0 0 n), (3, .I q), (25, .B false)], [(0, some ⟨1, X, 0⟩)], 168⟩ rfl ?_ ?_
      · simp [hwq, h2, hkn, h3, h4, hne]
        exact ⟨rfl, Le.keep rfl (Nat.le_refl _) (by simp) (by simp)⟩
      refine awp_cond _ rfl (fun h => by cases h) fun _ => awp_skip ?_
      exact ⟨(), trivial, Le.keep rfl (by simp) (by simp) (by simp)⟩
    refine awp_reg rfl ?_
    simp [hwk]
    exact ⟨k + 1, by omega, by omega, Le.N1 hXf rfl (by simp) rfl rfl (by simp)⟩
  refine awp_seq ?_
  refine awp_run (s := ?s9) rfl ?o9 ?q9
  case o9 => simp; rfl
  refine awp_ret ?_
  exact ⟨.inr rfl, RetOk.k1 rfl (by simp) (by simp [hXf])⟩
def GoneP (t : Int) (s : Stm) : Prop := s.ki = 3 ∧ s.ti ≤ t
instance (t : Int) (s : Stm) : Decidable (GoneP t s) := by unfold GoneP; infer_instance
def goneR (l : List Stm) (t : Int) : List Int := (l.filter fun s => decide (GoneP t s)).map (·.au)
theorem goneR_succ (l : List Stm) (t : Int) (i : Nat) (h : i < l.length) : goneR (l.take (i + 1)) t = goneR (l.take i) t ++ if GoneP t l[i] then [l[i].au] else [] := by
  unfold goneR
  rw [List.take_succ_eq_append_getElem h, List.filter_append, List.map_append]
  congr 1
  by_cases hk : GoneP t l[i]
  · rw [if_pos hk]
    simp [hk]
  · rw [if_neg hk]
    simp [hk]
theorem goneR_le (l : List Stm) (t : Int) : (goneR l t).length ≤ l.length := by
  unfold goneR
  rw [List.length_map]
  exact List.length_filter_le _ _
theorem sorted_asc {z : List Int} (hz : z.Pairwise (· < ·)) : (z.mergeSort fun x y => decide (x ≤ y)) = z :=
  List.mergeSort_of_pairwise (hz.imp fun h => by simp; omega)
set_option maxHeartbeats 1000000 in
set_option maxRecDepth 100000 in
theorem vouch_Gone_ok (l : List Stm) (t : Int) (hl : l.length ≤ 100000) (hz : (goneR l t).Pairwise (· < ·)) : ACalls Tryz.prog nvouch_Gone [sts l, .I t] [] (.rs 0 0 (goneR l t).length) [some ⟨1, rwI (goneR l t), 0⟩] := by
  refine svouch_Gone.acalls (Nat.le_of_ble_eq_true rfl) (Nat.le_of_ble_eq_true rfl) (Nat.zero_le _) ?_
  show awp _ 0 _ _ ⟨33, [(0, sts l), (1, .I t)], [], 16⟩
  refine awp_regc ⟨33, [(0, sts l), (1, .I t)], [], 24⟩ rfl (by simp; exact Le.snap [] rfl rfl (by simp)) ?_
  refine awp_regc ⟨33, [(0, sts l), (1, .I t), (5, .sc (.slice none 0 0))], [], 32⟩ rfl (by simp; exact Le.snap [] rfl rfl (by simp)) ?_
  refine awp_seq ?_
  refine awp_regc ⟨33, [(1, .I t), (5, .sc (.slice none 0 0)), (8, sts l), (9, .I l.length), (10, .I (0 : Nat))], [], 56⟩ rfl (by simp; exact Le.snap [] rfl rfl (by simp)) ?_
  refine awp_block ?_
  refine awp_loop (ι := Nat) (fun i => ⟨33, [(1, .I t), (5, .rs 16 0 (goneR (l.take i) t).length), (8, sts l), (9, .I l.length), (10, .I i)], [(16, some ⟨1, rwI (goneR (l.take i) t), 0⟩)], 56⟩) (fun i => i ≤ l.length) (fun i => l.length - i) 0 (Nat.zero_le _) (Le.lst [] [] [(16, 1)] rfl (by simp) (by simp) (by simp) (by simp) (by simp) (by simp) (by simp) (by simp [Up, goneR]) (by simp [goneR])) ?_
  intro i hi
  refine awp_regc ⟨33, [(1, .I t), (5, .rs 16 0 (goneR (l.take i) t).length), (8, sts l), (9, .I l.length), (10, .I i), (11, .B (decide (i < l.length)))], [(16, some ⟨1, rwI (goneR (l.take i) t), 0⟩)], 64⟩ rfl ?_ ?_
  · simp
    exact Le.keep rfl (Nat.le_refl _) (by simp) (by simp)
  refine awp_seq ?_
  refine awp_cond _ rfl (fun h => awp_skip ?_) fun h => awp_exit (hit ?_)
  · simp only [decide_eq_true_eq] at h
    have hwi : IntKind.i64.wrap ((i : Int) + 1) = ((i + 1 : Nat) : Int) := by rw [w64 (by omega) (by omega)]; omega
    refine awp_cut (ι := Unit) (fun _ => ⟨33, [(1, .I t), (5, .rs 16 0 (goneR (l.take (i + 1)) t).length), (8, sts l), (9, .I l.length), (10, .I i)], [(16, some ⟨1, rwI (goneR (l.take (i + 1)) t), 0⟩)], 500⟩) (fun _ => True) ?_ fun _ _ => ?_
    · rw [goneR_succ l t i h]
      have hg : l[i]? = some l[i] := List.getElem?_eq_getElem h
      have hrl : (goneR (l.take i) t).length ≤ 100000 := Nat.le_trans (goneR_le _ _) (by rw [List.length_take]; omega)
      generalize l[i] = s at *
      generalize goneR (l.take i) t = R at *
      obtain ⟨n, hnR⟩ : ∃ n, n = R.length := ⟨_, rfl⟩
      have hXf := rwI_flat R
      have hXl : (rwI R).length = n := by rw [rwI, List.length_map, hnR]
      refine awp_block ?_
      refine awp_regc ⟨33, [(1, .I t), (5, .rs 16 0 R.length), (8, sts l), (9, .I l.length), (10, .I i), (7, .pv (sC s))], [(16, some ⟨1, rwI R, 0⟩)], 96⟩ rfl ?_ ?_
      · simp [hg, splice]
        exact Le.Z1 hXf 16 16 [80] rfl rfl (by simp) (by simp) rfl (by simp)
      refine awp_regc ⟨33, [(1, .I t), (5, .rs 16 0 R.length), (8, sts l), (9, .I l.length), (10, .I i), (7, .pv (sC s)), (22, .B (decide (GoneP t s)))], [(16, some ⟨1, rwI R, 0⟩)], 168⟩ rfl ?_ ?_
      · by_cases c1 : s.ki = 3
        · have c1' : (s.ki == 3) = true := by simp [c1]
          have e : decide (GoneP t s) = decide (s.ti ≤ t) := by
            rw [Bool.eq_iff_iff, decide_eq_true_eq, decide_eq_true_eq]
            exact ⟨fun hq => hq.2, fun hq => ⟨c1, hq⟩⟩
          simp [c1', e]
          exact Le.keep rfl (Nat.le_refl _) (by simp) (by simp)
        · have c1' : (s.ki == 3) = false := by simp [c1]
          have e : decide (GoneP t s) = false := decide_eq_false fun hq => c1 hq.1
          simp [c1', e]
          exact Le.keep rfl (Nat.le_refl _) (by simp) (by simp)
      refine awp_cond _ rfl (fun h5 => ?_) fun h5 => awp_skip ?_
      · simp only [decide_eq_true_eq] at h5
        rw [if_pos h5]
        have hXe : rwI (R ++ [s.au]) = rwI R ++ [[AV.I s.au]] := by rw [rwI, List.map_append]; rfl
        have hRl : (R ++ [s.au]).length = n + 1 := by rw [List.length_append, ← hnR]; rfl
        rw [hXe, hRl, ← hnR]
        have hXf2 : ∀ ρ sn h m, (rwI R ++ [[AV.I s.au]]).map (List.map (conv ρ sn h (m + 1))) = rwI R ++ [[AV.I s.au]] := fun ρ sn h m => by rw [List.map_append, hXf]; simp
        generalize rwI R = X at *
        have htk : List.take n X = X := List.take_of_length_le (by omega)
        refine awp_reg rfl ?_
        simp [hXl, htk]
        repeat' apply And.intro
        all_goals first | omega | exact Le.Z1 hXf2 200 16 [] rfl rfl (by simp) (by simp) (by simp [htk]) (by simp)
      · simp only [decide_eq_false_iff_not] at h5
        rw [if_neg h5, List.append_nil]
        exact ⟨(), trivial, Le.keep rfl (by simp) (by simp) (by simp)⟩
    have hXf := rwI_flat (goneR (l.take (i + 1)) t)
    refine awp_reg rfl ?_
    simp [hwi]
    exact ⟨i + 1, by omega, by omega, Le.Z1 hXf 16 16 [] rfl rfl (by simp) (by simp) rfl (by simp)⟩
  simp only [decide_eq_false_iff_not] at h
  obtain rfl : i = l.length := by omega
  rw [List.take_length]
  have hgl := goneR_le l t
  generalize goneR l t = R at *
  have hsort := sort_ok R (by omega)
  rw [sorted_asc hz] at hsort
  have hcomp := Compact_asc R R.length rfl (by omega) hz
  have hir : iRows R = rwI R := rfl
  rw [hir] at hsort
  refine awp_regc ⟨33, [(5, .rs 16 0 R.length)], [(16, some ⟨1, rwI R, 0⟩)], 80⟩ rfl ?_ ?_
  · simp
    refine callM1 (i := 16) rfl (e' := ⟨1, rwI R, 0⟩) (by simp [Function.comp_def]) hsort (by simp) (by simp) ?_
    simp [Function.comp_def]
    exact Le.keep rfl (Nat.le_refl _) (by simp) (by simp)
  refine awp_regc ⟨33, [(4, .rs 16 0 R.length)], [(16, some ⟨1, rwI R, 0⟩)], 104⟩ rfl ?_ ?_
  · simp
    refine callM1 (i := 16) rfl (e' := ⟨1, rwI R, 0⟩) (by simp [Function.comp_def]) hcomp (by simp) (by simp) ?_
    simp [Function.comp_def]
    exact Le.keep rfl (Nat.le_refl _) (by simp) (by simp)
  refine awp_ret ?_
  exact ⟨.inr rfl, RetOk.out [16] [] rfl (by simp) (by simp) (by simp) (by simp [Function.comp_def])⟩
def HoldsP (v : Vch) (g : List Int) (t : Int) : Prop := v.ti ≤ t ∧ t < v.en ∧ (v.re < 0 ∨ t < v.re) ∧ v.fr ∉ g ∧ v.to ∉ g
instance (v : Vch) (g : List Int) (t : Int) : Decidable (HoldsP v g t) := by unfold HoldsP; infer_instance
set_option maxHeartbeats 1000000 in
set_option maxRecDepth 100000 in
theorem vouch_holds_ok (v : Vch) (g : List Int) (t : Int) (hl : g.length ≤ 1000000) : ACalls Tryz.prog nvouch_holds [eV v, ints g, .I t] [] (.B (decide (HoldsP v g t))) [] := by
  refine svouch_holds.acalls (Nat.le_of_ble_eq_true rfl) (Nat.le_of_ble_eq_true rfl) (Nat.le_refl _) ?_
  show awp _ 0 _ _ ⟨42, [(0, eV v), (1, ints g), (2, .I t)], [], 16⟩
  refine awp_regc ⟨42, [(1, ints g), (2, .I t), (3, .pv (vC v))], [], 32⟩ rfl ?_ ?_
  · simp
    exact Le.snap [16] rfl rfl (by simp)
  obtain ⟨r, hr⟩ : ∃ r, r = decide (HoldsP v g t) := ⟨_, rfl⟩
  rw [← hr]
  obtain ⟨b1, hb1⟩ : ∃ b, b = decide (v.fr ∈ g) := ⟨_, rfl⟩
  obtain ⟨b2, hb2⟩ : ∃ b, b = decide (v.to ∈ g) := ⟨_, rfl⟩
  have k1 := contains_ok g v.fr (by omega)
  have k2 := contains_ok g v.to (by omega)
  rw [← hb1] at k1
  rw [← hb2] at k2
  refine awp_regc ⟨42, [(6, .B r)], [], 400⟩ rfl ?_ ?_
  · by_cases c1 : v.ti ≤ t
    · by_cases c2 : t < v.en
      · by_cases c3 : v.re < 0 ∨ t < v.re
        · have hre : r = (!b1 && !b2) := by
            rw [hr, hb1, hb2, Bool.eq_iff_iff]
            simp [HoldsP, c1, c2, c3]
          rcases Classical.em (v.re < 0) with c4 | c4
          · simp [c1, c2, c4]
            refine call0e k1 rfl ?_
            cases b1
            · simp
              refine call0e k2 rfl ?_
              simp
              exact Le.snap [] rfl rfl (by simp [hre])
            · simp
              exact Le.snap [] rfl rfl (by simp [hre])
          · have c5 : t < v.re := c3.resolve_left c4
            simp [c1, c2, c4, c5]
            refine call0e k1 rfl ?_
            cases b1
            · simp
              refine call0e k2 rfl ?_
              simp
              exact Le.snap [] rfl rfl (by simp [hre])
            · simp
              exact Le.snap [] rfl rfl (by simp [hre])
        · have e : r = false := by rw [hr]; exact decide_eq_false fun hq => c3 hq.2.2.1
          have c4 : ¬ v.re < 0 := fun h => c3 (.inl h)
          have c5 : ¬ t < v.re := fun h => c3 (.inr h)
          simp [c1, c2, c4, c5, e]
          exact Le.snap [] rfl rfl (by simp)
      · have e : r = false := by rw [hr]; exact decide_eq_false fun hq => c2 hq.2.1
        simp [c1, c2, e]
        exact Le.snap [] rfl rfl (by simp)
    · have e : r = false := by rw [hr]; exact decide_eq_false fun hq => c1 hq.1
      simp [c1, e]
      exact Le.snap [] rfl rfl (by simp)
  refine awp_ret ?_
  exact ⟨.inr rfl, RetOk.one (by simp)⟩
end Go.Proofs.YtnlanlpbgcalcaaGreat
namespace Go.Proofs.YtnlanlpbgcalcaaGreat
open Go
def LaterP (v : Vch) (t : Int) (w : Vch) : Prop := w.fr = v.fr ∧ w.to = v.to ∧ w.ti ≤ t
instance (v : Vch) (t : Int) (w : Vch) : Decidable (LaterP v t w) := by unfold LaterP; infer_instance
def keepB (V : List Vch) (g : List Int) (t : Int) (i : Nat) (v : Vch) : Bool := decide (HoldsP v g t) && (V.drop (i + 1)).all fun w => !decide (LaterP v t w)
def actN (V : List Vch) (g : List Int) (t : Int) : Nat → List Vch
  | 0 => []
  | i + 1 => actN V g t i ++ match V[i]? with | some v => if keepB V g t i v then [v] else [] | none => []
def actV (l : List Stm) (t : Int) : List Vch := actN (ofV l) (goneR l t) t (ofV l).length
theorem actN_le (V : List Vch) (g : List Int) (t : Int) : ∀ i, (actN V g t i).length ≤ i
  | 0 => Nat.le_refl _
  | i + 1 => by
    have := actN_le V g t i
    unfold actN
    rw [List.length_append]
    split
    · split <;> simp <;> omega
    · simp; omega
set_option maxHeartbeats 4000000 in
set_option maxRecDepth 100000 in
theorem vouch_Active_ok (l : List Stm) (t : Int) (hl : l.length ≤ 100000) (hn : SortH l) (hz : (goneR l t).Pairwise (· < ·)) : ACalls Tryz.prog nvouch_Active [sts l, .I t] [] (.rs 0 0 (actV l t).length) [some ⟨7, rowsV (actV l t), 0⟩] := by
  refine svouch_Active.acalls (Nat.le_of_ble_eq_true rfl) (Nat.le_of_ble_eq_true rfl) (Nat.zero_le _) ?_
  show awp _ 0 _ _ ⟨63, [(0, sts l), (1, .I t)], [], 16⟩
  refine awp_regc ⟨63, [(0, sts l), (1, .I t)], [], 24⟩ rfl (by simp; exact Le.snap [] rfl rfl (by simp)) ?_
  have hof := vouch_Of_ok l hl hn
  have hgo := vouch_Gone_ok l t hl hz
  have hVl : (ofV l).length ≤ 100000 := by have := rawV_le l l; unfold ofV isortV; rw [List.length_reverse, isortRevV_len]; omega
  have hGl := goneR_le l t
  have hact : actV l t = actN (ofV l) (goneR l t) t (ofV l).length := rfl
  rw [hact]
  generalize ofV l = V at *
  generalize goneR l t = G at *
  have tkV : List.take V.length (rowsV V) = rowsV V := List.take_of_length_le (by simp)
  have tkG : List.take G.length (rwI G) = rwI G := List.take_of_length_le (by simp)
  refine awp_regc ⟨63, [(1, .I t), (5, vchs V), (6, ints G)], [], 80⟩ rfl ?_ ?_
  · simp
    refine callN1 hof rfl ?_
    simp [Function.comp_def]
    refine callN1 hgo rfl ?_
    simp [Function.comp_def]
    exact Le.snap [32, 56] rfl rfl (by
      simp [Function.comp_def]
      exact ⟨wkE (congrArg _ tkV), wkE (congrArg _ tkG)⟩)
  refine awp_regc ⟨63, [(1, .I t), (5, vchs V), (6, ints G), (7, .sc (.slice none 0 0))], [], 88⟩ rfl (by simp; exact Le.snap [] rfl rfl (by simp)) ?_
  refine awp_seq ?_
  refine awp_skip ?_
  refine awp_seq ?_
  refine awp_regc ⟨63, [(1, .I t), (5, vchs V), (6, ints G), (7, .sc (.slice none 0 0)), (17, vchs V), (18, .I V.length), (19, .I (0 : Nat))], [], 112⟩ rfl (by simp; exact Le.snap [] rfl rfl (by simp)) ?_
  refine awp_block ?_
  refine awp_loop (ι := Nat) (fun i => ⟨63, [(1, .I t), (5, vchs V), (6, ints G), (7, .rs 16 0 (actN V G t i).length), (17, vchs V), (18, .I V.length), (19, .I i)], [(16, some ⟨7, rowsV (actN V G t i), 0⟩)], 112⟩) (fun i => i ≤ V.length) (fun i => V.length - i) 0 (Nat.zero_le _) (Le.lst [] [] [(16, 7)] rfl (by simp) (by simp) (by simp) (by simp) (by simp) (by simp) (by simp) (by simp [Up, actN]) (by simp [actN])) ?_
  intro i hi
  refine awp_regc ⟨63, [(1, .I t), (5, vchs V), (6, ints G), (7, .rs 16 0 (actN V G t i).length), (17, vchs V), (18, .I V.length), (19, .I i), (20, .B (decide (i < V.length)))], [(16, some ⟨7, rowsV (actN V G t i), 0⟩)], 120⟩ rfl ?_ ?_
  · simp
    exact Le.keep rfl (Nat.le_refl _) (by simp) (by simp)
  refine awp_seq ?_
  refine awp_cond _ rfl (fun h => awp_skip ?_) fun h => awp_exit (hit ?_)
  · simp only [decide_eq_true_eq] at h
    have hwi : IntKind.i64.wrap ((i : Int) + 1) = ((i + 1 : Nat) : Int) := by rw [w64 (by omega) (by omega)]; omega
    refine awp_cut (ι := Unit) (fun _ => ⟨63, [(1, .I t), (5, vchs V), (6, ints G), (7, .rs 16 0 (actN V G t (i + 1)).length), (17, vchs V), (18, .I V.length), (19, .I i)], [(16, some ⟨7, rowsV (actN V G t (i + 1)), 0⟩)], 1000⟩) (fun _ => True) ?_ fun _ _ => ?_
    · have hg : V[i]? = some V[i] := List.getElem?_eq_getElem h
      have hRl := actN_le V G t i
      have hstep : actN V G t (i + 1) = actN V G t i ++ if keepB V G t i V[i] then [V[i]] else [] := by rw [actN, hg]
      have hkeep : keepB V G t i V[i] = (decide (HoldsP V[i] G t) && (V.drop (i + 1)).all fun w => !decide (LaterP V[i] t w)) := rfl
      rw [hstep]
      generalize V[i] = v at *
      have hho := vouch_holds_ok v G t (by omega)
      obtain ⟨hb, hhb⟩ : ∃ b, b = decide (HoldsP v G t) := ⟨_, rfl⟩
      rw [← hhb] at hho hkeep
      generalize actN V G t i = R at *
      have hXf := rowsV_flat R
      obtain ⟨W, hW⟩ : ∃ W, W = V.drop (i + 1) := ⟨_, rfl⟩
      have hWl : W.length ≤ 100000 := by rw [hW, List.length_drop]; omega
      rw [← hW] at hkeep
      have hWr : List.drop (i + 1) (rowsV V) = rowsV W := by rw [hW]; exact List.map_drop.symm
      refine awp_block ?_
      refine awp_regc ⟨63, [(1, .I t), (5, vchs V), (6, ints G), (7, .rs 16 0 R.length), (17, vchs V), (18, .I V.length), (19, .I i), (8, .I i), (9, .pv (vC v))], [(16, some ⟨7, rowsV R, 0⟩)], 168⟩ rfl ?_ ?_
      · simp [hg, splice]
        exact Le.Z1 hXf 16 16 [144] rfl rfl (by simp) (by simp) rfl (by simp)
      refine awp_seq ?_
      refine awp_regc ⟨63, [(1, .I t), (5, vchs V), (6, ints G), (7, .rs 16 0 R.length), (17, vchs V), (18, .I V.length), (19, .I i), (8, .I i), (9, .pv (vC v)), (28, .B (!hb))], [(16, some ⟨7, rowsV R, 0⟩)], 208⟩ rfl ?_ ?_
      · simp
        refine call0e hho (by simp) ?_
        simp
        exact Le.keep rfl (Nat.le_refl _) (by simp) (by simp)
      refine awp_cond _ rfl (fun h5 => awp_exit (hit ?_)) fun h5 => awp_skip ?_
      · have hf : hb = false := by simpa using h5
        rw [hf, Bool.false_and] at hkeep
        rw [hkeep, if_neg (by decide), List.append_nil]
        exact ⟨(), trivial, Le.keep rfl (by simp) (by simp) (by simp)⟩
      have hht : hb = true := by simpa using h5
      rw [hht, Bool.true_and] at hkeep
      obtain ⟨i1, hi1⟩ : ∃ i1, i1 = i + 1 := ⟨_, rfl⟩
      have hwi1 : IntKind.i64.wrap ((i : Int) + 1) = (i1 : Int) := by rw [w64 (by omega) (by omega)]; omega
      rw [← hi1] at hWr
      have hno : ∀ j, j ≤ W.length → (∀ k (h : k < W.length), k < j → ¬ LaterP v t W[k]) → j = W.length → (W.all fun w => !decide (LaterP v t w)) = true := fun j _ hq hj => by
        rw [List.all_eq_true]
        intro w hw
        obtain ⟨k, hk, rfl⟩ := List.mem_iff_getElem.1 hw
        simp [hq k hk (by omega)]
      refine awp_cut (ι := Unit) (fun _ => ⟨63, [(1, .I t), (5, vchs V), (6, ints G), (7, .rs 16 0 R.length), (17, vchs V), (18, .I V.length), (19, .I i), (9, .pv (vC v))], [(16, some ⟨7, rowsV R, 0⟩)], 300⟩) (fun _ => (W.all fun w => !decide (LaterP v t w)) = true) ?_ fun _ hall => ?_
      · refine awp_regc ⟨63, [(1, .I t), (5, vchs V), (6, ints G), (7, .rs 16 0 R.length), (17, vchs V), (18, .I V.length), (19, .I i), (9, .pv (vC v)), (32, vchs W), (33, .I W.length), (34, .I (0 : Nat))], [(16, some ⟨7, rowsV R, 0⟩)], 256⟩ rfl ?_ ?_
        · have hWl2 : (List.drop i1 (rowsV V)).length = W.length := by rw [hWr, rowsV, List.length_map]
          have hle : i1 ≤ V.length := by omega
          simp [hwi1, hle]
          exact Le.Z1 hXf 16 16 [] rfl rfl (by simp) (by simp) rfl (by
            simp
            exact ⟨wkE (congrArg _ hWr), wkI (by rw [hW, List.length_drop, ← hi1])⟩)
        refine awp_block ?_
        refine awp_loop (ι := Nat) (fun j => ⟨63, [(1, .I t), (5, vchs V), (6, ints G), (7, .rs 16 0 R.length), (17, vchs V), (18, .I V.length), (19, .I i), (9, .pv (vC v)), (32, vchs W), (33, .I W.length), (34, .I j)], [(16, some ⟨7, rowsV R, 0⟩)], 256⟩) (fun j => j ≤ W.length ∧ ∀ k (h : k < W.length), k < j → ¬ LaterP v t W[k]) (fun j => W.length - j) 0 ⟨Nat.zero_le _, fun k _ hk => absurd hk (by omega)⟩ (Le.refl _ _) ?_
        rintro j ⟨hj, hjn⟩
        refine awp_regc ⟨63, [(1, .I t), (5, vchs V), (6, ints G), (7, .rs 16 0 R.length), (17, vchs V), (18, .I V.length), (19, .I i), (9, .pv (vC v)), (32, vchs W), (33, .I W.length), (34, .I j), (35, .B (decide (j < W.length)))], [(16, some ⟨7, rowsV R, 0⟩)], 264⟩ rfl ?_ ?_
        · simp
          exact Le.keep rfl (Nat.le_refl _) (by simp) (by simp)
        refine awp_seq ?_
        refine awp_cond _ rfl (fun h6 => awp_skip ?_) fun h6 => awp_exit (hit ?_)
        · simp only [decide_eq_true_eq] at h6
          have hwj : IntKind.i64.wrap ((j : Int) + 1) = ((j + 1 : Nat) : Int) := by rw [w64 (by omega) (by omega)]; omega
          refine awp_cut (ι := Unit) (fun _ => ⟨63, [(1, .I t), (5, vchs V), (6, ints G), (7, .rs 16 0 R.length), (17, vchs V), (18, .I V.length), (19, .I i), (9, .pv (vC v)), (32, vchs W), (33, .I W.length), (34, .I j)], [(16, some ⟨7, rowsV R, 0⟩)], 440⟩) (fun _ => ¬ LaterP v t W[j]) ?_ fun _ hlt => ?_
          · have hgw : W[j]? = some W[j] := List.getElem?_eq_getElem h6
            have hex : LaterP v t W[j] → (W.all fun w => !decide (LaterP v t w)) = false := fun hq => by
              rw [List.all_eq_false]
              exact ⟨W[j], List.getElem_mem h6, by simp [hq]⟩
            generalize W[j] = w at *
            obtain ⟨r, hr⟩ : ∃ r, r = decide (LaterP v t w) := ⟨_, rfl⟩
            refine awp_block ?_
            refine awp_regc ⟨63, [(1, .I t), (5, vchs V), (6, ints G), (7, .rs 16 0 R.length), (17, vchs V), (18, .I V.length), (19, .I i), (9, .pv (vC v)), (32, vchs W), (33, .I W.length), (34, .I j), (11, .pv (vC w))], [(16, some ⟨7, rowsV R, 0⟩)], 296⟩ rfl ?_ ?_
            · simp [hgw, splice]
              exact Le.Z1 hXf 16 16 [280] rfl rfl (by simp) (by simp) rfl (by simp)
            refine awp_regc ⟨63, [(1, .I t), (5, vchs V), (6, ints G), (7, .rs 16 0 R.length), (17, vchs V), (18, .I V.length), (19, .I i), (9, .pv (vC v)), (32, vchs W), (33, .I W.length), (34, .I j), (55, .B r)], [(16, some ⟨7, rowsV R, 0⟩)], 440⟩ rfl ?_ ?_
            · by_cases c1 : w.fr = v.fr
              · have c1' : (w.fr == v.fr) = true := by simp [c1]
                by_cases c2 : w.to = v.to
                · have c2' : (w.to == v.to) = true := by simp [c2]
                  have e : r = decide (w.ti ≤ t) := by
                    rw [hr, Bool.eq_iff_iff, decide_eq_true_eq, decide_eq_true_eq]
                    exact ⟨fun hq => hq.2.2, fun hq => ⟨c1, c2, hq⟩⟩
                  simp [c1', c2', e]
                  exact Le.keep rfl (Nat.le_refl _) (by simp) (by simp)
                · have c2' : (w.to == v.to) = false := by simp [c2]
                  have e : r = false := by rw [hr]; exact decide_eq_false fun hq => c2 hq.2.1
                  simp [c1', c2', e]
                  exact Le.keep rfl (Nat.le_refl _) (by simp) (by simp)
              · have c1' : (w.fr == v.fr) = false := by simp [c1]
                have e : r = false := by rw [hr]; exact decide_eq_false fun hq => c1 hq.1
                simp [c1', e]
                exact Le.keep rfl (Nat.le_refl _) (by simp) (by simp)
            refine awp_cond _ rfl (fun h7 => awp_exit (miss (by decide) (miss (by decide) (hit ?_)))) fun h7 => awp_skip ?_
            · rw [h7] at hr
              have hl := of_decide_eq_true hr.symm
              rw [hex hl] at hkeep
              rw [hkeep, if_neg (by decide), List.append_nil]
              exact ⟨(), trivial, Le.keep rfl (by simp) (by simp) (by simp)⟩
            · rw [h7] at hr
              exact ⟨(), of_decide_eq_false hr.symm, Le.keep rfl (by simp) (by simp) (by simp)⟩
          refine awp_reg rfl ?_
          simp [hwj]
          refine ⟨j + 1, ⟨by omega, fun k hk hkj => ?_⟩, by omega, Le.Z1 hXf 16 16 [] rfl rfl (by simp) (by simp) rfl (by simp)⟩
          rcases Nat.lt_succ_iff_lt_or_eq.1 hkj with hq | rfl
          · exact hjn k hk hq
          · exact hlt
        simp only [decide_eq_false_iff_not] at h6
        exact ⟨(), hno j hj hjn (by omega), Le.keep rfl (by simp) (by simp) (by simp)⟩
      rw [hall] at hkeep
      rw [hkeep, if_pos rfl]
      obtain ⟨n, hnR⟩ : ∃ n, n = R.length := ⟨_, rfl⟩
      have hXe : rowsV (R ++ [v]) = rowsV R ++ [vC v] := by rw [rowsV, List.map_append]; rfl
      have hRl2 : (R ++ [v]).length = n + 1 := by rw [List.length_append, ← hnR]; rfl
      have hXl : (rowsV R).length = n := by rw [rowsV, List.length_map, hnR]
      rw [hXe, hRl2, ← hnR]
      have hXf2 : ∀ ρ sn h m, (rowsV R ++ [vC v]).map (List.map (conv ρ sn h (m + 1))) = rowsV R ++ [vC v] := fun ρ sn h m => by rw [List.map_append, hXf]; simp
      generalize rowsV R = X at *
      have htk : List.take n X = X := List.take_of_length_le (by omega)
      refine awp_reg rfl ?_
      simp [hXl, htk]
      repeat' apply And.intro
      all_goals first | omega | exact Le.Z1 hXf2 324 16 [] rfl rfl (by simp) (by simp) (by simp [htk]) (by simp)
    have hXf := rowsV_flat (actN V G t (i + 1))
    refine awp_reg rfl ?_
    simp [hwi]
    exact ⟨i + 1, by omega, by omega, Le.Z1 hXf 16 16 [] rfl rfl (by simp) (by simp) rfl (by simp)⟩
  simp only [decide_eq_false_iff_not] at h
  obtain rfl : i = V.length := by omega
  refine awp_seq ?_
  refine awp_run (s := ?s9) rfl ?o9 ?q9
  case o9 => simp; rfl
  refine awp_ret ?_
  exact ⟨.inr rfl, RetOk.out [16] [] rfl (by simp) (by simp) (by simp) (by simp [Function.comp_def])⟩
end Go.Proofs.YtnlanlpbgcalcaaGreat
namespace Go.Proofs.YtnlanlpbgcalcaaGreat
open Go
section
variable {P : Program} {np id : Nat} {h : Nat → Option Ent} {K : AV → List Nat → List (Nat × Option Ent) → Prop} {f : FuncId} {first capt args args' : List AV} {res : AV}
theorem call0r (sn : List Nat) (hc : ACalls P f args' [] res []) (hw : WkL ((first ++ args ++ capt).map (conv [] sn h 4)) args') (hnp : ∀ i ∈ sn, np ≤ i)
    (hk : K (conv (((List.range 8).map (id + ·)).zipIdx.map fun (a, b) => (b, a)) [] (fun _ => none) 4 res) sn (sn.filterMap fun i => (h i).map fun e => (i, some { e with ro := e.rows.length }))) : aK P np id .call (.fn (.func f) first capt :: args) h K :=
  ⟨[], sn, true, args', [], res, [], by simp, by simp, fun _ => hnp, by rw [List.zipIdx_nil]; exact hw, rfl, hc, by simp, .inl rfl, by simpa using hk⟩
end
end Go.Proofs.YtnlanlpbgcalcaaGreat
namespace Go.Proofs.YtnlanlpbgcalcaaGreat
open Go
end Go.Proofs.YtnlanlpbgcalcaaGreat
namespace Go.Proofs.YtnlanlpbgcalcaaGreat
open Go
def RevM (v x : Stm) : Prop := x.au = v.au ∧ v.nu < x.nu ∧ x.ki = 2 ∧ x.a = v.nu
instance (v x : Stm) : Decidable (RevM v x) := by unfold RevM; infer_instance
def refRev (l : List Stm) (v : Stm) : Int := match l.find? fun x => decide (RevM v x) with | some x => x.ti | none => -1
set_option maxHeartbeats 1000000 in
set_option maxRecDepth 100000 in
theorem ref10_revoked_ok (l : List Stm) (v : Stm) (hl : l.length ≤ 1000000) : ACalls Tryz.prog nref10_revoked [sts l, eS v] [] (.I (refRev l v)) [] := by
  refine sref10_revoked.acalls (Nat.le_of_ble_eq_true rfl) (Nat.le_of_ble_eq_true rfl) (Nat.le_refl _) ?_
  show awp _ 0 _ _ ⟨43, [(0, sts l), (1, eS v)], [], 16⟩
  refine awp_regc ⟨43, [(0, sts l), (3, .pv (sC v))], [], 32⟩ rfl ?_ ?_
  · simp
    exact Le.snap [16] rfl rfl (by simp)
  refine awp_seq ?_
  refine awp_regc ⟨43, [(0, sts l), (3, .pv (sC v)), (5, .I (0 : Nat))], [], 40⟩ rfl (by simp; exact Le.snap [] rfl rfl (by simp)) ?_
  refine awp_block ?_
  refine awp_loop (ι := Nat) (fun i => ⟨43, [(0, sts l), (3, .pv (sC v)), (5, .I i)], [], 40⟩) (fun i => i ≤ l.length ∧ ∀ x ∈ l.take i, ¬ RevM v x) (fun i => l.length - i) 0 ⟨Nat.zero_le _, by simp⟩ (Le.refl _ _) ?_
  rintro i ⟨hi, hp⟩
  refine awp_seq ?_
  refine awp_regc ⟨43, [(0, sts l), (3, .pv (sC v)), (5, .I i), (10, .B (decide (i < l.length)))], [], 72⟩ rfl (by simp; exact Le.snap [] rfl rfl (by simp)) ?_
  refine awp_cond _ rfl (fun h => awp_skip ?_) fun h => awp_exit (hit ?_)
  · simp only [decide_eq_true_eq] at h
    have hwi : IntKind.i64.wrap ((i : Int) + 1) = ((i + 1 : Nat) : Int) := by rw [w64 (by omega) (by omega)]; omega
    obtain ⟨s, hs⟩ : ∃ s, l[i] = s := ⟨_, rfl⟩
    have hg : l[i]? = some s := by rw [List.getElem?_eq_getElem h, hs]
    refine awp_cut (ι := Unit) (fun _ => ⟨43, [(0, sts l), (3, .pv (sC v)), (5, .I i)], [], 500⟩) (fun _ => ¬ RevM v s) ?_ fun _ hno => ?_
    · obtain ⟨r, hr⟩ : ∃ r, r = decide (RevM v s) := ⟨_, rfl⟩
      refine awp_block ?_
      refine awp_regc ⟨43, [(0, sts l), (3, .pv (sC v)), (5, .I i), (6, .pv (sC s))], [], 120⟩ rfl ?_ ?_
      · simp [hg, splice]
        exact Le.snap [104] rfl rfl (by simp)
      refine awp_regc ⟨43, [(0, sts l), (3, .pv (sC v)), (5, .I i), (6, .pv (sC s)), (40, .B r)], [], 320⟩ rfl ?_ ?_
      · by_cases c1 : s.au = v.au
        · have c1' : (s.au == v.au) = true := by simp [c1]
          by_cases c2 : v.nu < s.nu
          · by_cases c3 : s.ki = 2
            · have c3' : (s.ki == 2) = true := by simp [c3]
              have e : r = (s.a == v.nu) := by
                rw [hr, Bool.eq_iff_iff, decide_eq_true_eq, beq_iff_eq]
                exact ⟨fun hq => hq.2.2.2, fun hq => ⟨c1, c2, c3, hq⟩⟩
              simp [c1', c2, c3', e]
              exact Le.snap [] rfl rfl (by simp)
            · have c3' : (s.ki == 2) = false := by simp [c3]
              have e : r = false := by rw [hr]; exact decide_eq_false fun hq => c3 hq.2.2.1
              simp [c1', c2, c3', e]
              exact Le.snap [] rfl rfl (by simp)
          · have e : r = false := by rw [hr]; exact decide_eq_false fun hq => c2 hq.2.1
            simp [c1', c2, e]
            exact Le.snap [] rfl rfl (by simp)
        · have c1' : (s.au == v.au) = false := by simp [c1]
          have e : r = false := by rw [hr]; exact decide_eq_false fun hq => c1 hq.1
          simp [c1', e]
          exact Le.snap [] rfl rfl (by simp)
      refine awp_cond _ rfl (fun h5 => ?_) fun h5 => awp_skip ?_
      · rw [h5] at hr
        have hq := of_decide_eq_true hr.symm
        have hf : (l.find? fun x => decide (RevM v x)) = some s := by
          rw [List.find?_eq_some_iff_getElem]
          refine ⟨by simp [hq], i, h, hs, fun j hj => ?_⟩
          have : l[j] ∈ l.take i := by
            rw [List.mem_take_iff_getElem]
            exact ⟨j, by omega, rfl⟩
          simp [hp _ this]
        have hrf : refRev l v = s.ti := by unfold refRev; rw [hf]
        rw [hrf]
        refine awp_seq ?_
        refine awp_run (s := ?t1) rfl ?o1 ?q1
        case o1 => simp; rfl
        refine awp_ret ?_
        exact ⟨.inr rfl, RetOk.one (by simp)⟩
      · rw [h5] at hr
        exact ⟨(), of_decide_eq_false hr.symm, Le.snap [] rfl rfl (by simp)⟩
    refine awp_reg rfl ?_
    simp [hwi]
    refine ⟨i + 1, ⟨by omega, fun u hu => ?_⟩, by omega, Le.snap [] rfl rfl (by simp)⟩
    rw [List.take_succ_eq_append_getElem h, List.mem_append] at hu
    rcases hu with hu | hu
    · exact hp u hu
    · rw [List.mem_singleton.1 hu, hs]
      exact hno
  simp only [decide_eq_false_iff_not] at h
  obtain rfl : i = l.length := by omega
  rw [List.take_length] at hp
  have hf : (l.find? fun x => decide (RevM v x)) = none := by
    rw [List.find?_eq_none]
    intro u hu
    simp [hp u hu]
  have hrf : refRev l v = -1 := by unfold refRev; rw [hf]
  rw [hrf]
  refine awp_seq ?_
  refine awp_run (s := ?s9) rfl ?o9 ?q9
  case o9 => simp; rfl
  refine awp_ret ?_
  exact ⟨.inr rfl, RetOk.one (by simp)⟩
theorem cmpI_lt {x y : Int} : cmpI x y < 0 ↔ x < y := by
  unfold cmpI
  split
  · simp; assumption
  · split
    · simp; omega
    · simp; omega
theorem cmpI_ne {x y : Int} (h : x ≠ y) : cmpI x y ≠ 0 := by
  unfold cmpI
  split
  · decide
  · split
    · decide
    · omega
theorem cmpI_self (x : Int) : cmpI x x = 0 := by simp [cmpI]
theorem cmpI_b {x y : Int} (h : x ≠ y) : (cmpI x y != 0) = true := by simp [cmpI_ne h]
theorem cmpI_b0 (x : Int) : (cmpI x x != 0) = false := by simp [cmpI_self]
theorem cmpV_1 {a b : Vch} (h : a.fr ≠ b.fr) : cmpV a b = cmpI a.fr b.fr := by
  unfold cmpV
  simp [List.find?_cons, cmpI_b h]
theorem cmpV_2 {a b : Vch} (h : a.fr = b.fr) (h2 : a.to ≠ b.to) : cmpV a b = cmpI a.to b.to := by
  unfold cmpV
  rw [h]
  simp [List.find?_cons, cmpI_b0, cmpI_b h2]
theorem cmpV_3 {a b : Vch} (h : a.fr = b.fr) (h2 : a.to = b.to) : cmpV a b = cmpI a.nu b.nu := by
  unfold cmpV
  rw [h, h2]
  by_cases h3 : a.nu = b.nu
  · rw [h3, cmpI_self]
    simp [List.find?_cons, cmpI_b0, cmpI_self]
  · simp [List.find?_cons, cmpI_b0, cmpI_b h3]
set_option maxRecDepth 100000 in
theorem ref10_less_ok (a b : Vch) : ACalls Tryz.prog nref10_less [eV a, eV b] [] (.B (decide (cmpV a b < 0))) [] := by
  refine sref10_less.acalls (Nat.le_of_ble_eq_true rfl) (Nat.le_of_ble_eq_true rfl) (Nat.le_refl _) ?_
  show awp _ 0 _ _ ⟨30, [(0, eV a), (1, eV b)], [], 16⟩
  refine awp_regc ⟨30, [(2, .pv (vC a)), (3, .pv (vC b))], [], 40⟩ rfl ?_ ?_
  · simp
    exact Le.snap [16, 24] rfl rfl (by simp)
  refine awp_seq ?_
  refine awp_regc ⟨30, [(2, .pv (vC a)), (3, .pv (vC b)), (9, .B (decide (a.fr ≠ b.fr)))], [], 80⟩ rfl ?_ ?_
  · simp
    exact Le.snap [] rfl rfl (by simp <;> exact wkB (by rw [Bool.eq_iff_iff]; simp))
  refine awp_cond _ rfl (fun h => ?_) fun h => awp_skip ?_
  · simp only [decide_eq_true_eq] at h
    have e : decide (cmpV a b < 0) = decide (a.fr < b.fr) := by rw [cmpV_1 h, Bool.eq_iff_iff, decide_eq_true_eq, decide_eq_true_eq]; exact cmpI_lt
    rw [e]
    refine awp_seq ?_
    refine awp_run (s := ?t1) rfl ?o1 ?q1
    case o1 => simp; rfl
    refine awp_ret ?_
    exact ⟨.inr rfl, RetOk.one (by simp)⟩
  have h1 : a.fr = b.fr := by simpa using h
  refine awp_seq ?_
  refine awp_regc ⟨30, [(2, .pv (vC a)), (3, .pv (vC b)), (19, .B (decide (a.to ≠ b.to)))], [], 120⟩ rfl ?_ ?_
  · simp
    exact Le.snap [] rfl rfl (by simp <;> exact wkB (by rw [Bool.eq_iff_iff]; simp))
  refine awp_cond _ rfl (fun h => ?_) fun h => awp_skip ?_
  · simp only [decide_eq_true_eq] at h
    have e : decide (cmpV a b < 0) = decide (a.to < b.to) := by rw [cmpV_2 h1 h, Bool.eq_iff_iff, decide_eq_true_eq, decide_eq_true_eq]; exact cmpI_lt
    rw [e]
    refine awp_seq ?_
    refine awp_run (s := ?t2) rfl ?o2 ?q2
    case o2 => simp; rfl
    refine awp_ret ?_
    exact ⟨.inr rfl, RetOk.one (by simp)⟩
  have h2 : a.to = b.to := by simpa using h
  have e : decide (cmpV a b < 0) = decide (a.nu < b.nu) := by rw [cmpV_3 h1 h2, Bool.eq_iff_iff, decide_eq_true_eq, decide_eq_true_eq]; exact cmpI_lt
  rw [e]
  refine awp_seq ?_
  refine awp_run (s := ?t3) rfl ?o3 ?q3
  case o3 => simp; rfl
  refine awp_ret ?_
  exact ⟨.inr rfl, RetOk.one (by simp)⟩
def vOfR (l : List Stm) (s : Stm) : Vch := ⟨s.au, s.a, s.b, s.nu, s.ti, s.c, refRev l s⟩
def rawR (l m : List Stm) : List Vch := (m.filter fun s => decide (s.ki = 1)).map (vOfR l)
theorem rawR_succ (l : List Stm) (i : Nat) (h : i < l.length) : rawR l (l.take (i + 1)) = rawR l (l.take i) ++ if l[i].ki = 1 then [vOfR l l[i]] else [] := by
  unfold rawR
  rw [List.take_succ_eq_append_getElem h, List.filter_append, List.map_append]
  congr 1
  by_cases hk : l[i].ki = 1
  · rw [if_pos hk]
    simp [hk]
  · rw [if_neg hk]
    simp [hk]
theorem rawR_le (l m : List Stm) : (rawR l m).length ≤ m.length := by
  unfold rawR
  rw [List.length_map]
  exact List.length_filter_le _ _
def hdB (v : Vch) : List Vch → Bool
  | [] => false
  | y :: _ => decide (cmpV v y < 0)
theorem isortRevV_snoc (c : Vch → Vch → Int) (M : List Vch) (x : Vch) : isortRevV c (M ++ [x]) = insRevV c (isortRevV c M) x := by
  unfold isortRevV
  rw [List.foldl_append]
  rfl
def ofR (l : List Stm) : List Vch := isortV cmpV (rawR l l)
set_option maxHeartbeats 4000000 in
set_option maxRecDepth 100000 in
theorem ref10_Of_ok (l : List Stm) (hl : l.length ≤ 100000) : ACalls Tryz.prog nref10_Of [sts l] [] (.rs 0 0 (ofR l).length) [some ⟨7, rowsV (ofR l), 0⟩] := by
  refine sref10_Of.acalls (Nat.le_of_ble_eq_true rfl) (Nat.le_of_ble_eq_true rfl) (Nat.zero_le _) ?_
  show awp _ 0 _ _ ⟨64, [(0, sts l)], [], 16⟩
  refine awp_regc ⟨64, [(0, sts l)], [], 24⟩ rfl (by simp; exact Le.snap [] rfl rfl (by simp)) ?_
  refine awp_regc ⟨64, [(0, sts l), (3, .sc (.slice none 0 0))], [], 32⟩ rfl (by simp; exact Le.snap [] rfl rfl (by simp)) ?_
  refine awp_seq ?_
  refine awp_regc ⟨64, [(0, sts l), (3, .sc (.slice none 0 0)), (4, .I (0 : Nat))], [], 40⟩ rfl (by simp; exact Le.snap [] rfl rfl (by simp)) ?_
  let O : Nat → List Vch := fun i => isortV cmpV (rawR l (l.take i))
  have hO0 : O 0 = [] := rfl
  have hOn : O l.length = ofR l := by simp only [O]; rw [List.take_length]; rfl
  have hOle : ∀ i, (O i).length ≤ 100000 := fun i => by
    have h1 := rawR_le l (l.take i)
    have h2 : (l.take i).length ≤ l.length := by rw [List.length_take]; omega
    simp only [O]
    unfold isortV
    rw [List.length_reverse, isortRevV_len]
    omega
  have hOs : ∀ i (h : i < l.length), ∃ R, O i = R.reverse ∧ O (i + 1) = if l[i].ki = 1 then (insRevV cmpV R (vOfR l l[i])).reverse else R.reverse := fun i h => by
    refine ⟨isortRevV cmpV (rawR l (l.take i)), rfl, ?_⟩
    simp only [O]
    rw [rawR_succ l i h]
    split
    · unfold isortV
      rw [isortRevV_snoc]
    · rw [List.append_nil]
      rfl
  clear_value O
  refine awp_block ?_
  refine awp_loop (ι := Nat) (fun i => ⟨64, [(0, sts l), (3, .rs 16 0 (O i).length), (4, .I i)], [(16, some ⟨7, rowsV (O i), 0⟩)], 40⟩) (fun i => i ≤ l.length) (fun i => l.length - i) 0 (Nat.zero_le _) (Le.lst [] [] [(16, 7)] rfl (by simp) (by simp) (by simp) (by simp) (by simp) (by simp) (by simp) (by simp [Up, hO0]) (by simp [hO0])) ?_
  intro i hi
  refine awp_seq ?_
  refine awp_regc ⟨64, [(0, sts l), (3, .rs 16 0 (O i).length), (4, .I i), (11, .B (decide (i < l.length)))], [(16, some ⟨7, rowsV (O i), 0⟩)], 72⟩ rfl ?_ ?_
  · simp
    exact Le.keep rfl (Nat.le_refl _) (by simp) (by simp)
  refine awp_cond _ rfl (fun h => awp_skip ?_) fun h => awp_exit (hit ?_)
  · simp only [decide_eq_true_eq] at h
    have hwi : IntKind.i64.wrap ((i : Int) + 1) = ((i + 1 : Nat) : Int) := by rw [w64 (by omega) (by omega)]; omega
    refine awp_cut (ι := Unit) (fun _ => ⟨64, [(0, sts l), (3, .rs 16 0 (O (i + 1)).length), (4, .I i)], [(16, some ⟨7, rowsV (O (i + 1)), 0⟩)], 700⟩) (fun _ => True) ?_ fun _ _ => ?_
    · obtain ⟨R, hR, hR1⟩ := hOs i h
      have hRl : R.length ≤ 100000 := by have := hOle i; rw [hR, List.length_reverse] at this; exact this
      rw [hR, hR1]
      have hg : l[i]? = some l[i] := List.getElem?_eq_getElem h
      generalize l[i] = s at *
      have hXf := rowsV_flat R.reverse
      refine awp_block ?_
      refine awp_regc ⟨64, [(0, sts l), (3, .rs 16 0 R.reverse.length), (4, .I i), (5, .pv (sC s))], [(16, some ⟨7, rowsV R.reverse, 0⟩)], 120⟩ rfl ?_ ?_
      · simp only [List.length_reverse] at *
        generalize rowsV R.reverse = X at *
        simp [hg, splice]
        exact Le.Z1 hXf 16 16 [104] rfl rfl (by simp) (by simp) rfl (by simp)
      refine awp_seq ?_
      refine awp_regc ⟨64, [(0, sts l), (3, .rs 16 0 R.reverse.length), (4, .I i), (5, .pv (sC s)), (20, .B (decide (s.ki ≠ 1)))], [(16, some ⟨7, rowsV R.reverse, 0⟩)], 144⟩ rfl ?_ ?_
      · simp
        exact Le.keep rfl (Nat.le_refl _) (by simp <;> rw [Bool.eq_iff_iff] <;> simp) (by simp)
      refine awp_cond _ rfl (fun h5 => awp_exit (hit ?_)) fun h5 => awp_skip ?_
      · simp only [decide_eq_true_eq] at h5
        rw [if_neg h5]
        exact ⟨(), trivial, Le.keep rfl (by simp) (by simp) (by simp)⟩
      have hk1 : s.ki = 1 := by simpa using h5
      rw [if_pos hk1]
      have hrv := ref10_revoked_ok l s (by omega)
      have hvc : vC (vOfR l s) = [.I s.au, .I s.a, .I s.b, .I s.nu, .I s.ti, .I s.c, .I (refRev l s)] := rfl
      obtain ⟨v, hv⟩ : ∃ v, v = vOfR l s := ⟨_, rfl⟩
      rw [← hv] at hvc ⊢
      refine awp_dregc ⟨64, [(0, sts l), (3, .rs 16 0 R.reverse.length), (4, .I i), (6, .pv (vC v))], [(16, some ⟨7, rowsV R.reverse, 0⟩)], 288⟩ rfl ?_ ?_
      · generalize refRev l s = rv at *
        simp only [List.length_reverse] at *
        generalize rowsV R.reverse = X at *
        simp
        refine call0e hrv (by simp) ?_
        simp [splice]
        exact ⟨rfl, Le.Z1 hXf 16 16 [272] rfl rfl (by simp) (by simp) rfl (by simp; exact wkE (congrArg _ hvc.symm))⟩
      refine awp_regc ⟨64, [(0, sts l), (3, .rs 16 0 R.reverse.length), (4, .I i), (6, .pv (vC v)), (7, .I R.length)], [(16, some ⟨7, rowsV R.reverse, 0⟩)], 312⟩ rfl ?_ ?_
      · simp
        exact Le.keep rfl (Nat.le_refl _) (by simp) (by simp)
      refine awp_seq ?_
      refine awp_block ?_
      refine awp_loop (ι := List Vch × List Vch) (fun q => ⟨64, [(0, sts l), (3, .rs 16 0 R.reverse.length), (4, .I i), (6, .pv (vC v)), (7, .I q.2.length)], [(16, some ⟨7, rowsV R.reverse, 0⟩)], 312⟩) (fun q => R = q.1.reverse ++ q.2 ∧ insRevV cmpV R v = q.1.reverse ++ insRevV cmpV q.2 v) (fun q => q.2.length) ([], R) ⟨rfl, rfl⟩ (Le.refl _ _) ?_
      rintro ⟨U, V⟩ ⟨hUV, hins⟩
      simp only at hUV hins
      obtain ⟨b, hb⟩ : ∃ b : Bool, b = hdB v V := ⟨_, rfl⟩
      obtain ⟨m, hm⟩ : ∃ m, m = R.length := ⟨_, rfl⟩
      have hml : m = U.length + V.length := by rw [hm, hUV, List.length_append, List.length_reverse]
      have hrev : R.reverse = V.reverse ++ U := by rw [hUV, List.reverse_append, List.reverse_reverse]
      refine awp_seq ?_
      refine awp_dregc ⟨64, [(0, sts l), (3, .rs 16 0 R.reverse.length), (4, .I i), (6, .pv (vC v)), (7, .I V.length), (49, .B b)], [(16, some ⟨7, rowsV R.reverse, 0⟩)], 400⟩ rfl ?_ ?_
      · match V, hb, hml, hrev with
        | [], hb, hml, hrev =>
          simp [hb, hdB]
          exact ⟨rfl, Le.keep rfl (Nat.le_refl _) (by simp) (by simp)⟩
        | y :: V', hb, hml, hrev =>
          obtain ⟨k, hk⟩ : ∃ k, k = (y :: V').length := ⟨_, rfl⟩
          have hk' : k = V'.length + 1 := by rw [hk]; rfl
          have hle := ref10_less_ok v y
          simp only [hdB] at hb
          rw [← hb] at hle
          have hw : IntKind.i64.wrap ((k : Int) - 1) = ((V'.length : Nat) : Int) := by rw [w64 (by omega) (by omega)]; omega
          have hgy : (rowsV R.reverse)[V'.length]? = some (vC y) := by
            rw [hrev, rowsV, List.getElem?_map, List.reverse_cons, List.append_assoc, List.getElem?_append_right (by simp)]
            simp
          obtain ⟨j, hj⟩ : ∃ j, j = V'.length := ⟨_, rfl⟩
          rw [← hj] at hw hgy
          have hRr : R.reverse.length = m := by rw [List.length_reverse, hm]
          have hjm : j < m := by rw [hml]; simp; omega
          have hk0 : 0 < k := by omega
          rw [← hk, hRr]
          generalize rowsV R.reverse = X at *
          simp [hk0, hw, hjm, hgy]
          refine call0e hle (by simp) ?_
          simp
          exact ⟨rfl, Le.keep rfl (Nat.le_refl _) (by simp) (by simp)⟩
      refine awp_cond _ rfl (fun h6 => awp_skip ?_) fun h6 => awp_exit (hit ?_)
      · match V, hb, hml, hrev, hUV, hins with
        | [], hb, _, _, _, _ => rw [h6] at hb; cases hb
        | y :: V', hb, hml, hrev, hUV, hins =>
          simp only [hdB] at hb
          rw [h6] at hb
          have hlt := of_decide_eq_true hb.symm
          have hlc : (y :: V').length = V'.length + 1 := rfl
          have hw : IntKind.i64.wrap (((y :: V').length : Int) - 1) = ((V'.length : Nat) : Int) := by rw [List.length_cons, w64 (by omega) (by omega)]; omega
          refine awp_block ?_
          generalize rowsV R.reverse = X at *
          refine awp_reg rfl ?_
          generalize hkk : (y :: V').length = k at *
          have hk' : V'.length < k := by rw [← hkk]; simp
          simp [hw]
          refine ⟨y :: U, V', ⟨by rw [hUV]; simp, by rw [hins, insRevV, if_pos hlt]; simp⟩, by omega, ?_⟩
          exact Le.Z1 hXf 16 16 [] rfl rfl (by simp) (by simp) rfl (by simp)
      have hfin : (insRevV cmpV R v).reverse = V.reverse ++ [v] ++ U := by
        have : insRevV cmpV V v = v :: V := by
          match V, hb with
          | [], _ => rfl
          | y :: V', hb =>
            simp only [hdB] at hb
            rw [h6] at hb
            rw [insRevV, if_neg (of_decide_eq_false hb.symm)]
        rw [hins, this]
        simp
      rw [hfin]
      have hX : rowsV R.reverse = rowsV V.reverse ++ rowsV U := by rw [hrev, rowsV, List.map_append]
      have hF : rowsV (V.reverse ++ [v] ++ U) = rowsV V.reverse ++ vC v :: rowsV U := by rw [rowsV, List.map_append, List.map_append, List.append_assoc]; rfl
      have hFl : (V.reverse ++ [v] ++ U).length = m + 1 := by simp; omega
      have hRr : R.reverse.length = m := by rw [List.length_reverse, hm]
      obtain ⟨k, hk⟩ : ∃ k, k = V.length := ⟨_, rfl⟩
      have hkm : k ≤ m := by omega
      have hPl : (rowsV V.reverse).length = k := by rw [rowsV, List.length_map, List.length_reverse, hk]
      have hUl : (rowsV U).length = m - k := by rw [rowsV, List.length_map]; omega
      have hFf := rowsV_flat (V.reverse ++ [v] ++ U)
      rw [hF] at hFf
      rw [hX, hF, hFl, hRr, ← hk]
      rw [hX] at hXf
      generalize rowsV V.reverse = P at *
      generalize rowsV U = Q at *
      have ht1 : List.take k (P ++ Q) = P := by rw [List.take_append_of_le_length (by omega), List.take_of_length_le (by omega)]
      have ht2 : List.drop k (P ++ Q) = Q := by rw [List.drop_append_of_le_length (by omega), List.drop_eq_nil_of_le (by omega)]; rfl
      have ht3 : List.take (m - k) Q = Q := List.take_of_length_le (by omega)
      have hPQ : (P ++ Q).length = m := by rw [List.length_append]; omega
      have ht4 : List.take (k + 1) (P ++ [vC v]) = P ++ [vC v] := List.take_of_length_le (by simp; omega)
      have hk4 : k + 1 + (m - k) = m + 1 := by omega
      generalize P ++ Q = Z at *
      refine awp_drw rfl ?_
      simp [hkm, hPQ, ht1, ht2, ht3, hPl, hUl]
      repeat' apply And.intro
      all_goals first | omega | rfl | exact Le.Z1 hFf 480 16 [] rfl rfl (by simp) (by simp) (by simp [hPl, ht1, ht2, ht3, ht4]) (by simp [hk4])
    have hXf := rowsV_flat (O (i + 1))
    refine awp_reg rfl ?_
    simp [hwi]
    exact ⟨i + 1, by omega, by omega, Le.Z1 hXf 16 16 [] rfl rfl (by simp) (by simp) rfl (by simp)⟩
  simp only [decide_eq_false_iff_not] at h
  obtain rfl : i = l.length := by omega
  rw [hOn]
  refine awp_seq ?_
  refine awp_run (s := ?s9) rfl ?o9 ?q9
  case o9 => simp; rfl
  refine awp_ret ?_
  exact ⟨.inr rfl, RetOk.out [16] [] rfl (by simp) (by simp) (by simp) (by simp [Function.comp_def])⟩
end Go.Proofs.YtnlanlpbgcalcaaGreat
namespace Go.Proofs.YtnlanlpbgcalcaaGreat
open Go
def GoneK (t : Int) (k : Int) (s : Stm) : Prop := s.au = k ∧ GoneP t s
instance (t k : Int) (s : Stm) : Decidable (GoneK t k s) := by unfold GoneK; infer_instance
def goneB (l : List Stm) (t : Int) (k : Int) : Bool := l.any fun s => decide (GoneK t k s)
def goneN (l : List Stm) (t : Int) : Nat → List Int
  | 0 => []
  | n + 1 => goneN l t n ++ if goneB l t n then [(n : Int)] else []
theorem goneN_le (l : List Stm) (t : Int) : ∀ n, (goneN l t n).length ≤ n
  | 0 => Nat.le_refl _
  | n + 1 => by
    have := goneN_le l t n
    unfold goneN
    rw [List.length_append]
    split <;> simp <;> omega
theorem goneB_succ (l : List Stm) (t k : Int) (j : Nat) (h : j < l.length) : goneB (l.take (j + 1)) t k = (goneB (l.take j) t k || decide (GoneK t k l[j])) := by
  unfold goneB
  rw [List.take_succ_eq_append_getElem h, List.any_append]
  simp
set_option maxHeartbeats 2000000 in
set_option maxRecDepth 100000 in
theorem ref10_Gone_ok (l : List Stm) (t : Int) (hl : l.length ≤ 1000000) : ACalls Tryz.prog nref10_Gone [sts l, .I t] [] (.rs 0 0 (goneN l t 64).length) [some ⟨1, rwI (goneN l t 64), 0⟩] := by
  refine sref10_Gone.acalls (Nat.le_of_ble_eq_true rfl) (Nat.le_of_ble_eq_true rfl) (Nat.zero_le _) ?_
  show awp _ 0 _ _ ⟨52, [(0, sts l), (1, .I t)], [], 16⟩
  refine awp_regc ⟨52, [(0, sts l), (1, .I t)], [], 24⟩ rfl (by simp; exact Le.snap [] rfl rfl (by simp)) ?_
  refine awp_regc ⟨52, [(0, sts l), (1, .I t), (5, .sc (.slice none 0 0))], [], 32⟩ rfl (by simp; exact Le.snap [] rfl rfl (by simp)) ?_
  refine awp_seq ?_
  refine awp_regc ⟨52, [(0, sts l), (1, .I t), (5, .sc (.slice none 0 0)), (6, .I (0 : Nat))], [], 40⟩ rfl (by simp; exact Le.snap [] rfl rfl (by simp)) ?_
  refine awp_block ?_
  refine awp_loop (ι := Nat) (fun i => ⟨52, [(0, sts l), (1, .I t), (5, .rs 16 0 (goneN l t i).length), (6, .I i)], [(16, some ⟨1, rwI (goneN l t i), 0⟩)], 40⟩) (fun i => i ≤ 64) (fun i => 64 - i) 0 (by omega) (Le.lst [] [] [(16, 1)] rfl (by simp) (by simp) (by simp) (by simp) (by simp) (by simp) (by simp) (by simp [Up, goneN]) (by simp [goneN])) ?_
  intro i hi
  refine awp_seq ?_
  refine awp_regc ⟨52, [(0, sts l), (1, .I t), (5, .rs 16 0 (goneN l t i).length), (6, .I i), (10, .B (decide (i < 64)))], [(16, some ⟨1, rwI (goneN l t i), 0⟩)], 56⟩ rfl ?_ ?_
  · simp
    exact Le.keep rfl (Nat.le_refl _) (by simp <;> omega) (by simp)
  refine awp_cond _ rfl (fun h => awp_skip ?_) fun h => awp_exit (hit ?_)
  · simp only [decide_eq_true_eq] at h
    have hwi : IntKind.i64.wrap ((i : Int) + 1) = ((i + 1 : Nat) : Int) := by rw [w64 (by omega) (by omega)]; omega
    refine awp_cut (ι := Unit) (fun _ => ⟨52, [(0, sts l), (1, .I t), (5, .rs 16 0 (goneN l t (i + 1)).length), (6, .I i)], [(16, some ⟨1, rwI (goneN l t (i + 1)), 0⟩)], 900⟩) (fun _ => True) ?_ fun _ _ => ?_
    · have hstep : goneN l t (i + 1) = goneN l t i ++ if goneB l t i then [(i : Int)] else [] := rfl
      rw [hstep]
      have hrl := goneN_le l t i
      generalize goneN l t i = R at *
      obtain ⟨n, hnR⟩ : ∃ n, n = R.length := ⟨_, rfl⟩
      have hXf := rwI_flat R
      have hXl : (rwI R).length = n := by rw [rwI, List.length_map, hnR]
      rw [← hnR]
      refine awp_block ?_
      refine awp_regc ⟨52, [(0, sts l), (1, .I t), (5, .rs 16 0 n), (6, .I i), (7, .B false)], [(16, some ⟨1, rwI R, 0⟩)], 64⟩ rfl ?_ ?_
      · generalize rwI R = X at *
        simp
        exact Le.Z1 hXf 16 16 [] rfl rfl (by simp) (by simp) rfl (by simp)
      refine awp_seq ?_
      refine awp_regc ⟨52, [(0, sts l), (1, .I t), (5, .rs 16 0 n), (6, .I i), (7, .B false), (8, .I (0 : Nat))], [(16, some ⟨1, rwI R, 0⟩)], 72⟩ rfl ?_ ?_
      · generalize rwI R = X at *
        simp
        exact Le.Z1 hXf 16 16 [] rfl rfl (by simp) (by simp) rfl (by simp)
      refine awp_block ?_
      refine awp_loop (ι := Nat) (fun j => ⟨52, [(0, sts l), (1, .I t), (5, .rs 16 0 n), (6, .I i), (7, .B (goneB (l.take j) t i)), (8, .I j)], [(16, some ⟨1, rwI R, 0⟩)], 72⟩) (fun j => j ≤ l.length) (fun j => l.length - j) 0 (Nat.zero_le _) (Le.refl _ _) ?_
      intro j hj
      refine awp_seq ?_
      refine awp_regc ⟨52, [(0, sts l), (1, .I t), (5, .rs 16 0 n), (6, .I i), (7, .B (goneB (l.take j) t i)), (8, .I j), (16, .B (decide (j < l.length)))], [(16, some ⟨1, rwI R, 0⟩)], 104⟩ rfl ?_ ?_
      · generalize rwI R = X at *
        simp
        exact Le.Z1 hXf 16 16 [] rfl rfl (by simp) (by simp) rfl (by simp)
      refine awp_cond _ rfl (fun h2 => awp_skip ?_) fun h2 => awp_exit (hit ?_)
      · simp only [decide_eq_true_eq] at h2
        have hwj : IntKind.i64.wrap ((j : Int) + 1) = ((j + 1 : Nat) : Int) := by rw [w64 (by omega) (by omega)]; omega
        refine awp_cut (ι := Unit) (fun _ => ⟨52, [(0, sts l), (1, .I t), (5, .rs 16 0 n), (6, .I i), (7, .B (goneB (l.take (j + 1)) t i)), (8, .I j)], [(16, some ⟨1, rwI R, 0⟩)], 400⟩) (fun _ => True) ?_ fun _ _ => ?_
        · refine awp_block ?_
          have hbs := goneB_succ l t i j h2
          generalize goneB (l.take (j + 1)) t i = b1 at *
          generalize goneB (l.take j) t i = b at *
          have hg : l[j]? = some l[j] := List.getElem?_eq_getElem h2
          generalize l[j] = s at *
          generalize rwI R = X at *
          refine awp_reg rfl ?_
          cases b
          · rw [Bool.false_or] at hbs
            by_cases c1 : s.au = i
            · have c1' : (s.au == (i : Int)) = true := by simp [c1]
              by_cases c2 : s.ki = 3
              · have c2' : (s.ki == 3) = true := by simp [c2]
                have e : b1 = decide (s.ti ≤ t) := by
                  rw [hbs, Bool.eq_iff_iff, decide_eq_true_eq, decide_eq_true_eq]
                  exact ⟨fun hq => hq.2.2, fun hq => ⟨c1, c2, hq⟩⟩
                simp [hg, c1', c2', e]
                exact Le.Z1 hXf 16 16 [] rfl rfl (by simp) (by simp) rfl (by simp)
              · have c2' : (s.ki == 3) = false := by simp [c2]
                have e : b1 = false := by rw [hbs]; exact decide_eq_false fun hq => c2 hq.2.1
                simp [hg, c1', c2', e]
                exact Le.Z1 hXf 16 16 [] rfl rfl (by simp) (by simp) rfl (by simp)
            · have c1' : (s.au == (i : Int)) = false := by simp [c1]
              have e : b1 = false := by rw [hbs]; exact decide_eq_false fun hq => c1 hq.1
              simp [hg, c1', e]
              exact Le.Z1 hXf 16 16 [] rfl rfl (by simp) (by simp) rfl (by simp)
          · rw [Bool.true_or] at hbs
            simp [hbs]
            exact Le.Z1 hXf 16 16 [] rfl rfl (by simp) (by simp) rfl (by simp)
        refine awp_reg rfl ?_
        generalize rwI R = X at *
        simp [hwj]
        exact ⟨j + 1, by omega, by omega, Le.Z1 hXf 16 16 [] rfl rfl (by simp) (by simp) rfl (by simp)⟩
      simp only [decide_eq_false_iff_not] at h2
      obtain rfl : j = l.length := by omega
      rw [List.take_length]
      refine awp_regc ⟨52, [(0, sts l), (1, .I t), (5, .rs 16 0 n), (6, .I i), (46, .B (goneB l t i))], [(16, some ⟨1, rwI R, 0⟩)], 112⟩ rfl ?_ ?_
      · generalize rwI R = X at *
        simp
        exact Le.Z1 hXf 16 16 [] rfl rfl (by simp) (by simp) rfl (by simp)
      generalize goneB l t i = b at *
      refine awp_cond _ rfl (fun h5 => ?_) fun h5 => awp_skip ?_
      · rw [if_pos h5]
        have hXe : rwI (R ++ [(i : Int)]) = rwI R ++ [[AV.I i]] := by rw [rwI, List.map_append]; rfl
        have hRl : (R ++ [(i : Int)]).length = n + 1 := by rw [List.length_append, ← hnR]; rfl
        rw [hXe, hRl]
        have hXf2 : ∀ ρ sn h m, (rwI R ++ [[AV.I i]]).map (List.map (conv ρ sn h (m + 1))) = rwI R ++ [[AV.I i]] := fun ρ sn h m => by rw [List.map_append, hXf]; simp
        generalize rwI R = X at *
        have htk : List.take n X = X := List.take_of_length_le (by omega)
        refine awp_reg rfl ?_
        simp [hXl, htk]
        repeat' apply And.intro
        all_goals first | omega | exact Le.Z1 hXf2 136 16 [] rfl rfl (by simp) (by simp) (by simp [htk]) (by simp)
      · rw [if_neg (by simpa using h5), List.append_nil, ← hnR]
        exact ⟨(), trivial, Le.keep rfl (by simp) (by simp) (by simp)⟩
    have hXf := rwI_flat (goneN l t (i + 1))
    refine awp_reg rfl ?_
    simp [hwi]
    exact ⟨i + 1, by omega, by omega, Le.Z1 hXf 16 16 [] rfl rfl (by simp) (by simp) rfl (by simp)⟩
  simp only [decide_eq_false_iff_not] at h
  obtain rfl : i = 64 := by omega
  refine awp_seq ?_
  refine awp_run (s := ?s9) rfl ?o9 ?q9
  case o9 => simp; rfl
  refine awp_ret ?_
  exact ⟨.inr rfl, RetOk.out [16] [] rfl (by simp) (by simp) (by simp) (by simp [Function.comp_def])⟩
set_option maxHeartbeats 1000000 in
set_option maxRecDepth 100000 in
theorem ref10_has_ok (l : List Int) (x : Int) (hl : l.length ≤ 1000000) : ACalls Tryz.prog nref10_has [ints l, .I x] [] (.B (decide (x ∈ l))) [] := by
  refine sref10_has.acalls (Nat.le_of_ble_eq_true rfl) (Nat.le_of_ble_eq_true rfl) (Nat.le_refl _) ?_
  show awp _ 0 _ _ ⟨18, [(0, ints l), (1, .I x)], [], 16⟩
  refine awp_regc ⟨18, [(0, ints l), (1, .I x)], [], 24⟩ rfl (by simp; exact Le.snap [] rfl rfl (by simp)) ?_
  refine awp_seq ?_
  refine awp_regc ⟨18, [(0, ints l), (1, .I x), (5, .I (0 : Nat))], [], 32⟩ rfl (by simp; exact Le.snap [] rfl rfl (by simp)) ?_
  refine awp_block ?_
  refine awp_loop (ι := Nat) (fun i => ⟨18, [(0, ints l), (1, .I x), (5, .I i)], [], 32⟩) (fun i => i ≤ l.length ∧ x ∉ l.take i) (fun i => l.length - i) 0 ⟨Nat.zero_le _, by simp⟩ (Le.refl _ _) ?_
  rintro i ⟨hi, hp⟩
  refine awp_seq ?_
  refine awp_regc ⟨18, [(0, ints l), (1, .I x), (5, .I i), (9, .B (decide (i < l.length)))], [], 64⟩ rfl (by simp; exact Le.snap [] rfl rfl (by simp)) ?_
  refine awp_cond _ rfl (fun h => awp_skip ?_) fun h => awp_exit (hit ?_)
  · simp only [decide_eq_true_eq] at h
    have hwi : IntKind.i64.wrap ((i : Int) + 1) = ((i + 1 : Nat) : Int) := by rw [w64 (by omega) (by omega)]; omega
    obtain ⟨y, hy⟩ : ∃ y, l[i] = y := ⟨_, rfl⟩
    have hg : l[i]? = some y := by rw [List.getElem?_eq_getElem h, hy]
    refine awp_seq ?_
    refine awp_block ?_
    refine awp_regc ⟨18, [(0, ints l), (1, .I x), (5, .I i), (17, .B (decide (y = x)))], [], 112⟩ rfl ?_ ?_
    · simp [hg]
      exact Le.snap [] rfl rfl (by simp <;> exact wkB (by rw [Bool.eq_iff_iff]; simp))
    refine awp_cond _ rfl (fun h5 => ?_) fun h5 => awp_skip ?_
    · simp only [decide_eq_true_eq] at h5
      have hm : x ∈ l := by rw [← h5, ← hy]; exact List.getElem_mem h
      rw [decide_eq_true hm]
      refine awp_seq ?_
      refine awp_run (s := ?t1) rfl ?o1 ?q1
      case o1 => simp; rfl
      refine awp_ret ?_
      exact ⟨.inr rfl, RetOk.one (by simp)⟩
    simp only [decide_eq_false_iff_not] at h5
    refine awp_reg rfl ?_
    simp [hwi]
    refine ⟨i + 1, ⟨by omega, ?_⟩, by omega, Le.snap [] rfl rfl (by simp)⟩
    rw [List.take_succ_eq_append_getElem h, List.mem_append, hy]
    rintro (hq | hq)
    · exact hp hq
    · exact h5 (List.mem_singleton.1 hq).symm
  simp only [decide_eq_false_iff_not] at h
  obtain rfl : i = l.length := by omega
  rw [List.take_length] at hp
  rw [decide_eq_false hp]
  refine awp_seq ?_
  refine awp_run (s := ?s9) rfl ?o9 ?q9
  case o9 => simp; rfl
  refine awp_ret ?_
  exact ⟨.inr rfl, RetOk.one (by simp)⟩
end Go.Proofs.YtnlanlpbgcalcaaGreat
namespace Go.Proofs.YtnlanlpbgcalcaaGreat
open Go
def HoldsR (v : Vch) (g : List Int) (t : Int) : Prop := v.ti ≤ t ∧ t < v.en ∧ (v.re = -1 ∨ t < v.re) ∧ v.fr ∉ g ∧ v.to ∉ g
instance (v : Vch) (g : List Int) (t : Int) : Decidable (HoldsR v g t) := by unfold HoldsR; infer_instance
def nextB (V : List Vch) (t : Int) (i : Nat) (v : Vch) : Bool := (V[i + 1]?).any fun w => decide (LaterP v t w)
def keepR (V : List Vch) (g : List Int) (t : Int) (i : Nat) (v : Vch) : Bool := decide (HoldsR v g t) && !nextB V t i v
def actRN (V : List Vch) (g : List Int) (t : Int) : Nat → List Vch
  | 0 => []
  | i + 1 => actRN V g t i ++ match V[i]? with | some v => if keepR V g t i v then [v] else [] | none => []
def actR (l : List Stm) (t : Int) : List Vch := actRN (ofR l) (goneN l t 64) t (ofR l).length
theorem actRN_le (V : List Vch) (g : List Int) (t : Int) : ∀ i, (actRN V g t i).length ≤ i
  | 0 => Nat.le_refl _
  | i + 1 => by
    have := actRN_le V g t i
    unfold actRN
    rw [List.length_append]
    split
    · split <;> simp <;> omega
    · simp; omega
theorem ofR_len (l : List Stm) : (ofR l).length = (rawR l l).length := by unfold ofR isortV; rw [List.length_reverse, isortRevV_len]
set_option maxHeartbeats 4000000 in
set_option maxRecDepth 100000 in
theorem ref10_Active_ok (l : List Stm) (t : Int) (hl : l.length ≤ 100000) : ACalls Tryz.prog nref10_Active [sts l, .I t] [] (.rs 0 0 (actR l t).length) [some ⟨7, rowsV (actR l t), 0⟩] := by
  refine sref10_Active.acalls (Nat.le_of_ble_eq_true rfl) (Nat.le_of_ble_eq_true rfl) (Nat.zero_le _) ?_
  show awp _ 0 _ _ ⟨107, [(0, sts l), (1, .I t)], [], 16⟩
  refine awp_regc ⟨107, [(0, sts l), (1, .I t)], [], 24⟩ rfl (by simp; exact Le.snap [] rfl rfl (by simp)) ?_
  have hof := ref10_Of_ok l hl
  have hgo := ref10_Gone_ok l t (by omega)
  have hVl := ofR_len l
  have hVl2 := rawR_le l l
  have hGl := goneN_le l t 64
  have hact : actR l t = actRN (ofR l) (goneN l t 64) t (ofR l).length := rfl
  rw [hact]
  generalize ofR l = V at *
  generalize goneN l t 64 = G at *
  have tkV : List.take V.length (rowsV V) = rowsV V := List.take_of_length_le (by simp)
  have tkG : List.take G.length (rwI G) = rwI G := List.take_of_length_le (by simp)
  refine awp_regc ⟨107, [(1, .I t), (5, vchs V), (6, ints G)], [], 80⟩ rfl ?_ ?_
  · simp
    refine callN1 hof rfl ?_
    simp [Function.comp_def]
    refine callN1 hgo rfl ?_
    simp [Function.comp_def]
    exact Le.snap [32, 56] rfl rfl (by
      simp [Function.comp_def]
      exact ⟨wkE (congrArg _ tkV), wkE (congrArg _ tkG)⟩)
  refine awp_regc ⟨107, [(1, .I t), (5, vchs V), (6, ints G), (7, .sc (.slice none 0 0))], [], 88⟩ rfl (by simp; exact Le.snap [] rfl rfl (by simp)) ?_
  refine awp_seq ?_
  refine awp_regc ⟨107, [(1, .I t), (5, vchs V), (6, ints G), (7, .sc (.slice none 0 0)), (8, .I (0 : Nat))], [], 96⟩ rfl (by simp; exact Le.snap [] rfl rfl (by simp)) ?_
  refine awp_block ?_
  refine awp_loop (ι := Nat) (fun i => ⟨107, [(1, .I t), (5, vchs V), (6, ints G), (7, .rs 16 0 (actRN V G t i).length), (8, .I i)], [(16, some ⟨7, rowsV (actRN V G t i), 0⟩)], 96⟩) (fun i => i ≤ V.length) (fun i => V.length - i) 0 (Nat.zero_le _) (Le.lst [] [] [(16, 7)] rfl (by simp) (by simp) (by simp) (by simp) (by simp) (by simp) (by simp) (by simp [Up, actRN]) (by simp [actRN])) ?_
  intro i hi
  refine awp_seq ?_
  refine awp_regc ⟨107, [(1, .I t), (5, vchs V), (6, ints G), (7, .rs 16 0 (actRN V G t i).length), (8, .I i), (19, .B (decide (i < V.length)))], [(16, some ⟨7, rowsV (actRN V G t i), 0⟩)], 128⟩ rfl ?_ ?_
  · simp
    exact Le.keep rfl (Nat.le_refl _) (by simp) (by simp)
  refine awp_cond _ rfl (fun h => awp_skip ?_) fun h => awp_exit (hit ?_)
  · simp only [decide_eq_true_eq] at h
    have hwi : IntKind.i64.wrap ((i : Int) + 1) = ((i + 1 : Nat) : Int) := by rw [w64 (by omega) (by omega)]; omega
    refine awp_cut (ι := Unit) (fun _ => ⟨107, [(1, .I t), (5, vchs V), (6, ints G), (7, .rs 16 0 (actRN V G t (i + 1)).length), (8, .I i)], [(16, some ⟨7, rowsV (actRN V G t (i + 1)), 0⟩)], 1000⟩) (fun _ => True) ?_ fun _ _ => ?_
    · have hg : V[i]? = some V[i] := List.getElem?_eq_getElem h
      have hRl := actRN_le V G t i
      have hstep : actRN V G t (i + 1) = actRN V G t i ++ if keepR V G t i V[i] then [V[i]] else [] := by rw [actRN, hg]
      have hkeep : keepR V G t i V[i] = (decide (HoldsR V[i] G t) && !nextB V t i V[i]) := rfl
      rw [hstep]
      generalize V[i] = v at *
      generalize actRN V G t i = R at *
      generalize keepR V G t i v = kb at *
      have hXf := rowsV_flat R
      obtain ⟨n, hnR⟩ : ∃ n, n = R.length := ⟨_, rfl⟩
      have hXl : (rowsV R).length = n := by rw [rowsV, List.length_map, hnR]
      rw [← hnR]
      refine awp_block ?_
      refine awp_regc ⟨107, [(1, .I t), (5, vchs V), (6, ints G), (7, .rs 16 0 n), (8, .I i), (9, .pv (vC v))], [(16, some ⟨7, rowsV R, 0⟩)], 176⟩ rfl ?_ ?_
      · generalize rowsV R = X at *
        simp [hg, splice]
        exact Le.Z1 hXf 16 16 [160] rfl rfl (by simp) (by simp) rfl (by simp)
      obtain ⟨nb, hnb⟩ : ∃ nb, nb = nextB V t i v := ⟨_, rfl⟩
      rw [← hnb] at hkeep
      obtain ⟨i1, hi1⟩ : ∃ i1, i1 = i + 1 := ⟨_, rfl⟩
      have hwi1 : IntKind.i64.wrap ((i : Int) + 1) = (i1 : Int) := by rw [w64 (by omega) (by omega)]; omega
      have hnb2 : nb = (V[i1]?).any fun w => decide (LaterP v t w) := by rw [hnb, hi1]; rfl
      refine awp_dregc ⟨107, [(1, .I t), (5, vchs V), (6, ints G), (7, .rs 16 0 n), (8, .I i), (9, .pv (vC v)), (10, .B nb)], [(16, some ⟨7, rowsV R, 0⟩)], 480⟩ rfl ?_ ?_
      · generalize rowsV R = X at *
        by_cases hlt : i1 < V.length
        · have hg1 : V[i1]? = some V[i1] := List.getElem?_eq_getElem hlt
          rw [hg1] at hnb2
          obtain ⟨w, hw⟩ : ∃ w, V[i1] = w := ⟨_, rfl⟩
          rw [hw] at hnb2
          have hnb3 : nb = decide (LaterP v t w) := hnb2
          by_cases c1 : w.fr = v.fr
          · have c1' : (w.fr == v.fr) = true := by simp [c1]
            by_cases c2 : w.to = v.to
            · have c2' : (w.to == v.to) = true := by simp [c2]
              have e : nb = decide (w.ti ≤ t) := by
                rw [hnb3, Bool.eq_iff_iff, decide_eq_true_eq, decide_eq_true_eq]
                exact ⟨fun hq => hq.2.2, fun hq => ⟨c1, c2, hq⟩⟩
              simp [hwi1, hlt, hw, c1', c2', e]
              exact ⟨rfl, Le.Z1 hXf 16 16 [] rfl rfl (by simp) (by simp) rfl (by simp)⟩
            · have c2' : (w.to == v.to) = false := by simp [c2]
              have e : nb = false := by rw [hnb3]; exact decide_eq_false fun hq => c2 hq.2.1
              simp [hwi1, hlt, hw, c1', c2', e]
              exact ⟨rfl, Le.Z1 hXf 16 16 [] rfl rfl (by simp) (by simp) rfl (by simp)⟩
          · have c1' : (w.fr == v.fr) = false := by simp [c1]
            have e : nb = false := by rw [hnb3]; exact decide_eq_false fun hq => c1 hq.1
            simp [hwi1, hlt, hw, c1', e]
            exact ⟨rfl, Le.Z1 hXf 16 16 [] rfl rfl (by simp) (by simp) rfl (by simp)⟩
        · have hg1 : V[i1]? = none := List.getElem?_eq_none (by omega)
          rw [hg1] at hnb2
          have e : nb = false := hnb2
          simp [hwi1, hlt, e]
          exact ⟨rfl, Le.Z1 hXf 16 16 [] rfl rfl (by simp) (by simp) rfl (by simp)⟩
      obtain ⟨b1, hb1⟩ : ∃ b, b = decide (v.fr ∈ G) := ⟨_, rfl⟩
      obtain ⟨b2, hb2⟩ : ∃ b, b = decide (v.to ∈ G) := ⟨_, rfl⟩
      have k1 := ref10_has_ok G v.fr (by omega)
      have k2 := ref10_has_ok G v.to (by omega)
      rw [← hb1] at k1
      rw [← hb2] at k2
      refine awp_regc ⟨107, [(1, .I t), (5, vchs V), (6, ints G), (7, .rs 16 0 n), (8, .I i), (9, .pv (vC v)), (101, .B kb)], [(16, some ⟨7, rowsV R, 0⟩)], 792⟩ rfl ?_ ?_
      · generalize rowsV R = X at *
        by_cases c1 : v.ti ≤ t
        · by_cases c2 : t < v.en
          · by_cases c3 : v.re = -1 ∨ t < v.re
            · have hre : kb = (!b1 && !b2 && !nb) := by
                rw [hkeep, hb1, hb2, Bool.eq_iff_iff]
                simp [HoldsR, c1, c2, c3]
              have fin : ∀ w : Bool, kb = w → True := fun _ _ => trivial
              rcases Classical.em (v.re = -1) with c4 | c4
              · have c4' : (v.re == -1) = true := by simp [c4]
                cases nb
                · simp [c1, c2, c4']
                  refine call0e k1 rfl ?_
                  cases b1
                  · simp
                    refine call0e k2 rfl ?_
                    simp
                    exact Le.Z1 hXf 16 16 [] rfl rfl (by simp) (by simp) rfl (by simp [hre])
                  · simp
                    exact Le.Z1 hXf 16 16 [] rfl rfl (by simp) (by simp) rfl (by simp [hre])
                · simp [c1, c2, c4']
                  exact Le.Z1 hXf 16 16 [] rfl rfl (by simp) (by simp) rfl (by simp [hre])
              · have c5 : t < v.re := c3.resolve_left c4
                have c4' : (v.re == -1) = false := by simp [c4]
                cases nb
                · simp [c1, c2, c4', c5]
                  refine call0e k1 rfl ?_
                  cases b1
                  · simp
                    refine call0e k2 rfl ?_
                    simp
                    exact Le.Z1 hXf 16 16 [] rfl rfl (by simp) (by simp) rfl (by simp [hre])
                  · simp
                    exact Le.Z1 hXf 16 16 [] rfl rfl (by simp) (by simp) rfl (by simp [hre])
                · simp [c1, c2, c4', c5]
                  exact Le.Z1 hXf 16 16 [] rfl rfl (by simp) (by simp) rfl (by simp [hre])
            · have e : kb = false := by
                rw [hkeep, decide_eq_false fun hq => c3 hq.2.2.1]
                rfl
              have c4 : ¬ v.re = -1 := fun h => c3 (.inl h)
              have c4' : (v.re == -1) = false := by simp [c4]
              have c5 : ¬ t < v.re := fun h => c3 (.inr h)
              simp [c1, c2, c4', c5, e]
              exact Le.Z1 hXf 16 16 [] rfl rfl (by simp) (by simp) rfl (by simp)
          · have e : kb = false := by
              rw [hkeep, decide_eq_false fun hq => c2 hq.2.1]
              rfl
            simp [c1, c2, e]
            exact Le.Z1 hXf 16 16 [] rfl rfl (by simp) (by simp) rfl (by simp)
        · have e : kb = false := by
            rw [hkeep, decide_eq_false fun hq => c1 hq.1]
            rfl
          simp [c1, e]
          exact Le.Z1 hXf 16 16 [] rfl rfl (by simp) (by simp) rfl (by simp)
      refine awp_cond _ rfl (fun h5 => ?_) fun h5 => awp_skip ?_
      · rw [if_pos h5]
        have hXe : rowsV (R ++ [v]) = rowsV R ++ [vC v] := by rw [rowsV, List.map_append]; rfl
        have hRl2 : (R ++ [v]).length = n + 1 := by rw [List.length_append, ← hnR]; rfl
        rw [hXe, hRl2]
        have hXf2 : ∀ ρ sn h m, (rowsV R ++ [vC v]).map (List.map (conv ρ sn h (m + 1))) = rowsV R ++ [vC v] := fun ρ sn h m => by rw [List.map_append, hXf]; simp
        generalize rowsV R = X at *
        have htk : List.take n X = X := List.take_of_length_le (by omega)
        refine awp_reg rfl ?_
        simp [hXl, htk]
        repeat' apply And.intro
        all_goals first | omega | exact Le.Z1 hXf2 816 16 [] rfl rfl (by simp) (by simp) (by simp [htk]) (by simp)
      · rw [if_neg (by simpa using h5), List.append_nil, ← hnR]
        exact ⟨(), trivial, Le.keep rfl (by simp) (by simp) (by simp)⟩
    have hXf := rowsV_flat (actRN V G t (i + 1))
    refine awp_reg rfl ?_
    simp [hwi]
    exact ⟨i + 1, by omega, by omega, Le.Z1 hXf 16 16 [] rfl rfl (by simp) (by simp) rfl (by simp)⟩
  simp only [decide_eq_false_iff_not] at h
  obtain rfl : i = V.length := by omega
  refine awp_seq ?_
  refine awp_run (s := ?s9) rfl ?o9 ?q9
  case o9 => simp; rfl
  refine awp_ret ?_
  exact ⟨.inr rfl, RetOk.out [16] [] rfl (by simp) (by simp) (by simp) (by simp [Function.comp_def])⟩
end Go.Proofs.YtnlanlpbgcalcaaGreat
namespace Go.Proofs.YtnlanlpbgcalcaaGreat
open Go
end Go.Proofs.YtnlanlpbgcalcaaGreat
namespace Go.Proofs.YtnlanlpbgcalcaaGreat
open Go
def OrdS (x y : Stm) : Prop := x.au < y.au ∨ (x.au = y.au ∧ x.nu < y.nu ∧ x.ti ≤ y.ti ∧ x.ki ≠ 3)
structure GoodL (l : List Stm) : Prop where
  ord : l.Pairwise OrdS
  rng : ∀ s ∈ l, 0 ≤ s.au ∧ s.au < 64 ∧ 0 ≤ s.ti ∧ 0 ≤ s.nu
theorem rv_no {v x : Stm} {p : Int × Int} (h : ¬ RevP v x p) : revStep v p x = p := if_neg h
theorem rev_keep (v : Stm) (p : Int × Int) (h0 : 0 ≤ p.2) : ∀ l : List Stm, (∀ s ∈ l, s.au = v.au → p.2 < s.nu) → l.foldl (revStep v) p = p
  | [], _ => rfl
  | s :: l, h => by
    have hn : ¬ RevP v s p := fun hq => by
      have h1 := h s (List.mem_cons_self ..) hq.1
      rcases hq.2.2.2.2 with h2 | h2 <;> omega
    rw [List.foldl_cons, rv_no hn]
    exact rev_keep v p h0 l fun s hs => h s (List.mem_cons_of_mem _ hs)
theorem rev_first (v : Stm) : ∀ l : List Stm, l.Pairwise OrdS → (∀ s ∈ l, 0 ≤ s.nu) → (l.foldl (revStep v) (-1, -1)).1 = refRev l v
  | [], _, _ => rfl
  | s :: l, ho, hr => by
    rw [List.pairwise_cons] at ho
    rw [List.foldl_cons]
    by_cases hm : RevM v s
    · have hp : RevP v s (-1, -1) := ⟨hm.1, hm.2.2.1, hm.2.2.2, hm.2.1, .inl (by decide)⟩
      have hst : revStep v (-1, -1) s = (s.ti, s.nu) := if_pos hp
      rw [hst, rev_keep v (s.ti, s.nu) (hr s (List.mem_cons_self ..)) l fun x hx hxa => by
        rcases ho.1 x hx with h1 | h1
        · have := hm.1; omega
        · exact h1.2.1]
      unfold refRev
      rw [List.find?_cons_of_pos (by simpa using hm)]
    · have hst : revStep v (-1, -1) s = (-1, -1) := rv_no fun hq => hm ⟨hq.1, hq.2.2.2.1, hq.2.1, hq.2.2.1⟩
      rw [hst, rev_first v l ho.2 fun x hx => hr x (List.mem_cons_of_mem _ hx)]
      unfold refRev
      rw [List.find?_cons_of_neg (by simpa using hm)]
theorem GoodL.rev {l : List Stm} (h : GoodL l) (v : Stm) : revF l v = refRev l v := rev_first v l h.ord fun s hs => (h.rng s hs).2.2.2
theorem GoodL.raw {l : List Stm} (h : GoodL l) : rawV l l = rawR l l := by
  unfold rawV rawR
  refine congrArg (fun f => List.map f _) ?_
  funext s
  unfold vOf vOfR
  rw [h.rev]
theorem GoodL.of {l : List Stm} (h : GoodL l) : ofV l = ofR l := by unfold ofV ofR; rw [h.raw]
theorem GoodL.asc {l : List Stm} (h : GoodL l) (t : Int) : (goneR l t).Pairwise (· < ·) := by
  unfold goneR
  rw [List.pairwise_map]
  refine List.Pairwise.imp_of_mem ?_ (h.ord.filter _)
  intro a b ha hb hab
  have h1 : GoneP t a := by simpa using (List.mem_filter.1 ha).2
  rcases hab with h2 | h2
  · exact h2
  · exact absurd h1.1 h2.2.2.2
theorem asc_ext : ∀ {a b : List Int}, a.Pairwise (· < ·) → b.Pairwise (· < ·) → (∀ x, x ∈ a ↔ x ∈ b) → a = b
  | [], [], _, _, _ => rfl
  | [], y :: b, _, _, h => by have := (h y).2 (List.mem_cons_self ..); simp at this
  | x :: a, [], _, _, h => by have := (h x).1 (List.mem_cons_self ..); simp at this
  | x :: a, y :: b, ha, hb, h => by
    rw [List.pairwise_cons] at ha hb
    have hxy : x = y := by
      rcases List.mem_cons.1 ((h x).1 (List.mem_cons_self ..)) with h1 | h1
      · exact h1
      · rcases List.mem_cons.1 ((h y).2 (List.mem_cons_self ..)) with h2 | h2
        · exact h2.symm
        · have h3 := hb.1 x h1
          have h4 := ha.1 y h2
          omega
    subst hxy
    refine congrArg _ (asc_ext ha.2 hb.2 fun z => ⟨fun hz => ?_, fun hz => ?_⟩)
    · rcases List.mem_cons.1 ((h z).1 (List.mem_cons_of_mem _ hz)) with h1 | h1
      · have := ha.1 z hz; omega
      · exact h1
    · rcases List.mem_cons.1 ((h z).2 (List.mem_cons_of_mem _ hz)) with h1 | h1
      · have := hb.1 z hz; omega
      · exact h1
theorem mem_goneN (l : List Stm) (t x : Int) : ∀ n : Nat, x ∈ goneN l t n ↔ 0 ≤ x ∧ x < n ∧ goneB l t x = true
  | 0 => by simp [goneN]; omega
  | n + 1 => by
    unfold goneN
    rw [List.mem_append, mem_goneN l t x n]
    constructor
    · rintro (h | h)
      · exact ⟨h.1, by omega, h.2.2⟩
      · split at h
        · rename_i hb
          rw [List.mem_singleton] at h
          subst h
          exact ⟨by omega, by omega, hb⟩
        · simp at h
    · rintro ⟨h1, h2, h3⟩
      by_cases h4 : x < n
      · exact .inl ⟨h1, h4, h3⟩
      · have h5 : x = (n : Int) := by omega
        subst h5
        rw [if_pos h3]
        exact .inr (List.mem_singleton.2 rfl)
theorem goneN_asc (l : List Stm) (t : Int) : ∀ n : Nat, (goneN l t n).Pairwise (· < ·)
  | 0 => List.Pairwise.nil
  | n + 1 => by
    unfold goneN
    rw [List.pairwise_append]
    refine ⟨goneN_asc l t n, by split <;> simp, fun a ha b hb => ?_⟩
    have h1 := (mem_goneN l t a n).1 ha
    split at hb
    · rw [List.mem_singleton] at hb
      omega
    · simp at hb
theorem GoodL.gone {l : List Stm} (h : GoodL l) (t : Int) : goneR l t = goneN l t 64 := by
  refine asc_ext (h.asc t) (goneN_asc l t 64) fun x => ?_
  rw [mem_goneN]
  unfold goneR goneB
  rw [List.mem_map, List.any_eq_true]
  constructor
  · rintro ⟨s, hs, rfl⟩
    have hs2 := List.mem_filter.1 hs
    have hr := h.rng s hs2.1
    exact ⟨hr.1, hr.2.1, s, hs2.1, by simpa [GoneK] using hs2.2⟩
  · rintro ⟨_, _, s, hs, hg⟩
    have hg2 : GoneK t x s := by simpa using hg
    exact ⟨s, List.mem_filter.2 ⟨hs, by simpa using hg2.2⟩, hg2.1⟩
def ltV (a b : Vch) : Prop := a.fr < b.fr ∨ (a.fr = b.fr ∧ (a.to < b.to ∨ (a.to = b.to ∧ a.nu < b.nu)))
theorem cmpV_lt (a b : Vch) : cmpV a b < 0 ↔ ltV a b := by
  unfold ltV
  by_cases h1 : a.fr = b.fr
  · by_cases h2 : a.to = b.to
    · rw [cmpV_3 h1 h2, cmpI_lt]; omega
    · rw [cmpV_2 h1 h2, cmpI_lt]; omega
  · rw [cmpV_1 h1, cmpI_lt]; omega
theorem ltV_asym {a b : Vch} (h : ltV a b) : ¬ ltV b a := by unfold ltV at *; omega
theorem ltV_neg {a b c : Vch} (h1 : ¬ ltV a b) (h2 : ¬ ltV b c) : ¬ ltV a c := by unfold ltV at *; omega
theorem insV_sorted : ∀ (R : List Vch) (x : Vch), R.Pairwise (fun a b => ¬ ltV a b) → (insRevV cmpV R x).Pairwise (fun a b => ¬ ltV a b)
  | [], x, _ => by simp [insRevV]
  | y :: R, x, h => by
    rw [List.pairwise_cons] at h
    unfold insRevV
    split
    · rename_i hc
      rw [cmpV_lt] at hc
      rw [List.pairwise_cons]
      refine ⟨fun z hz => ?_, insV_sorted R x h.2⟩
      rcases List.mem_cons.1 ((insRevV_perm cmpV R x).mem_iff.1 hz) with h1 | h1
      · subst h1
        exact ltV_asym hc
      · exact h.1 z h1
    · rename_i hc
      rw [cmpV_lt] at hc
      rw [List.pairwise_cons, List.pairwise_cons]
      refine ⟨fun z hz => ?_, h⟩
      rcases List.mem_cons.1 hz with h1 | h1
      · rw [h1]; exact hc
      · exact ltV_neg hc (h.1 z h1)
theorem isortRevV_sorted (M : List Vch) : ∀ R : List Vch, R.Pairwise (fun a b => ¬ ltV a b) → (M.foldl (insRevV cmpV) R).Pairwise (fun a b => ¬ ltV a b) := by
  induction M with
  | nil => exact fun R h => h
  | cons x M ih => exact fun R h => ih _ (insV_sorted R x h)
theorem isortV_sorted (M : List Vch) : (isortV cmpV M).Pairwise (fun a b => ¬ ltV b a) := by
  unfold isortV
  rw [List.pairwise_reverse]
  exact isortRevV_sorted M [] List.Pairwise.nil
theorem mem_isortV {M : List Vch} {v : Vch} : v ∈ isortV cmpV M ↔ v ∈ M := by
  unfold isortV
  rw [List.mem_reverse, (isortRevV_perm cmpV M).mem_iff]
theorem keep_eq {V : List Vch} {g : List Int} {t : Int} {i : Nat} {v : Vch} (hv : V[i]? = some v) (hs : V.Pairwise fun a b => ¬ ltV b a)
    (ht : ∀ a ∈ V, ∀ b ∈ V, a.fr = b.fr → a.nu ≤ b.nu → a.ti ≤ b.ti) (hre : v.re = -1 ∨ 0 ≤ v.re) : keepB V g t i v = keepR V g t i v := by
  have hh : HoldsP v g t ↔ HoldsR v g t := by
    have e : (v.re < 0 ∨ t < v.re) ↔ (v.re = -1 ∨ t < v.re) := by omega
    unfold HoldsP HoldsR
    rw [e]
  unfold keepB keepR
  rw [decide_eq_decide.2 hh]
  congr 1
  obtain ⟨hi, hvi⟩ := List.getElem?_eq_some_iff.1 hv
  by_cases h : i + 1 < V.length
  · have hw : V[i + 1]? = some V[i + 1] := List.getElem?_eq_getElem h
    unfold nextB
    rw [hw, List.drop_eq_getElem_cons h, List.all_cons, Option.any_some]
    by_cases hl : LaterP v t V[i + 1]
    · rw [decide_eq_true hl]
      rfl
    · rw [decide_eq_false hl]
      show (true && _) = true
      rw [Bool.true_and, List.all_eq_true]
      intro z hz
      simp only [Bool.not_eq_true', decide_eq_false_iff_not]
      intro hzl
      obtain ⟨k, hk, rfl⟩ := List.mem_iff_getElem.1 hz
      rw [List.getElem_drop] at hzl
      rw [List.length_drop] at hk
      have hp := List.pairwise_iff_getElem.1 hs
      have h1 := hp i (i + 1) hi h (by omega)
      have h2 := hp (i + 1) (i + 1 + 1 + k) h (by omega) (by omega)
      have h3 := ht _ (List.getElem_mem h) _ (List.getElem_mem (show i + 1 + 1 + k < V.length by omega))
      rw [hvi] at h1
      generalize V[i + 1] = w at *
      generalize V[i + 1 + 1 + k] = z at *
      unfold LaterP at *
      unfold ltV at h1 h2
      have h4 : w.fr = v.fr := by omega
      have h5 : w.to = v.to := by omega
      have h6 := h3 (by omega) (by omega)
      exact hl ⟨h4, h5, by omega⟩
  · unfold nextB
    rw [List.getElem?_eq_none (by omega), List.drop_eq_nil_of_le (by omega)]
    rfl
theorem act_eq {V : List Vch} {g : List Int} {t : Int} (hs : V.Pairwise fun a b => ¬ ltV b a) (ht : ∀ a ∈ V, ∀ b ∈ V, a.fr = b.fr → a.nu ≤ b.nu → a.ti ≤ b.ti) (hre : ∀ v ∈ V, v.re = -1 ∨ 0 ≤ v.re) : ∀ n, actN V g t n = actRN V g t n
  | 0 => rfl
  | n + 1 => by
    unfold actN actRN
    rw [act_eq hs ht hre n]
    cases hv : V[n]? with
    | none => rfl
    | some v =>
      simp only
      rw [keep_eq hv hs ht (hre v (List.mem_of_getElem? hv))]
theorem GoodL.two {l : List Stm} (h : GoodL l) {x y : Stm} (hx : x ∈ l) (hy : y ∈ l) (ha : x.au = y.au) (hn : x.nu ≤ y.nu) : x.ti ≤ y.ti := by
  obtain ⟨i, hi, rfl⟩ := List.mem_iff_getElem.1 hx
  obtain ⟨j, hj, rfl⟩ := List.mem_iff_getElem.1 hy
  have hp := List.pairwise_iff_getElem.1 h.ord
  rcases Nat.lt_trichotomy i j with h1 | h1 | h1
  · rcases hp i j hi hj h1 with h2 | h2
    · omega
    · exact h2.2.2.1
  · subst h1
    exact Int.le_refl _
  · rcases hp j i hj hi h1 with h2 | h2
    · omega
    · omega
theorem mem_rawV {l : List Stm} {v : Vch} (h : v ∈ rawV l l) : ∃ s ∈ l, s.ki = 1 ∧ v = vOf l s := by
  unfold rawV at h
  obtain ⟨s, hs, rfl⟩ := List.mem_map.1 h
  have hs2 := List.mem_filter.1 hs
  exact ⟨s, hs2.1, by simpa using hs2.2, rfl⟩
theorem GoodL.act {l : List Stm} (h : GoodL l) (t : Int) : actV l t = actR l t := by
  unfold actV actR
  rw [← h.of, ← h.gone]
  refine act_eq (isortV_sorted _) ?_ ?_ _
  · intro a ha b hb h1 h2
    obtain ⟨x, hx, _, rfl⟩ := mem_rawV (mem_isortV.1 ha)
    obtain ⟨y, hy, _, rfl⟩ := mem_rawV (mem_isortV.1 hb)
    exact h.two hx hy h1 h2
  · intro v hv
    obtain ⟨x, hx, _, rfl⟩ := mem_rawV (mem_isortV.1 hv)
    show revF l x = -1 ∨ 0 ≤ revF l x
    rw [h.rev]
    unfold refRev
    split
    · rename_i s hs
      exact .inr (h.rng s (List.mem_of_find?_eq_some hs)).2.2.1
    · exact .inl rfl
theorem Chain.good {a : Int} {c : List Stm} (hc : Chain a c) : GoodL c := by
  have hi : ∀ i (h : i < c.length), c[i].au = a ∧ c[i].nu = i ∧ 0 ≤ c[i].au ∧ c[i].au < 64 ∧ 0 ≤ c[i].ti := fun i h => by
    have := hc.1 i h
    exact ⟨this.au_, this.nu_, this.ok.1.1, this.ok.1.2, this.ok.2.2.1.1⟩
  have hstep : ∀ i k (hj : i + k + 1 < c.length), c[i].ti ≤ c[i + k + 1].ti ∧ c[i].ki ≠ 3 := by
    intro i k
    induction k with
    | zero =>
      intro hj
      have := hc.2 i hj
      exact ⟨this.ti_, this.ki_⟩
    | succ k ih =>
      intro hj
      have h1 := ih (by omega)
      have h2 := (hc.2 (i + k + 1) hj).ti_
      exact ⟨Int.le_trans h1.1 h2, h1.2⟩
  constructor
  · rw [List.pairwise_iff_getElem]
    intro i j h1 h2 hij
    have h3 := hi i h1
    have h4 := hi j h2
    obtain ⟨k, rfl⟩ : ∃ k, j = i + k + 1 := ⟨j - i - 1, by omega⟩
    have h5 := hstep i k h2
    exact .inr ⟨by omega, by omega, h5.1, h5.2⟩
  · intro s hs
    obtain ⟨i, h, rfl⟩ := List.mem_iff_getElem.1 hs
    have h3 := hi i h
    exact ⟨h3.2.2.1, h3.2.2.2.1, h3.2.2.2.2, by omega⟩
theorem GoodL.append {a b : List Stm} (ha : GoodL a) (hb : GoodL b) (h : ∀ x ∈ a, ∀ y ∈ b, x.au < y.au) : GoodL (a ++ b) where
  ord := by
    rw [List.pairwise_append]
    exact ⟨ha.ord, hb.ord, fun x hx y hy => .inl (h x hx y hy)⟩
  rng := fun s hs => (List.mem_append.1 hs).elim (ha.rng s) (hb.rng s)
end Go.Proofs.YtnlanlpbgcalcaaGreat
namespace Go.Proofs.YtnlanlpbgcalcaaGreat
open Go
theorem outV {st : St} {X : List (List AV)} (hflat : ∀ ρ sn h m, X.map (List.map (conv ρ sn h (m + 1))) = X) (he : st.hp 0 = some ⟨7, X, 0⟩) : RetOk [] 1 st (.tup []) [some ⟨7, X, 0⟩] :=
  ⟨[], rfl, [], [], by simp [List.range, List.range.loop], by simp, by simp, by simp, by simp [List.range, List.range.loop, he, convE, hflat]⟩
theorem swap2_get {H G T : List Vch} {x y : Vch} {p q : Nat} (hp : H.length = p) (hq : p + 1 + G.length = q) : (rowsV (H ++ x :: (G ++ y :: T)))[p]? = some (vC x) ∧ (rowsV (H ++ x :: (G ++ y :: T)))[q]? = some (vC y) := by
  subst hp hq
  constructor
  · rw [List.getElem?_map, List.getElem?_append_right (by omega)]
    simp
  · rw [List.getElem?_map, List.getElem?_append_right (by omega)]
    have e : H.length + 1 + G.length - H.length = G.length + 1 := by omega
    rw [e, List.getElem?_cons_succ, List.getElem?_append_right (by omega)]
    simp
theorem swap2_set {H G T : List Vch} {x y : Vch} {p q : Nat} (hp : H.length = p) (hq : p + 1 + G.length = q) : ((rowsV (H ++ x :: (G ++ y :: T))).set p (vC y)).set q (vC x) = rowsV (H ++ y :: (G ++ x :: T)) := by
  subst hp hq
  have e1 : (rowsV (H ++ x :: (G ++ y :: T))).set H.length (vC y) = rowsV (H ++ y :: (G ++ y :: T)) := by simp [rowsV, List.set_append]
  rw [e1, rowsV, List.map_append, List.set_append_right _ _ (by simp; omega)]
  have e : H.length + 1 + G.length - (H.map vC).length = G.length + 1 := by simp; omega
  rw [e, List.map_cons, List.set_cons_succ, List.map_append, List.set_append_right _ _ (by simp)]
  simp
set_option maxHeartbeats 4000000 in
set_option maxRecDepth 100000 in
theorem swapRangeV_ok (f : FuncId) (capt : List AV) (hs : StillV capt) (P X Q Y R : List Vch) (n a b t : Nat) (hn : (P ++ (X ++ (Q ++ (Y ++ R)))).length = n) (ha : P.length = a) (hX : X.length = t) (hY : Y.length = t) (hb : a + t + Q.length = b) (hl : n ≤ 1000000) :
    ACalls Tryz.prog nslices_swapRangeCmpFunc_api_Vouch [.rs 0 0 n, .I a, .I b, .I t, .fn (.func f) [] capt] [⟨7, rowsV (P ++ (X ++ (Q ++ (Y ++ R)))), 0⟩] (.tup []) [some ⟨7, rowsV (P ++ (Y ++ (Q ++ (X ++ R)))), 0⟩] := by
  have hs2 : ∀ ρ sn h, capt.map (conv ρ sn h 2) = capt := fun _ _ _ => hs _ _ _ 1
  have hs3 : ∀ ρ sn h, capt.map (conv ρ sn h 3) = capt := fun _ _ _ => hs _ _ _ 2
  have hs4 : ∀ ρ sn h, capt.map (conv ρ sn h 4) = capt := fun _ _ _ => hs _ _ _ 3
  refine sslices_swapRangeCmpFunc_api_Vouch.acalls (Nat.le_of_ble_eq_true rfl) (Nat.le_of_ble_eq_true rfl) (Nat.le_of_ble_eq_true rfl) ?_
  show awp _ 1 _ _ ⟨38, [(0, .rs 0 0 n), (1, .I a), (2, .I b), (3, .I t), (4, .fn (.func f) [] capt)], [(0, some ⟨7, rowsV (P ++ (X ++ (Q ++ (Y ++ R)))), 0⟩)], 16⟩
  have hab : a + t ≤ b := by omega
  have hbn : b + t + R.length = n := by simp only [List.length_append] at hn; omega
  refine awp_regc ⟨38, [(0, .rs 0 0 n), (1, .I a), (2, .I b), (3, .I t), (10, .I (0 : Nat))], [(0, some ⟨7, rowsV (P ++ (X ++ (Q ++ (Y ++ R)))), 0⟩)], 24⟩ rfl ?_ ?_
  · simp
    exact Le.keep rfl (Nat.le_refl _) (by simp) (by simp)
  refine awp_block ?_
  obtain ⟨F, hF⟩ : ∃ F, F = P ++ (Y ++ (Q ++ (X ++ R))) := ⟨_, rfl⟩
  rw [← hF]
  refine awp_loop (ι := (List Vch × List Vch × List Vch × List Vch) × Nat) (fun q => ⟨38, [(0, .rs 0 0 n), (1, .I a), (2, .I b), (3, .I t), (10, .I q.2)], [(0, some ⟨7, rowsV (q.1.1 ++ (q.1.2.1 ++ (q.1.2.2.1 ++ (q.1.2.2.2 ++ R)))), 0⟩)], 24⟩)
    (fun q => q.1.1.length = a + q.2 ∧ q.1.2.1.length + q.2 = t ∧ q.1.2.2.2.length + q.2 = t ∧ a + t + q.1.2.2.1.length = b + q.2 ∧ F = q.1.1 ++ (q.1.2.2.2 ++ (q.1.2.2.1 ++ (q.1.2.1 ++ R)))) (fun q => t - q.2) ((P, X, Q, Y), 0) ⟨ha, hX, hY, hb, hF⟩ (Le.refl _ _) ?_
  rintro ⟨⟨P, X, Q, Y⟩, i⟩ ⟨h1, h2, h3, h4, h5⟩
  simp only at h1 h2 h3 h4 h5
  refine awp_seq ?_
  refine awp_regc ⟨38, [(0, .rs 0 0 n), (1, .I a), (2, .I b), (3, .I t), (10, .I i), (13, .B (decide (i < t)))], [(0, some ⟨7, rowsV (P ++ (X ++ (Q ++ (Y ++ R)))), 0⟩)], 48⟩ rfl ?_ ?_
  · generalize rowsV (P ++ (X ++ (Q ++ (Y ++ R)))) = Z at *
    simp
    exact Le.keep rfl (Nat.le_refl _) (by simp) (by simp)
  refine awp_cond _ rfl (fun h => awp_skip ?_) fun h => awp_exit (hit ?_)
  · simp only [decide_eq_true_eq] at h
    obtain ⟨x, X, rfl⟩ : ∃ x X', X = x :: X' := by cases X with | nil => simp at h2; omega | cons x X => exact ⟨x, X, rfl⟩
    obtain ⟨y, Y, rfl⟩ : ∃ x X', Y = x :: X' := by cases Y with | nil => simp at h3; omega | cons x X => exact ⟨x, X, rfl⟩
    simp only [List.length_cons] at h2 h3
    have hwi : IntKind.i64.wrap ((i : Int) + 1) = ((i + 1 : Nat) : Int) := by rw [w64 (by omega) (by omega)]; omega
    have hw1 : IntKind.i64.wrap ((a : Int) + (i : Int)) = ((a + i : Nat) : Int) := by rw [w64 (by omega) (by omega)]; omega
    have hw2 : IntKind.i64.wrap ((b : Int) + (i : Int)) = ((b + i : Nat) : Int) := by rw [w64 (by omega) (by omega)]; omega
    have e1 : P ++ (x :: X ++ (Q ++ (y :: Y ++ R))) = P ++ x :: ((X ++ Q) ++ y :: (Y ++ R)) := by simp
    have e2 : P ++ y :: ((X ++ Q) ++ x :: (Y ++ R)) = (P ++ [y]) ++ (X ++ ((Q ++ [x]) ++ (Y ++ R))) := by simp
    have hg := swap2_get (H := P) (G := X ++ Q) (T := Y ++ R) (x := x) (y := y) (p := a + i) (q := b + i) h1 (by rw [List.length_append]; omega)
    have hset := swap2_set (H := P) (G := X ++ Q) (T := Y ++ R) (x := x) (y := y) (p := a + i) (q := b + i) h1 (by rw [List.length_append]; omega)
    obtain ⟨g1, g2⟩ := hg
    rw [e2] at hset
    rw [e1]
    have hai : a + i < n := by omega
    have hbi : b + i < n := by omega
    have hpq : a + i ≠ b + i := by omega
    refine awp_cut (ι := Unit) (fun _ => ⟨38, [(0, .rs 0 0 n), (1, .I a), (2, .I b), (3, .I t), (10, .I i)], [(0, some ⟨7, rowsV ((P ++ [y]) ++ (X ++ ((Q ++ [x]) ++ (Y ++ R)))), 0⟩)], 400⟩) (fun _ => True) ?_ fun _ _ => ?_
    · generalize rowsV ((P ++ [y]) ++ (X ++ ((Q ++ [x]) ++ (Y ++ R)))) = Z2 at *
      generalize rowsV (P ++ x :: ((X ++ Q) ++ y :: (Y ++ R))) = Z at *
      generalize a + i = p at *
      generalize b + i = q at *
      have g3 : (Z.set p (vC y))[q]? = some (vC y) := by
        rw [List.getElem?_set, if_neg hpq]
        exact g2
      refine awp_block ?_
      refine awp_drw rfl ?_
      simp [hw1, hw2, hai, hbi, g1, g2, g3, splice]
      exact ⟨rfl, Le.keep rfl (by simp) (by simp) (by simp; exact hset)⟩
    refine awp_reg rfl ?_
    have hf2 := rowsV_flat ((P ++ [y]) ++ (X ++ ((Q ++ [x]) ++ (Y ++ R))))
    have hne : ∃ Z, Z = rowsV ((P ++ [y]) ++ (X ++ ((Q ++ [x]) ++ (Y ++ R)))) := ⟨_, rfl⟩
    obtain ⟨Z, hZ⟩ := hne
    rw [← hZ] at hf2 ⊢
    simp [hwi]
    refine ⟨P ++ [y], X, Q ++ [x], Y, i + 1, ⟨by simp; omega, by omega, by omega, by simp; omega, by rw [h5]; simp⟩, by omega, ?_⟩
    exact Le.N1 hf2 rfl (by simp) (by simp [hZ]) rfl (by simp)
  simp only [decide_eq_false_iff_not] at h
  have hx0 : X = [] := List.eq_nil_of_length_eq_zero (by omega)
  have hy0 : Y = [] := List.eq_nil_of_length_eq_zero (by omega)
  have hfin : P ++ (X ++ (Q ++ (Y ++ R))) = F := by rw [h5, hx0, hy0]
  rw [hfin]
  exact ⟨.inl rfl, outV (rowsV_flat F) rfl⟩
end Go.Proofs.YtnlanlpbgcalcaaGreat
namespace Go.Proofs.YtnlanlpbgcalcaaGreat
open Go
set_option maxHeartbeats 4000000 in
set_option maxRecDepth 100000 in
theorem rotateV_ok (f : FuncId) (capt : List AV) (hs : StillV capt) (A X Y B : List Vch) (n a m b : Nat) (hn : (A ++ (X ++ (Y ++ B))).length = n) (ha : A.length = a) (hm : a + X.length = m) (hb : m + Y.length = b) (hX : 0 < X.length) (hY : 0 < Y.length) (hl : n ≤ 1000000) :
    ACalls Tryz.prog nslices_rotateCmpFunc_api_Vouch [.rs 0 0 n, .I a, .I m, .I b, .fn (.func f) [] capt] [⟨7, rowsV (A ++ (X ++ (Y ++ B))), 0⟩] (.tup []) [some ⟨7, rowsV (A ++ (Y ++ (X ++ B))), 0⟩] := by
  have hs2 : ∀ ρ sn h, capt.map (conv ρ sn h 2) = capt := fun _ _ _ => hs _ _ _ 1
  have hs3 : ∀ ρ sn h, capt.map (conv ρ sn h 3) = capt := fun _ _ _ => hs _ _ _ 2
  have hs4 : ∀ ρ sn h, capt.map (conv ρ sn h 4) = capt := fun _ _ _ => hs _ _ _ 3
  refine sslices_rotateCmpFunc_api_Vouch.acalls (Nat.le_of_ble_eq_true rfl) (Nat.le_of_ble_eq_true rfl) (Nat.le_of_ble_eq_true rfl) ?_
  show awp _ 1 _ _ ⟨58, [(0, .rs 0 0 n), (1, .I a), (2, .I m), (3, .I b), (4, .fn (.func f) [] capt)], [(0, some ⟨7, rowsV (A ++ (X ++ (Y ++ B))), 0⟩)], 16⟩
  have hbn : b + B.length = n := by simp only [List.length_append] at hn; omega
  obtain ⟨F, hF⟩ : ∃ F, F = A ++ (Y ++ (X ++ B)) := ⟨_, rfl⟩
  rw [← hF]
  obtain ⟨i, hi⟩ : ∃ i, i = X.length := ⟨_, rfl⟩
  obtain ⟨j, hj⟩ : ∃ i, i = Y.length := ⟨_, rfl⟩
  have hw1 : IntKind.i64.wrap ((m : Int) - (a : Int)) = (i : Int) := by rw [w64 (by omega) (by omega)]; omega
  have hw2 : IntKind.i64.wrap ((b : Int) - (m : Int)) = (j : Int) := by rw [w64 (by omega) (by omega)]; omega
  refine awp_regc ⟨58, [(0, .rs 0 0 n), (2, .I m), (3, .I b), (4, .fn (.func f) [] capt), (10, .I i)], [(0, some ⟨7, rowsV (A ++ (X ++ (Y ++ B))), 0⟩)], 48⟩ rfl ?_ ?_
  · generalize rowsV (A ++ (X ++ (Y ++ B))) = Z at *
    simp [hw1]
    exact Le.keep rfl (Nat.le_refl _) (by simp) (by simp)
  refine awp_regc ⟨58, [(0, .rs 0 0 n), (2, .I m), (4, .fn (.func f) [] capt), (10, .I i), (11, .I j)], [(0, some ⟨7, rowsV (A ++ (X ++ (Y ++ B))), 0⟩)], 80⟩ rfl ?_ ?_
  · generalize rowsV (A ++ (X ++ (Y ++ B))) = Z at *
    simp [hw2]
    exact Le.keep rfl (Nat.le_refl _) (by simp) (by simp)
  refine awp_seq ?_
  refine awp_block ?_
  refine awp_loop (ι := (List Vch × List Vch × List Vch × List Vch) × Nat × Nat) (fun q => ⟨58, [(0, .rs 0 0 n), (2, .I m), (4, .fn (.func f) [] capt), (10, .I q.2.1), (11, .I q.2.2)], [(0, some ⟨7, rowsV (q.1.1 ++ (q.1.2.1 ++ (q.1.2.2.1 ++ q.1.2.2.2))), 0⟩)], 80⟩)
    (fun q => q.1.1.length + q.2.1 = m ∧ q.1.2.1.length = q.2.1 ∧ q.1.2.2.1.length = q.2.2 ∧ 0 < q.2.1 ∧ 0 < q.2.2 ∧ m + q.2.2 + q.1.2.2.2.length = n ∧ F = q.1.1 ++ (q.1.2.2.1 ++ (q.1.2.1 ++ q.1.2.2.2))) (fun q => q.2.1 + q.2.2) ((A, X, Y, B), i, j) ⟨by show A.length + i = m; omega, hi.symm, hj.symm, by show 0 < i; omega, by show 0 < j; omega, by show m + j + B.length = n; omega, hF⟩ (Le.refl _ _) ?_
  rintro ⟨⟨A, X, Y, B⟩, i, j⟩ ⟨h1, h2, h3, h4, h5, h6, h7⟩
  simp only at h1 h2 h3 h4 h5 h6 h7
  refine awp_seq ?_
  refine awp_regc ⟨58, [(0, .rs 0 0 n), (2, .I m), (4, .fn (.func f) [] capt), (10, .I i), (11, .I j), (20, .B (decide (i ≠ j)))], [(0, some ⟨7, rowsV (A ++ (X ++ (Y ++ B))), 0⟩)], 104⟩ rfl ?_ ?_
  · generalize rowsV (A ++ (X ++ (Y ++ B))) = Z at *
    simp
    exact Le.keep rfl (Nat.le_refl _) (by simp <;> rw [Bool.eq_iff_iff] <;> simp <;> omega) (by simp)
  have hwi : IntKind.i64.wrap ((m : Int) - (i : Int)) = ((m - i : Nat) : Int) := by rw [w64 (by omega) (by omega)]; omega
  refine awp_cond _ rfl (fun h => awp_skip ?_) fun h => awp_exit (hit ?_)
  · simp only [decide_eq_true_eq] at h
    refine awp_block ?_
    refine awp_regc ⟨58, [(0, .rs 0 0 n), (2, .I m), (4, .fn (.func f) [] capt), (10, .I i), (11, .I j), (23, .B (decide (j < i)))], [(0, some ⟨7, rowsV (A ++ (X ++ (Y ++ B))), 0⟩)], 128⟩ rfl ?_ ?_
    · generalize rowsV (A ++ (X ++ (Y ++ B))) = Z at *
      simp
      exact Le.keep rfl (Nat.le_refl _) (by simp) (by simp)
    refine awp_cond _ rfl (fun h8 => ?_) fun h8 => ?_
    · simp only [decide_eq_true_eq] at h8
      obtain ⟨X1, X2, rfl, hX1⟩ : ∃ X1 X2, X = X1 ++ X2 ∧ X1.length = j := ⟨X.take j, X.drop j, (List.take_append_drop j X).symm, by rw [List.length_take]; omega⟩
      rw [List.length_append] at h2
      have hsw := swapRangeV_ok f capt hs A X1 X2 Y B n (m - i) m j (by simp only [List.length_append]; omega) (by omega) hX1 h3 (by omega) hl
      have e1 : A ++ (X1 ++ X2 ++ (Y ++ B)) = A ++ (X1 ++ (X2 ++ (Y ++ B))) := by simp
      have e2 : A ++ (Y ++ (X2 ++ (X1 ++ B))) = (A ++ Y) ++ (X2 ++ (X1 ++ B)) := by simp
      rw [e2] at hsw
      rw [e1]
      have hf1 := rowsV_flat (A ++ (X1 ++ (X2 ++ (Y ++ B))))
      refine awp_regc ⟨58, [(0, .rs 0 0 n), (2, .I m), (4, .fn (.func f) [] capt), (10, .I i), (11, .I j)], [(0, some ⟨7, rowsV ((A ++ Y) ++ (X2 ++ (X1 ++ B))), 0⟩)], 192⟩ rfl ?_ ?_
      · have hf2 := rowsV_flat ((A ++ Y) ++ (X2 ++ (X1 ++ B)))
        generalize rowsV ((A ++ Y) ++ (X2 ++ (X1 ++ B))) = Z2 at *
        generalize rowsV (A ++ (X1 ++ (X2 ++ (Y ++ B)))) = Z at *
        simp [hwi]
        refine callM1 (i := 0) rfl (e' := ⟨7, Z, 0⟩) (by simp [convE, hf1]) hsw (by simp) ?_ ?_
        · simp [hs2, hs3, hs4]
        simp [hf2]
        exact Le.keep rfl (Nat.le_refl _) (by simp) (by simp)
      have hwj : IntKind.i64.wrap ((i : Int) - (j : Int)) = ((i - j : Nat) : Int) := by rw [w64 (by omega) (by omega)]; omega
      have hf2 := rowsV_flat ((A ++ Y) ++ (X2 ++ (X1 ++ B)))
      obtain ⟨Z, hZ⟩ : ∃ Z, Z = rowsV ((A ++ Y) ++ (X2 ++ (X1 ++ B))) := ⟨_, rfl⟩
      rw [← hZ] at hf2 ⊢
      refine awp_reg rfl ?_
      simp [hwj]
      refine ⟨A ++ Y, X2, X1, B, i - j, j, ⟨by rw [List.length_append]; omega, by omega, hX1, by omega, h5, by omega, by rw [h7]; simp⟩, by omega, ?_⟩
      exact Le.N1 hf2 rfl (by simp) (by simp [hZ]) rfl (by simp [hs2, hs3, hs4])
    · simp only [decide_eq_false_iff_not] at h8
      obtain ⟨Y1, Y2, rfl, hY1⟩ : ∃ X1 X2, Y = X1 ++ X2 ∧ X1.length = j - i := ⟨Y.take (j - i), Y.drop (j - i), (List.take_append_drop _ Y).symm, by rw [List.length_take]; omega⟩
      rw [List.length_append] at h3
      have hsw := swapRangeV_ok f capt hs A X Y1 Y2 B n (m - i) (m + j - i) i (by simp only [List.length_append]; omega) (by omega) h2 (by omega) (by omega) hl
      have e1 : A ++ (X ++ (Y1 ++ Y2 ++ B)) = A ++ (X ++ (Y1 ++ (Y2 ++ B))) := by simp
      rw [e1]
      have hf1 := rowsV_flat (A ++ (X ++ (Y1 ++ (Y2 ++ B))))
      have hwk : IntKind.i64.wrap ((m : Int) + (j : Int)) = ((m + j : Nat) : Int) := by rw [w64 (by omega) (by omega)]; omega
      have hwk2 : IntKind.i64.wrap (((m + j : Nat) : Int) - (i : Int)) = ((m + j - i : Nat) : Int) := by rw [w64 (by omega) (by omega)]; omega
      refine awp_regc ⟨58, [(0, .rs 0 0 n), (2, .I m), (4, .fn (.func f) [] capt), (10, .I i), (11, .I j)], [(0, some ⟨7, rowsV (A ++ (Y2 ++ (Y1 ++ (X ++ B)))), 0⟩)], 224⟩ rfl ?_ ?_
      · have hf2 := rowsV_flat (A ++ (Y2 ++ (Y1 ++ (X ++ B))))
        generalize rowsV (A ++ (Y2 ++ (Y1 ++ (X ++ B)))) = Z2 at *
        generalize rowsV (A ++ (X ++ (Y1 ++ (Y2 ++ B)))) = Z at *
        generalize m + j = mj at *
        generalize mj - i = mji at *
        generalize m - i = mi at *
        simp [hwi, hwk, hwk2]
        refine callM1 (i := 0) rfl (e' := ⟨7, Z, 0⟩) (by simp [convE, hf1]) hsw (by simp) ?_ ?_
        · simp [hs2, hs3, hs4]
        simp [hf2]
        exact Le.keep rfl (Nat.le_refl _) (by simp) (by simp)
      have hwj : IntKind.i64.wrap ((j : Int) - (i : Int)) = ((j - i : Nat) : Int) := by rw [w64 (by omega) (by omega)]; omega
      have hf2 := rowsV_flat (A ++ (Y2 ++ (Y1 ++ (X ++ B))))
      obtain ⟨Z, hZ⟩ : ∃ Z, Z = rowsV (A ++ (Y2 ++ (Y1 ++ (X ++ B)))) := ⟨_, rfl⟩
      rw [← hZ] at hf2 ⊢
      refine awp_reg rfl ?_
      simp [hwj]
      refine ⟨A, Y2, Y1, X ++ B, i, j - i, ⟨h1, by omega, hY1, h4, by omega, by rw [List.length_append]; omega, by rw [h7]; simp⟩, by omega, ?_⟩
      exact Le.N1 hf2 rfl (by simp) (by simp [hZ]) rfl (by simp [hs2, hs3, hs4])
  have hij : i = j := by simpa using h
  subst hij
  have hsw := swapRangeV_ok f capt hs A X [] Y B n (m - i) m i (by simp only [List.length_append, List.length_nil]; omega) (by omega) h2 h3 (by simp; omega) hl
  simp only [List.nil_append] at hsw
  rw [← h7] at hsw
  have hf1 := rowsV_flat (A ++ (X ++ (Y ++ B)))
  have hf2 := rowsV_flat F
  generalize rowsV F = Z2 at *
  generalize rowsV (A ++ (X ++ (Y ++ B))) = Z at *
  refine awp_run (s := ?s9) rfl ?o9 ?q9
  case o9 =>
    simp [hwi]
    refine callM1 (i := 0) rfl (e' := ⟨7, Z, 0⟩) (by simp [convE, hf1]) hsw (by simp) ?_ ?_
    · simp [hs2, hs3, hs4]
    simp [hf2]
    rfl
  exact ⟨.inl rfl, outV hf2 rfl⟩
end Go.Proofs.YtnlanlpbgcalcaaGreat
