/- Texts of this claim, merged. -/
import Derived.Test.YtnphfkceoklkkaaVo8
import Derived.Test.YtnphfkceoklkkaaVo7
set_option linter.unusedSimpArgs false
set_option linter.unusedVariables false
set_option linter.unusedSectionVars false
namespace Go.Proofs.Ytnphfkceoklkkaa
open Go
def RevP (v s : Stm) (p : Int × Int) : Prop := s.au = v.au ∧ s.ki = 2 ∧ s.a = v.nu ∧ v.nu < s.nu ∧ (p.2 < 0 ∨ s.nu < p.2)
instance (v s : Stm) (p : Int × Int) : Decidable (RevP v s p) := by unfold RevP; infer_instance
def revStep (v : Stm) (p : Int × Int) (s : Stm) : Int × Int := if RevP v s p then (s.ti, s.nu) else p
def revQ (l : List Stm) (v : Stm) : Int × Int := l.foldl (revStep v) (-1, -1)
def revF (l : List Stm) (v : Stm) : Int := (revQ l v).1
theorem revQ_succ (l : List Stm) (v : Stm) (i : Nat) (h : i < l.length) : revQ (l.take (i + 1)) v = revStep v (revQ (l.take i) v) l[i] := by
  unfold revQ
  rw [List.take_succ_eq_append_getElem h, List.foldl_append]
  rfl
set_option maxHeartbeats 1000000 in
set_option maxRecDepth 100000 in
theorem vouch_revoked_ok (l : List Stm) (v : Stm) (hl : l.length ≤ 1000000) : ACalls Try.prog nvouch_revoked [sts l, eS v] [] (.I (revF l v)) [] := by
  refine svouch_revoked.acalls (Nat.le_of_ble_eq_true rfl) (Nat.le_of_ble_eq_true rfl) (Nat.le_refl _) ?_
  show awp _ 0 _ _ ⟨55, [(0, sts l), (1, eS v)], [], 16⟩
  refine awp_regc ⟨55, [(0, sts l), (3, .pv (sC v))], [], 32⟩ rfl ?_ ?_
  · simp
    exact Le.snap [16] rfl rfl (by simp)
  refine awp_regc ⟨55, [(0, sts l), (3, .pv (sC v)), (5, .I (-1)), (6, .I (-1))], [], 48⟩ rfl (by simp; exact Le.snap [] rfl rfl (by simp)) ?_
  refine awp_seq ?_
  refine awp_regc ⟨55, [(3, .pv (sC v)), (5, .I (revQ (l.take 0) v).1), (6, .I (revQ (l.take 0) v).2), (9, sts l), (10, .I l.length), (11, .I (0 : Nat))], [], 72⟩ rfl ?_ ?_
  · simp
    exact Le.snap [] rfl rfl (by simp [revQ])
  refine awp_block ?_
  refine awp_loop (ι := Nat) (fun i => ⟨55, [(3, .pv (sC v)), (5, .I (revQ (l.take i) v).1), (6, .I (revQ (l.take i) v).2), (9, sts l), (10, .I l.length), (11, .I i)], [], 72⟩) (fun i => i ≤ l.length) (fun i => l.length - i) 0 (Nat.zero_le _) (Le.refl _ _) ?_
  intro i hi
  refine awp_regc ⟨55, [(3, .pv (sC v)), (5, .I (revQ (l.take i) v).1), (6, .I (revQ (l.take i) v).2), (9, sts l), (10, .I l.length), (11, .I i), (12, .B (decide (i < l.length)))], [], 80⟩ rfl (by simp; exact Le.snap [] rfl rfl (by simp)) ?_
  refine awp_seq ?_
  refine awp_cond _ rfl (fun h => awp_skip ?_) fun h => awp_exit (hit ?_)
  · simp only [decide_eq_true_eq] at h
    have hwi : IntKind.i64.wrap ((i : Int) + 1) = ((i + 1 : Nat) : Int) := by rw [w64 (by omega) (by omega)]; omega
    refine awp_cut (ι := Unit) (fun _ => ⟨55, [(3, .pv (sC v)), (5, .I (revQ (l.take (i + 1)) v).1), (6, .I (revQ (l.take (i + 1)) v).2), (9, sts l), (10, .I l.length), (11, .I i)], [], 500⟩) (fun _ => True) ?_ fun _ _ => ?_
    · rw [revQ_succ l v i h]
      have hg : l[i]? = some l[i] := List.getElem?_eq_getElem h
      generalize l[i] = s at *
      generalize revQ (l.take i) v = p at *
      obtain ⟨pa, pn⟩ := p
      obtain ⟨r, hr⟩ : ∃ r, r = decide (RevP v s (pa, pn)) := ⟨_, rfl⟩
      have hst : revStep v (pa, pn) s = if r = true then (s.ti, s.nu) else (pa, pn) := by
        unfold revStep
        rw [hr]
        by_cases hq : RevP v s (pa, pn)
        · simp [hq]
        · simp [hq]
      rw [hst]
      refine awp_block ?_
      refine awp_regc ⟨55, [(3, .pv (sC v)), (5, .I pa), (6, .I pn), (9, sts l), (10, .I l.length), (11, .I i), (8, .pv (sC s))], [], 112⟩ rfl ?_ ?_
      · simp [hg, splice]
        exact Le.snap [96] rfl rfl (by simp)
      refine awp_regc ⟨55, [(3, .pv (sC v)), (5, .I pa), (6, .I pn), (9, sts l), (10, .I l.length), (11, .I i), (8, .pv (sC s)), (48, .B r)], [], 400⟩ rfl ?_ ?_
      · by_cases c1 : s.au = v.au
        · have c1' : (s.au == v.au) = true := by simp [c1]
          by_cases c2 : s.ki = 2
          · have c2' : (s.ki == 2) = true := by simp [c2]
            by_cases c3 : s.a = v.nu
            · have c3' : (s.a == v.nu) = true := by simp [c3]
              by_cases c4 : v.nu < s.nu
              · by_cases c5 : pn < 0
                · have e : r = true := by rw [hr]; exact decide_eq_true ⟨c1, c2, c3, c4, .inl c5⟩
                  simp [c1', c2', c3', c4, c5, e]
                  exact Le.snap [] rfl rfl (by simp)
                · have e : r = decide (s.nu < pn) := by
                    rw [hr, Bool.eq_iff_iff, decide_eq_true_eq, decide_eq_true_eq]
                    exact ⟨fun hq => hq.2.2.2.2.resolve_left c5, fun hq => ⟨c1, c2, c3, c4, .inr hq⟩⟩
                  simp [c1', c2', c3', c4, c5, e]
                  exact Le.snap [] rfl rfl (by simp)
              · have e : r = false := by rw [hr]; exact decide_eq_false fun hq => c4 hq.2.2.2.1
                simp [c1', c2', c3', c4, e]
                exact Le.snap [] rfl rfl (by simp)
            · have c3' : (s.a == v.nu) = false := by simp [c3]
              have e : r = false := by rw [hr]; exact decide_eq_false fun hq => c3 hq.2.2.1
              simp [c1', c2', c3', e]
              exact Le.snap [] rfl rfl (by simp)
          · have c2' : (s.ki == 2) = false := by simp [c2]
            have e : r = false := by rw [hr]; exact decide_eq_false fun hq => c2 hq.2.1
            simp [c1', c2', e]
            exact Le.snap [] rfl rfl (by simp)
        · have c1' : (s.au == v.au) = false := by simp [c1]
          have e : r = false := by rw [hr]; exact decide_eq_false fun hq => c1 hq.1
          simp [c1', e]
          exact Le.snap [] rfl rfl (by simp)
      refine awp_cond _ rfl (fun h5 => ?_) fun h5 => awp_skip ?_
      · rw [if_pos h5]
        refine awp_drw rfl ?_
        simp
        exact ⟨rfl, Le.snap [] rfl rfl (by simp)⟩
      · rw [if_neg (by rw [h5]; decide)]
        exact ⟨(), trivial, Le.snap [] rfl rfl (by simp)⟩
    refine awp_reg rfl ?_
    simp [hwi]
    exact ⟨i + 1, by omega, by omega, Le.snap [] rfl rfl (by simp)⟩
  simp only [decide_eq_false_iff_not] at h
  obtain rfl : i = l.length := by omega
  have hf : (revQ (l.take l.length) v).1 = revF l v := by rw [List.take_length]; rfl
  rw [hf]
  refine awp_seq ?_
  refine awp_run (s := ?s9) rfl ?o9 ?q9
  case o9 => simp; rfl
  refine awp_ret ?_
  exact ⟨.inr rfl, RetOk.one (by simp)⟩
def cmpV (a b : Vch) : Int := ([cmpI a.fr b.fr, cmpI a.to b.to, cmpI a.nu b.nu].find? (· != 0)).getD 0
set_option maxRecDepth 100000 in
theorem vouch_Of_c1_ok (a b : Vch) : ACalls Try.prog nvouch_Of_c1 [eV a, eV b] [] (.I (cmpV a b)) [] := by
  refine svouch_Of_c1.acalls (Nat.le_of_ble_eq_true rfl) (Nat.le_of_ble_eq_true rfl) (Nat.le_refl _) ?_
  show awp _ 0 _ _ ⟨22, [(0, eV a), (1, eV b)], [], 16⟩
  refine awp_regc ⟨22, [(2, .pv (vC a)), (3, .pv (vC b))], [], 40⟩ rfl ?_ ?_
  · simp
    exact Le.snap [16, 24] rfl rfl (by simp)
  refine awp_dregc ⟨22, [(4, .I (cmpV a b))], [], 184⟩ rfl ?_ ?_
  · simp
    refine call0e (compare_ok a.fr b.fr) rfl ?_
    simp
    refine call0e (compare_ok a.to b.to) rfl ?_
    simp
    refine call0e (compare_ok a.nu b.nu) rfl ?_
    simp
    refine call0s [160] (or_ok [cmpI a.fr b.fr, cmpI a.to b.to, cmpI a.nu b.nu] (by simp)) (by simp) (.sc _) ?_
    simp
    exact ⟨rfl, Le.snap [] rfl rfl (by simp; exact .refl _)⟩
  refine awp_ret ?_
  exact ⟨.inr rfl, RetOk.one (by simp)⟩
def vOf (l : List Stm) (s : Stm) : Vch := ⟨s.au, s.a, s.b, s.nu, s.ti, s.c, revF l s⟩
def rawV (l m : List Stm) : List Vch := (m.filter fun s => decide (s.ki = 1)).map (vOf l)
def ofV (l : List Stm) : List Vch := isortV cmpV (rawV l l)
theorem rawV_succ (l : List Stm) (i : Nat) (h : i < l.length) : rawV l (l.take (i + 1)) = rawV l (l.take i) ++ if l[i].ki = 1 then [vOf l l[i]] else [] := by
  unfold rawV
  rw [List.take_succ_eq_append_getElem h, List.filter_append, List.map_append]
  congr 1
  by_cases hk : l[i].ki = 1
  · rw [if_pos hk]
    simp [hk]
  · rw [if_neg hk]
    simp [hk]
theorem rawV_le (l m : List Stm) : (rawV l m).length ≤ m.length := by
  unfold rawV
  rw [List.length_map]
  exact List.length_filter_le _ _
theorem rowsV_flat (l : List Vch) (ρ sn h m) : (rowsV l).map (List.map (conv ρ sn h (m + 1))) = rowsV l := by simp [Function.comp_def]
def SortH (l : List Stm) : Prop := ACalls Try.prog nslices_SortStableFunc_Lapi_Vouch_api_Vouch [.rs 0 0 (rawV l l).length, .fn (.func nvouch_Of_c1) [] []] [⟨7, rowsV (rawV l l), 0⟩] (.tup []) [some ⟨7, rowsV (ofV l), 0⟩]
theorem SortH.few {l : List Stm} (hn : (rawV l l).length < 20) : SortH l := SortStableV_ok nvouch_Of_c1 [] cmpV (rawV l l) _ rfl hn (fun ρ sn h n => rfl) fun x _ y _ => vouch_Of_c1_ok x y
set_option maxHeartbeats 1000000 in
set_option maxRecDepth 100000 in
theorem vouch_Of_ok (l : List Stm) (hl : l.length ≤ 100000) (hn : SortH l) : ACalls Try.prog nvouch_Of [sts l] [] (.rs 0 0 (ofV l).length) [some ⟨7, rowsV (ofV l), 0⟩] := by
  refine svouch_Of.acalls (Nat.le_of_ble_eq_true rfl) (Nat.le_of_ble_eq_true rfl) (Nat.zero_le _) ?_
  show awp _ 0 _ _ ⟨38, [(0, sts l)], [], 16⟩
  refine awp_regc ⟨38, [(0, sts l)], [], 24⟩ rfl (by simp; exact Le.snap [] rfl rfl (by simp)) ?_
  refine awp_regc ⟨38, [(0, sts l), (3, .sc (.slice none 0 0))], [], 32⟩ rfl (by simp; exact Le.snap [] rfl rfl (by simp)) ?_
  refine awp_seq ?_
  refine awp_regc ⟨38, [(0, sts l), (3, .sc (.slice none 0 0)), (6, sts l), (7, .I l.length), (8, .I (0 : Nat))], [], 56⟩ rfl (by simp; exact Le.snap [] rfl rfl (by simp)) ?_
  refine awp_block ?_
  refine awp_loop (ι := Nat) (fun i => ⟨38, [(0, sts l), (3, .rs 16 0 (rawV l (l.take i)).length), (6, sts l), (7, .I l.length), (8, .I i)], [(16, some ⟨7, rowsV (rawV l (l.take i)), 0⟩)], 56⟩) (fun i => i ≤ l.length) (fun i => l.length - i) 0 (Nat.zero_le _) (Le.lst [] [] [(16, 7)] rfl (by simp) (by simp) (by simp) (by simp) (by simp) (by simp) (by simp) (by simp [Up, rawV]) (by simp [rawV])) ?_
  intro i hi
  refine awp_regc ⟨38, [(0, sts l), (3, .rs 16 0 (rawV l (l.take i)).length), (6, sts l), (7, .I l.length), (8, .I i), (9, .B (decide (i < l.length)))], [(16, some ⟨7, rowsV (rawV l (l.take i)), 0⟩)], 64⟩ rfl ?_ ?_
  · simp
    exact Le.keep rfl (Nat.le_refl _) (by simp) (by simp)
  refine awp_seq ?_
  refine awp_cond _ rfl (fun h => awp_skip ?_) fun h => awp_exit (hit ?_)
  · simp only [decide_eq_true_eq] at h
    have hwi : IntKind.i64.wrap ((i : Int) + 1) = ((i + 1 : Nat) : Int) := by rw [w64 (by omega) (by omega)]; omega
    refine awp_cut (ι := Unit) (fun _ => ⟨38, [(0, sts l), (3, .rs 16 0 (rawV l (l.take (i + 1))).length), (6, sts l), (7, .I l.length), (8, .I i)], [(16, some ⟨7, rowsV (rawV l (l.take (i + 1))), 0⟩)], 500⟩) (fun _ => True) ?_ fun _ _ => ?_
    · rw [rawV_succ l i h]
      have hg : l[i]? = some l[i] := List.getElem?_eq_getElem h
      have hrl : (rawV l (l.take i)).length ≤ 100000 := Nat.le_trans (rawV_le _ _) (by rw [List.length_take]; omega)
      generalize l[i] = s at *
      generalize rawV l (l.take i) = R at *
      obtain ⟨n, hnR⟩ : ∃ n, n = R.length := ⟨_, rfl⟩
      have hXf := rowsV_flat R
      have hXl : (rowsV R).length = n := by rw [rowsV, List.length_map, hnR]
      refine awp_block ?_
      refine awp_regc ⟨38, [(0, sts l), (3, .rs 16 0 R.length), (6, sts l), (7, .I l.length), (8, .I i), (5, .pv (sC s))], [(16, some ⟨7, rowsV R, 0⟩)], 96⟩ rfl ?_ ?_
      · simp [hg, splice]
        exact Le.Z1 hXf 16 16 [80] rfl rfl (by simp) (by simp) rfl (by simp)
      refine awp_regc ⟨38, [(0, sts l), (3, .rs 16 0 R.length), (6, sts l), (7, .I l.length), (8, .I i), (5, .pv (sC s)), (14, .B (decide (s.ki = 1)))], [(16, some ⟨7, rowsV R, 0⟩)], 120⟩ rfl ?_ ?_
      · simp
        exact Le.keep rfl (Nat.le_refl _) (by simp <;> rw [Bool.eq_iff_iff] <;> simp) (by simp)
      refine awp_cond _ rfl (fun h5 => ?_) fun h5 => awp_skip ?_
      · simp only [decide_eq_true_eq] at h5
        rw [if_pos h5]
        have hXe : rowsV (R ++ [vOf l s]) = rowsV R ++ [vC (vOf l s)] := by rw [rowsV, List.map_append]; rfl
        have hRl : (R ++ [vOf l s]).length = n + 1 := by rw [List.length_append, ← hnR]; rfl
        rw [hXe, hRl, ← hnR]
        have hXf2 : ∀ ρ sn h m, (rowsV R ++ [vC (vOf l s)]).map (List.map (conv ρ sn h (m + 1))) = rowsV R ++ [vC (vOf l s)] := fun ρ sn h m => by rw [List.map_append, hXf]; simp
        have hvc : vC (vOf l s) = [.I s.au, .I s.a, .I s.b, .I s.nu, .I s.ti, .I s.c, .I (revF l s)] := rfl
        rw [hvc] at hXf2 ⊢
        generalize rowsV R = X at *
        have htk : List.take n X = X := List.take_of_length_le (by omega)
        refine awp_drw rfl ?_
        simp
        refine call0e (vouch_revoked_ok l s (by omega)) (by simp) ?_
        simp [hXl, htk]
        repeat' apply And.intro
        all_goals first | omega | rfl | exact Le.Z1 hXf2 264 16 [] rfl rfl (by simp) (by simp) (by simp [htk]) (by simp)
      · simp only [decide_eq_false_iff_not] at h5
        rw [if_neg h5, List.append_nil]
        exact ⟨(), trivial, Le.keep rfl (by simp) (by simp) (by simp)⟩
    have hXf := rowsV_flat (rawV l (l.take (i + 1)))
    refine awp_reg rfl ?_
    simp [hwi]
    exact ⟨i + 1, by omega, by omega, Le.Z1 hXf 16 16 [] rfl rfl (by simp) (by simp) rfl (by simp)⟩
  simp only [decide_eq_false_iff_not] at h
  obtain rfl : i = l.length := by omega
  rw [List.take_length]
  have hsort := hn
  unfold SortH at hsort
  have hol : (ofV l).length = (rawV l l).length := by unfold ofV isortV; rw [List.length_reverse, isortRevV_len]
  rw [hol]
  generalize ofV l = O at *
  generalize rawV l l = R at *
  refine awp_regc ⟨38, [(3, .rs 16 0 R.length)], [(16, some ⟨7, rowsV O, 0⟩)], 80⟩ rfl ?_ ?_
  · simp
    refine callM1 (i := 16) rfl (e' := ⟨7, rowsV R, 0⟩) (by simp [Function.comp_def]) hsort (by simp) (by simp) ?_
    simp [Function.comp_def]
    exact Le.keep rfl (Nat.le_refl _) (by simp) (by simp)
  refine awp_seq ?_
  refine awp_run (s := ?s9) rfl ?o9 ?q9
  case o9 => simp; rfl
  refine awp_ret ?_
  exact ⟨.inr rfl, RetOk.out [16] [] rfl (by simp) (by simp) (by simp) (by simp [Function.comp_def])⟩
end Go.Proofs.Ytnphfkceoklkkaa
namespace Go.Proofs.Ytnphfkceoklkkaa
open Go
abbrev rwI (l : List Int) : List (List AV) := l.map fun n => [AV.I n]
theorem rwI_flat (l : List Int) (ρ sn h m) : (rwI l).map (List.map (conv ρ sn h (m + 1))) = rwI l := by simp [Function.comp_def]
theorem Le.N1 {st st' : St} {z : Nat} {X : List (List AV)} (hflat : ∀ ρ sn h m, X.map (List.map (conv ρ sn h (m + 1))) = X) (hsz : st'.sz = st.sz) (hn : 1 ≤ st'.n) (hh : st'.h = [(0, some ⟨z, X, 0⟩)]) (he : st.hp 0 = some ⟨z, X, 0⟩) (ht : ∀ p ∈ st'.t, Wk (conv [(0, 0)] [] st.hp 4 (st.get p.1)) p.2) : Le 1 st st' :=
  Le.ents [(0, 0)] [] hsz (by simp) (by simp) (by simp; omega) (by simp) hn ht (fun p hp => by
    rw [hh] at hp
    simp at hp
    subst hp
    exact ⟨0, _, _, rfl, by simp, he, EntUp.eq (by simp only [convE, hflat]) (by simp)⟩)
set_option maxHeartbeats 1000000 in
set_option maxRecDepth 100000 in
theorem Compact_asc (z : List Int) (n : Nat) (hn : z.length = n) (hl : n ≤ 1000000) (hz : z.Pairwise (· < ·)) : ACalls Try.prog nslices_Compact_Lint_int [.rs 0 0 n] [⟨1, rwI z, 0⟩] (.rs 0 0 n) [some ⟨1, rwI z, 0⟩] := by
  refine sslices_Compact_Lint_int.acalls (Nat.le_of_ble_eq_true rfl) (Nat.le_of_ble_eq_true rfl) (Nat.le_of_ble_eq_true rfl) ?_
  show awp _ 1 _ _ ⟨61, [(0, .rs 0 0 n)], [(0, some ⟨1, rwI z, 0⟩)], 16⟩
  have hlt : ∀ i, (h : i + 1 < n) → ∃ a b : Int, (rwI z)[i]? = some [AV.I a] ∧ (rwI z)[i + 1]? = some [AV.I b] ∧ a < b := fun i h => by
    refine ⟨z[i], z[i + 1], ?_, ?_, List.pairwise_iff_getElem.1 hz i (i + 1) _ _ (by omega)⟩
    · rw [rwI, List.getElem?_map, List.getElem?_eq_getElem (by omega)]; rfl
    · rw [rwI, List.getElem?_map, List.getElem?_eq_getElem (by omega)]; rfl
  have hXf := rwI_flat z
  have hXl : (rwI z).length = n := by rw [rwI, List.length_map, hn]
  generalize rwI z = X at *
  refine awp_regc ⟨61, [(0, .rs 0 0 n)], [(0, some ⟨1, X, 0⟩)], 24⟩ rfl ?_ ?_
  · simp
    exact Le.keep rfl (Nat.le_refl _) (by simp) (by simp)
  refine awp_seq ?_
  refine awp_regc ⟨61, [(0, .rs 0 0 n), (8, .B (decide (n < 2)))], [(0, some ⟨1, X, 0⟩)], 48⟩ rfl ?_ ?_
  · simp
    exact Le.keep rfl (Nat.le_refl _) (by simp <;> omega) (by simp)
  refine awp_cond _ rfl (fun h => ?_) fun h => awp_skip ?_
  · refine awp_seq ?_
    refine awp_run (s := ?s1) rfl ?o1 ?q1
    case o1 => simp; rfl
    refine awp_ret ?_
    exact ⟨.inr rfl, RetOk.k1 rfl (by simp) (by simp [hXf])⟩
  simp only [decide_eq_false_iff_not] at h
  refine awp_seq ?_
  refine awp_seq ?_
  refine awp_run (s := ?s2) rfl ?o2 ?q2
  case o2 => simp; rfl
  refine awp_block ?_
  refine awp_loop (ι := Nat) (fun k => ⟨61, [(0, .rs 0 0 n), (3, .I (k + 1 : Nat))], [(0, some ⟨1, X, 0⟩)], 56⟩) (fun k => k + 1 ≤ n) (fun k => n - k) 0 (by omega) ?_ ?_
  · exact Le.N1 hXf rfl (by simp) rfl rfl (by simp)
  intro k hk
  obtain ⟨q, hq⟩ : ∃ q, q = k + 1 := ⟨_, rfl⟩
  rw [← hq]
  refine awp_seq ?_
  refine awp_regc ⟨61, [(0, .rs 0 0 n), (3, .I q), (13, .B (decide (q < n)))], [(0, some ⟨1, X, 0⟩)], 88⟩ rfl ?_ ?_
  · simp
    exact Le.keep rfl (Nat.le_refl _) (by simp) (by simp)
  refine awp_cond _ rfl (fun h2 => awp_skip ?_) fun h2 => awp_exit (hit ?_)
  · simp only [decide_eq_true_eq] at h2
    obtain ⟨a, b, h3, h4, h5⟩ := hlt k (by omega)
    rw [← hq] at h4
    have hwq : IntKind.i64.wrap ((q : Int) - 1) = (k : Int) := by rw [w64 (by omega) (by omega)]; omega
    have hwk : IntKind.i64.wrap ((q : Int) + 1) = ((k + 1 + 1 : Nat) : Int) := by rw [w64 (by omega) (by omega)]; omega
    have hne : (b == a) = false := by simp; omega
    have hkn : k < n := by omega
    refine awp_cut (ι := Unit) (fun _ => ⟨61, [(0, .rs 0 0 n), (3, .I q)], [(0, some ⟨1, X, 0⟩)], 168⟩) (fun _ => True) ?_ fun _ _ => ?_
    · refine awp_block ?_
      refine awp_dregc ⟨61, [(0, .rs 0 0 n), (3, .I q), (25, .B false)], [(0, some ⟨1, X, 0⟩)], 168⟩ rfl ?_ ?_
      · simp [hwq, h2, hkn, h3, h4, hne]
        exact ⟨rfl, Le.keep rfl (Nat.le_refl _) (by simp) (by simp)⟩
      refine awp_cond _ rfl (fun h => by cases h) fun _ => awp_skip ?_
      exact ⟨(), trivial, Le.keep rfl (by simp) (by simp) (by simp)⟩
    refine awp_reg rfl ?_
    simp [hwk]
    exact ⟨k + 1, by omega, by omega, Le.N1 hXf rfl (by simp) rfl rfl (by simp)⟩
  refine awp_seq ?_
  refine awp_run (s := ?s9) rfl ?o9 ?q9
  case o9 => simp; rfl
  refine awp_ret ?_
  exact ⟨.inr rfl, RetOk.k1 rfl (by simp) (by simp [hXf])⟩
def GoneP (t : Int) (s : Stm) : Prop := s.ki = 3 ∧ s.ti ≤ t
instance (t : Int) (s : Stm) : Decidable (GoneP t s) := by unfold GoneP; infer_instance
def goneR (l : List Stm) (t : Int) : List Int := (l.filter fun s => decide (GoneP t s)).map (·.au)
theorem goneR_succ (l : List Stm) (t : Int) (i : Nat) (h : i < l.length) : goneR (l.take (i + 1)) t = goneR (l.take i) t ++ if GoneP t l[i] then [l[i].au] else [] := by
  unfold goneR
  rw [List.take_succ_eq_append_getElem h, List.filter_append, List.map_append]
  congr 1
  by_cases hk : GoneP t l[i]
  · rw [if_pos hk]
    simp [hk]
  · rw [if_neg hk]
    simp [hk]
theorem goneR_le (l : List Stm) (t : Int) : (goneR l t).length ≤ l.length := by
  unfold goneR
  rw [List.length_map]
  exact List.length_filter_le _ _
theorem sorted_asc {z : List Int} (hz : z.Pairwise (· < ·)) : (z.mergeSort fun x y => decide (x ≤ y)) = z :=
  List.mergeSort_of_pairwise (hz.imp fun h => by simp; omega)
set_option maxHeartbeats 1000000 in
set_option maxRecDepth 100000 in
theorem vouch_Gone_ok (l : List Stm) (t : Int) (hl : l.length ≤ 100000) (hz : (goneR l t).Pairwise (· < ·)) : ACalls Try.prog nvouch_Gone [sts l, .I t] [] (.rs 0 0 (goneR l t).length) [some ⟨1, rwI (goneR l t), 0⟩] := by
  refine svouch_Gone.acalls (Nat.le_of_ble_eq_true rfl) (Nat.le_of_ble_eq_true rfl) (Nat.zero_le _) ?_
  show awp _ 0 _ _ ⟨33, [(0, sts l), (1, .I t)], [], 16⟩
  refine awp_regc ⟨33, [(0, sts l), (1, .I t)], [], 24⟩ rfl (by simp; exact Le.snap [] rfl rfl (by simp)) ?_
  refine awp_regc ⟨33, [(0, sts l), (1, .I t), (5, .sc (.slice none 0 0))], [], 32⟩ rfl (by simp; exact Le.snap [] rfl rfl (by simp)) ?_
  refine awp_seq ?_
  refine awp_regc ⟨33, [(1, .I t), (5, .sc (.slice none 0 0)), (8, sts l), (9, .I l.length), (10, .I (0 : Nat))], [], 56⟩ rfl (by simp; exact Le.snap [] rfl rfl (by simp)) ?_
  refine awp_block ?_
  refine awp_loop (ι := Nat) (fun i => ⟨33, [(1, .I t), (5, .rs 16 0 (goneR (l.take i) t).length), (8, sts l), (9, .I l.length), (10, .I i)], [(16, some ⟨1, rwI (goneR (l.take i) t), 0⟩)], 56⟩) (fun i => i ≤ l.length) (fun i => l.length - i) 0 (Nat.zero_le _) (Le.lst [] [] [(16, 1)] rfl (by simp) (by simp) (by simp) (by simp) (by simp) (by simp) (by simp) (by simp [Up, goneR]) (by simp [goneR])) ?_
  intro i hi
  refine awp_regc ⟨33, [(1, .I t), (5, .rs 16 0 (goneR (l.take i) t).length), (8, sts l), (9, .I l.length), (10, .I i), (11, .B (decide (i < l.length)))], [(16, some ⟨1, rwI (goneR (l.take i) t), 0⟩)], 64⟩ rfl ?_ ?_
  · simp
    exact Le.keep rfl (Nat.le_refl _) (by simp) (by simp)
  refine awp_seq ?_
  refine awp_cond _ rfl (fun h => awp_skip ?_) fun h => awp_exit (hit ?_)
  · simp only [decide_eq_true_eq] at h
    have hwi : IntKind.i64.wrap ((i : Int) + 1) = ((i + 1 : Nat) : Int) := by rw [w64 (by omega) (by omega)]; omega
    refine awp_cut (ι := Unit) (fun _ => ⟨33, [(1, .I t), (5, .rs 16 0 (goneR (l.take (i + 1)) t).length), (8, sts l), (9, .I l.length), (10, .I i)], [(16, some ⟨1, rwI (goneR (l.take (i + 1)) t), 0⟩)], 500⟩) (fun _ => True) ?_ fun _ _ => ?_
    · rw [goneR_succ l t i h]
      have hg : l[i]? = some l[i] := List.getElem?_eq_getElem h
      have hrl : (goneR (l.take i) t).length ≤ 100000 := Nat.le_trans (goneR_le _ _) (by rw [List.length_take]; omega)
      generalize l[i] = s at *
      generalize goneR (l.take i) t = R at *
      obtain ⟨n, hnR⟩ : ∃ n, n = R.length := ⟨_, rfl⟩
      have hXf := rwI_flat R
      have hXl : (rwI R).length = n := by rw [rwI, List.length_map, hnR]
      refine awp_block ?_
      refine awp_regc ⟨33, [(1, .I t), (5, .rs 16 0 R.length), (8, sts l), (9, .I l.length), (10, .I i), (7, .pv (sC s))], [(16, some ⟨1, rwI R, 0⟩)], 96⟩ rfl ?_ ?_
      · simp [hg, splice]
        exact Le.Z1 hXf 16 16 [80] rfl rfl (by simp) (by simp) rfl (by simp)
      refine awp_regc ⟨33, [(1, .I t), (5, .rs 16 0 R.length), (8, sts l), (9, .I l.length), (10, .I i), (7, .pv (sC s)), (22, .B (decide (GoneP t s)))], [(16, some ⟨1, rwI R, 0⟩)], 168⟩ rfl ?_ ?_
      · by_cases c1 : s.ki = 3
        · have c1' : (s.ki == 3) = true := by simp [c1]
          have e : decide (GoneP t s) = decide (s.ti ≤ t) := by
            rw [Bool.eq_iff_iff, decide_eq_true_eq, decide_eq_true_eq]
            exact ⟨fun hq => hq.2, fun hq => ⟨c1, hq⟩⟩
          simp [c1', e]
          exact Le.keep rfl (Nat.le_refl _) (by simp) (by simp)
        · have c1' : (s.ki == 3) = false := by simp [c1]
          have e : decide (GoneP t s) = false := decide_eq_false fun hq => c1 hq.1
          simp [c1', e]
          exact Le.keep rfl (Nat.le_refl _) (by simp) (by simp)
      refine awp_cond _ rfl (fun h5 => ?_) fun h5 => awp_skip ?_
      · simp only [decide_eq_true_eq] at h5
        rw [if_pos h5]
        have hXe : rwI (R ++ [s.au]) = rwI R ++ [[AV.I s.au]] := by rw [rwI, List.map_append]; rfl
        have hRl : (R ++ [s.au]).length = n + 1 := by rw [List.length_append, ← hnR]; rfl
        rw [hXe, hRl, ← hnR]
        have hXf2 : ∀ ρ sn h m, (rwI R ++ [[AV.I s.au]]).map (List.map (conv ρ sn h (m + 1))) = rwI R ++ [[AV.I s.au]] := fun ρ sn h m => by rw [List.map_append, hXf]; simp
        generalize rwI R = X at *
        have htk : List.take n X = X := List.take_of_length_le (by omega)
        refine awp_reg rfl ?_
        simp [hXl, htk]
        repeat' apply And.intro
        all_goals first | omega | exact Le.Z1 hXf2 200 16 [] rfl rfl (by simp) (by simp) (by simp [htk]) (by simp)
      · simp only [decide_eq_false_iff_not] at h5
        rw [if_neg h5, List.append_nil]
        exact ⟨(), trivial, Le.keep rfl (by simp) (by simp) (by simp)⟩
    have hXf := rwI_flat (goneR (l.take (i + 1)) t)
    refine awp_reg rfl ?_
    simp [hwi]
    exact ⟨i + 1, by omega, by omega, Le.Z1 hXf 16 16 [] rfl rfl (by simp) (by simp) rfl (by simp)⟩
  simp only [decide_eq_false_iff_not] at h
  obtain rfl : i = l.length := by omega
  rw [List.take_length]
  have hgl := goneR_le l t
  generalize goneR l t = R at *
  have hsort := sort_ok R (by omega)
  rw [sorted_asc hz] at hsort
  have hcomp := Compact_asc R R.length rfl (by omega) hz
  have hir : iRows R = rwI R := rfl
  rw [hir] at hsort
  refine awp_regc ⟨33, [(5, .rs 16 0 R.length)], [(16, some ⟨1, rwI R, 0⟩)], 80⟩ rfl ?_ ?_
  · simp
    refine callM1 (i := 16) rfl (e' := ⟨1, rwI R, 0⟩) (by simp [Function.comp_def]) hsort (by simp) (by simp) ?_
    simp [Function.comp_def]
    exact Le.keep rfl (Nat.le_refl _) (by simp) (by simp)
  refine awp_regc ⟨33, [(4, .rs 16 0 R.length)], [(16, some ⟨1, rwI R, 0⟩)], 104⟩ rfl ?_ ?_
  · simp
    refine callM1 (i := 16) rfl (e' := ⟨1, rwI R, 0⟩) (by simp [Function.comp_def]) hcomp (by simp) (by simp) ?_
    simp [Function.comp_def]
    exact Le.keep rfl (Nat.le_refl _) (by simp) (by simp)
  refine awp_ret ?_
  exact ⟨.inr rfl, RetOk.out [16] [] rfl (by simp) (by simp) (by simp) (by simp [Function.comp_def])⟩
def HoldsP (v : Vch) (g : List Int) (t : Int) : Prop := v.ti ≤ t ∧ t < v.en ∧ (v.re < 0 ∨ t < v.re) ∧ v.fr ∉ g ∧ v.to ∉ g
instance (v : Vch) (g : List Int) (t : Int) : Decidable (HoldsP v g t) := by unfold HoldsP; infer_instance
set_option maxHeartbeats 1000000 in
set_option maxRecDepth 100000 in
theorem vouch_holds_ok (v : Vch) (g : List Int) (t : Int) (hl : g.length ≤ 1000000) : ACalls Try.prog nvouch_holds [eV v, ints g, .I t] [] (.B (decide (HoldsP v g t))) [] := by
  refine svouch_holds.acalls (Nat.le_of_ble_eq_true rfl) (Nat.le_of_ble_eq_true rfl) (Nat.le_refl _) ?_
  show awp _ 0 _ _ ⟨42, [(0, eV v), (1, ints g), (2, .I t)], [], 16⟩
  refine awp_regc ⟨42, [(1, ints g), (2, .I t), (3, .pv (vC v))], [], 32⟩ rfl ?_ ?_
  · simp
    exact Le.snap [16] rfl rfl (by simp)
  obtain ⟨r, hr⟩ : ∃ r, r = decide (HoldsP v g t) := ⟨_, rfl⟩
  rw [← hr]
  obtain ⟨b1, hb1⟩ : ∃ b, b = decide (v.fr ∈ g) := ⟨_, rfl⟩
  obtain ⟨b2, hb2⟩ : ∃ b, b = decide (v.to ∈ g) := ⟨_, rfl⟩
  have k1 := contains_ok g v.fr (by omega)
  have k2 := contains_ok g v.to (by omega)
  rw [← hb1] at k1
  rw [← hb2] at k2
  refine awp_regc ⟨42, [(6, .B r)], [], 400⟩ rfl ?_ ?_
  · by_cases c1 : v.ti ≤ t
    · by_cases c2 : t < v.en
      · by_cases c3 : v.re < 0 ∨ t < v.re
        · have hre : r = (!b1 && !b2) := by
            rw [hr, hb1, hb2, Bool.eq_iff_iff]
            simp [HoldsP, c1, c2, c3]
          rcases Classical.em (v.re < 0) with c4 | c4
          · simp [c1, c2, c4]
            refine call0e k1 rfl ?_
            cases b1
            · simp
              refine call0e k2 rfl ?_
              simp
              exact Le.snap [] rfl rfl (by simp [hre])
            · simp
              exact Le.snap [] rfl rfl (by simp [hre])
          · have c5 : t < v.re := c3.resolve_left c4
            simp [c1, c2, c4, c5]
            refine call0e k1 rfl ?_
            cases b1
            · simp
              refine call0e k2 rfl ?_
              simp
              exact Le.snap [] rfl rfl (by simp [hre])
            · simp
              exact Le.snap [] rfl rfl (by simp [hre])
        · have e : r = false := by rw [hr]; exact decide_eq_false fun hq => c3 hq.2.2.1
          have c4 : ¬ v.re < 0 := fun h => c3 (.inl h)
          have c5 : ¬ t < v.re := fun h => c3 (.inr h)
          simp [c1, c2, c4, c5, e]
          exact Le.snap [] rfl rfl (by simp)
      · have e : r = false := by rw [hr]; exact decide_eq_false fun hq => c2 hq.2.1
        simp [c1, c2, e]
        exact Le.snap [] rfl rfl (by simp)
    · have e : r = false := by rw [hr]; exact decide_eq_false fun hq => c1 hq.1
      simp [c1, e]
      exact Le.snap [] rfl rfl (by simp)
  refine awp_ret ?_
  exact ⟨.inr rfl, RetOk.one (by simp)⟩
end Go.Proofs.Ytnphfkceoklkkaa
namespace Go.Proofs.Ytnphfkceoklkkaa
open Go
def LaterP (v : Vch) (t : Int) (w : Vch) : Prop := w.fr = v.fr ∧ w.to = v.to ∧ w.ti ≤ t
instance (v : Vch) (t : Int) (w : Vch) : Decidable (LaterP v t w) := by unfold LaterP; infer_instance
def keepB (V : List Vch) (g : List Int) (t : Int) (i : Nat) (v : Vch) : Bool := decide (HoldsP v g t) && (V.drop (i + 1)).all fun w => !decide (LaterP v t w)
def actN (V : List Vch) (g : List Int) (t : Int) : Nat → List Vch
  | 0 => []
  | i + 1 => actN V g t i ++ match V[i]? with | some v => if keepB V g t i v then [v] else [] | none => []
def actV (l : List Stm) (t : Int) : List Vch := actN (ofV l) (goneR l t) t (ofV l).length
theorem actN_le (V : List Vch) (g : List Int) (t : Int) : ∀ i, (actN V g t i).length ≤ i
  | 0 => Nat.le_refl _
  | i + 1 => by
    have := actN_le V g t i
    unfold actN
    rw [List.length_append]
    split
    · split <;> simp <;> omega
    · simp; omega
set_option maxHeartbeats 4000000 in
set_option maxRecDepth 100000 in
theorem vouch_Active_ok (l : List Stm) (t : Int) (hl : l.length ≤ 100000) (hn : SortH l) (hz : (goneR l t).Pairwise (· < ·)) : ACalls Try.prog nvouch_Active [sts l, .I t] [] (.rs 0 0 (actV l t).length) [some ⟨7, rowsV (actV l t), 0⟩] := by
  refine svouch_Active.acalls (Nat.le_of_ble_eq_true rfl) (Nat.le_of_ble_eq_true rfl) (Nat.zero_le _) ?_
  show awp _ 0 _ _ ⟨63, [(0, sts l), (1, .I t)], [], 16⟩
  refine awp_regc ⟨63, [(0, sts l), (1, .I t)], [], 24⟩ rfl (by simp; exact Le.snap [] rfl rfl (by simp)) ?_
  have hof := vouch_Of_ok l hl hn
  have hgo := vouch_Gone_ok l t hl hz
  have hVl : (ofV l).length ≤ 100000 := by have := rawV_le l l; unfold ofV isortV; rw [List.length_reverse, isortRevV_len]; omega
  have hGl := goneR_le l t
  have hact : actV l t = actN (ofV l) (goneR l t) t (ofV l).length := rfl
  rw [hact]
  generalize ofV l = V at *
  generalize goneR l t = G at *
  have tkV : List.take V.length (rowsV V) = rowsV V := List.take_of_length_le (by simp)
  have tkG : List.take G.length (rwI G) = rwI G := List.take_of_length_le (by simp)
  refine awp_regc ⟨63, [(1, .I t), (5, vchs V), (6, ints G)], [], 80⟩ rfl ?_ ?_
  · simp
    refine callN1 hof rfl ?_
    simp [Function.comp_def]
    refine callN1 hgo rfl ?_
    simp [Function.comp_def]
    exact Le.snap [32, 56] rfl rfl (by
      simp [Function.comp_def]
      exact ⟨wkE (congrArg _ tkV), wkE (congrArg _ tkG)⟩)
  refine awp_regc ⟨63, [(1, .I t), (5, vchs V), (6, ints G), (7, .sc (.slice none 0 0))], [], 88⟩ rfl (by simp; exact Le.snap [] rfl rfl (by simp)) ?_
  refine awp_seq ?_
  refine awp_skip ?_
  refine awp_seq ?_
  refine awp_regc ⟨63, [(1, .I t), (5, vchs V), (6, ints G), (7, .sc (.slice none 0 0)), (17, vchs V), (18, .I V.length), (19, .I (0 : Nat))], [], 112⟩ rfl (by simp; exact Le.snap [] rfl rfl (by simp)) ?_
  refine awp_block ?_
  refine awp_loop (ι := Nat) (fun i => ⟨63, [(1, .I t), (5, vchs V), (6, ints G), (7, .rs 16 0 (actN V G t i).length), (17, vchs V), (18, .I V.length), (19, .I i)], [(16, some ⟨7, rowsV (actN V G t i), 0⟩)], 112⟩) (fun i => i ≤ V.length) (fun i => V.length - i) 0 (Nat.zero_le _) (Le.lst [] [] [(16, 7)] rfl (by simp) (by simp) (by simp) (by simp) (by simp) (by simp) (by simp) (by simp [Up, actN]) (by simp [actN])) ?_
  intro i hi
  refine awp_regc ⟨63, [(1, .I t), (5, vchs V), (6, ints G), (7, .rs 16 0 (actN V G t i).length), (17, vchs V), (18, .I V.length), (19, .I i), (20, .B (decide (i < V.length)))], [(16, some ⟨7, rowsV (actN V G t i), 0⟩)], 120⟩ rfl ?_ ?_
  · simp
    exact Le.keep rfl (Nat.le_refl _) (by simp) (by simp)
  refine awp_seq ?_
  refine awp_cond _ rfl (fun h => awp_skip ?_) fun h => awp_exit (hit ?_)
  · simp only [decide_eq_true_eq] at h
    have hwi : IntKind.i64.wrap ((i : Int) + 1) = ((i + 1 : Nat) : Int) := by rw [w64 (by omega) (by omega)]; omega
    refine awp_cut (ι := Unit) (fun _ => ⟨63, [(1, .I t), (5, vchs V), (6, ints G), (7, .rs 16 0 (actN V G t (i + 1)).length), (17, vchs V), (18, .I V.length), (19, .I i)], [(16, some ⟨7, rowsV (actN V G t (i + 1)), 0⟩)], 1000⟩) (fun _ => True) ?_ fun _ _ => ?_
    · have hg : V[i]? = some V[i] := List.getElem?_eq_getElem h
      have hRl := actN_le V G t i
      have hstep : actN V G t (i + 1) = actN V G t i ++ if keepB V G t i V[i] then [V[i]] else [] := by rw [actN, hg]
      have hkeep : keepB V G t i V[i] = (decide (HoldsP V[i] G t) && (V.drop (i + 1)).all fun w => !decide (LaterP V[i] t w)) := rfl
      rw [hstep]
      generalize V[i] = v at *
      have hho := vouch_holds_ok v G t (by omega)
      obtain ⟨hb, hhb⟩ : ∃ b, b = decide (HoldsP v G t) := ⟨_, rfl⟩
      rw [← hhb] at hho hkeep
      generalize actN V G t i = R at *
      have hXf := rowsV_flat R
      obtain ⟨W, hW⟩ : ∃ W, W = V.drop (i + 1) := ⟨_, rfl⟩
      have hWl : W.length ≤ 100000 := by rw [hW, List.length_drop]; omega
      rw [← hW] at hkeep
      have hWr : List.drop (i + 1) (rowsV V) = rowsV W := by rw [hW]; exact List.map_drop.symm
      refine awp_block ?_
      refine awp_regc ⟨63, [(1, .I t), (5, vchs V), (6, ints G), (7, .rs 16 0 R.length), (17, vchs V), (18, .I V.length), (19, .I i), (8, .I i), (9, .pv (vC v))], [(16, some ⟨7, rowsV R, 0⟩)], 168⟩ rfl ?_ ?_
      · simp [hg, splice]
        exact Le.Z1 hXf 16 16 [144] rfl rfl (by simp) (by simp) rfl (by simp)
      refine awp_seq ?_
      refine awp_regc ⟨63, [(1, .I t), (5, vchs V), (6, ints G), (7, .rs 16 0 R.length), (17, vchs V), (18, .I V.length), (19, .I i), (8, .I i), (9, .pv (vC v)), (28, .B (!hb))], [(16, some ⟨7, rowsV R, 0⟩)], 208⟩ rfl ?_ ?_
      · simp
        refine call0e hho (by simp) ?_
        simp
        exact Le.keep rfl (Nat.le_refl _) (by simp) (by simp)
      refine awp_cond _ rfl (fun h5 => awp_exit (hit ?_)) fun h5 => awp_skip ?_
      · have hf : hb = false := by simpa using h5
        rw [hf, Bool.false_and] at hkeep
        rw [hkeep, if_neg (by decide), List.append_nil]
        exact ⟨(), trivial, Le.keep rfl (by simp) (by simp) (by simp)⟩
      have hht : hb = true := by simpa using h5
      rw [hht, Bool.true_and] at hkeep
      obtain ⟨i1, hi1⟩ : ∃ i1, i1 = i + 1 := ⟨_, rfl⟩
      have hwi1 : IntKind.i64.wrap ((i : Int) + 1) = (i1 : Int) := by rw [w64 (by omega) (by omega)]; omega
      rw [← hi1] at hWr
      have hno : ∀ j, j ≤ W.length → (∀ k (h : k < W.length), k < j → ¬ LaterP v t W[k]) → j = W.length → (W.all fun w => !decide (LaterP v t w)) = true := fun j _ hq hj => by
        rw [List.all_eq_true]
        intro w hw
        obtain ⟨k, hk, rfl⟩ := List.mem_iff_getElem.1 hw
        simp [hq k hk (by omega)]
      refine awp_cut (ι := Unit) (fun _ => ⟨63, [(1, .I t), (5, vchs V), (6, ints G), (7, .rs 16 0 R.length), (17, vchs V), (18, .I V.length), (19, .I i), (9, .pv (vC v))], [(16, some ⟨7, rowsV R, 0⟩)], 300⟩) (fun _ => (W.all fun w => !decide (LaterP v t w)) = true) ?_ fun _ hall => ?_
      · refine awp_regc ⟨63, [(1, .I t), (5, vchs V), (6, ints G), (7, .rs 16 0 R.length), (17, vchs V), (18, .I V.length), (19, .I i), (9, .pv (vC v)), (32, vchs W), (33, .I W.length), (34, .I (0 : Nat))], [(16, some ⟨7, rowsV R, 0⟩)], 256⟩ rfl ?_ ?_
        · have hWl2 : (List.drop i1 (rowsV V)).length = W.length := by rw [hWr, rowsV, List.length_map]
          have hle : i1 ≤ V.length := by omega
          simp [hwi1, hle]
          exact Le.Z1 hXf 16 16 [] rfl rfl (by simp) (by simp) rfl (by
            simp
            exact ⟨wkE (congrArg _ hWr), wkI (by rw [hW, List.length_drop, ← hi1])⟩)
        refine awp_block ?_
        refine awp_loop (ι := Nat) (fun j => ⟨63, [(1, .I t), (5, vchs V), (6, ints G), (7, .rs 16 0 R.length), (17, vchs V), (18, .I V.length), (19, .I i), (9, .pv (vC v)), (32, vchs W), (33, .I W.length), (34, .I j)], [(16, some ⟨7, rowsV R, 0⟩)], 256⟩) (fun j => j ≤ W.length ∧ ∀ k (h : k < W.length), k < j → ¬ LaterP v t W[k]) (fun j => W.length - j) 0 ⟨Nat.zero_le _, fun k _ hk => absurd hk (by omega)⟩ (Le.refl _ _) ?_
        rintro j ⟨hj, hjn⟩
        refine awp_regc ⟨63, [(1, .I t), (5, vchs V), (6, ints G), (7, .rs 16 0 R.length), (17, vchs V), (18, .I V.length), (19, .I i), (9, .pv (vC v)), (32, vchs W), (33, .I W.length), (34, .I j), (35, .B (decide (j < W.length)))], [(16, some ⟨7, rowsV R, 0⟩)], 264⟩ rfl ?_ ?_
        · simp
          exact Le.keep rfl (Nat.le_refl _) (by simp) (by simp)
        refine awp_seq ?_
        refine awp_cond _ rfl (fun h6 => awp_skip ?_) fun h6 => awp_exit (hit ?_)
        · simp only [decide_eq_true_eq] at h6
          have hwj : IntKind.i64.wrap ((j : Int) + 1) = ((j + 1 : Nat) : Int) := by rw [w64 (by omega) (by omega)]; omega
          refine awp_cut (ι := Unit) (fun _ => ⟨63, [(1, .I t), (5, vchs V), (6, ints G), (7, .rs 16 0 R.length), (17, vchs V), (18, .I V.length), (19, .I i), (9, .pv (vC v)), (32, vchs W), (33, .I W.length), (34, .I j)], [(16, some ⟨7, rowsV R, 0⟩)], 440⟩) (fun _ => ¬ LaterP v t W[j]) ?_ fun _ hlt => ?_
          · have hgw : W[j]? = some W[j] := List.getElem?_eq_getElem h6
            have hex : LaterP v t W[j] → (W.all fun w => !decide (LaterP v t w)) = false := fun hq => by
              rw [List.all_eq_false]
              exact ⟨W[j], List.getElem_mem h6, by simp [hq]⟩
            generalize W[j] = w at *
            obtain ⟨r, hr⟩ : ∃ r, r = decide (LaterP v t w) := ⟨_, rfl⟩
            refine awp_block ?_
            refine awp_regc ⟨63, [(1, .I t), (5, vchs V), (6, ints G), (7, .rs 16 0 R.length), (17, vchs V), (18, .I V.length), (19, .I i), (9, .pv (vC v)), (32, vchs W), (33, .I W.length), (34, .I j), (11, .pv (vC w))], [(16, some ⟨7, rowsV R, 0⟩)], 296⟩ rfl ?_ ?_
            · simp [hgw, splice]
              exact Le.Z1 hXf 16 16 [280] rfl rfl (by simp) (by simp) rfl (by simp)
            refine awp_regc ⟨63, [(1, .I t), (5, vchs V), (6, ints G), (7, .rs 16 0 R.length), (17, vchs V), (18, .I V.length), (19, .I i), (9, .pv (vC v)), (32, vchs W), (33, .I W.length), (34, .I j), (55, .B r)], [(16, some ⟨7, rowsV R, 0⟩)], 440⟩ rfl ?_ ?_
            · by_cases c1 : w.fr = v.fr
              · have c1' : (w.fr == v.fr) = true := by simp [c1]
                by_cases c2 : w.to = v.to
                · have c2' : (w.to == v.to) = true := by simp [c2]
                  have e : r = decide (w.ti ≤ t) := by
                    rw [hr, Bool.eq_iff_iff, decide_eq_true_eq, decide_eq_true_eq]
                    exact ⟨fun hq => hq.2.2, fun hq => ⟨c1, c2, hq⟩⟩
                  simp [c1', c2', e]
                  exact Le.keep rfl (Nat.le_refl _) (by simp) (by simp)
                · have c2' : (w.to == v.to) = false := by simp [c2]
                  have e : r = false := by rw [hr]; exact decide_eq_false fun hq => c2 hq.2.1
                  simp [c1', c2', e]
                  exact Le.keep rfl (Nat.le_refl _) (by simp) (by simp)
              · have c1' : (w.fr == v.fr) = false := by simp [c1]
                have e : r = false := by rw [hr]; exact decide_eq_false fun hq => c1 hq.1
                simp [c1', e]
                exact Le.keep rfl (Nat.le_refl _) (by simp) (by simp)
            refine awp_cond _ rfl (fun h7 => awp_exit (miss (by decide) (miss (by decide) (hit ?_)))) fun h7 => awp_skip ?_
            · rw [h7] at hr
              have hl := of_decide_eq_true hr.symm
              rw [hex hl] at hkeep
              rw [hkeep, if_neg (by decide), List.append_nil]
              exact ⟨(), trivial, Le.keep rfl (by simp) (by simp) (by simp)⟩
            · rw [h7] at hr
              exact ⟨(), of_decide_eq_false hr.symm, Le.keep rfl (by simp) (by simp) (by simp)⟩
          refine awp_reg rfl ?_
          simp [hwj]
          refine ⟨j + 1, ⟨by omega, fun k hk hkj => ?_⟩, by omega, Le.Z1 hXf 16 16 [] rfl rfl (by simp) (by simp) rfl (by simp)⟩
          rcases Nat.lt_succ_iff_lt_or_eq.1 hkj with hq | rfl
          · exact hjn k hk hq
          · exact hlt
        simp only [decide_eq_false_iff_not] at h6
        exact ⟨(), hno j hj hjn (by omega), Le.keep rfl (by simp) (by simp) (by simp)⟩
      rw [hall] at hkeep
      rw [hkeep, if_pos rfl]
      obtain ⟨n, hnR⟩ : ∃ n, n = R.length := ⟨_, rfl⟩
      have hXe : rowsV (R ++ [v]) = rowsV R ++ [vC v] := by rw [rowsV, List.map_append]; rfl
      have hRl2 : (R ++ [v]).length = n + 1 := by rw [List.length_append, ← hnR]; rfl
      have hXl : (rowsV R).length = n := by rw [rowsV, List.length_map, hnR]
      rw [hXe, hRl2, ← hnR]
      have hXf2 : ∀ ρ sn h m, (rowsV R ++ [vC v]).map (List.map (conv ρ sn h (m + 1))) = rowsV R ++ [vC v] := fun ρ sn h m => by rw [List.map_append, hXf]; simp
      generalize rowsV R = X at *
      have htk : List.take n X = X := List.take_of_length_le (by omega)
      refine awp_reg rfl ?_
      simp [hXl, htk]
      repeat' apply And.intro
      all_goals first | omega | exact Le.Z1 hXf2 324 16 [] rfl rfl (by simp) (by simp) (by simp [htk]) (by simp)
    have hXf := rowsV_flat (actN V G t (i + 1))
    refine awp_reg rfl ?_
    simp [hwi]
    exact ⟨i + 1, by omega, by omega, Le.Z1 hXf 16 16 [] rfl rfl (by simp) (by simp) rfl (by simp)⟩
  simp only [decide_eq_false_iff_not] at h
  obtain rfl : i = V.length := by omega
  refine awp_seq ?_
  refine awp_run (s := ?s9) rfl ?o9 ?q9
  case o9 => simp; rfl
  refine awp_ret ?_
  exact ⟨.inr rfl, RetOk.out [16] [] rfl (by simp) (by simp) (by simp) (by simp [Function.comp_def])⟩
def zV : Vch := ⟨0, 0, 0, 0, 0, 0, 0⟩
def btwP (f t : Int) (v : Vch) : Prop := v.fr = f ∧ v.to = t
instance (f t : Int) (v : Vch) : Decidable (btwP f t v) := by unfold btwP; infer_instance
def btwV (l : List Stm) (f to t : Int) : Option Vch := (actV l t).find? fun v => decide (btwP f to v)
set_option maxHeartbeats 2000000 in
set_option maxRecDepth 100000 in
theorem vouch_Between_ok (l : List Stm) (f to t : Int) (hl : l.length ≤ 100000) (hn : SortH l) (hz : (goneR l t).Pairwise (· < ·)) : ACalls Try.prog nvouch_Between [sts l, .I f, .I to, .I t] [] (.tup [eV ((btwV l f to t).getD zV), .B (btwV l f to t).isSome]) [] := by
  refine svouch_Between.acalls (Nat.le_of_ble_eq_true rfl) (Nat.le_of_ble_eq_true rfl) (Nat.zero_le _) ?_
  show awp _ 0 _ _ ⟨33, [(0, sts l), (1, .I f), (2, .I to), (3, .I t)], [], 16⟩
  refine awp_regc ⟨33, [(0, sts l), (1, .I f), (2, .I to), (3, .I t), (8, .pt 16 0 0)], [(16, some ⟨7, [vC zV], 0⟩)], 32⟩ rfl ?_ ?_
  · simp
    exact Le.keep rfl (Nat.le_refl _) (by simp) (by simp [zV])
  have hac := vouch_Active_ok l t hl hn hz
  have hAl : (actV l t).length ≤ 100000 := by
    have := actN_le (ofV l) (goneR l t) t (ofV l).length
    have h2 : (ofV l).length = (rawV l l).length := by unfold ofV isortV; rw [List.length_reverse, isortRevV_len]
    have h3 := rawV_le l l
    unfold actV
    omega
  have hbt : btwV l f to t = (actV l t).find? fun v => decide (btwP f to v) := rfl
  rw [hbt]
  generalize actV l t = A at *
  have tkA : List.take A.length (rowsV A) = rowsV A := List.take_of_length_le (by simp)
  refine awp_seq ?_
  refine awp_regc ⟨33, [(1, .I f), (2, .I to), (8, .pt 16 0 0), (14, vchs A), (15, .I A.length), (16, .I (0 : Nat))], [(16, some ⟨7, [vC zV], 0⟩)], 72⟩ rfl ?_ ?_
  · simp
    refine callN1 hac rfl ?_
    simp [Function.comp_def]
    exact Le.ren1 16 16 [48] rfl rfl (by simp) (by simp) rfl (by simp) (by simp) (by simp [Function.comp_def]; exact wkE (congrArg _ tkA))
  refine awp_block ?_
  refine awp_loop (ι := Nat) (fun i => ⟨33, [(1, .I f), (2, .I to), (8, .pt 16 0 0), (14, vchs A), (15, .I A.length), (16, .I i)], [(16, some ⟨7, [vC zV], 0⟩)], 72⟩) (fun i => i ≤ A.length ∧ ∀ v ∈ A.take i, ¬ btwP f to v) (fun i => A.length - i) 0 ⟨Nat.zero_le _, by simp⟩ (Le.refl _ _) ?_
  rintro i ⟨hi, hp⟩
  refine awp_regc ⟨33, [(1, .I f), (2, .I to), (8, .pt 16 0 0), (14, vchs A), (15, .I A.length), (16, .I i), (17, .B (decide (i < A.length)))], [(16, some ⟨7, [vC zV], 0⟩)], 80⟩ rfl ?_ ?_
  · simp
    exact Le.keep rfl (Nat.le_refl _) (by simp) (by simp)
  refine awp_seq ?_
  refine awp_cond _ rfl (fun h => awp_skip ?_) fun h => awp_exit (hit ?_)
  · simp only [decide_eq_true_eq] at h
    have hwi : IntKind.i64.wrap ((i : Int) + 1) = ((i + 1 : Nat) : Int) := by rw [w64 (by omega) (by omega)]; omega
    have hg : A[i]? = some A[i] := List.getElem?_eq_getElem h
    obtain ⟨v, hv⟩ : ∃ v, A[i] = v := ⟨_, rfl⟩
    rw [hv] at hg
    refine awp_cut (ι := Unit) (fun _ => ⟨33, [(1, .I f), (2, .I to), (8, .pt 16 0 0), (14, vchs A), (15, .I A.length), (16, .I i)], [(16, some ⟨7, [vC zV], 0⟩)], 300⟩) (fun _ => ¬ btwP f to v) ?_ fun _ hnb => ?_
    · obtain ⟨r, hr⟩ : ∃ r, r = decide (btwP f to v) := ⟨_, rfl⟩
      refine awp_block ?_
      refine awp_regc ⟨33, [(1, .I f), (2, .I to), (8, .pt 16 0 0), (14, vchs A), (15, .I A.length), (16, .I i), (11, .pv (vC v))], [(16, some ⟨7, [vC zV], 0⟩)], 112⟩ rfl ?_ ?_
      · simp [hg, splice]
        exact Le.ren1 16 16 [96] rfl rfl (by simp) (by simp) rfl (by simp) (by simp) (by simp)
      refine awp_regc ⟨33, [(1, .I f), (2, .I to), (8, .pt 16 0 0), (14, vchs A), (15, .I A.length), (16, .I i), (11, .pv (vC v)), (29, .B r)], [(16, some ⟨7, [vC zV], 0⟩)], 192⟩ rfl ?_ ?_
      · by_cases c1 : v.fr = f
        · have c1' : (v.fr == f) = true := by simp [c1]
          have e : r = (v.to == to) := by
            rw [hr, Bool.eq_iff_iff, decide_eq_true_eq, beq_iff_eq]
            exact ⟨fun hq => hq.2, fun hq => ⟨c1, hq⟩⟩
          simp [c1', e]
          exact Le.keep rfl (Nat.le_refl _) (by simp) (by simp)
        · have c1' : (v.fr == f) = false := by simp [c1]
          have e : r = false := by rw [hr]; exact decide_eq_false fun hq => c1 hq.1
          simp [c1', e]
          exact Le.keep rfl (Nat.le_refl _) (by simp) (by simp)
      refine awp_cond _ rfl (fun h5 => ?_) fun h5 => awp_skip ?_
      · rw [h5] at hr
        have hq := of_decide_eq_true hr.symm
        have hfind : (A.find? fun v => decide (btwP f to v)) = some v := by
          rw [List.find?_eq_some_iff_getElem]
          refine ⟨by simp [hq], i, h, hv, fun j hj => ?_⟩
          have : A[j] ∈ A.take i := by
            rw [List.mem_take_iff_getElem]
            exact ⟨j, by omega, rfl⟩
          simp [hp _ this]
        rw [hfind]
        refine awp_seq ?_
        refine awp_run (s := ?t1) rfl ?o1 ?q1
        case o1 => simp [splice]; rfl
        refine awp_ret ?_
        refine ⟨.inr rfl, ?_⟩
        show RetOk [(8, some (true, 7)), (9, none)] 0 _ _ _
        refine RetOk.out (vs := [eV v, .B true]) [] [] (by simp) (by simp) (by simp) ?_ (by simp)
        simp
      · rw [h5] at hr
        exact ⟨(), of_decide_eq_false hr.symm, Le.keep rfl (by simp) (by simp) (by simp)⟩
    refine awp_reg rfl ?_
    simp [hwi]
    refine ⟨i + 1, ⟨by omega, fun u hu => ?_⟩, by omega, Le.ren1 16 16 [] rfl rfl (by simp) (by simp) rfl (by simp) (by simp) (by simp)⟩
    rw [List.take_succ_eq_append_getElem h, List.mem_append] at hu
    rcases hu with hu | hu
    · exact hp u hu
    · rw [List.mem_singleton.1 hu, hv]
      exact hnb
  simp only [decide_eq_false_iff_not] at h
  obtain rfl : i = A.length := by omega
  rw [List.take_length] at hp
  have hfind : (A.find? fun v => decide (btwP f to v)) = none := by
    rw [List.find?_eq_none]
    intro u hu
    simp [hp u hu]
  rw [hfind]
  refine awp_seq ?_
  refine awp_run (s := ?t2) rfl ?o2 ?q2
  case o2 => simp [splice, zV]; rfl
  refine awp_ret ?_
  refine ⟨.inr rfl, ?_⟩
  show RetOk [(8, some (true, 7)), (9, none)] 0 _ _ _
  refine RetOk.out (vs := [eV zV, .B false]) [] [] (by simp [zV]) (by simp) (by simp) ?_ (by simp)
  simp
end Go.Proofs.Ytnphfkceoklkkaa
namespace Go.Proofs.Ytnphfkceoklkkaa
open Go
section
variable {P : Program} {np id : Nat} {h : Nat → Option Ent} {K : AV → List Nat → List (Nat × Option Ent) → Prop} {f : FuncId} {first capt args args' : List AV} {res : AV}
theorem call0r (sn : List Nat) (hc : ACalls P f args' [] res []) (hw : WkL ((first ++ args ++ capt).map (conv [] sn h 4)) args') (hnp : ∀ i ∈ sn, np ≤ i)
    (hk : K (conv (((List.range 8).map (id + ·)).zipIdx.map fun (a, b) => (b, a)) [] (fun _ => none) 4 res) sn (sn.filterMap fun i => (h i).map fun e => (i, some { e with ro := e.rows.length }))) : aK P np id .call (.fn (.func f) first capt :: args) h K :=
  ⟨[], sn, true, args', [], res, [], by simp, by simp, fun _ => hnp, by rw [List.zipIdx_nil]; exact hw, rfl, hc, by simp, .inl rfl, by simpa using hk⟩
end
theorem stWk (au nu ti ki a b c sk : Int) (pr bo sd : ByteArray) : Wk (.agg [.I au, .I nu, .sc (.string pr), .I ti, .I ki, .I a, .I b, .I c, .sc (.slice none 0 0), .sc (.slice none 0 0), .sc (.string bo), .I sk, .sc (.string sd)]) (eS ⟨au, nu, pr, ti, ki, a, b, c, [], [], bo, sk, sd⟩) :=
  .agg _ _ rfl fun i => match i with
    | 0 => .refl _ | 1 => .refl _ | 2 => .refl _ | 3 => .refl _ | 4 => .refl _ | 5 => .refl _ | 6 => .refl _ | 7 => .refl _
    | 8 => .nil _ _ | 9 => .nil _ _ | 10 => .refl _ | 11 => .refl _ | 12 => .refl _ | _ + 13 => .refl _
def stN (ti ki a b c : Int) : Stm := ⟨0, 0, noB, ti, ki, a, b, c, [], [], noB, 0, noB⟩
theorem stN_b (ti ki a b c : Int) : StB (stN ti ki a b c) := ⟨Nat.le_of_ble_eq_true rfl, Nat.le_of_ble_eq_true rfl, Nat.le_of_ble_eq_true rfl, Nat.le_of_ble_eq_true rfl, by simp [stN]⟩
theorem noB_list : noB.toList = [] := by simp
theorem nil_pins : PinsOk [] := fun i h => absurd h (by simp)
theorem nx_stOk {au ti ki a b c : Int} {l : List Stm} (hau : 0 ≤ au ∧ au < 64) (hl : l.length ≤ 199) (ht : 0 ≤ ti ∧ ti ≤ 2147483648) (hk : 1 ≤ ki ∧ ki ≤ 3)
    (h1 : ki = 1 → (0 ≤ a ∧ a < 64) ∧ a ≠ au ∧ 1 ≤ b ∧ b ≤ 3 ∧ ti ≤ c ∧ c ≤ 2147483648) (h2 : ki = 2 → (0 ≤ a ∧ a ≤ 199) ∧ b = 0 ∧ c = 0) (h3 : ki = 3 → a = 0 ∧ b = 0 ∧ c = 0) : StOk (nx au l (stN ti ki a b c)) := by
  have hv : InV a ∧ InV b ∧ InV c := by
    unfold InV
    rcases (show ki = 1 ∨ ki = 2 ∨ ki = 3 by omega) with rfl | rfl | rfl
    · have := h1 rfl; omega
    · have := h2 rfl; omega
    · have := h3 rfl; omega
  refine ⟨hau, ⟨hk.1, .inl hk.2, by show ki ≤ 31; omega⟩, ht, ⟨⟨by show 0 ≤ (l.length : Int); omega, by show (l.length : Int) ≤ 199; omega⟩, hv.1, hv.2.1, hv.2.2, ?_, h1, h2, h3⟩, ⟨Nat.le_of_ble_eq_true rfl, Nat.le_of_ble_eq_true rfl, Nat.le_of_ble_eq_true rfl⟩, ⟨?_, ?_, nil_pins⟩, ?_⟩
  · intro x hx
    cases hx
  · intro h
    have : l = [] := List.eq_nil_of_length_eq_zero (by have h' : (l.length : Int) = 0 := h; omega)
    subst this
    exact noB_list
  · intro h
    have h' : 0 < (l.length : Int) := h
    show (prevD l).size = 32
    unfold prevD
    cases hq : l.getLast? with
    | none => rw [List.getLast?_eq_none_iff] at hq; rw [hq] at h'; simp at h'
    | some p => exact digS_size p
  · intro _
    exact ⟨rfl, rfl, noB_list⟩
theorem next_good (au : Int) (l : List Stm) (s : Stm) (hc : Chain au l) (hl : l.length ≤ 1000) (hs : StB s) (hT : ¬ BadT l s) (hK : ¬ BadK l) (hok : StOk (nx au l s)) : ACalls Try.prog nref04_Next [.I au, sts l, eS s] [] (.tup [eS (nx au l s), .I 0]) [] := by
  have hb3 := hs.2.2.1
  have hb4 := hs.2.2.2.1
  obtain ⟨e, he, hchk⟩ := ref03_Check_ok (nx au l s) (by show s.li.length ≤ _; omega) (by show s.pi.length ≤ _; omega)
  obtain rfl : e = 0 := he.2 hok
  exact next_ok au l s hc hl hs 0 0 (nx au l s) hchk (fun h => absurd h hT) (fun _ h => absurd h hK) fun _ _ => ⟨rfl, fun _ => rfl, fun h => absurd rfl h⟩
theorem chain_nil (au : Int) : Chain au [] := ⟨fun i h => absurd h (by simp), fun i h => absurd h (by simp)⟩
theorem not_badT {l : List Stm} {s : Stm} (h : ∀ p ∈ l, p.ti ≤ s.ti) : ¬ BadT l s := fun ⟨p, hp, hq⟩ => by
  have := h p (List.mem_of_getLast? hp)
  omega
theorem not_badK {l : List Stm} (h : ∀ p ∈ l, p.ki ≠ 3) : ¬ BadK l := fun ⟨p, hp, hq⟩ => h p (List.mem_of_getLast? hp) hq
def awA : Stm := nx 1 [] (stN 5 1 2 3 20)
def awB : Stm := nx 1 [awA] (stN 9 2 0 0 0)
theorem awA_next : ACalls Try.prog nref04_Next [.I 1, sts [], eS (stN 5 1 2 3 20)] [] (.tup [eS awA, .I 0]) [] :=
  next_good 1 [] _ (chain_nil 1) (by simp) (stN_b ..) (not_badT (by simp)) (not_badK (by simp)) (nx_stOk (by omega) (by simp) (by omega) (by omega) (fun _ => by omega) (fun h => by omega) (fun h => by omega))
theorem awA_chain : Chain 1 [awA] := by
  have := chain_nx (s := stN 5 1 2 3 20) (chain_nil 1) (stN_b ..) (not_badT (by simp)) (not_badK (by simp)) (nx_stOk (by omega) (by simp) (by omega) (by omega) (fun _ => by omega) (fun h => by omega) (fun h => by omega))
  exact this
theorem awB_next : ACalls Try.prog nref04_Next [.I 1, sts [awA], eS (stN 9 2 0 0 0)] [] (.tup [eS awB, .I 0]) [] :=
  next_good 1 [awA] _ awA_chain (by simp) (stN_b ..) (not_badT (by intro p hp; rw [List.mem_singleton.1 hp]; show (5 : Int) ≤ 9; omega)) (not_badK (by intro p hp; rw [List.mem_singleton.1 hp]; show (1 : Int) ≠ 3; omega))
    (nx_stOk (by omega) (by simp) (by omega) (by omega) (fun h => by omega) (fun _ => by omega) (fun h => by omega))
set_option maxHeartbeats 1000000 in
set_option maxRecDepth 100000 in
theorem law10_list_ok : ACalls Try.prog nlaw10_list [] [] (.rs 0 0 2) [some ⟨13, [awA, awB].map sC, 0⟩] := by
  refine slaw10_list.acalls (Nat.le_of_ble_eq_true rfl) (Nat.le_of_ble_eq_true rfl) (Nat.zero_le _) ?_
  show awp _ 0 _ _ ⟨20, [], [], 16⟩
  refine awp_regc ⟨20, [], [], 24⟩ rfl (by simp; exact Le.snap [] rfl rfl (by simp)) ?_
  have h1 := awA_next
  have h2 := awB_next
  generalize awA = A at *
  generalize awB = B at *
  refine awp_regc ⟨20, [(1, .pv (sC A))], [], 88⟩ rfl ?_ ?_
  · simp
    refine call0 h1 (by simp; exact ⟨.nil _ _, stWk ..⟩) ?_
    simp [splice]
    exact Le.snap [64] rfl rfl (by simp)
  refine awp_regc ⟨20, [(1, .pv (sC A)), (3, .pv (sC B))], [], 168⟩ rfl ?_ ?_
  · simp
    refine call0r [96] h2 (by simp; exact ⟨.refl _, stWk ..⟩) (by simp) ?_
    simp [splice]
    exact Le.snap [144] rfl rfl (by simp)
  refine awp_regc ⟨20, [(0, .rs 184 0 2)], [(184, some ⟨13, [sC A, sC B], 0⟩)], 200⟩ rfl ?_ ?_
  · simp
    exact Le.keep rfl (Nat.le_refl _) (by simp) (by simp)
  refine awp_ret ?_
  exact ⟨.inr rfl, RetOk.out [184] [] rfl (by simp) (by simp) (by simp) (by simp)⟩
end Go.Proofs.Ytnphfkceoklkkaa
namespace Go.Proofs.Ytnphfkceoklkkaa
open Go
abbrev awL : List Stm := [awA, awB]
def awV : Vch := ⟨1, 2, 3, 0, 5, 20, 9⟩
theorem awL_raw : rawV awL awL = [awV] := rfl
theorem awL_of : ofV awL = [awV] := rfl
theorem awL_gone (t : Int) : goneR awL t = [] := rfl
theorem awL_act8 : actV awL 8 = [awV] := rfl
theorem awL_act9 : actV awL 9 = [] := rfl
theorem awL_btw : btwV awL 1 2 8 = some awV := rfl
set_option maxHeartbeats 1000000 in
set_option maxRecDepth 100000 in
theorem law10_awake_ok : ACalls Try.prog nlaw10_awake [] [] (.B true) [] := by
  refine slaw10_awake.acalls (Nat.le_of_ble_eq_true rfl) (Nat.le_of_ble_eq_true rfl) (Nat.zero_le _) ?_
  show awp _ 0 _ _ ⟨50, [], [], 16⟩
  have h1 : ACalls Try.prog nlaw10_list [] [] (.rs 0 0 2) [some ⟨13, awL.map sC, 0⟩] := law10_list_ok
  have hlen : awL.length = 2 := rfl
  have hn : SortH awL := SortH.few (by rw [awL_raw]; decide)
  have hz : ∀ t, (goneR awL t).Pairwise (· < ·) := fun t => by rw [awL_gone]; exact .nil
  have h2 := vouch_Of_ok awL (by decide) hn
  have h3 := vouch_Between_ok awL 1 2 8 (by decide) hn (hz 8)
  have h4 := vouch_Active_ok awL 8 (by decide) hn (hz 8)
  have h5 := vouch_Active_ok awL 9 (by decide) hn (hz 9)
  rw [awL_of] at h2
  rw [awL_btw] at h3
  rw [awL_act8] at h4
  rw [awL_act9] at h5
  have e1 : (some awV).getD zV = awV := rfl
  have e2 : (some awV).isSome = true := rfl
  rw [e1, e2] at h3
  clear hn hz
  generalize awL = LL at *
  have htk : List.take 2 (LL.map sC) = LL.map sC := List.take_of_length_le (by simp [hlen])
  refine awp_regc ⟨50, [], [], 24⟩ rfl (by simp; exact Le.snap [] rfl rfl (by simp)) ?_
  refine awp_regc ⟨50, [(1, sts LL)], [], 40⟩ rfl ?_ ?_
  · simp
    refine callN1 h1 rfl ?_
    simp [Function.comp_def]
    exact Le.snap [24] rfl rfl (by simp [Function.comp_def, hlen]; exact wkE (congrArg _ htk))
  refine awp_regc ⟨50, [(1, sts LL), (2, vchs [awV])], [], 64⟩ rfl ?_ ?_
  · simp
    refine callN1 h2 (by simp) ?_
    simp
    exact Le.snap [48] rfl rfl (by simp <;> exact .refl _)
  refine awp_regc ⟨50, [(1, sts LL), (2, vchs [awV]), (3, .pv (vC awV)), (4, .B true)], [], 128⟩ rfl ?_ ?_
  · simp
    refine call0e h3 (by simp) ?_
    simp [splice]
    exact Le.snap [104] rfl rfl (by simp <;> exact .refl _)
  refine awp_regc ⟨50, [(0, .B true)], [], 440⟩ rfl ?_ ?_
  · simp [awV]
    refine callf nvouch_Active rfl ?_
    refine callN1 h4 (by simp) ?_
    simp
    refine callf nvouch_Active rfl ?_
    refine callN1 h5 (by simp) ?_
    simp
    exact Le.snap [] rfl rfl (by simp)
  refine awp_ret ?_
  exact ⟨.inr rfl, RetOk.one (by simp)⟩
end Go.Proofs.Ytnphfkceoklkkaa
namespace Go.Proofs.Ytnphfkceoklkkaa
open Go
def RevM (v x : Stm) : Prop := x.au = v.au ∧ v.nu < x.nu ∧ x.ki = 2 ∧ x.a = v.nu
instance (v x : Stm) : Decidable (RevM v x) := by unfold RevM; infer_instance
def refRev (l : List Stm) (v : Stm) : Int := match l.find? fun x => decide (RevM v x) with | some x => x.ti | none => -1
theorem cmpI_lt {x y : Int} : cmpI x y < 0 ↔ x < y := by
  unfold cmpI
  split
  · simp; assumption
  · split
    · simp; omega
    · simp; omega
theorem cmpI_ne {x y : Int} (h : x ≠ y) : cmpI x y ≠ 0 := by
  unfold cmpI
  split
  · decide
  · split
    · decide
    · omega
theorem cmpI_self (x : Int) : cmpI x x = 0 := by simp [cmpI]
theorem cmpI_b {x y : Int} (h : x ≠ y) : (cmpI x y != 0) = true := by simp [cmpI_ne h]
theorem cmpI_b0 (x : Int) : (cmpI x x != 0) = false := by simp [cmpI_self]
theorem cmpV_1 {a b : Vch} (h : a.fr ≠ b.fr) : cmpV a b = cmpI a.fr b.fr := by
  unfold cmpV
  simp [List.find?_cons, cmpI_b h]
theorem cmpV_2 {a b : Vch} (h : a.fr = b.fr) (h2 : a.to ≠ b.to) : cmpV a b = cmpI a.to b.to := by
  unfold cmpV
  rw [h]
  simp [List.find?_cons, cmpI_b0, cmpI_b h2]
theorem cmpV_3 {a b : Vch} (h : a.fr = b.fr) (h2 : a.to = b.to) : cmpV a b = cmpI a.nu b.nu := by
  unfold cmpV
  rw [h, h2]
  by_cases h3 : a.nu = b.nu
  · rw [h3, cmpI_self]
    simp [List.find?_cons, cmpI_b0, cmpI_self]
  · simp [List.find?_cons, cmpI_b0, cmpI_b h3]
end Go.Proofs.Ytnphfkceoklkkaa
namespace Go.Proofs.Ytnphfkceoklkkaa
open Go
def GoneK (t : Int) (k : Int) (s : Stm) : Prop := s.au = k ∧ GoneP t s
instance (t k : Int) (s : Stm) : Decidable (GoneK t k s) := by unfold GoneK; infer_instance
def goneB (l : List Stm) (t : Int) (k : Int) : Bool := l.any fun s => decide (GoneK t k s)
def goneN (l : List Stm) (t : Int) : Nat → List Int
  | 0 => []
  | n + 1 => goneN l t n ++ if goneB l t n then [(n : Int)] else []
end Go.Proofs.Ytnphfkceoklkkaa
namespace Go.Proofs.Ytnphfkceoklkkaa
open Go
end Go.Proofs.Ytnphfkceoklkkaa
namespace Go.Proofs.Ytnphfkceoklkkaa
open Go
end Go.Proofs.Ytnphfkceoklkkaa
namespace Go.Proofs.Ytnphfkceoklkkaa
open Go
def OrdS (x y : Stm) : Prop := x.au < y.au ∨ (x.au = y.au ∧ x.nu < y.nu ∧ x.ti ≤ y.ti ∧ x.ki ≠ 3)
structure GoodL (l : List Stm) : Prop where
  ord : l.Pairwise OrdS
  rng : ∀ s ∈ l, 0 ≤ s.au ∧ s.au < 64 ∧ 0 ≤ s.ti ∧ 0 ≤ s.nu
theorem rv_no {v x : Stm} {p : Int × Int} (h : ¬ RevP v x p) : revStep v p x = p := if_neg h
theorem rev_keep (v : Stm) (p : Int × Int) (h0 : 0 ≤ p.2) : ∀ l : List Stm, (∀ s ∈ l, s.au = v.au → p.2 < s.nu) → l.foldl (revStep v) p = p
  | [], _ => rfl
  | s :: l, h => by
    have hn : ¬ RevP v s p := fun hq => by
      have h1 := h s (List.mem_cons_self ..) hq.1
      rcases hq.2.2.2.2 with h2 | h2 <;> omega
    rw [List.foldl_cons, rv_no hn]
    exact rev_keep v p h0 l fun s hs => h s (List.mem_cons_of_mem _ hs)
theorem rev_first (v : Stm) : ∀ l : List Stm, l.Pairwise OrdS → (∀ s ∈ l, 0 ≤ s.nu) → (l.foldl (revStep v) (-1, -1)).1 = refRev l v
  | [], _, _ => rfl
  | s :: l, ho, hr => by
    rw [List.pairwise_cons] at ho
    rw [List.foldl_cons]
    by_cases hm : RevM v s
    · have hp : RevP v s (-1, -1) := ⟨hm.1, hm.2.2.1, hm.2.2.2, hm.2.1, .inl (by decide)⟩
      have hst : revStep v (-1, -1) s = (s.ti, s.nu) := if_pos hp
      rw [hst, rev_keep v (s.ti, s.nu) (hr s (List.mem_cons_self ..)) l fun x hx hxa => by
        rcases ho.1 x hx with h1 | h1
        · have := hm.1; omega
        · exact h1.2.1]
      unfold refRev
      rw [List.find?_cons_of_pos (by simpa using hm)]
    · have hst : revStep v (-1, -1) s = (-1, -1) := rv_no fun hq => hm ⟨hq.1, hq.2.2.2.1, hq.2.1, hq.2.2.1⟩
      rw [hst, rev_first v l ho.2 fun x hx => hr x (List.mem_cons_of_mem _ hx)]
      unfold refRev
      rw [List.find?_cons_of_neg (by simpa using hm)]
theorem GoodL.rev {l : List Stm} (h : GoodL l) (v : Stm) : revF l v = refRev l v := rev_first v l h.ord fun s hs => (h.rng s hs).2.2.2
theorem GoodL.asc {l : List Stm} (h : GoodL l) (t : Int) : (goneR l t).Pairwise (· < ·) := by
  unfold goneR
  rw [List.pairwise_map]
  refine List.Pairwise.imp_of_mem ?_ (h.ord.filter _)
  intro a b ha hb hab
  have h1 : GoneP t a := by simpa using (List.mem_filter.1 ha).2
  rcases hab with h2 | h2
  · exact h2
  · exact absurd h1.1 h2.2.2.2
theorem asc_ext : ∀ {a b : List Int}, a.Pairwise (· < ·) → b.Pairwise (· < ·) → (∀ x, x ∈ a ↔ x ∈ b) → a = b
  | [], [], _, _, _ => rfl
  | [], y :: b, _, _, h => by have := (h y).2 (List.mem_cons_self ..); simp at this
  | x :: a, [], _, _, h => by have := (h x).1 (List.mem_cons_self ..); simp at this
  | x :: a, y :: b, ha, hb, h => by
    rw [List.pairwise_cons] at ha hb
    have hxy : x = y := by
      rcases List.mem_cons.1 ((h x).1 (List.mem_cons_self ..)) with h1 | h1
      · exact h1
      · rcases List.mem_cons.1 ((h y).2 (List.mem_cons_self ..)) with h2 | h2
        · exact h2.symm
        · have h3 := hb.1 x h1
          have h4 := ha.1 y h2
          omega
    subst hxy
    refine congrArg _ (asc_ext ha.2 hb.2 fun z => ⟨fun hz => ?_, fun hz => ?_⟩)
    · rcases List.mem_cons.1 ((h z).1 (List.mem_cons_of_mem _ hz)) with h1 | h1
      · have := ha.1 z hz; omega
      · exact h1
    · rcases List.mem_cons.1 ((h z).2 (List.mem_cons_of_mem _ hz)) with h1 | h1
      · have := hb.1 z hz; omega
      · exact h1
theorem mem_goneN (l : List Stm) (t x : Int) : ∀ n : Nat, x ∈ goneN l t n ↔ 0 ≤ x ∧ x < n ∧ goneB l t x = true
  | 0 => by simp [goneN]; omega
  | n + 1 => by
    unfold goneN
    rw [List.mem_append, mem_goneN l t x n]
    constructor
    · rintro (h | h)
      · exact ⟨h.1, by omega, h.2.2⟩
      · split at h
        · rename_i hb
          rw [List.mem_singleton] at h
          subst h
          exact ⟨by omega, by omega, hb⟩
        · simp at h
    · rintro ⟨h1, h2, h3⟩
      by_cases h4 : x < n
      · exact .inl ⟨h1, h4, h3⟩
      · have h5 : x = (n : Int) := by omega
        subst h5
        rw [if_pos h3]
        exact .inr (List.mem_singleton.2 rfl)
theorem goneN_asc (l : List Stm) (t : Int) : ∀ n : Nat, (goneN l t n).Pairwise (· < ·)
  | 0 => List.Pairwise.nil
  | n + 1 => by
    unfold goneN
    rw [List.pairwise_append]
    refine ⟨goneN_asc l t n, by split <;> simp, fun a ha b hb => ?_⟩
    have h1 := (mem_goneN l t a n).1 ha
    split at hb
    · rw [List.mem_singleton] at hb
      omega
    · simp at hb
theorem GoodL.gone {l : List Stm} (h : GoodL l) (t : Int) : goneR l t = goneN l t 64 := by
  refine asc_ext (h.asc t) (goneN_asc l t 64) fun x => ?_
  rw [mem_goneN]
  unfold goneR goneB
  rw [List.mem_map, List.any_eq_true]
  constructor
  · rintro ⟨s, hs, rfl⟩
    have hs2 := List.mem_filter.1 hs
    have hr := h.rng s hs2.1
    exact ⟨hr.1, hr.2.1, s, hs2.1, by simpa [GoneK] using hs2.2⟩
  · rintro ⟨_, _, s, hs, hg⟩
    have hg2 : GoneK t x s := by simpa using hg
    exact ⟨s, List.mem_filter.2 ⟨hs, by simpa using hg2.2⟩, hg2.1⟩
def ltV (a b : Vch) : Prop := a.fr < b.fr ∨ (a.fr = b.fr ∧ (a.to < b.to ∨ (a.to = b.to ∧ a.nu < b.nu)))
theorem cmpV_lt (a b : Vch) : cmpV a b < 0 ↔ ltV a b := by
  unfold ltV
  by_cases h1 : a.fr = b.fr
  · by_cases h2 : a.to = b.to
    · rw [cmpV_3 h1 h2, cmpI_lt]; omega
    · rw [cmpV_2 h1 h2, cmpI_lt]; omega
  · rw [cmpV_1 h1, cmpI_lt]; omega
theorem ltV_asym {a b : Vch} (h : ltV a b) : ¬ ltV b a := by unfold ltV at *; omega
theorem ltV_neg {a b c : Vch} (h1 : ¬ ltV a b) (h2 : ¬ ltV b c) : ¬ ltV a c := by unfold ltV at *; omega
theorem insV_sorted : ∀ (R : List Vch) (x : Vch), R.Pairwise (fun a b => ¬ ltV a b) → (insRevV cmpV R x).Pairwise (fun a b => ¬ ltV a b)
  | [], x, _ => by simp [insRevV]
  | y :: R, x, h => by
    rw [List.pairwise_cons] at h
    unfold insRevV
    split
    · rename_i hc
      rw [cmpV_lt] at hc
      rw [List.pairwise_cons]
      refine ⟨fun z hz => ?_, insV_sorted R x h.2⟩
      rcases List.mem_cons.1 ((insRevV_perm cmpV R x).mem_iff.1 hz) with h1 | h1
      · subst h1
        exact ltV_asym hc
      · exact h.1 z h1
    · rename_i hc
      rw [cmpV_lt] at hc
      rw [List.pairwise_cons, List.pairwise_cons]
      refine ⟨fun z hz => ?_, h⟩
      rcases List.mem_cons.1 hz with h1 | h1
      · rw [h1]; exact hc
      · exact ltV_neg hc (h.1 z h1)
theorem isortRevV_sorted (M : List Vch) : ∀ R : List Vch, R.Pairwise (fun a b => ¬ ltV a b) → (M.foldl (insRevV cmpV) R).Pairwise (fun a b => ¬ ltV a b) := by
  induction M with
  | nil => exact fun R h => h
  | cons x M ih => exact fun R h => ih _ (insV_sorted R x h)
theorem isortV_sorted (M : List Vch) : (isortV cmpV M).Pairwise (fun a b => ¬ ltV b a) := by
  unfold isortV
  rw [List.pairwise_reverse]
  exact isortRevV_sorted M [] List.Pairwise.nil
theorem mem_isortV {M : List Vch} {v : Vch} : v ∈ isortV cmpV M ↔ v ∈ M := by
  unfold isortV
  rw [List.mem_reverse, (isortRevV_perm cmpV M).mem_iff]
theorem GoodL.two {l : List Stm} (h : GoodL l) {x y : Stm} (hx : x ∈ l) (hy : y ∈ l) (ha : x.au = y.au) (hn : x.nu ≤ y.nu) : x.ti ≤ y.ti := by
  obtain ⟨i, hi, rfl⟩ := List.mem_iff_getElem.1 hx
  obtain ⟨j, hj, rfl⟩ := List.mem_iff_getElem.1 hy
  have hp := List.pairwise_iff_getElem.1 h.ord
  rcases Nat.lt_trichotomy i j with h1 | h1 | h1
  · rcases hp i j hi hj h1 with h2 | h2
    · omega
    · exact h2.2.2.1
  · subst h1
    exact Int.le_refl _
  · rcases hp j i hj hi h1 with h2 | h2
    · omega
    · omega
theorem mem_rawV {l : List Stm} {v : Vch} (h : v ∈ rawV l l) : ∃ s ∈ l, s.ki = 1 ∧ v = vOf l s := by
  unfold rawV at h
  obtain ⟨s, hs, rfl⟩ := List.mem_map.1 h
  have hs2 := List.mem_filter.1 hs
  exact ⟨s, hs2.1, by simpa using hs2.2, rfl⟩
theorem Chain.good {a : Int} {c : List Stm} (hc : Chain a c) : GoodL c := by
  have hi : ∀ i (h : i < c.length), c[i].au = a ∧ c[i].nu = i ∧ 0 ≤ c[i].au ∧ c[i].au < 64 ∧ 0 ≤ c[i].ti := fun i h => by
    have := hc.1 i h
    exact ⟨this.au_, this.nu_, this.ok.1.1, this.ok.1.2, this.ok.2.2.1.1⟩
  have hstep : ∀ i k (hj : i + k + 1 < c.length), c[i].ti ≤ c[i + k + 1].ti ∧ c[i].ki ≠ 3 := by
    intro i k
    induction k with
    | zero =>
      intro hj
      have := hc.2 i hj
      exact ⟨this.ti_, this.ki_⟩
    | succ k ih =>
      intro hj
      have h1 := ih (by omega)
      have h2 := (hc.2 (i + k + 1) hj).ti_
      exact ⟨Int.le_trans h1.1 h2, h1.2⟩
  constructor
  · rw [List.pairwise_iff_getElem]
    intro i j h1 h2 hij
    have h3 := hi i h1
    have h4 := hi j h2
    obtain ⟨k, rfl⟩ : ∃ k, j = i + k + 1 := ⟨j - i - 1, by omega⟩
    have h5 := hstep i k h2
    exact .inr ⟨by omega, by omega, h5.1, h5.2⟩
  · intro s hs
    obtain ⟨i, h, rfl⟩ := List.mem_iff_getElem.1 hs
    have h3 := hi i h
    exact ⟨h3.2.2.1, h3.2.2.2.1, h3.2.2.2.2, by omega⟩
theorem GoodL.append {a b : List Stm} (ha : GoodL a) (hb : GoodL b) (h : ∀ x ∈ a, ∀ y ∈ b, x.au < y.au) : GoodL (a ++ b) where
  ord := by
    rw [List.pairwise_append]
    exact ⟨ha.ord, hb.ord, fun x hx y hy => .inl (h x hx y hy)⟩
  rng := fun s hs => (List.mem_append.1 hs).elim (ha.rng s) (hb.rng s)
end Go.Proofs.Ytnphfkceoklkkaa
namespace Go.Proofs.Ytnphfkceoklkkaa
open Go
theorem awpOps_ex {P : Program} {np : Nat} {α : Type} : ∀ (ops : List AOper) (n i : Nat) (st : St) (tr : List (List Nat × List Nat)) (K : α → St → List (List Nat × List Nat) → Prop), awpOps P np n i ops st tr (fun s t => ∃ x, K x s t) → ∃ x, awpOps P np n i ops st tr (K x) := by
  intro ops
  induction ops with
  | nil => intro n i st tr K h; exact h
  | cons o os ih =>
    intro n i st tr K h
    have hgo : ∀ (op : AOp) (xs : List AV) (h : Nat → Option Ent) (F : AV → List Nat → List (Nat × Option Ent) → (St → List (List Nat × List Nat) → Prop) → Prop),
        (∀ v rd up, F v rd up (fun s t => ∃ x, K x s t) → ∃ x, F v rd up (K x)) → aK P np (n + 8 * i) op xs h (fun v rd up => F v rd up (fun s t => ∃ x, K x s t)) → ∃ x, aK P np (n + 8 * i) op xs h (fun v rd up => F v rd up (K x)) := by
      intro op xs h F hF hk
      obtain ⟨v, rd, up, h1, h2⟩ := aK_pick hk
      obtain ⟨x, hx⟩ := hF v rd up h1
      refine ⟨x, aK_mono (fun a b c e => ?_) h2⟩
      obtain ⟨rfl, rfl, rfl⟩ := e
      exact hx
    unfold awpOps at h ⊢
    cases hg : o.guard with
    | none =>
      simp only [hg] at h ⊢
      exact hgo _ _ _ (fun v rd up K' => awpOps P np n (i + 1) os ((st.put o.dst v).upd up) (tr ++ [(rd, up.map (·.1))]) K') (fun v rd up => ih _ _ _ _ _) h
    | some gw =>
      obtain ⟨g, want⟩ := gw
      simp only [hg] at h ⊢
      obtain ⟨b, hb, h⟩ := h
      by_cases hbw : b = some want
      · rw [if_pos hbw] at h
        obtain ⟨x, hx⟩ := hgo _ _ _ (fun v rd up K' => awpOps P np n (i + 1) os ((st.put o.dst v).upd up) (tr ++ [(rd, up.map (·.1))]) K') (fun v rd up => ih _ _ _ _ _) h
        exact ⟨x, b, hb, by rw [if_pos hbw]; exact hx⟩
      · rw [if_neg hbw] at h
        obtain ⟨x, hx⟩ := ih _ _ _ _ _ h
        exact ⟨x, b, hb, by rw [if_neg hbw]; exact hx⟩
theorem Le.trans' {np : Nat} {a b c : St} (h1 : Le np a b) (h2 : Le np b c) : Le np a c := by
  intro T0 M0 w0 T M ac w ok hn
  obtain ⟨T', M', ok', hn'⟩ := h1 T0 M0 w0 T M ac w ok hn
  exact h2 T0 M0 w0 T' M' ac w ok' hn'
theorem awp_ex {P : Program} {np : Nat} : ∀ {c : ACode} {α : Type} {Q : α → AExit → St → Prop} {st : St}, awp P np c (fun e s => ∃ x, Q x e s) st → ∃ x, awp P np c (Q x) st := by
  intro c
  induction c with
  | skip => intro α Q st h; exact h
  | reg draw ops after =>
    intro α Q st hw
    obtain ⟨x, hx⟩ := awpOps_ex ops st.n 0 st [] (fun x st' tr => (draw = true → orderly ops after tr = true) ∧ Q x .normal { st' with n := st.n + 8 * ops.length })
      (awpOps_mono _ _ _ _ _ _ _ (fun s t h => by obtain ⟨h1, x, h2⟩ := h; exact ⟨x, h1, h2⟩) hw.2)
    exact ⟨x, hw.1, hx⟩
  | seq a b iha ihb =>
    intro α Q st hw
    refine iha (awp_mono (fun e s hs => ?_) hw)
    cases e with
    | normal =>
      obtain ⟨st2, hle, h2⟩ := hs
      obtain ⟨x, hx⟩ := ihb h2
      exact ⟨x, st2, hle, hx⟩
    | exit id => exact hs
    | ret => exact hs
  | cond c a b iha ihb =>
    intro α Q st hw
    obtain ⟨t, ht, hw⟩ := hw
    cases t
    · obtain ⟨x, hx⟩ := ihb hw
      exact ⟨x, false, ht, hx⟩
    · obtain ⟨x, hx⟩ := iha hw
      exact ⟨x, true, ht, hx⟩
  | block id a iha =>
    intro α Q st hw
    refine iha (awp_mono (fun e s hs => ?_) hw)
    cases e with
    | normal => exact hs
    | exit id' =>
      simp only at hs ⊢
      by_cases hi : id' = id
      · simp only [if_pos hi] at hs ⊢; exact hs
      · simp only [if_neg hi] at hs ⊢; exact hs
    | ret => exact hs
  | loop a iha =>
    intro α Q st hw
    obtain ⟨I, ⟨st0, k0, hle, hI⟩, hb⟩ := hw
    have key : ∀ k s, I k s → ∃ x, awp P np (.loop a) (Q x) s := by
      intro k
      induction k using Nat.strongRecOn with
      | ind k ihk =>
        intro s hs
        have hpre : awp P np a (fun e s' => ∃ y : { y : α × Nat × (Nat → St → Prop) // ∀ k' s', y.2.2 k' s' → awp P np a (fun e st' => match e with | .normal => ∃ st2 k2, Le np st' st2 ∧ y.2.2 k2 st2 ∧ k2 < k' | e => Q y.1 e st') s' },
            match e with | .normal => ∃ st2, Le np s' st2 ∧ y.1.2.2 y.1.2.1 st2 | e => Q y.1.1 e s') s := by
          refine awp_mono (fun e s' h => ?_) (hb k s hs)
          cases e with
          | normal =>
            obtain ⟨st2, k2, h1, h2, h3⟩ := h
            obtain ⟨x, J, ⟨st3, k3, h4, h5⟩, h6⟩ := ihk k2 h3 st2 h2
            exact ⟨⟨(x, k3, J), h6⟩, st3, Le.trans' h1 h4, h5⟩
          | exit id => obtain ⟨x, h⟩ := h; exact ⟨⟨(x, 0, fun _ _ => False), fun _ _ h => h.elim⟩, h⟩
          | ret => obtain ⟨x, h⟩ := h; exact ⟨⟨(x, 0, fun _ _ => False), fun _ _ h => h.elim⟩, h⟩
        obtain ⟨⟨⟨x, q, J⟩, hJ⟩, hy⟩ := iha hpre
        simp only at hJ hy
        refine ⟨x, fun k' s' => J k' s' ∨ (k' = q + 1 ∧ s' = s), ⟨s, q + 1, Le.refl _ _, .inr ⟨rfl, rfl⟩⟩, ?_⟩
        rintro k' s' (h | ⟨rfl, rfl⟩)
        · refine awp_mono (fun e s2 h2 => ?_) (hJ k' s' h)
          cases e with
          | normal => obtain ⟨st2, k2, h1, h2, h3⟩ := h2; exact ⟨st2, k2, h1, .inl h2, h3⟩
          | exit id => exact h2
          | ret => exact h2
        · refine awp_mono (fun e s2 h2 => ?_) hy
          cases e with
          | normal => obtain ⟨st2, h1, h2⟩ := h2; exact ⟨st2, q, h1, .inl h2, Nat.lt_succ_self q⟩
          | exit id => exact h2
          | ret => exact h2
    obtain ⟨x, hx⟩ := key k0 st0 hI
    obtain ⟨J, ⟨s3, k3, h4, h5⟩, h6⟩ := hx
    exact ⟨x, J, ⟨s3, k3, Le.trans' hle h4, h5⟩, h6⟩
  | exit id => intro α Q st h; exact h
  | ret => intro α Q st h; exact h
  | bad => intro α Q st h; exact h.elim
def PostX {α : Type} (rs : List (Nat × Option (Bool × Nat))) (np : Nat) (F : α → AV) (H : α → List (Option Ent)) (R : α → Prop) (e : AExit) (st : St) : Prop := (e = .normal ∨ e = .ret) ∧ ∃ x, R x ∧ RetOk rs np st (F x) (H x)
theorem PostX.mk {α : Type} {rs : List (Nat × Option (Bool × Nat))} {np : Nat} {F : α → AV} {H : α → List (Option Ent)} {R : α → Prop} {e : AExit} {st : St} (he : e = .normal ∨ e = .ret) (x : α) (hx : R x) (h : RetOk rs np st (F x) (H x)) : PostX rs np F H R e st := ⟨he, x, hx, h⟩
theorem Src.acallsX {P : Program} {f : FuncId} {af : AFun} (s : Src P f af) {α : Type} (F : α → AV) (H : α → List (Option Ent)) (R : α → Prop) {args : List AV} {hs : List Ent}
    (hnt : args.length ≤ af.nt) (hn16 : hs.length ≤ 16) (hlen : ∀ x, hs.length ≤ (H x).length)
    (h : awp P hs.length af.code (PostX af.res hs.length F H R) (initSt af args hs)) : ∃ x, R x ∧ ACalls P f args hs (F x) (H x) := by
  obtain ⟨⟨x, hx⟩, hw⟩ := awp_ex (α := { x : α // R x }) (Q := fun x e st => (e = .normal ∨ e = .ret) ∧ RetOk af.res hs.length st (F x.1) (H x.1)) (awp_mono (fun e st h => by
    obtain ⟨h1, x, h2, h3⟩ := h
    exact ⟨⟨x, h2⟩, h1, h3⟩) h)
  exact ⟨x, hx, s.acalls hnt hn16 (hlen x) hw⟩
end Go.Proofs.Ytnphfkceoklkkaa
namespace Go.Proofs.Ytnphfkceoklkkaa
open Go
def idm (l : List Nat) : List (Nat × Nat) := l.map fun i => (i, i)
def cutS (live keep sn : List Nat) (n : Nat) (st : St) : St :=
  ⟨st.sz, live.map (fun i => (i, conv (idm keep) sn st.hp 4 (st.get i))), keep.map (fun i => (i, (st.hp i).map (convE (idm keep) sn st.hp 4))), n⟩
def roOk (keep : List Nat) (st : St) : Prop := ∀ i ∈ keep, ∀ e, st.hp i = some e → e.ro ≤ e.rows.length
def sideB (np n : Nat) (ρ : List (Nat × Nat)) (sn : List Nat) : Bool :=
  decide (ρ.map (·.1)).Nodup && decide (ρ.map (·.2)).Nodup && ρ.all (fun p => decide (p.2 < n) && (decide (np ≤ p.2) || p.1 == p.2)) && sn.all (fun i => decide (np ≤ i) && !(ρ.map (·.1)).contains i) && decide (np ≤ n)
theorem Le.go {np : Nat} {st st' : St} (ρ : List (Nat × Nat)) (sn : List Nat) (hsz : st'.sz = st.sz) (hside : sideB np st'.n ρ sn = true)
    (ht : ∀ p ∈ st'.t, Wk (conv ρ sn st.hp 4 (st.get p.1)) p.2) (hh : ∀ p ∈ st'.h, ∃ q ∈ ρ, q.2 = p.1 ∧ (st.hp q.1).map (convE ρ sn st.hp 4) = p.2 ∧ ∀ e, p.2 = some e → e.ro ≤ e.rows.length) : Le np st st' := by
  simp only [sideB, Bool.and_eq_true, List.all_eq_true, decide_eq_true_eq, Bool.or_eq_true, beq_iff_eq, Bool.not_eq_true', List.contains_eq_mem, decide_eq_false_iff_not] at hside
  obtain ⟨⟨⟨⟨h1, h2⟩, h3⟩, h4⟩, h5⟩ := hside
  refine Le.lst ρ sn [] hsz h1 h2 (fun p hp => ⟨(h3 p hp).1, fun hlt => ?_⟩) (by simp) (fun i hi => h4 i hi) h5 (by simp) (fun p hp => .inl (ht p hp)) fun p hp e' he' => ?_
  · rcases (h3 p hp).2 with h | h
    · omega
    · exact h
  · obtain ⟨q, hq, hq2, hm, hr⟩ := hh p hp
    rw [he'] at hm
    cases hs : st.hp q.1 with
    | none => rw [hs] at hm; cases hm
    | some e =>
      rw [hs] at hm
      have hm' : convE ρ sn st.hp 4 e = e' := by simpa using hm
      exact .inl ⟨q, hq, hq2, e, hs, by rw [hm']; exact EntUp.rfl' (hr e' he')⟩
theorem Le.cut {np : Nat} {st : St} (live keep sn : List Nat) (n : Nat) (hside : sideB np n (idm keep) sn = true) (hr : roOk keep st) : Le np st (cutS live keep sn n st) := by
  refine Le.go (idm keep) sn rfl hside (fun p hp => ?_) fun p hp => ?_
  · obtain ⟨i, _, rfl⟩ := List.mem_map.1 hp
    exact .refl _
  · obtain ⟨i, hi, rfl⟩ := List.mem_map.1 hp
    refine ⟨(i, i), List.mem_map.2 ⟨i, hi, rfl⟩, rfl, rfl, fun e he => ?_⟩
    simp only at he
    cases hs : st.hp i with
    | none => rw [hs] at he; cases he
    | some e0 =>
      rw [hs] at he
      have he' : convE (idm keep) sn st.hp 4 e0 = e := by simpa using he
      subst he'
      have := hr i hi e0 hs
      simpa [convE] using this
theorem rx {P : Program} {np : Nat} {ops : List AOper} {Q : AExit → St → Prop} {sz n : Nat} {t : List (Nat × AV)} {h : List (Nat × Option Ent)} {af : List (List Nat)} {b : ACode} {s : St} (live keep sn : List Nat)
    (hd : ((ops.all fun o => o.dst.all (· < sz)) && sideB np (n + 8 * ops.length) (idm keep) sn) = true) (ho : awpOps P np n 0 ops ⟨sz, t, h, n⟩ [] fun st' _ => roOk keep st' ∧ cutS live keep sn (n + 8 * ops.length) st' = s) (hq : awp P np b Q s) : awp P np (.seq (.reg false ops af) b) Q ⟨sz, t, h, n⟩ := by
  rw [Bool.and_eq_true] at hd
  refine awp_regc s hd.1 (awpOps_mono _ _ _ _ _ _ _ (fun st' _ hc => ?_) ho) hq
  obtain ⟨h1, rfl⟩ := hc
  exact Le.cut (st := ⟨st'.sz, st'.t, st'.h, n + 8 * ops.length⟩) live keep sn _ hd.2 h1
theorem rxd {P : Program} {np : Nat} {ops : List AOper} {Q : AExit → St → Prop} {sz n : Nat} {t : List (Nat × AV)} {h : List (Nat × Option Ent)} {af : List (List Nat)} {b : ACode} {s : St} (live keep sn : List Nat)
    (hd : ((ops.all fun o => o.dst.all (· < sz)) && sideB np (n + 8 * ops.length) (idm keep) sn) = true) (ho : awpOps P np n 0 ops ⟨sz, t, h, n⟩ [] fun st' tr => Ord ops af tr ∧ roOk keep st' ∧ cutS live keep sn (n + 8 * ops.length) st' = s) (hq : awp P np b Q s) : awp P np (.seq (.reg true ops af) b) Q ⟨sz, t, h, n⟩ := by
  rw [Bool.and_eq_true] at hd
  refine awp_dregc s hd.1 (awpOps_mono _ _ _ _ _ _ _ (fun st' _ hc => ?_) ho) hq
  obtain ⟨h0, h1, rfl⟩ := hc
  exact ⟨h0, Le.cut (st := ⟨st'.sz, st'.t, st'.h, n + 8 * ops.length⟩) live keep sn _ hd.2 h1⟩
def cutK (live keep : List Nat) (n : Nat) (st : St) : St := ⟨st.sz, live.map (fun i => (i, st.get i)), keep.map (fun i => (i, st.hp i)), n⟩
theorem Le.cutk {np : Nat} {st : St} (live keep : List Nat) (n : Nat) (hn : st.n ≤ n) : Le np st (cutK live keep n st) :=
  Le.keep rfl hn (fun p hp => by obtain ⟨i, _, rfl⟩ := List.mem_map.1 hp; rfl) fun p hp e he => by
    obtain ⟨i, _, rfl⟩ := List.mem_map.1 hp
    exact he
theorem rk {P : Program} {np : Nat} {ops : List AOper} {Q : AExit → St → Prop} {sz n : Nat} {t : List (Nat × AV)} {h : List (Nat × Option Ent)} {af : List (List Nat)} {b : ACode} {s : St} (live keep : List Nat)
    (hd : (ops.all fun o => o.dst.all (· < sz)) = true) (ho : awpOps P np n 0 ops ⟨sz, t, h, n⟩ [] fun st' _ => cutK live keep (n + 8 * ops.length) st' = s) (hq : awp P np b Q s) : awp P np (.seq (.reg false ops af) b) Q ⟨sz, t, h, n⟩ := by
  refine awp_regc s hd (awpOps_mono _ _ _ _ _ _ _ (fun st' _ hc => ?_) ho) hq
  subst hc
  exact Le.cutk (st := ⟨st'.sz, st'.t, st'.h, n + 8 * ops.length⟩) live keep _ (Nat.le_refl _)
@[simp] theorem idm_nil : idm [] = [] := (rfl)
@[simp] theorem idm_cons {i : Nat} {l : List Nat} : idm (i :: l) = (i, i) :: idm l := (rfl)
@[simp] theorem roOk_nil {st : St} : roOk [] st = True := by simp [roOk]
@[simp] theorem roOk_cons {i : Nat} {l : List Nat} {st : St} : roOk (i :: l) st = ((∀ e, st.hp i = some e → e.ro ≤ e.rows.length) ∧ roOk l st) := by simp [roOk]
@[simp] theorem cutS_def {live keep sn : List Nat} {n sz m : Nat} {t : List (Nat × AV)} {h : List (Nat × Option Ent)} : cutS live keep sn n ⟨sz, t, h, m⟩ = ⟨sz, live.map (fun i => (i, conv (idm keep) sn (St.mk sz t h m).hp 4 ((St.mk sz t h m).get i))), keep.map (fun i => (i, ((St.mk sz t h m).hp i).map (convE (idm keep) sn (St.mk sz t h m).hp 4))), n⟩ := (rfl)
@[simp] theorem cutK_def {live keep : List Nat} {n sz m : Nat} {t : List (Nat × AV)} {h : List (Nat × Option Ent)} : cutK live keep n ⟨sz, t, h, m⟩ = ⟨sz, live.map (fun i => (i, (St.mk sz t h m).get i)), keep.map (fun i => (i, (St.mk sz t h m).hp i)), n⟩ := (rfl)
end Go.Proofs.Ytnphfkceoklkkaa
namespace Go.Proofs.Ytnphfkceoklkkaa
open Go
abbrev PB (rs : List (Nat × Option (Bool × Nat))) := PostX rs 0 (fun b : Bool => .B b) (fun _ => []) (fun _ => True)
theorem acB {f : FuncId} {af : AFun} (s : Src Try.prog f af) {args : List AV} (hnt : args.length ≤ af.nt) (h : awp Try.prog 0 af.code (PB af.res) (initSt af args [])) : ∃ b : Bool, ACalls Try.prog f args [] (.B b) [] := by
  obtain ⟨b, _, hb⟩ := s.acallsX (α := Bool) (fun b => .B b) (fun _ => []) (fun _ => True) (args := args) (hs := []) hnt (Nat.zero_le _) (fun _ => Nat.le_refl _) h
  exact ⟨b, hb⟩
theorem RetB {t : Nat} {st : St} {b : Bool} (h : st.get t = .B b) : PB [(t, none)] .ret st := PostX.mk (.inr rfl) b trivial (RetOk.one (by rw [h]; exact .refl _))
set_option maxRecDepth 100000 in
theorem before_any (x y : Stm) : ∃ r : Bool, ACalls Try.prog nref05_before [eS x, eS y] [] (.B r) [] := by
  refine acB sref05_before (Nat.le_of_ble_eq_true rfl) ?_
  show awp _ 0 _ _ ⟨32, [(0, eS x), (1, eS y)], [], 16⟩
  refine rx (s := ?s1) [2, 3] [] [16, 24] rfl ?o1 ?q1
  case o1 => simp; rfl
  refine awp_seq ?_
  refine rx (s := ?s2) [2, 3, 9] [] [] rfl ?o2 ?q2
  case o2 => simp; rfl
  refine awp_cond _ rfl (fun h3 => ?_) fun h3 => awp_skip ?_
  · refine rx (s := ?s4) [4] [] [] rfl ?o4 ?q4
    case o4 => simp; rfl
    exact awp_ret (RetB rfl)
  refine awp_seq ?_
  refine rx (s := ?s5) [2, 3, 19] [] [] rfl ?o5 ?q5
  case o5 => simp; rfl
  refine awp_cond _ rfl (fun h6 => ?_) fun h6 => awp_skip ?_
  · refine rx (s := ?s7) [4] [] [] rfl ?o7 ?q7
    case o7 => simp; rfl
    exact awp_ret (RetB rfl)
  refine rx (s := ?s8) [4] [] [] rfl ?o8 ?q8
  case o8 => simp; rfl
  exact awp_ret (RetB rfl)
theorem wr1 {k N : Nat} (h : k < N) (hN : N ≤ 1099511627776) : IntKind.i64.wrap ((k : Int) + 1) = ((k + 1 : Nat) : Int) := by rw [w64 (by omega) (by omega)]; omega
set_option maxRecDepth 100000 in
theorem SamePins_any (a b : List Pn) (ha : a.length ≤ 1000000) : ∃ r : Bool, ACalls Try.prog nref03_SamePins [pns a, pns b] [] (.B r) [] := by
  refine acB sref03_SamePins (Nat.le_of_ble_eq_true rfl) ?_
  show awp _ 0 _ _ ⟨26, [(0, pns a), (1, pns b)], [], 16⟩
  refine rx (s := ?s1) [0, 1] [] [] rfl ?o1 ?q1
  case o1 => simp; rfl
  refine awp_seq ?_
  refine rx (s := ?s2) [0, 1, 10] [] [] rfl ?o2 ?q2
  case o2 => simp; rfl
  refine awp_cond _ rfl (fun h3 => ?_) fun h3 => awp_skip ?_
  · refine rx (s := ?s4) [4] [] [] rfl ?o4 ?q4
    case o4 => simp; rfl
    exact awp_ret (RetB rfl)
  simp at h3
  refine awp_seq ?_
  refine rx (s := ?s5) [0, 1, 5] [] [] rfl ?o5 ?q5
  case o5 => simp; rfl
  refine awp_block ?_
  refine awp_loop (ι := Nat) (fun i => ⟨26, [(0, pns a), (1, pns b), (5, .I i)], [], 72⟩) (fun i => i ≤ a.length) (fun i => a.length - i) 0 (Nat.zero_le _) (Le.refl _ _) ?_
  intro i hi
  refine awp_seq ?_
  refine rx (s := ?s6) [0, 1, 5, 14] [] [] rfl ?o6 ?q6
  case o6 => simp; rfl
  refine awp_cond _ rfl (fun h7 => awp_skip ?_) fun h7 => awp_exit (hit ?_)
  · simp at h7
    have hga : a[i]? = some a[i] := List.getElem?_eq_getElem h7
    have hgb : b[i]? = some b[i] := List.getElem?_eq_getElem (by omega)
    have hw := wr1 h7 (by omega)
    generalize a[i] = x at *
    generalize b[i]'(by omega) = y at *
    refine awp_cut (ι := Unit) (fun _ => ⟨26, [(0, pns a), (1, pns b), (5, .I i)], [], 300⟩) (fun _ => True) ?_ fun _ _ => ?_
    · refine awp_block ?_
      refine rxd (s := ?s8) [0, 1, 5, 25] [] [] rfl ?o8 ?q8
      case o8 => simp [hga, hgb]; refine ⟨rfl, ?_⟩; rfl
      refine awp_cond _ rfl (fun h9 => ?_) fun h9 => awp_skip ?_
      · refine rx (s := ?s10) [4] [] [] rfl ?o10 ?q10
        case o10 => simp; rfl
        exact awp_ret (RetB rfl)
      · exact ⟨(), trivial, Le.snap [] rfl rfl (by simp)⟩
    refine awp_reg rfl ?_
    simp [hw]
    exact ⟨i + 1, by omega, by omega, Le.snap [] rfl rfl (by simp)⟩
  refine rx (s := ?s11) [4] [] [] rfl ?o11 ?q11
  case o11 => simp; rfl
  exact awp_ret (RetB rfl)
set_option maxHeartbeats 2000000 in
set_option maxRecDepth 100000 in
theorem Same_any (x y : Stm) (h1 : x.li.length ≤ 1000000) (h2 : x.pi.length ≤ 1000000) : ∃ r : Bool, ACalls Try.prog nref03_Same [eS x, eS y] [] (.B r) [] := by
  obtain ⟨r, hr⟩ := SamePins_any x.pi y.pi h2
  have hi := SameInts_ok x.li y.li (by omega)
  refine acB sref03_Same (Nat.le_of_ble_eq_true rfl) ?_
  show awp _ 0 _ _ ⟨87, [(0, eS x), (1, eS y)], [], 16⟩
  refine rx (s := ?s1) [2, 3] [] [16, 24] rfl ?o1 ?q1
  case o1 => simp; rfl
  refine awp_seq ?_
  refine awp_reg rfl ?_
  simp
  repeat' first
    | (refine callf nref03_SameInts rfl ?_; refine call0e hi (by simp) ?_; simp)
    | (refine callf nref03_SamePins rfl ?_; refine call0e hr (by simp) ?_; simp)
    | (refine gcase (fun hb => ?_) (fun hb => ?_) <;> (try rw [hb]) <;> simp [*])
  all_goals exact awp_ret (RetB rfl)
end Go.Proofs.Ytnphfkceoklkkaa
namespace Go.Proofs.Ytnphfkceoklkkaa
open Go
theorem StOk.b {s : Stm} (h : StOk s) : StB s := by
  obtain ⟨_, _, _, ⟨⟨hnu, _⟩, _⟩, ⟨h1, h2, h3⟩, ⟨h4, h5, h6⟩, _⟩ := h
  refine ⟨?_, by omega, by omega, by omega, fun p hp => ?_⟩
  · by_cases hn : 0 < s.nu
    · have := h5 hn; omega
    · by_cases h0 : s.nu = 0
      · have := h4 h0
        have h7 : s.pr.toList.length = 0 := by rw [this]; rfl
        have h8 : s.pr.toList.length = s.pr.size := by rw [ByteArray.toList_eq]; simp
        omega
      · omega
  · obtain ⟨i, hi, rfl⟩ := List.mem_iff_getElem.1 hp
    have := (h6 i hi).2.2.2.2
    omega
structure Fine (s : Stm) : Prop where
  ok : StOk s
  sk_ : s.sk = s.au
  sd_ : s.sd.toList = (digS s).toList
def ownR (au : Int) (l o : List Stm) : Prop := o.length ≤ l.length ∧ ∀ x ∈ o, x ∈ l ∧ x.au = au ∧ Fine x
set_option maxHeartbeats 4000000 in
set_option maxRecDepth 100000 in
theorem Own_any (au : Int) (l : List Stm) (hl : l.length ≤ 100000) (hb : ∀ s ∈ l, StB s) : ∃ o, ownR au l o ∧ ACalls Try.prog nref04_Own [.I au, sts l] [] (.rs 0 0 o.length) [some ⟨13, o.map sC, 0⟩] := by
  refine sref04_Own.acallsX (args := [.I au, sts l]) (hs := []) (fun o => .rs 0 0 o.length) (fun o => [some ⟨13, o.map sC, 0⟩]) (ownR au l) (Nat.le_of_ble_eq_true rfl) (Nat.le_of_ble_eq_true rfl) (fun _ => Nat.zero_le _) ?_
  show awp _ 0 _ _ ⟨96, [(0, .I au), (1, sts l)], [], 16⟩
  refine rx (s := ?s1) [0, 1] [] [] rfl ?o1 ?q1
  case o1 => simp; rfl
  refine rx (s := ?s2) [0, 1, 5] [] [] rfl ?o2 ?q2
  case o2 => simp; rfl
  refine awp_seq ?_
  refine rx (s := ?s3) [0, 1, 5, 6] [] [] rfl ?o3 ?q3
  case o3 => simp; rfl
  refine awp_block ?_
  refine awp_loop (ι := List Stm × Nat) (fun p => ⟨96, [(0, .I au), (1, sts l), (5, .rs 16 0 p.1.length), (6, .I p.2)], [(16, some ⟨13, p.1.map sC, 0⟩)], 40⟩) (fun p => p.2 ≤ l.length ∧ p.1.length ≤ p.2 ∧ ∀ x ∈ p.1, x ∈ l ∧ x.au = au ∧ Fine x) (fun p => l.length - p.2) ([], 0) ⟨Nat.zero_le _, Nat.zero_le _, by simp⟩ (Le.lst [] [] [(16, 13)] rfl (by simp) (by simp) (by simp) (by simp) (by simp) (by simp) (by simp) (by simp [Up]) (by simp)) ?_
  rintro ⟨o, i⟩ ⟨hi, ho1, ho2⟩
  simp only at hi ho1 ho2
  have hXl : (o.map sC).length = o.length := List.length_map ..
  have hXg : ∀ k (h : k < o.length), (o.map sC)[k]? = some (sC o[k]) := fun k h => by rw [List.getElem?_map, List.getElem?_eq_getElem h]; rfl
  have hXf := sts_flat o
  obtain ⟨X, hX⟩ : ∃ X, X = o.map sC := ⟨_, rfl⟩
  simp only
  rw [← hX] at hXl hXg hXf ⊢
  refine awp_seq ?_
  refine rk (s := ?s4) [0, 1, 5, 6, 12] [16] rfl ?o4 ?q4
  case o4 => simp; rfl
  refine awp_cond _ rfl (fun h => awp_skip ?_) fun h => awp_exit (hit ?_)
  · simp only [decide_eq_true_eq, Int.ofNat_lt] at h
    refine awp_cut (ι := List Stm) (fun o => ⟨96, [(0, .I au), (1, sts l), (5, .rs 16 0 o.length), (6, .I i)], [(16, some ⟨13, o.map sC, 0⟩)], 1000⟩) (fun o => o.length ≤ i + 1 ∧ ∀ x ∈ o, x ∈ l ∧ x.au = au ∧ Fine x) ?_ ?_
    · have hg : l[i]? = some l[i] := List.getElem?_eq_getElem h
      have hsm : l[i] ∈ l := List.getElem_mem h
      generalize l[i] = s at *
      have hsb := hb s hsm
      obtain ⟨e, he0, hchk⟩ := ref03_Check_ok s (by have := hsb.2.2.1; omega) (by have := hsb.2.2.2.1; omega)
      have hsl := ref03_Sealed_ok s hsb
      have hcp := ref03_Copy_ok s (by have := hsb.2.2.1; omega) (by have := hsb.2.2.2.1; omega)
      refine awp_block ?_
      refine rx (s := ?s5) [0, 1, 5, 6, 7] [16] [104] rfl ?o5 ?q5
      case o5 => simp [hg, splice, hXf]; rfl
      refine awp_seq ?_
      obtain ⟨r, hr⟩ : ∃ r : Bool, r = !decide (s.au = au ∧ e = 0 ∧ s.sk = s.au ∧ s.sd.toList = (digS s).toList) := ⟨_, rfl⟩
      refine awp_regc ⟨96, [(0, .I au), (1, sts l), (5, .rs 16 0 o.length), (6, .I i), (7, .pv (sC s)), (32, .B r)], [(16, some ⟨13, X, 0⟩)], 300⟩ rfl ?_ ?_
      · by_cases c1 : s.au = au
        · have c1' : (s.au != au) = false := by simp [c1]
          simp [c1']
          refine call0e hchk (by simp) ?_
          by_cases c2 : e = 0
          · have c2' : (e != 0) = false := by simp [c2]
            simp [c2']
            refine call0e hsl (by simp) ?_
            simp
            exact Le.keep rfl (by simp) (by simp [hr, c1, c2]) (by simp)
          · have c2' : (e != 0) = true := by simp [c2]
            simp [c2']
            exact Le.keep rfl (by simp) (by simp [hr, c2]) (by simp)
        · have c1' : (s.au != au) = true := by simp [c1]
          simp [c1']
          exact Le.keep rfl (by simp) (by simp [hr, c1]) (by simp)
      refine awp_cond _ rfl (fun h1 => awp_exit (hit ?_)) fun h1 => awp_skip ?_
      · exact ⟨o, ⟨by omega, ho2⟩, Le.keep rfl (by simp) (by simp) (by simp [hX])⟩
      rw [h1] at hr
      have hfine : s.au = au ∧ Fine s := by
        have : s.au = au ∧ e = 0 ∧ s.sk = s.au ∧ s.sd.toList = (digS s).toList := by simpa using hr
        exact ⟨this.1, he0.1 this.2.1, this.2.2.1, this.2.2.2⟩
      refine rk (s := ?s6) [0, 1, 5, 6, 7, 8] [16] rfl ?o6 ?q6
      case o6 => simp; rfl
      refine awp_seq ?_
      refine awp_block ?_
      refine awp_loop (ι := Nat) (fun k => ⟨96, [(0, .I au), (1, sts l), (5, .rs 16 0 o.length), (6, .I i), (7, .pv (sC s)), (8, .I k)], [(16, some ⟨13, X, 0⟩)], 400⟩) (fun k => k ≤ o.length) (fun k => o.length - k) 0 (Nat.zero_le _) (Le.keep rfl (by simp) (by simp) (by simp)) ?_
      intro k hk
      refine awp_seq ?_
      obtain ⟨r2, hr2, hr2'⟩ : ∃ r2 : Bool, (∀ h : k < o.length, r2 = (decide (o[k].nu < s.nu) || (o[k].nu == s.nu && Op.bytesLess o[k].sd.toList s.sd.toList))) ∧ (r2 = true → k < o.length) := by
        by_cases h : k < o.length
        · exact ⟨decide (o[k].nu < s.nu) || (o[k].nu == s.nu && Op.bytesLess o[k].sd.toList s.sd.toList), fun _ => rfl, fun _ => h⟩
        · exact ⟨false, fun h' => absurd h' h, fun h' => by cases h'⟩
      refine awp_dregc ⟨96, [(0, .I au), (1, sts l), (5, .rs 16 0 o.length), (6, .I i), (7, .pv (sC s)), (8, .I k), (68, .B r2)], [(16, some ⟨13, X, 0⟩)], 700⟩ rfl ?_ ?_
      · by_cases hko : k < o.length
        · have hp := hXg k hko
          have hr3 := hr2 hko
          generalize o[k] = p at *
          by_cases c1 : p.nu < s.nu
          · simp [hko, hp, c1]
            exact ⟨rfl, Le.keep rfl (by simp) (by simp [hr3, c1]) (by simp)⟩
          · by_cases c2 : p.nu = s.nu
            · have c2' : (p.nu == s.nu) = true := by simp [c2]
              simp [hko, hp, c1, c2']
              exact ⟨rfl, Le.keep rfl (by simp) (by simp [hr3, c1, c2]) (by simp)⟩
            · have c2' : (p.nu == s.nu) = false := by simp [c2]
              simp [hko, hp, c1, c2']
              exact ⟨rfl, Le.keep rfl (by simp) (by simp [hr3, c1, c2]) (by simp)⟩
        · have e2 : r2 = false := by
            cases hh : r2
            · rfl
            · exact absurd (hr2' hh) hko
          simp [hko]
          exact ⟨rfl, Le.keep rfl (by simp) (by simp [e2]) (by simp)⟩
      refine awp_cond _ rfl (fun h4 => awp_skip ?_) fun h4 => awp_exit (hit ?_)
      · have hko := hr2' h4
        have hwk := wr1 hko (by omega)
        refine awp_block ?_
        refine awp_reg rfl ?_
        simp [hwk]
        exact ⟨k + 1, by omega, by omega, Le.Z1 hXf 16 16 [] rfl rfl (by simp) (by simp) rfl (by simp)⟩
      refine awp_seq ?_
      obtain ⟨r3, hr3⟩ : ∃ r3 : Bool, ∀ h : k < o.length, ACalls Try.prog nref03_Same [eS o[k], eS s] [] (.B r3) [] := by
        by_cases h : k < o.length
        · have hkb := (ho2 o[k] (List.getElem_mem h)).2.2.ok.b
          obtain ⟨r3, h3⟩ := Same_any o[k] s (by have := hkb.2.2.1; omega) (by have := hkb.2.2.2.1; omega)
          exact ⟨r3, fun _ => h3⟩
        · exact ⟨false, fun h' => absurd h' h⟩
      refine awp_dregc ⟨96, [(0, .I au), (1, sts l), (5, .rs 16 0 o.length), (6, .I i), (7, .pv (sC s)), (8, .I k), (82, .B (decide (k < o.length) && r3))], [(16, some ⟨13, X, 0⟩)], 900⟩ rfl ?_ ?_
      · by_cases hko : k < o.length
        · have hp := hXg k hko
          have hr4 := hr3 hko
          generalize o[k] = p at *
          simp [hko, hp]
          refine call0e hr4 (by simp) ?_
          simp
          exact ⟨rfl, Le.keep rfl (by simp) (by simp) (by simp)⟩
        · simp [hko]
          exact ⟨rfl, Le.keep rfl (by simp) (by simp) (by simp)⟩
      refine awp_cond _ rfl (fun h5 => awp_exit (hit ?_)) fun h5 => awp_skip ?_
      · exact ⟨o, ⟨by omega, ho2⟩, Le.keep rfl (by simp) (by simp) (by simp [hX])⟩
      have hol : (o.take k ++ s :: o.drop k).length = o.length + 1 := by rw [List.length_append, List.length_cons, List.length_take, List.length_drop]; omega
      have hom : (o.take k ++ s :: o.drop k).map sC = X.take k ++ [sC s] ++ X.drop k := by rw [hX, List.map_append, List.map_cons, List.map_take, List.map_drop, List.append_assoc]; rfl
      have hXf2 := sts_flat (o.take k ++ s :: o.drop k)
      rw [hom] at hXf2
      have hin : (o.take k ++ s :: o.drop k).length ≤ i + 1 ∧ ∀ x ∈ o.take k ++ s :: o.drop k, x ∈ l ∧ x.au = au ∧ Fine x := by
        refine ⟨by omega, fun x hx => ?_⟩
        rcases List.mem_append.1 hx with h6 | h6
        · exact ho2 x (List.mem_of_mem_take h6)
        · rcases List.mem_cons.1 h6 with rfl | h6
          · exact ⟨hsm, hfine⟩
          · exact ho2 x (List.mem_of_mem_drop h6)
      obtain ⟨n, hn⟩ : ∃ n, n = o.length := ⟨_, rfl⟩
      rw [← hn] at hXl hol hk ho1 ⊢
      have hmin : min k n = k := by omega
      have hmin2 : min (n - k) (n - k) = n - k := by omega
      have htk : List.take (n - k) (X.drop k) = X.drop k := List.take_of_length_le (by rw [List.length_drop]; omega)
      have hlen : k + 1 + (n - k) = n + 1 := by omega
      refine awp_drw rfl ?_
      simp [hXl, hmin, htk, hk]
      refine ⟨by omega, by omega, ?_⟩
      refine call0e hcp (by simp) ?_
      simp [hXl, hmin, htk, hk]
      have htk2 : List.take (k + 1) (List.take k X ++ [sC s]) = List.take k X ++ [sC s] := List.take_of_length_le (by rw [List.length_append, List.length_take, hXl, hmin]; exact Nat.le_refl _)
      have e1 : List.take (k + 1) (List.take k (List.take k X) ++ [sC s]) = List.take k X ++ [sC s] := by rw [List.take_take, Nat.min_self]; exact htk2
      exact ⟨by omega, by omega, by omega, by omega, rfl, o.take k ++ s :: o.drop k, hin, Le.Z1 (z := 13) hXf2 988 16 [] rfl (by simp only [hom]) (by simp) (by simp) (by simp [htk]; exact (congrArg (· ++ List.drop k X) e1).trans (by simp)) (by simp only [hol]; simp [hlen])⟩
    · rintro o ⟨ho3, ho4⟩
      have hwi := wr1 h (by omega)
      refine awp_reg rfl ?_
      simp [hwi]
      exact ⟨o, i + 1, ⟨by omega, by omega, by simpa using ho4⟩, by omega, Le.Z1 (sts_flat o) 16 16 [] rfl rfl (by simp) (by simp) rfl (by simp)⟩
  rw [hX]
  refine rx (s := ?s9) [4] [16] [] rfl ?o9 ?q9
  case o9 => simp [Function.comp_def]; rfl
  exact awp_ret (PostX.mk (.inr rfl) o ⟨by omega, ho2⟩ (RetOk.out [16] [] rfl (by simp) (by simp) (by simp) (by simp [Function.comp_def])))
end Go.Proofs.Ytnphfkceoklkkaa
namespace Go.Proofs.Ytnphfkceoklkkaa
open Go
theorem Chain.snoc {au : Int} {c : List Stm} {s : Stm} (hc : Chain au c) (hs : StAt au c.length s) (hn : ∀ p, c[c.length - 1]? = some p → StNx p s) : Chain au (c ++ [s]) := by
  refine ⟨fun i h => ?_, fun i h => ?_⟩
  · by_cases hi : i < c.length
    · rw [List.getElem_append_left hi]; exact hc.1 i hi
    · have : i = c.length := by simp at h; omega
      subst this
      rw [List.getElem_append_right (Nat.le_refl _)]
      simpa using hs
  · by_cases hi : i + 1 < c.length
    · rw [List.getElem_append_left (by omega), List.getElem_append_left hi]; exact hc.2 i hi
    · have : i + 1 = c.length := by simp at h; omega
      rw [List.getElem_append_left (by omega), List.getElem_append_right (by omega)]
      have h2 := hn (c[i]'(by omega)) (by rw [show c.length - 1 = i by omega]; exact List.getElem?_eq_getElem (by omega))
      simpa [this] using h2
theorem Chain.nil (au : Int) : Chain au [] := ⟨fun i h => by simp at h, fun i h => by simp at h⟩
theorem Chain.few {au : Int} {c : List Stm} (hc : Chain au c) : c.length ≤ 200 := by
  rcases Nat.lt_or_ge 200 c.length with h | h
  · have h1 := hc.1 200 h
    have h2 := h1.ok.2.2.2.1.1.2
    have h3 := h1.nu_
    omega
  · exact h
set_option maxHeartbeats 4000000 in
set_option maxRecDepth 100000 in
theorem Counted_any (au : Int) (l : List Stm) (hl : l.length ≤ 100000) (hb : ∀ s ∈ l, StB s) : ∃ c, (Chain au c ∧ c.length ≤ l.length) ∧ ACalls Try.prog nref04_Counted [.I au, sts l] [] (.rs 0 0 c.length) [some ⟨13, c.map sC, 0⟩] := by
  obtain ⟨o, ⟨ho1, ho2⟩, hown⟩ := Own_any au l hl hb
  refine sref04_Counted.acallsX (args := [.I au, sts l]) (hs := []) (fun o => .rs 0 0 o.length) (fun o => [some ⟨13, o.map sC, 0⟩]) (fun c => Chain au c ∧ c.length ≤ l.length) (Nat.le_of_ble_eq_true rfl) (Nat.le_of_ble_eq_true rfl) (fun _ => Nat.zero_le _) ?_
  show awp _ 0 _ _ ⟨76, [(0, .I au), (1, sts l)], [], 16⟩
  refine rx (s := ?s1) [0, 1] [] [] rfl ?o1 ?q1
  case o1 => simp; rfl
  refine awp_regc ⟨76, [(5, sts o)], [], 56⟩ rfl ?_ ?_
  · simp
    refine callN1 hown rfl ?_
    simp [Function.comp_def]
    exact Le.snap [40] rfl rfl (by simp [Function.comp_def]; exact wkE (congrArg _ (List.take_of_length_le (by simp))))
  refine rx (s := ?s2) [5, 6] [] [] rfl ?o2 ?q2
  case o2 => simp; rfl
  let Y : Nat → List (List AV) := fun i => (o.take i).map sC
  have hYl : ∀ i, i ≤ o.length → (Y i).length = i := fun i hi => by simp [Y]; omega
  have hYf : ∀ i ρ sn h m, (Y i).map (List.map (conv ρ sn h (m + 1))) = Y i := fun i => sts_flat _
  have hYs : ∀ i (h : i < o.length), Y (i + 1) = Y i ++ [sC o[i]] := fun i h => by
    simp only [Y]
    rw [List.take_succ_eq_append_getElem h, List.map_append]
    rfl
  have hYg : ∀ i k (h : k < o.length), k < i → (Y i)[k]? = some (sC o[k]) := fun i k h hk => by
    simp only [Y]
    rw [List.getElem?_map, List.getElem?_take, if_pos hk, List.getElem?_eq_getElem h]
    rfl
  have hYe : ∀ i, Y i = (o.take i).map sC := fun i => rfl
  have hY0 : Y 0 = [] := rfl
  clear_value Y
  have hend : ∀ i, i ≤ o.length → Chain au (o.take i) → PostX cref04_Counted.res 0 (fun o : List Stm => AV.rs 0 0 o.length) (fun o => [some ⟨13, o.map sC, 0⟩]) (fun c => Chain au c ∧ c.length ≤ l.length) .ret ⟨76, [(4, .rs 16 0 i)], [(16, some ⟨13, Y i, 0⟩)], 2000⟩ := fun i hi hch => by
    have hil : (o.take i).length = i := by rw [List.length_take]; omega
    exact PostX.mk (.inr rfl) (o.take i) ⟨hch, by omega⟩ (RetOk.out [16] [] rfl (by simp) (by simp) (by simp [hil]) (by simp only [hYe]; simp [Function.comp_def]))
  refine awp_cut (ι := Nat) (fun i => ⟨76, [(6, .rs 16 0 i)], [(16, some ⟨13, Y i, 0⟩)], 1900⟩) (fun i => i ≤ o.length ∧ Chain au (o.take i)) ?_ ?_
  · refine rx (s := ?s3) [5, 6, 7] [] [] rfl ?o3 ?q3
    case o3 => simp; rfl
    refine awp_block ?_
    refine awp_loop (ι := Nat) (fun i => ⟨76, [(5, sts o), (6, .rs 16 0 i), (7, .I i)], [(16, some ⟨13, Y i, 0⟩)], 72⟩) (fun i => i ≤ o.length ∧ Chain au (o.take i)) (fun i => o.length - i) 0 ⟨Nat.zero_le _, Chain.nil au⟩ (Le.lst [] [] [(16, 13)] rfl (by simp) (by simp) (by simp) (by simp) (by simp) (by simp) (by simp) (by simp [Up]) (by simp [hY0])) ?_
    rintro i ⟨hi, hch⟩
    refine awp_seq ?_
    refine rk (s := ?s4) [5, 6, 7, 15] [16] rfl ?o4 ?q4
    case o4 => simp; rfl
    refine awp_cond _ rfl (fun h => awp_skip ?_) fun h => awp_exit (hit ?_)
    · simp only [decide_eq_true_eq, Int.ofNat_lt] at h
      refine awp_cut (ι := Unit) (fun _ => ⟨76, [(5, sts o), (6, .rs 16 0 (i + 1)), (7, .I i)], [(16, some ⟨13, Y (i + 1), 0⟩)], 1500⟩) (fun _ => Chain au (o.take (i + 1))) ?_ ?_
      · have hg : o[i]? = some o[i] := List.getElem?_eq_getElem h
        obtain ⟨hsl, hsau, hsf⟩ := ho2 o[i] (List.getElem_mem h)
        have hts : o.take (i + 1) = o.take i ++ [o[i]] := List.take_succ_eq_append_getElem h
        have hil : (o.take i).length = i := by rw [List.length_take]; omega
        have hpv : ∀ j, i = j + 1 → ∃ p : Stm, (Y i)[j]? = some (sC p) ∧ (o.take i)[(o.take i).length - 1]? = some p ∧ StAt au j p := fun j hj => by
          subst hj
          have h1 := hch.1 j (by omega)
          rw [List.getElem_take] at h1
          refine ⟨o[j]'(by omega), hYg _ j (by omega) (by omega), ?_, h1⟩
          rw [hil, List.getElem?_take, if_pos (by omega)]
          exact List.getElem?_eq_getElem (by omega)
        rw [hYs i h, hts]
        generalize o[i] = s at *
        have hXl := hYl i hi
        have hXf := hYf i
        have hse : Y i = (o.take i).map sC := hYe i
        generalize hYX : Y i = X at *
        generalize hce : o.take i = c at *
        refine awp_block ?_
        refine rk (s := ?s5) [5, 6, 7, 8] [16] rfl ?o5 ?q5
        case o5 => simp; rfl
        refine awp_seq ?_
        obtain ⟨i1, hi1⟩ : ∃ i1, i1 = i + 1 := ⟨_, rfl⟩
        have hw1 : IntKind.i64.wrap ((i : Int) + 1) = (i1 : Int) := by rw [w64 (by omega) (by omega)]; omega
        obtain ⟨r, hr, hrn⟩ : ∃ r : Bool, r = (s.nu != (i : Int) || match o[i1]? with | some p => p.nu == (i : Int) | none => false) ∧ (r = false → s.nu = i) := ⟨_, rfl, fun h => by
          have := (Bool.or_eq_false_iff.1 h).1
          simpa using this⟩
        refine awp_regc ⟨76, [(5, sts o), (6, .rs 16 0 i), (7, .I i), (8, .I i), (43, .B r)], [(16, some ⟨13, X, 0⟩)], 500⟩ rfl ?_ ?_
        · by_cases c1 : s.nu = (i : Int)
          · have c1' : (s.nu != (i : Int)) = false := by simp [c1]
            by_cases hk : i1 < o.length
            · have hp1 : o[i1]? = some o[i1] := List.getElem?_eq_getElem hk
              obtain ⟨p, hp⟩ : ∃ p, p = o[i1] := ⟨_, rfl⟩
              rw [← hp] at hp1
              simp [hg, c1', hw1, hk, ← hp]
              exact Le.keep rfl (by simp) (by simp [hr, c1', hk, hp]) (by simp)
            · have hp1 : o[i1]? = none := List.getElem?_eq_none (by omega)
              simp [hg, c1', hw1, hk]
              exact Le.keep rfl (by simp) (by simp [hr, c1', hp1]) (by simp)
          · have c1' : (s.nu != (i : Int)) = true := by simp [c1]
            simp [hg, c1']
            exact Le.keep rfl (by simp) (by simp [hr, c1']) (by simp)
        refine awp_cond _ rfl (fun h5 => awp_exit ?_) fun h5 => awp_skip ?_
        · refine miss (by decide) (hit ?_)
          exact ⟨i, ⟨hi, by rw [hce]; exact hch⟩, Le.keep rfl (by simp) (by simp) (by simp [hYX])⟩
        have hnu := hrn h5
        refine awp_seq ?_
        obtain ⟨r2, hr2, hr0⟩ : ∃ r2 : Bool, (∀ j, i = j + 1 → ∃ p : Stm, X[j]? = some (sC p) ∧ c[c.length - 1]? = some p ∧ StAt au j p ∧ r2 = (!decide (FollowsP p s) || p.ki == 3)) ∧ (i = 0 → r2 = false) := by
          rcases Nat.eq_zero_or_pos i with h0 | h0
          · exact ⟨false, fun j hj => by omega, fun _ => rfl⟩
          · obtain ⟨j, hj⟩ : ∃ j, i = j + 1 := ⟨i - 1, by omega⟩
            obtain ⟨p, hp1, hp2, hp3⟩ := hpv j hj
            refine ⟨!decide (FollowsP p s) || p.ki == 3, fun j' hj' => ?_, fun h => by omega⟩
            obtain rfl : j' = j := by omega
            exact ⟨p, hp1, hp2, hp3, rfl⟩
        refine awp_dregc ⟨76, [(5, sts o), (6, .rs 16 0 i), (7, .I i), (8, .I i), (67, .B r2)], [(16, some ⟨13, X, 0⟩)], 800⟩ rfl ?_ ?_
        · rcases Nat.eq_zero_or_pos i with h0 | hi0
          · have h1 := hr0 h0
            have h2 : ¬ 0 < i := by omega
            simp [h2]
            exact ⟨rfl, Le.keep rfl (by simp) (by simp [h1]) (by simp)⟩
          · obtain ⟨j, hj⟩ : ∃ j, i = j + 1 := ⟨i - 1, by omega⟩
            obtain ⟨p, hp1, hp2, hp3, hp4⟩ := hr2 j hj
            have hwj : IntKind.i64.wrap ((i : Int) - 1) = (j : Int) := by rw [w64 (by omega) (by omega)]; omega
            have hfo := ref04_Follows_ok p s hp3.b (by have := hp3.nu_; omega) (by have := hp3.nu_; omega)
            have hji : j < i := by omega
            simp [hi0, hwj, hji, hp1, hg]
            refine call0e hfo (by simp) ?_
            by_cases c2 : FollowsP p s
            · simp [hwj, hji, hp1, c2]
              exact ⟨rfl, Le.keep rfl (by simp) (by simp [hp4, c2]) (by simp)⟩
            · simp [c2]
              exact ⟨rfl, Le.keep rfl (by simp) (by simp [hp4, c2]) (by simp)⟩
        refine awp_cond _ rfl (fun h6 => awp_exit ?_) fun h6 => awp_skip ?_
        · refine miss (by decide) (hit ?_)
          exact ⟨i, ⟨hi, by rw [hce]; exact hch⟩, Le.keep rfl (by simp) (by simp) (by simp [hYX])⟩
        have hchn : Chain au (c ++ [s]) := hch.snoc ⟨hsf.ok, hsf.ok.b, hsau, by rw [hil]; exact hnu, hsf.sk_, hsf.sd_⟩ fun p hp => by
          have hi0 : 0 < i := by
            rcases Nat.eq_zero_or_pos i with h0 | h0
            · rw [hil, h0] at hp
              have := List.getElem?_eq_some_iff.1 hp
              obtain ⟨hh, _⟩ := this
              omega
            · exact h0
          obtain ⟨j, hj⟩ : ∃ j, i = j + 1 := ⟨i - 1, by omega⟩
          obtain ⟨p', hp1, hp2, hp3, hp4⟩ := hr2 j hj
          rw [hp2] at hp
          cases hp
          rw [hp4, Bool.or_eq_false_iff] at h6
          have hf : FollowsP p s := by simpa using h6.1
          exact ⟨hf.2.2.1, hf.2.2.2, by simpa using h6.2⟩
        have htk : List.take i X = X := List.take_of_length_le (by omega)
        have hXf2 : ∀ ρ sn h m, (X ++ [sC s]).map (List.map (conv ρ sn h (m + 1))) = X ++ [sC s] := fun ρ sn h m => by rw [List.map_append, hXf]; simp
        refine awp_reg rfl ?_
        simp [hXl, htk, hg]
        exact ⟨by omega, by omega, hchn, Le.Z1 hXf2 848 16 [] rfl rfl (by simp) (by simp) (by simp [htk, hXl]) (by simp)⟩
      · intro _ hch2
        have hwi := wr1 h (by omega)
        refine awp_reg rfl ?_
        simp [hwi]
        exact ⟨i + 1, ⟨by omega, hch2⟩, by omega, Le.Z1 (hYf (i + 1)) 16 16 [] rfl rfl (by simp) (by simp) rfl (by simp)⟩
    · exact ⟨i, ⟨hi, hch⟩, Le.keep rfl (by simp) (by simp) (by simp)⟩
  · rintro i ⟨hi, hch⟩
    have := hYf i
    refine awp_regc ⟨76, [(4, .rs 16 0 i)], [(16, some ⟨13, Y i, 0⟩)], 2000⟩ rfl ?_ (awp_ret (hend i hi hch))
    simp
    exact Le.keep rfl (by simp) (by simp) (by simp)
end Go.Proofs.Ytnphfkceoklkkaa
