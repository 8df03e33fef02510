/- Texts of this claim, merged. -/
import Derived.Test.YtnphfkceoklkkaaDa14
import Derived.Test.YtnphfkceoklkkaaDa9
import Derived.Test.YtnphfkceoklkkaaDa13
set_option linter.unusedSimpArgs false
set_option linter.unusedVariables false
set_option linter.unusedSectionVars false
/- The way to a key: the program's function finds it (the walk). -/
namespace Go.Proofs.Ytnphfkceoklkkaa
open Go
variable {g : Gr} {S : List Int} {key : Int}

set_option maxHeartbeats 8000000 in
set_option maxRecDepth 100000 in
theorem Way_yes (hg : GrOk g) (hS : S.length ≤ 1099511627776) (hkey : Key g key) (h0 : 0 ≤ dist g S key) : ACalls Try.prog ndistance_Way [eG g, ints S, .I key] [] (.tup [.rs 0 0 (wayL g S key).length, .B true]) [some ⟨1, rowsI (wayL g S key), 0⟩] := by
  refine sdistance_Way.acalls (Nat.le_of_ble_eq_true rfl) (Nat.le_of_ble_eq_true rfl) (Nat.zero_le _) ?_
  show awp _ 0 _ _ ⟨110, [(0, eG g), (1, ints S), (2, .I key)], [], 16⟩
  have hsz := hg.1.1
  have hsz2 := hg.1.2.1
  have h500 := hg.1.2.2.1
  obtain ⟨N, hNe⟩ : ∃ N : Nat, N = g.size.toNat := ⟨_, rfl⟩
  have hall := distance_All_ok g S hg hS
  have hDl : (distL g S).length = N := by rw [distL_len, hNe]
  have hDg : ∀ k : Nat, k < N → (distL g S)[k]? = some (dist g S k) := fun k hk => by simp [distL, show k < g.size.toNat by omega]
  rw [← hNe] at hall
  obtain ⟨D, hD⟩ : ∃ D, D = distL g S := ⟨_, rfl⟩
  rw [← hD] at hall hDl hDg
  have hDr : ∀ k : Int, -1 ≤ dist g S k ∧ dist g S k ≤ 64 := fun k => by have := dist_range (g := g) (S := S) k; omega
  have hw : IntKind.i64.wrap ((N : Int) - 1) = (N : Int) - 1 := w64 (by omega) (by omega)
  obtain ⟨kk, hkk⟩ : ∃ kk : Nat, key = kk := ⟨key.toNat, by have := hkey.1; omega⟩
  have hkkN : kk < N := by have := hkey.2; omega
  obtain ⟨K, hK⟩ : ∃ K : Nat, dist g S key = K := ⟨(dist g S key).toNat, by omega⟩
  have hK64 : K ≤ 64 := by have := hDr key; omega
  have hgetk := hDg kk hkkN
  rw [← hkk, hK] at hgetk
  refine awp_regc ⟨110, [(1, ints S), (2, .I kk), (3, .pv (gC g))], [], 40⟩ rfl ?_ ?_
  · simp
    exact Le.snap [16] rfl rfl (by simp [hkk])
  refine awp_regc ⟨110, [(2, .I kk), (3, .pv (gC g)), (8, .pv [ints D])], [], 80⟩ rfl ?_ ?_
  · simp
    refine callN1 hall rfl ?_
    simp [Function.comp_def]
    exact Le.snap [56, 64] rfl rfl (by simp [Function.comp_def, ← hDl, take_map_len])
  refine awp_seq ?_
  refine awp_regc ⟨110, [(2, .I kk), (3, .pv (gC g)), (8, .pv [ints D]), (30, .B false)], [], 40⟩ rfl ?_ ?_
  · simp [hDl, hw]
    refine callf nlists_In rfl ?_
    refine call0e (lists_In_ok ..) rfl ?_
    simp
    have hb : (!decide ((kk : Int) ≤ (N : Int) - 1)) = false := by simp; omega
    rw [hb]
    simp [hgetk]
    exact Le.snap [] rfl rfl (by simp <;> exact wkB (by simp))
  refine awp_cond _ rfl (fun h => by cases h) fun _ => awp_skip ?_
  -- the marks
  refine awp_regc ⟨110, [(2, .I kk), (3, .pv (gC g)), (8, .pv [ints D]), (9, .pt 64 0 0)], [(64, some ⟨1, [[.rs 56 0 N]], 0⟩), (56, some ⟨1, List.replicate N [.B false], 0⟩)], 80⟩ rfl ?_ ?_
  · simp [hDl]
    exact ⟨by omega, Le.keep rfl (Nat.le_refl _) (by simp) (by simp)⟩
  have hfirst : (List.replicate N [AV.B false]).set kk [AV.B true] = rowsB (ldL g S key 0 0) := by
    apply List.ext_getElem?
    intro k
    rw [List.getElem?_set, List.getElem?_map]
    by_cases hk : k < N
    · rw [ldL_get 0 0 (by omega)]
      by_cases hkk2 : kk = k
      · subst hkk2
        rw [if_pos rfl, if_pos (by simpa using hk)]
        simp [onb, hkk]
      · rw [if_neg hkk2]
        have : ¬ (k : Int) = key := by omega
        simp [onb, this, hk]
    · rw [if_neg (by omega)]
      have e1 : (List.replicate N [AV.B false])[k]? = none := List.getElem?_eq_none (by simpa using hk)
      have e2 : (ldL g S key 0 0)[k]? = none := List.getElem?_eq_none (by rw [ldL_len]; omega)
      rw [e1, e2]
      rfl
  refine awp_regc ⟨110, [(2, .I kk), (3, .pv (gC g)), (8, .pv [ints D]), (9, .pt 64 0 0)], [(64, some ⟨1, [[.rs 56 0 N]], 0⟩), (56, some ⟨1, rowsB (ldL g S key 0 0), 0⟩)], 112⟩ rfl ?_ ?_
  · simp [hkkN, splice]
    exact Le.keep rfl (Nat.le_refl _) (by simp) (by simp; exact hfirst)
  have hwK : IntKind.i64.wrap ((K : Int) - 1) = (K : Int) - 1 := w64 (by omega) (by omega)
  refine awp_seq ?_
  refine awp_regc ⟨110, [(2, .I kk), (3, .pv (gC g)), (8, .pv [ints D]), (9, .pt 64 0 0), (10, .pt 152 0 0)], [(64, some ⟨1, [[.rs 56 0 N]], 0⟩), (56, some ⟨1, rowsB (ldL g S key 0 0), 0⟩), (152, some ⟨1, [[.I ((K : Int) - 1 - (0 : Nat))]], 0⟩)], 168⟩ rfl ?_ ?_
  · simp [hgetk, hwK, splice]
    exact Le.keep rfl (Nat.le_refl _) (by simp) (by simp)
  refine awp_block ?_
  let E : Nat → Nat → List (Nat × Option Ent) := fun j i => [(64, some ⟨1, [[.rs 56 0 N]], 0⟩), (56, some ⟨1, rowsB (ldL g S key j i), 0⟩), (152, some ⟨1, [[.I ((K : Int) - 1 - j)]], 0⟩)]
  have hflat : ∀ j i ρ sn h m, (rowsB (ldL g S key j i)).map (List.map (conv ρ sn h (m + 1))) = rowsB (ldL g S key j i) := fun j i ρ sn h m => by simp [Function.comp_def]
  refine awp_loop (ι := Nat) (fun j => ⟨110, [(2, .I kk), (3, .pv (gC g)), (8, .pv [ints D]), (9, .pt 64 0 0), (10, .pt 152 0 0)], E j 0, 168⟩) (fun j => j ≤ K) (fun j => K - j) 0 (Nat.zero_le _) (Le.refl _ _) ?_
  intro j hj
  refine awp_seq ?_
  refine awp_regc ⟨110, [(2, .I kk), (3, .pv (gC g)), (8, .pv [ints D]), (9, .pt 64 0 0), (10, .pt 152 0 0), (43, .B (decide (j < K)))], E j 0, 184⟩ rfl ?_ ?_
  · simp [E]
    exact Le.keep rfl (Nat.le_refl _) (by simp; omega) (by simp)
  refine awp_cond _ rfl (fun h => awp_skip ?_) fun h => awp_exit (hit ?_)
  · simp only [decide_eq_true_eq] at h
    refine awp_cut (ι := Unit) (fun _ => ⟨110, [(2, .I kk), (3, .pv (gC g)), (8, .pv [ints D]), (9, .pt 64 0 0), (10, .pt 152 0 0)], [(64, some ⟨1, [[.rs 56 0 N]], 0⟩), (56, some ⟨1, rowsB (ldL g S key (j + 1) 0), 0⟩), (152, some ⟨1, [[.I ((K : Int) - 1 - j)]], 0⟩)], 184⟩) (fun _ => True) ?_ fun _ _ => ?_
    · rw [← ldL_next, ← hNe]
      refine awp_block ?_
      refine awp_regc ⟨110, [(2, .I kk), (3, .pv (gC g)), (8, .pv [ints D]), (9, .pt 64 0 0), (10, .pt 152 0 0), (47, .I N), (48, .I (0 : Nat))], E j 0, 208⟩ rfl ?_ ?_
      · simp [hDl, E]
        exact Le.keep rfl (Nat.le_refl _) (by simp) (by simp)
      refine awp_block ?_
      refine awp_loop (ι := Nat) (fun i => ⟨110, [(2, .I kk), (3, .pv (gC g)), (8, .pv [ints D]), (9, .pt 64 0 0), (10, .pt 152 0 0), (47, .I N), (48, .I i)], E j i, 208⟩) (fun i => i ≤ N) (fun i => N - i) 0 (Nat.zero_le _) (Le.refl _ _) ?_
      intro i hi
      refine awp_regc ⟨110, [(2, .I kk), (3, .pv (gC g)), (8, .pv [ints D]), (9, .pt 64 0 0), (10, .pt 152 0 0), (47, .I N), (48, .I i), (49, .B (decide (i < N)))], E j i, 216⟩ rfl ?_ ?_
      · simp [E]
        exact Le.keep rfl (Nat.le_refl _) (by simp) (by simp)
      refine awp_seq ?_
      refine awp_cond _ rfl (fun h2 => awp_skip ?_) fun h2 => awp_exit (hit ?_)
      · simp only [decide_eq_true_eq] at h2
        have hstep := ldL_step (g := g) (S := S) (key := key) j i (by omega)
        have hget := hDg i h2
        have hdi := hDr i
        refine awp_cut (ι := Unit) (fun _ => ⟨110, [(2, .I kk), (3, .pv (gC g)), (8, .pv [ints D]), (9, .pt 64 0 0), (10, .pt 152 0 0), (47, .I N), (48, .I i)], E j (i + 1), 208⟩) (fun _ => True) ?_ fun _ _ => ?_
        · refine awp_block ?_
          refine awp_regc ⟨110, [(2, .I kk), (3, .pv (gC g)), (8, .pv [ints D]), (9, .pt 64 0 0), (10, .pt 152 0 0), (11, .I i), (47, .I N), (48, .I i)], E j i, 232⟩ rfl ?_ ?_
          · simp [E]
            exact Le.keep rfl (Nat.le_refl _) (by simp) (by simp)
          have hcc := contains_c1 (S := S) (key := key) hg (j := j) (i := i) (x := i) (by omega)
          rw [hK] at hcc
          rw [← hD] at hcc
          have hol := outs_le g.edges i
          obtain ⟨c, hc⟩ : ∃ c, c = (decide (dist g S i = (K : Int) - ((j : Int) + 1)) && (outs g.edges i).any fun y => onb g S key j y && decide (dist g S y = (K : Int) - j)) := ⟨_, rfl⟩
          have hon : onb g S key (j + 1) i = (onb g S key j i || c) := by rw [onb, hc, hK]
          refine awp_dregc ⟨110, [(2, .I kk), (3, .pv (gC g)), (8, .pv [ints D]), (9, .pt 64 0 0), (10, .pt 152 0 0), (11, .I i), (47, .I N), (48, .I i), (63, .B c)], E j i, 336⟩ rfl ?_ ?_
          · by_cases hd : dist g S i = (K : Int) - 1 - j
            · have hbq : (dist g S i == (K : Int) - 1 - j) = true := by simp [hd]
              have hdc : decide (dist g S i = (K : Int) - ((j : Int) + 1)) = true := by simp; omega
              rw [hdc, Bool.true_and] at hc
              simp [E, hget, hbq]
              refine callN1 (graph_Out_ok g i (by omega)) rfl ?_
              simp [Function.comp_def]
              have hLl : N ≤ (ldL g S key j i).length := by rw [ldL_len]; omega
              have htk : List.take N (rowsB (ldL g S key j i)) = rowsB (ldL g S key j i) := List.take_of_length_le (by rw [rowsB, List.length_map, ldL_len]; omega)
              have htk2 : List.take (outs g.edges i).length (rowsI (sorted (outs g.edges i))) = rowsI (sorted (outs g.edges i)) := List.take_of_length_le (by rw [rowsI, List.length_map, sorted_len]; exact Nat.le_refl _)
              refine call0s [304, 64, 56, 152] hcc (by
                simp [Function.comp_def]
                exact ⟨htk2, by rw [if_pos hLl]; exact congrArg _ htk⟩) (.sc _) ?_
              simp [hc]
              exact ⟨rfl, Le.keep rfl (Nat.le_refl _) (by simp) (by simp)⟩
            · have hbq : (dist g S i == (K : Int) - 1 - j) = false := by simp [hd]
              have hdc : decide (dist g S i = (K : Int) - ((j : Int) + 1)) = false := by simp; omega
              rw [hdc, Bool.false_and] at hc
              simp [E, hget, hbq, hc]
              exact ⟨rfl, Le.keep rfl (Nat.le_refl _) (by simp) (by simp)⟩
          have hdrop : (rowsB (ldL g S key j i)).length = N := by rw [rowsB, List.length_map, ldL_len, hNe]
          refine awp_cond _ rfl (fun h5 => ?_) fun h5 => awp_skip ?_
          · rw [h5, Bool.or_true] at hon
            rw [hon] at hstep
            refine awp_reg rfl ?_
            simp only [E]
            simp [h2]
            have hrow := ldL_get (g := g) (S := S) (key := key) j i (k := i) (by omega)
            refine ⟨[AV.B (if i < i then onb g S key (j + 1) i else onb g S key j i)], ?_, by simp, ?_⟩
            · rw [hrow]
              cases (if i < i then onb g S key (j + 1) i else onb g S key j i) <;> simp
            · exact Le.ents [(64, 64), (56, 56), (152, 152)] [] rfl (by simp) (by simp) (by simp) (by simp) (by simp) (by simp) fun p hp => by
                simp at hp
                rcases hp with rfl | rfl | rfl
                · exact ⟨64, _, _, rfl, by simp, rfl, EntUp.eq (by simp) (by simp)⟩
                · exact ⟨56, _, _, rfl, by simp, rfl, EntUp.eq (by
                    show convE _ _ _ _ ⟨1, (rowsB (ldL g S key j i)).set i [AV.B true], 0⟩ = _
                    rw [← hstep]
                    simp only [convE, hflat]) (by simp)⟩
                · exact ⟨152, _, _, rfl, by simp, rfl, EntUp.eq (by simp) (by simp)⟩
          · rw [h5, Bool.or_false] at hon
            have hsame : ldL g S key j (i + 1) = ldL g S key j i := by
              unfold ldL
              refine List.map_congr_left fun k hk => ?_
              by_cases hki : k = i
              · subst hki
                rw [if_pos (by omega), if_neg (by omega), hon]
              · by_cases hlt : k < i
                · rw [if_pos (by omega), if_pos hlt]
                · rw [if_neg (by omega), if_neg hlt]
            refine ⟨(), trivial, ?_⟩
            show Le 0 _ ⟨110, _, [(64, some ⟨1, [[.rs 56 0 N]], 0⟩), (56, some ⟨1, rowsB (ldL g S key j (i + 1)), 0⟩), (152, some ⟨1, [[.I ((K : Int) - 1 - j)]], 0⟩)], 208⟩
            rw [hsame]
            exact Le.ents [(64, 64), (56, 56), (152, 152)] [] rfl (by simp) (by simp) (by simp) (by simp) (by simp) (by simp) fun p hp => by
              simp at hp
              rcases hp with rfl | rfl | rfl
              · exact ⟨64, _, _, rfl, by simp, rfl, EntUp.eq (by simp) (by simp)⟩
              · exact ⟨56, _, _, rfl, by simp, rfl, EntUp.eq (by simp only [convE, hflat]) (by simp)⟩
              · exact ⟨152, _, _, rfl, by simp, rfl, EntUp.eq (by simp) (by simp)⟩
        have hwi : IntKind.i64.wrap ((i : Int) + 1) = ((i + 1 : Nat) : Int) := by rw [w64 (by omega) (by omega)]; omega
        refine awp_reg rfl ?_
        simp [hwi, E]
        refine ⟨i + 1, by omega, by omega, ?_⟩
        exact Le.ents [(64, 64), (56, 56), (152, 152)] [] rfl (by simp) (by simp) (by simp) (by simp) (by simp) (by simp) fun p hp => by
          simp at hp
          rcases hp with rfl | rfl | rfl
          · exact ⟨64, _, _, rfl, by simp, rfl, EntUp.eq (by simp) (by simp)⟩
          · exact ⟨56, _, _, rfl, by simp, rfl, EntUp.eq (by simp only [convE, hflat]) (by simp)⟩
          · exact ⟨152, _, _, rfl, by simp, rfl, EntUp.eq (by simp) (by simp)⟩
      simp only [decide_eq_false_iff_not] at h2
      obtain rfl : i = N := by omega
      refine ⟨(), trivial, ?_⟩
      exact Le.ents [(64, 64), (56, 56), (152, 152)] [] rfl (by simp) (by simp) (by simp) (by simp) (by simp) (by simp) fun p hp => by
        simp at hp
        rcases hp with rfl | rfl | rfl
        · exact ⟨64, _, _, rfl, by simp, rfl, EntUp.eq (by simp) (by simp)⟩
        · exact ⟨56, _, _, rfl, by simp, rfl, EntUp.eq (by simp only [convE, hflat]) (by simp)⟩
        · exact ⟨152, _, _, rfl, by simp, rfl, EntUp.eq (by simp) (by simp)⟩
    have hwj : IntKind.i64.wrap ((K : Int) - 1 - j - 1) = (K : Int) - 1 - ((j + 1 : Nat) : Int) := by rw [w64 (by omega) (by omega)]; omega
    refine awp_cut (ι := Unit) (fun _ => ⟨110, [(2, .I kk), (3, .pv (gC g)), (8, .pv [ints D]), (9, .pt 64 0 0), (10, .pt 192 0 0)], [(64, some ⟨1, [[.rs 56 0 N]], 0⟩), (56, some ⟨1, rowsB (ldL g S key (j + 1) 0), 0⟩), (192, some ⟨1, [[.I ((K : Int) - 1 - j)]], 0⟩)], 208⟩) (fun _ => True) ?_ fun _ _ => ?_
    · refine awp_regc ⟨110, [(2, .I kk), (3, .pv (gC g)), (8, .pv [ints D]), (9, .pt 64 0 0), (68, .I ((K : Int) - 1 - j))], [(64, some ⟨1, [[.rs 56 0 N]], 0⟩), (56, some ⟨1, rowsB (ldL g S key (j + 1) 0), 0⟩)], 192⟩ rfl ?_ ?_
      · simp
        exact Le.keep rfl (Nat.le_refl _) (by simp) (by simp)
      refine awp_reg rfl ?_
      simp [splice]
      exact Le.keep rfl (Nat.le_refl _) (by simp) (by simp)
    refine awp_reg rfl ?_
    simp [hwj, splice]
    refine ⟨j + 1, by omega, by omega, ?_⟩
    exact Le.ents [(64, 64), (56, 56), (192, 152)] [] rfl (by simp) (by simp) (by simp [E]) (by simp) (by simp [E]) (by simp [E]) fun p hp => by
      simp [E] at hp
      rcases hp with rfl | rfl | rfl
      · exact ⟨64, _, _, rfl, by simp, rfl, EntUp.eq (by simp) (by simp)⟩
      · exact ⟨56, _, _, rfl, by simp, rfl, EntUp.eq (by simp only [convE, hflat]) (by simp)⟩
      · exact ⟨192, _, _, rfl, by simp, rfl, EntUp.eq (by simp) (by simp)⟩
  simp only [decide_eq_false_iff_not] at h
  obtain rfl : j = K := by omega
  -- the first key
  have hKt : (dist g S key).toNat = j := by rw [hK]; rfl
  have hmk : ldL g S key j 0 = mkL g S key := by rw [mkL, hKt]
  obtain ⟨L, hL⟩ : ∃ L, L = mkL g S key := ⟨_, rfl⟩
  have hLg : ∀ k : Nat, k < N → L[k]? = some (onF g S key k) := fun k hk => by rw [hL]; exact mkL_get (by omega)
  have hLl : L.length = N := by rw [hL, mkL_len, hNe]
  obtain ⟨a0, ha0, ha1⟩ := idx_first hg hkey h0
  rw [← hD] at ha0
  have hat0 := atW_spec hg hkey h0 0 (by simpa using h0)
  have hmin := first_min hg hkey h0
  obtain ⟨A, hA⟩ : ∃ A : Nat, atW g S key 0 = A := ⟨(atW g S key 0).toNat, by have := hat0.1.1; omega⟩
  rw [hA] at hat0 hmin ha1
  have hAN : A < N := by have := hat0.1.2; omega
  have ha01 : a0 ≤ A := by omega
  have hix := IndexFuncI_ok ndistance_Way_c2 [] (fun x => decide (x = 0)) D (by omega) (fun ρ sn h n => by simp) fun e _ => Way_c2_ok e
  rw [ha0] at hix
  have htkL : List.take N (rowsB L) = rowsB L := List.take_of_length_le (by rw [rowsB, List.length_map]; omega)
  refine awp_regc ⟨110, [(2, .I kk), (3, .pv (gC g)), (8, .pv [ints D]), (9, .pv [bools L]), (12, .pt 200 0 0)], [(200, some ⟨1, [[.I a0]], 0⟩)], 216⟩ rfl ?_ ?_
  · simp only [E, hmk, ← hL]
    simp
    refine call0e hix rfl ?_
    simp [splice]
    exact Le.var1 200 [64, 56] rfl rfl (by simp) (by simp) rfl (by simp) (by simp) (by simp [Function.comp_def, ← hLl, take_map_len])
  refine awp_seq ?_
  refine awp_block ?_
  refine awp_loop (ι := Nat) (fun a => ⟨110, [(2, .I kk), (3, .pv (gC g)), (8, .pv [ints D]), (9, .pv [bools L]), (12, .pt 200 0 0)], [(200, some ⟨1, [[.I a]], 0⟩)], 216⟩) (fun a => a ≤ A) (fun a => A - a) a0 ha01 (Le.refl _ _) ?_
  intro a ha
  have haD := hDg a (by omega)
  have haL := hLg a (by omega)
  have hcond : (decide (dist g S a ≠ 0) || !onF g S key a) = decide (a < A) := by
    rcases Nat.lt_or_ge a A with hlt | hge
    · have := hmin a (by omega) (by omega)
      rw [decide_eq_true hlt]
      rw [Bool.and_eq_false_iff] at this
      rcases this with h5 | h5
      · rw [h5]; simp
      · simp at h5; simp [h5]
    · obtain rfl : a = A := by omega
      rw [decide_eq_false (by omega), hat0.2.1]
      have : dist g S a = 0 := by rw [hat0.2.2]; rfl
      simp [this]
  refine awp_seq ?_
  refine awp_regc ⟨110, [(2, .I kk), (3, .pv (gC g)), (8, .pv [ints D]), (9, .pv [bools L]), (12, .pt 200 0 0), (88, .B (decide (dist g S a ≠ 0) || !onF g S key a))], [(200, some ⟨1, [[.I a]], 0⟩)], 360⟩ rfl ?_ ?_
  · obtain ⟨hal, haDe⟩ := List.getElem?_eq_some_iff.1 haD
    obtain ⟨hal2, haLe⟩ := List.getElem?_eq_some_iff.1 haL
    by_cases hz : dist g S a = 0
    · simp [hDl, haDe, hz, hal2, haLe, show a < N by omega]
      exact Le.keep rfl (Nat.le_refl _) (by simp [hz]) (by simp)
    · have hz2 : (dist g S a != 0) = true := by simp [hz]
      simp [hDl, haDe, hz2, hal2, haLe, show a < N by omega]
      exact Le.keep rfl (Nat.le_refl _) (by simp [hz]) (by simp)
  refine awp_cond _ rfl (fun h6 => awp_skip ?_) fun h6 => awp_exit (hit ?_)
  · rw [hcond] at h6
    simp only [decide_eq_true_eq] at h6
    have hwa : IntKind.i64.wrap ((a : Int) + 1) = ((a + 1 : Nat) : Int) := by rw [w64 (by omega) (by omega)]; omega
    refine awp_block ?_
    refine awp_reg rfl ?_
    simp [hwa, splice]
    exact ⟨a + 1, by omega, by omega, Le.var1 200 [] rfl rfl (by simp) (by simp) rfl (by simp) (by simp) (by simp)⟩
  rw [hcond] at h6
  simp only [decide_eq_false_iff_not] at h6
  obtain rfl : a = A := by omega
  -- the way
  refine awp_regc ⟨110, [(2, .I kk), (3, .pv (gC g)), (8, .pv [ints D]), (9, .pv [bools L]), (12, .pt 200 0 0), (13, .rs 368 0 1)], [(200, some ⟨1, [[.I a]], 0⟩), (368, some ⟨1, rowsI (wayN g S key 1), 0⟩)], 384⟩ rfl ?_ ?_
  · have : wayN g S key 1 = [(a : Int)] := by rw [wayN_succ, hA]; rfl
    rw [this]
    simp
    exact Le.keep rfl (Nat.le_refl _) (by simp) (by simp)
  refine awp_seq ?_
  refine awp_block ?_
  refine awp_loop (ι := Nat) (fun m => ⟨110, [(2, .I kk), (3, .pv (gC g)), (8, .pv [ints D]), (9, .pv [bools L]), (12, .pt 200 0 0), (13, .rs 368 0 (m + 1))], [(200, some ⟨1, [[.I (atW g S key m)]], 0⟩), (368, some ⟨1, rowsI (wayN g S key (m + 1)), 0⟩)], 384⟩) (fun m => m ≤ j) (fun m => j - m) 0 (Nat.zero_le _) (by rw [hA]; exact Le.refl _ _) ?_
  intro m hm
  have hsp := atW_spec hg hkey h0 m (by omega)
  obtain ⟨w, hwe⟩ : ∃ w : Nat, atW g S key m = w := ⟨(atW g S key m).toNat, by have := hsp.1.1; omega⟩
  have hwlen : (wayN g S key (m + 1)).length = m + 1 := by simp [wayN]
  have hlast : decide ((w : Int) ≠ kk) = decide (m < j) := by
    rcases Nat.lt_or_ge m j with hlt | hge
    · rw [decide_eq_true hlt, decide_eq_true_eq]
      intro e
      rw [hwe, e, ← hkk, hK] at hsp
      have := hsp.2.2
      omega
    · obtain rfl : m = j := by omega
      have := atW_last hg hkey h0
      rw [hKt, hwe] at this
      simp
      omega
  rw [hwe]
  refine awp_seq ?_
  refine awp_regc ⟨110, [(2, .I kk), (3, .pv (gC g)), (8, .pv [ints D]), (9, .pv [bools L]), (12, .pt 200 0 0), (13, .rs 368 0 (m + 1)), (95, .B (decide ((w : Int) ≠ kk)))], [(200, some ⟨1, [[.I w]], 0⟩), (368, some ⟨1, rowsI (wayN g S key (m + 1)), 0⟩)], 408⟩ rfl ?_ ?_
  · simp
    exact Le.keep rfl (Nat.le_refl _) (by simp <;> rw [Bool.eq_iff_iff] <;> simp) (by simp)
  refine awp_cond _ rfl (fun h7 => awp_skip ?_) fun h7 => awp_exit (hit ?_)
  · rw [hlast] at h7
    simp only [decide_eq_true_eq] at h7
    have hwN : w < N := by have := hsp.1.2; rw [hwe] at this; omega
    have hol := outs_le g.edges w
    have hwd : dist g S w = m := by rw [← hwe]; exact hsp.2.2
    have hc3 := index_c3 (key := key) hg (a := w) (m := m) (by omega) hwd (by omega)
    rw [← hL, ← hD] at hc3
    obtain ⟨ix, hixl, hixe, hixn⟩ := idx_next hg hkey h0 (m := m) (by omega)
    simp only [hwe] at hixl hixe hixn
    rw [← hL, ← hD] at hixe
    rw [hixe] at hc3
    obtain ⟨w', hw'⟩ : ∃ w', w' = atW g S key (m + 1) := ⟨_, rfl⟩
    rw [← hw'] at hixn
    obtain ⟨O, hO⟩ : ∃ O, O = sorted (outs g.edges w) := ⟨_, rfl⟩
    have hOl : O.length = (outs g.edges w).length := by rw [hO, sorted_len]
    simp only [← hO] at hixl hixn hc3
    have hOix : O[ix]? = some w' := by rw [List.getElem?_eq_getElem hixl, hixn]
    refine awp_block ?_
    refine awp_regc ⟨110, [(2, .I kk), (3, .pv (gC g)), (8, .pv [ints D]), (9, .pv [bools L]), (12, .pt 200 0 0), (13, .rs 368 0 (m + 1)), (14, ints O)], [(200, some ⟨1, [[.I w]], 0⟩), (368, some ⟨1, rowsI (wayN g S key (m + 1)), 0⟩)], 440⟩ rfl ?_ ?_
    · simp
      refine callN1 (graph_Out_ok g w (by omega)) rfl ?_
      simp [Function.comp_def]
      refine Le.ents [(200, 200), (368, 368)] [424] rfl (by simp) (by simp) (by simp) (by simp) (by simp) (by simp [Function.comp_def, hO, take_map_len, sorted_len]; exact wkE (congrArg _ (List.take_of_length_le (by rw [List.length_map]; exact Nat.le_of_eq (sorted_len _))))) fun p hp => ?_
      simp at hp
      rcases hp with rfl | rfl
      · exact ⟨200, _, _, rfl, by simp, rfl, EntUp.eq (by simp) (by simp)⟩
      · exact ⟨368, _, _, rfl, by simp, rfl, EntUp.eq (by simp [Function.comp_def]) (by simp)⟩
    refine awp_regc ⟨110, [(2, .I kk), (3, .pv (gC g)), (8, .pv [ints D]), (9, .pv [bools L]), (12, .pt 200 0 0), (13, .rs 368 0 (m + 1))], [(200, some ⟨1, [[.I w']], 0⟩), (368, some ⟨1, rowsI (wayN g S key (m + 1)), 0⟩)], 496⟩ rfl ?_ ?_
    · simp
      refine call0s [200] hc3 (by simp) (.sc _) ?_
      simp [hOix, hixl, hixn, splice]
      exact Le.keep rfl (Nat.le_refl _) (by simp) (by simp)
    have hrows : List.take (m + 1) (rowsI (wayN g S key (m + 1))) ++ [[AV.I w']] = rowsI (wayN g S key (m + 1 + 1)) := by
      rw [List.take_of_length_le (by rw [rowsI, List.length_map, hwlen]; exact Nat.le_refl _), wayN_succ (m + 1), hw']
      simp
    refine awp_reg rfl ?_
    simp
    refine ⟨by omega, by omega, by omega, m + 1, by omega, by omega, ?_⟩
    rw [← hw']
    refine Le.ents [(200, 200), (520, 368)] [] rfl (by simp) (by simp) (by simp) (by simp) (by simp) (by simp) fun p hp => ?_
    simp at hp
    rcases hp with rfl | rfl
    · exact ⟨200, _, _, rfl, by simp, rfl, EntUp.eq (by simp) (by simp)⟩
    · exact ⟨520, _, _, rfl, by simp, rfl, EntUp.eq (by
        show convE _ _ _ _ ⟨1, List.take (m + 1) (rowsI (wayN g S key (m + 1))) ++ [[AV.I w']], 0⟩ = _
        rw [hrows]
        simp [Function.comp_def]) (by simp)⟩
  rw [hlast] at h7
  simp only [decide_eq_false_iff_not] at h7
  obtain rfl : m = j := by omega
  refine awp_seq ?_
  refine awp_run (s := ?z9) rfl ?p9 ?r9
  case p9 => simp; rfl
  refine awp_ret ?_
  have hwl : wayL g S key = wayN g S key (m + 1) := by rw [wayL, hKt]
  rw [hwl, hwlen]
  exact ⟨.inr rfl, RetOk.out [368] [] rfl (by simp) (by simp) (by simp) (by simp [Function.comp_def])⟩

end Go.Proofs.Ytnphfkceoklkkaa

/- The law's own waking: one known graph. -/
namespace Go.Proofs.Ytnphfkceoklkkaa
open Go

abbrev gW : Gr := ⟨4, [⟨0, 2, 1⟩, ⟨2, 1, 1⟩], []⟩

theorem gW_ok : GrOk gW := by
  refine ⟨⟨by decide, by decide, by decide, fun i h => absurd h (by simp)⟩, fun i h => ?_⟩
  have hi : i = 0 ∨ i = 1 := by simp at h; omega
  rcases hi with rfl | rfl
  · refine ⟨?_, ?_, ?_, fun h => by omega⟩
    · show Fits gW ⟨0, 2, 1⟩
      decide
    · show (1 : Int) ≤ 1
      decide
    · show (1 : Int) ≤ 3
      decide
  · refine ⟨?_, ?_, ?_, fun h => ?_⟩
    · show Fits gW ⟨2, 1, 1⟩
      decide
    · show (1 : Int) ≤ 1
      decide
    · show (1 : Int) ≤ 3
      decide
    · show cmpE ⟨0, 2, 1⟩ ⟨2, 1, 1⟩ < 0
      decide

theorem distL_W : distL gW [0] = [0, 2, 1, -1] := by decide
theorem dist_W : dist gW [0] 1 = 2 := by decide
theorem ordL_W : ordL gW [0] = [0, 2, 1] := by decide

abbrev aW : AV := .agg [.I 4, eEs [⟨0, 2, 1⟩, ⟨2, 1, 1⟩], .nilS]

theorem All_W : ACalls Try.prog ndistance_All [aW, ints [0]] [] (.rs 0 0 4) [some ⟨1, rowsI [0, 2, 1, -1], 0⟩] := by
  have h := distance_All_ok gW [0] gW_ok (by simp)
  rw [distL_W] at h
  refine acalls_wk (ys := [eG gW, ints [0]]) rfl (fun i hi => ?_) h
  match i with
  | 0 => exact wkA3 (.refl _) (.refl _) (.nil _ _)
  | 1 => exact .refl _
  | n + 2 => exact absurd hi (by simp)

theorem Order_W : ACalls Try.prog ndistance_Order [aW, ints [0]] [] (.rs 0 0 3) [some ⟨1, rowsI [0, 2, 1], 0⟩] := by
  have h := distance_Order_ok (S := [0]) gW_ok (by decide) (by simp)
  rw [ordL_W] at h
  refine acalls_wk (ys := [eG gW, ints [0]]) rfl (fun i hi => ?_) h
  match i with
  | 0 => exact wkA3 (.refl _) (.refl _) (.nil _ _)
  | 1 => exact .refl _
  | n + 2 => exact absurd hi (by simp)

theorem wayL_len (g : Gr) (S : List Int) (key : Int) : (wayL g S key).length = (dist g S key).toNat + 1 := by simp [wayL, wayN]

theorem Way_W : ACalls Try.prog ndistance_Way [aW, ints [0], .I 1] [] (.tup [.rs 0 0 3, .B true]) [some ⟨1, rowsI (wayL gW [0] 1), 0⟩] := by
  have h := Way_yes (S := [0]) (key := 1) gW_ok (by simp) ⟨by decide, by decide⟩ (by rw [dist_W]; decide)
  have hl : (wayL gW [0] 1).length = 3 := by rw [wayL_len, dist_W]; rfl
  rw [hl] at h
  refine acalls_wk (ys := [eG gW, ints [0], .I 1]) rfl (fun i hi => ?_) h
  match i with
  | 0 => exact wkA3 (.refl _) (.refl _) (.nil _ _)
  | 1 => exact .refl _
  | 2 => exact .refl _
  | n + 3 => exact absurd hi (by simp)

set_option maxRecDepth 100000 in
theorem law12_awake_ok : ACalls Try.prog nlaw12_awake [] [] (.B true) [] := by
  refine slaw12_awake.acalls (Nat.le_of_ble_eq_true rfl) (Nat.le_of_ble_eq_true rfl) (Nat.le_refl _) ?_
  show awp _ 0 _ _ ⟨62, [], [], 16⟩
  have hwl : (wayL gW [0] 1).length = 3 := by rw [wayL_len, dist_W]; rfl
  refine awp_seq ?_
  refine awp_run (s := ?s1) rfl ?o1 ?q1
  case o1 => simp; rfl
  refine awp_regc ⟨62, [(1, .pv [.I 4, eEs [⟨0, 2, 1⟩, ⟨2, 1, 1⟩], .nilS])], [], 72⟩ rfl ?_ ?_
  · simp [splice]
    exact Le.snap [56, 40] rfl rfl (by simp; exact .refl _)
  refine awp_regc ⟨62, [(1, .pv [.I 4, eEs [⟨0, 2, 1⟩, ⟨2, 1, 1⟩], .nilS]), (2, ints [0, 2, 1, -1])], [], 104⟩ rfl ?_ ?_
  · simp
    refine callN1r [80] All_W (by simp) (.rs _ _ _) plainI ?_
    simp
    exact Le.snap [88] rfl rfl (by simp; exact .refl _)
  refine awp_regc ⟨62, [(1, .pv [.I 4, eEs [⟨0, 2, 1⟩, ⟨2, 1, 1⟩], .nilS]), (2, ints [0, 2, 1, -1]), (3, ints [0, 2, 1])], [], 136⟩ rfl ?_ ?_
  · simp
    refine callN1r [112] Order_W (by simp) (.rs _ _ _) plainI ?_
    simp
    exact Le.snap [120] rfl rfl (by simp; exact ⟨.refl _, .refl _⟩)
  refine awp_regc ⟨62, [(2, ints [0, 2, 1, -1]), (3, ints [0, 2, 1]), (4, ints (wayL gW [0] 1)), (5, .B true)], [], 200⟩ rfl ?_ ?_
  · simp
    refine callN1r [144] Way_W (by simp) (.tup _ fun i => match i with | 0 => .rs _ _ _ | 1 => .sc _ | _ + 2 => .dead) plainI ?_
    simp [Function.comp_def]
    exact Le.snap [152] rfl rfl (by simp [Function.comp_def]; exact ⟨.refl _, .refl _, by rw [if_pos (by omega), List.take_of_length_le (by rw [List.length_map]; omega)]; exact .refl _⟩)
  refine awp_regc ⟨62, [(0, .B true)], [], 528⟩ rfl ?_ ?_
  · simp [hwl]
    exact Le.snap [] rfl rfl (by simp)
  refine awp_ret ?_
  exact ⟨.inr rfl, RetOk.one (by simp)⟩

end Go.Proofs.Ytnphfkceoklkkaa

/- Some keys, by the dice. -/
namespace Go.Proofs.Ytnphfkceoklkkaa
open Go

/-- Which of the first m keys the dice take, and where the dice stand then. -/
def someD (L : List Int) (a : Nat) : Nat → List Int × Nat
  | 0 => ([], a)
  | m + 1 => (if (nextD L (someD L a m).2 3).1 = 0 then (someD L a m).1 ++ [(m : Int)] else (someD L a m).1, (nextD L (someD L a m).2 3).2)

theorem someD_le {L : List Int} {a : Nat} (ha : a ≤ L.length) : ∀ m, (someD L a m).2 ≤ L.length
  | 0 => ha
  | m + 1 => nextD_le (someD_le ha m)

theorem someD_len {L : List Int} {a : Nat} : ∀ m, (someD L a m).1.length ≤ m
  | 0 => Nat.le_refl _
  | m + 1 => by
    have := someD_len (L := L) (a := a) m
    unfold someD
    simp only
    split
    · rw [List.length_append]; simp; omega
    · omega

theorem RetOk.k1n {rs : List (Nat × Option (Bool × Nat))} {st : St} {vs : List AV} {res : AV} {e0 e : Ent} (i : Nat) (hi : 1 ≤ i) (h1 : resAll st rs = some vs) (hw : Wk (conv [(0, 0), (i, 1)] [] st.hp 4 (resV vs)) res) (h0 : (st.hp 0).map (convE [(0, 0), (i, 1)] [] st.hp 4) = some e0) (he : (st.hp i).map (convE [(0, 0), (i, 1)] [] st.hp 4) = some e) : RetOk rs 1 st res [some e0, some e] :=
  ⟨vs, h1, [i], [], by simp [List.range, List.range.loop]; omega, by simpa using hi, by simp, by simpa [List.range, List.range.loop] using hw, by simpa [List.range, List.range.loop] using ⟨by simpa using h0, by simpa using he⟩⟩

set_option maxRecDepth 100000 in
theorem Some_ok (L : List Int) (a N : Nat) (hl : L.length ≤ 400) (ha : a ≤ L.length) (hN : N ≤ 1000) : ACalls Try.prog nmade_Dice_Some [.pt 0 0 0, .I N] [dice L a] (.rs 1 0 (someD L a N).1.length) [some (dice L (someD L a N).2), some ⟨1, rowsI (someD L a N).1, 0⟩] := by
  refine smade_Dice_Some.acalls (Nat.le_of_ble_eq_true rfl) (Nat.le_of_ble_eq_true rfl) (by simp) ?_
  show awp _ 1 _ _ ⟨20, [(0, .pt 0 0 0), (1, .I N)], [(0, some (dice L a))], 16⟩
  refine awp_seq ?_
  refine awp_run (s := ?s1) rfl ?o1 ?q1
  case o1 => simp; rfl
  refine awp_seq ?_
  refine awp_run (s := ?s2) rfl ?o2 ?q2
  case o2 => simp; rfl
  refine awp_seq ?_
  refine awp_seq ?_
  refine awp_run (s := ?s3) rfl ?o3 ?q3
  case o3 => simp; rfl
  refine awp_block ?_
  refine awp_loop (ι := Nat) (fun m => ⟨20, [(0, .pt 0 0 0), (1, .I N), (5, .rs 16 0 (someD L a m).1.length), (6, .I m)], [(0, some (dice L (someD L a m).2)), (16, some ⟨1, rowsI (someD L a m).1, 0⟩)], 40⟩) (fun m => m ≤ N) (fun m => N - m) 0 (Nat.zero_le _) ?_ ?_
  · refine Le.lst [(0, 0)] [] [(16, 1)] rfl (by simp) (by simp) (by simp) (by simp) (by simp) (by simp) (by simp) (by simp [Up, someD]) fun p hp e' he' => ?_
    simp [someD] at hp
    rcases hp with rfl | rfl
    · cases he'
      exact .inl ⟨(0, 0), by simp, rfl, _, rfl, EntUp.eq (by simp [Function.comp_def]) (by simp)⟩
    · cases he'
      exact .inr ⟨by simp, by simp, rfl⟩
  intro m hm
  have hle := someD_le (L := L) ha m
  have hlen := someD_len (L := L) (a := a) m
  have hnx := Next1_ok L (someD L a m).2 3 hl hle (by omega)
  obtain ⟨X, hX⟩ : ∃ X, X = (someD L a m).1 := ⟨_, rfl⟩
  obtain ⟨b, hb⟩ : ∃ b, b = (someD L a m).2 := ⟨_, rfl⟩
  have hs1 : someD L a (m + 1) = (if (nextD L b 3).1 = 0 then X ++ [(m : Int)] else X, (nextD L b 3).2) := by rw [hX, hb]; rfl
  rw [← hX] at hlen
  rw [← hb] at hle hnx
  rw [← hX, ← hb]
  refine awp_seq ?_
  refine awp_regc ⟨20, [(0, .pt 0 0 0), (1, .I N), (5, .rs 16 0 X.length), (6, .I m), (9, .B (decide (m < N)))], [(0, some (dice L b)), (16, some ⟨1, rowsI X, 0⟩)], 64⟩ rfl ?_ ?_
  · simp
    exact Le.keep rfl (Nat.le_refl _) (by simp) (by simp)
  refine awp_cond _ rfl (fun h => awp_skip ?_) fun h => awp_exit (hit ?_)
  · simp only [decide_eq_true_eq] at h
    have hwm : IntKind.i64.wrap ((m : Int) + 1) = ((m + 1 : Nat) : Int) := by rw [w64 (by omega) (by omega)]; omega
    refine awp_cut (ι := Unit) (fun _ => ⟨20, [(0, .pt 0 0 0), (1, .I N), (5, .rs 16 0 (someD L a (m + 1)).1.length), (6, .I m)], [(0, some (dice L (someD L a (m + 1)).2)), (16, some ⟨1, rowsI (someD L a (m + 1)).1, 0⟩)], 64⟩) (fun _ => True) ?_ fun _ _ => ?_
    · refine awp_block ?_
      refine awp_regc ⟨20, [(0, .pt 0 0 0), (1, .I N), (5, .rs 16 0 X.length), (6, .I m), (14, .B (decide ((nextD L b 3).1 = 0)))], [(0, some (dice L (nextD L b 3).2)), (16, some ⟨1, rowsI X, 0⟩)], 88⟩ rfl ?_ ?_
      · simp
        refine callM1 (i := 0) rfl (e' := dice L b) (by simp [Function.comp_def]) hnx (by simp) (by simp) ?_
        simp [Function.comp_def]
        exact Le.keep rfl (Nat.le_refl _) (by simp <;> rw [Bool.eq_iff_iff] <;> simp) (by simp)
      refine awp_cond _ rfl (fun h2 => ?_) fun h2 => awp_skip ?_
      · simp only [decide_eq_true_eq] at h2
        rw [if_pos h2] at hs1
        rw [hs1]
        refine awp_reg rfl ?_
        simp
        refine ⟨by omega, by omega, ?_⟩
        refine Le.ents [(0, 0), (112, 16)] [] rfl (by simp) (by simp) (by simp) (by simp) (by simp) (by simp) fun p hp => ?_
        simp at hp
        rcases hp with rfl | rfl
        · exact ⟨0, _, _, rfl, by simp, rfl, EntUp.eq (by simp [Function.comp_def]) (by simp)⟩
        · exact ⟨112, _, _, rfl, by simp, rfl, EntUp.eq (by simp [Function.comp_def]; try rw [List.take_of_length_le (by simp)]) (by simp)⟩
      · simp only [decide_eq_false_iff_not] at h2
        rw [if_neg h2] at hs1
        rw [hs1]
        refine ⟨(), trivial, ?_⟩
        show Le 1 _ ⟨20, [(0, .pt 0 0 0), (1, .I N), (5, .rs 16 0 X.length), (6, .I m)], [(0, some (dice L (nextD L b 3).2)), (16, some ⟨1, rowsI X, 0⟩)], 64⟩
        refine Le.ents [(0, 0), (16, 16)] [] rfl (by simp) (by simp) (by simp) (by simp) (by simp) (by simp) fun p hp => ?_
        simp at hp
        rcases hp with rfl | rfl
        · exact ⟨0, _, _, rfl, by simp, rfl, EntUp.eq (by simp [Function.comp_def]) (by simp)⟩
        · exact ⟨16, _, _, rfl, by simp, rfl, EntUp.eq (by simp [Function.comp_def]) (by simp)⟩
    refine awp_reg rfl ?_
    simp [hwm]
    refine ⟨m + 1, by omega, by omega, ?_⟩
    refine Le.ents [(0, 0), (16, 16)] [] rfl (by simp) (by simp) (by simp) (by simp) (by simp) (by simp) fun p hp => ?_
    simp at hp
    rcases hp with rfl | rfl
    · exact ⟨0, _, _, rfl, by simp, rfl, EntUp.eq (by simp [Function.comp_def]) (by simp)⟩
    · exact ⟨16, _, _, rfl, by simp, rfl, EntUp.eq (by simp [Function.comp_def]) (by simp)⟩
  simp only [decide_eq_false_iff_not] at h
  obtain rfl : m = N := by omega
  refine awp_seq ?_
  refine awp_run (s := ?z9) rfl ?p9 ?r9
  case p9 => simp; rfl
  refine awp_ret ?_
  rw [← hX, ← hb]
  exact ⟨.inr rfl, RetOk.k1n 16 (by simp) rfl (by simp) (by simp [Function.comp_def]) (by simp [Function.comp_def])⟩

end Go.Proofs.Ytnphfkceoklkkaa

/- DistanceOrder: the program's contract. -/
namespace Go.Proofs.Ytnphfkceoklkkaa
open Go
variable {g : Gr} {S : List Int}

/-- Does a key before the i-th have an edge to x, and lie one nearer? -/
def brG (g : Gr) (S O : List Int) (x : Int) : Nat → Bool
  | 0 => decide (dist g S x = 0)
  | i + 1 => brG g S O x i || (decide (dist g S (O[i]?.getD 0) = dist g S x - 1) && (outs g.edges (O[i]?.getD 0)).contains x)

theorem brG_of {O : List Int} {x : Int} : ∀ {n i : Nat}, i < n → (dist g S (O[i]?.getD 0) = dist g S x - 1 ∧ x ∈ outs g.edges (O[i]?.getD 0)) → brG g S O x n = true
  | n + 1, i, h, hh => by
    rw [brG, Bool.or_eq_true]
    rcases Nat.lt_or_ge i n with h1 | h1
    · exact .inl (brG_of h1 hh)
    · obtain rfl : i = n := by omega
      right
      simp [hh.1, hh.2]

theorem brG_zero {O : List Int} {x : Int} (h : dist g S x = 0) : ∀ n, brG g S O x n = true
  | 0 => by simp [brG, h]
  | n + 1 => by rw [brG, brG_zero h n]; rfl

theorem mem_ordL (hg : GrOk g) {x : Int} : x ∈ ordL g S ↔ Key g x ∧ 0 ≤ dist g S x := by
  have hsz := hg.1.1
  unfold ordL
  rw [mem_ordN]
  constructor
  · rintro ⟨h1, h2, h3⟩
    exact ⟨⟨h1.1, by omega⟩, h2⟩
  · rintro ⟨h1, h2⟩
    refine ⟨⟨h1.1, by have := h1.2; omega⟩, h2, ?_⟩
    rcases dist_lt (S := S) hg h1 with h | h
    · omega
    · have := h1.1; have := h1.2; omega

theorem ordL_br (hg : GrOk g) {at_ : Nat} (h : at_ < (ordL g S).length) : brG g S (ordL g S) (ordL g S)[at_] at_ = true := by
  have hm := (mem_ordL hg).1 (List.getElem_mem h)
  obtain ⟨x, hx⟩ : ∃ x, x = (ordL g S)[at_] := ⟨_, rfl⟩
  rw [← hx] at hm ⊢
  by_cases h0 : dist g S x = 0
  · exact brG_zero h0 _
  obtain ⟨n, hn⟩ : ∃ n : Nat, dist g S x = (n : Int) + 1 := ⟨(dist g S x - 1).toNat, by have := hm.2; omega⟩
  obtain ⟨e, he, h4, h5⟩ := dist_pred hg hn
  have hf := hg.fits e he
  have hme : e.f ∈ ordL g S := (mem_ordL hg).2 ⟨⟨hf.1, by have := hf.2.1; omega⟩, by omega⟩
  obtain ⟨i, hi, hie⟩ := List.mem_iff_getElem.1 hme
  have hget : (ordL g S)[i]?.getD 0 = e.f := by rw [List.getElem?_eq_getElem hi, hie]; rfl
  have hia : i < at_ := by
    rcases Nat.lt_trichotomy i at_ with h1 | h1 | h1
    · exact h1
    · subst h1
      rw [hie] at hx
      rw [hx] at hn
      omega
    · have := List.pairwise_iff_getElem.1 (ordN_pair (g := g) (S := S) g.size.toNat) at_ i h hi h1
      have e1 : (ordN g S g.size.toNat)[at_] = x := hx.symm
      have e2 : (ordN g S g.size.toNat)[i] = e.f := hie
      rw [e1, e2] at this
      unfold Lt at this
      omega
  exact brG_of hia ⟨by rw [hget]; omega, by rw [hget]; exact mem_outs.2 ⟨e, he, rfl, h4⟩⟩

theorem ordL_prev {at_ : Nat} (h : at_ + 1 < (ordL g S).length) : Lt g S (ordL g S)[at_] (ordL g S)[at_ + 1] :=
  List.pairwise_iff_getElem.1 (ordN_pair (g := g) (S := S) g.size.toNat) at_ (at_ + 1) (by unfold ordL at h; omega) h (Nat.lt_succ_self _)

set_option maxHeartbeats 8000000 in
set_option maxRecDepth 100000 in
theorem law12_DistanceOrder_ok (L : List Int) : ACalls Try.prog nlaw12_DistanceOrder [ints L] [] (.B true) [] := by
  refine slaw12_DistanceOrder.acalls (Nat.le_of_ble_eq_true rfl) (Nat.le_of_ble_eq_true rfl) (Nat.le_refl _) ?_
  show awp _ 0 _ _ ⟨173, [(0, ints L)], [], 16⟩
  refine awp_seq ?_
  refine awp_run (s := ?s1) rfl ?o1 ?q1
  case o1 => simp; rfl
  refine awp_seq ?_
  refine awp_regc ⟨173, [(0, ints L), (13, .B (decide (¬ L.length ≤ 400)))], [], 48⟩ rfl ?_ ?_
  · simp
    refine call0e (Light_ok L) rfl ?_
    simp
    exact Le.snap [] rfl rfl (by simp <;> exact wkB (by rw [Bool.eq_iff_iff]; simp))
  refine awp_cond _ rfl (fun h => ?_) fun h => awp_skip ?_
  · refine awp_seq ?_
    refine awp_run (s := ?s2) rfl ?o2 ?q2
    case o2 => simp; refine call0e (law12_awake_ok) rfl ?_; simp; rfl
    refine awp_ret ?_
    exact ⟨.inr rfl, RetOk.one (by simp)⟩
  have hl : L.length ≤ 400 := by simpa using h
  have hm := graphD_made L 0 (Nat.zero_le _)
  obtain ⟨g, hg⟩ : ∃ g, g = (graphD L 0).1 := ⟨_, rfl⟩
  obtain ⟨a, ha⟩ : ∃ a, a = (graphD L 0).2 := ⟨_, rfl⟩
  have hok := hm.ok
  have hlo := hm.lo
  have hhi := hm.hi
  have h500 := hok.1.2.2.1
  have hal := hm.at_
  rw [← hg] at hok hlo hhi h500
  rw [← ha] at hal
  have hgr := Graph_ok L 0 hl (Nat.zero_le _)
  rw [← hg, ← ha] at hgr
  clear hm
  obtain ⟨N, hN⟩ : ∃ N : Nat, g.size = N := ⟨g.size.toNat, by omega⟩
  have hsome := Some_ok L a N hl hal (by omega)
  have hsl := someD_len (L := L) (a := a) N
  rw [← hN] at hsome
  obtain ⟨S, hS⟩ : ∃ S, S = (someD L a N).1 := ⟨_, rfl⟩
  rw [← hS] at hsome hsl
  have hO := distance_Order_ok (S := S) hok (by omega) (by omega)
  have hD := distance_All_ok g S hok (by omega)
  have hOm := fun x => mem_ordL (S := S) (x := x) hok
  have hOp := fun i h => ordL_prev (g := g) (S := S) (at_ := i) h
  have hOb := fun i h => ordL_br (S := S) hok (at_ := i) h
  have hDl : (distL g S).length = N := by rw [distL_len]; omega
  have hDg : ∀ k : Nat, k < N → (distL g S)[k]? = some (dist g S k) := fun k hk => by simp [distL, show k < g.size.toNat by omega]
  have hNn : g.size.toNat = N := by omega
  rw [hNn] at hD
  obtain ⟨O, hOe⟩ : ∃ O, O = ordL g S := ⟨_, rfl⟩
  obtain ⟨D, hDe⟩ : ∃ D, D = distL g S := ⟨_, rfl⟩
  rw [← hOe] at hO
  simp only [← hOe] at hOm hOp hOb
  rw [← hDe] at hD hDl
  simp only [← hDe] at hDg
  refine awp_regc ⟨173, [(3, .pt 56 0 0)], [(56, some (dice L 0))], 72⟩ rfl ?_ ?_
  · simp
    refine callN1 (Roll_ok L) rfl ?_
    simp [Function.comp_def]
    exact Le.keep rfl (Nat.le_refl _) (by simp) (by simp)
  refine awp_regc ⟨173, [(3, .pt 56 0 0), (4, .pv (gC g))], [(56, some (dice L a))], 104⟩ rfl ?_ ?_
  · simp
    refine callM1 (i := 56) rfl (e' := dice L 0) (by simp [Function.comp_def]) hgr (by simp) (by simp) ?_
    simp [Function.comp_def]
    exact Le.dc 56 56 [88] rfl rfl (by simp) (by simp) (by simp) (by simp)
  refine awp_regc ⟨173, [(4, .pv (gC g)), (5, ints S)], [], 144⟩ rfl ?_ ?_
  · simp
    refine callM1 (i := 56) rfl (e' := dice L a) (by simp [Function.comp_def]) hsome (by simp) (by simp) ?_
    simp [Function.comp_def]
    exact Le.snap [128] rfl rfl (by simp [Function.comp_def, take_map_len])
  refine awp_dregc ⟨173, [(4, .pv (gC g)), (5, ints S), (6, ints O), (7, ints D)], [], 208⟩ rfl ?_ ?_
  · simp
    refine callN1 hO rfl ?_
    simp [Function.comp_def]
    refine callN1 hD rfl ?_
    simp [Function.comp_def]
    exact ⟨rfl, Le.snap [160, 184] rfl rfl (by simp [Function.comp_def, ← hDl, take_map_len])⟩
  refine awp_seq ?_
  refine awp_regc ⟨173, [(4, .pv (gC g)), (5, ints S), (6, ints O), (7, ints D), (33, .B false)], [], 248⟩ rfl ?_ ?_
  · simp [hDl, hN]
    exact Le.snap [] rfl rfl (by simp)
  refine awp_cond _ rfl (fun h => by cases h) fun _ => awp_skip ?_
  refine awp_seq ?_
  refine awp_seq ?_
  refine awp_run (s := ?s8) rfl ?o8 ?q8
  case o8 => simp; rfl
  refine awp_block ?_
  refine awp_loop (ι := Nat) (fun j => ⟨173, [(4, .pv (gC g)), (5, ints S), (6, ints O), (7, ints D), (8, .I j)], [], 256⟩) (fun j => j ≤ O.length) (fun j => O.length - j) 0 (Nat.zero_le _) ?_ ?_
  · exact Le.snap [] rfl rfl (by simp)
  intro j hj
  have hOl : O.length ≤ 1000000 := by
    have e : isort (cD g S) (whereQ g.size.toNat fun k => decide (0 ≤ dist g S k)) = ordL g S := order_eq hok
    have h1 : O.length = (whereQ g.size.toNat fun k => decide (0 ≤ dist g S k)).length := by
      rw [hOe, ← e]
      unfold isort
      rw [List.length_reverse, isortRev_len]
    have h3 := whereQ_le g.size.toNat fun k => decide (0 ≤ dist g S k)
    omega
  refine awp_seq ?_
  refine awp_regc ⟨173, [(4, .pv (gC g)), (5, ints S), (6, ints O), (7, ints D), (8, .I j), (37, .B (decide (j < O.length)))], [], 288⟩ rfl ?_ ?_
  · simp
    exact Le.snap [] rfl rfl (by simp)
  refine awp_cond _ rfl (fun h2 => awp_skip ?_) fun h2 => awp_exit (hit ?_)
  · simp only [decide_eq_true_eq] at h2
    have hwj : IntKind.i64.wrap ((j : Int) + 1) = ((j + 1 : Nat) : Int) := by rw [w64 (by omega) (by omega)]; omega
    have hbr := hOb j h2
    have hmx := (hOm O[j]).1 (List.getElem_mem h2)
    obtain ⟨x, hx⟩ : ∃ x : Nat, O[j] = x := ⟨O[j].toNat, by have := hmx.1.1; omega⟩
    rw [hx] at hbr hmx
    have hxN : x < N := by have := hmx.1.2; omega
    have hDx := hDg x hxN
    have hOj : O[j]? = some (x : Int) := by rw [List.getElem?_eq_getElem h2, hx]
    obtain ⟨d, hd⟩ : ∃ d : Nat, dist g S x = d := ⟨(dist g S x).toNat, by have := hmx.2; omega⟩
    rw [hd] at hDx
    obtain ⟨hxl, hDxe⟩ := List.getElem?_eq_some_iff.1 hDx
    have hxN2 : ¬ (N : Int) ≤ (x : Int) := by omega
    have hx0 : ¬ (x : Int) < 0 := by omega
    refine awp_cut (ι := Unit) (fun _ => ⟨173, [(4, .pv (gC g)), (5, ints S), (6, ints O), (7, ints D), (8, .I j)], [], 288⟩) (fun _ => True) ?_ fun _ _ => ?_
    · refine awp_block ?_
      refine awp_seq ?_
      refine awp_dregc ⟨173, [(4, .pv (gC g)), (5, ints S), (6, ints O), (7, ints D), (8, .I j), (105, .B false)], [], 816⟩ rfl ?_ ?_
      · by_cases hj0 : j = 0
        · have hj1 : ¬ 0 < j := by omega
          simp [hOj, hx, h2, hN, hx0, hxN2, hj1]
          exact ⟨rfl, Le.snap [] rfl rfl (by simp)⟩
        · obtain ⟨p, hp⟩ : ∃ p, j = p + 1 := ⟨j - 1, by omega⟩
          have hpl : p < O.length := by omega
          have hlt := hOp p (by omega)
          simp only [← hp] at hlt
          rw [hx] at hlt
          have hmy := (hOm O[p]).1 (List.getElem_mem hpl)
          obtain ⟨y, hy⟩ : ∃ y : Nat, O[p] = y := ⟨O[p].toNat, by have := hmy.1.1; omega⟩
          rw [hy] at hmy hlt
          have hyN : y < N := by have := hmy.1.2; omega
          have hDy := hDg y hyN
          obtain ⟨hyl, hDye⟩ := List.getElem?_eq_some_iff.1 hDy
          have hOi : O[p]? = some (y : Int) := by rw [List.getElem?_eq_getElem hpl, hy]
          have hwp : IntKind.i64.wrap ((j : Int) - 1) = (p : Int) := by rw [w64 (by omega) (by omega)]; omega
          have hq1 : ¬ (d : Int) < dist g S y := by unfold Lt at hlt; omega
          have hj1 : 0 < j := by omega
          by_cases heq : dist g S y = d
          · have hq2 : ¬ x ≤ y := by unfold Lt at hlt; omega
            simp [hOj, hx, h2, hN, hx0, hxN2, hj1, hwp, hpl, hy, hyl, hDye, hxl, hDxe, hq1, heq, hq2]
            exact ⟨rfl, Le.snap [] rfl rfl (by simp)⟩
          · have hq3 : (dist g S y == (d : Int)) = false := by simp [heq]
            simp [hOj, hx, h2, hN, hx0, hxN2, hj1, hwp, hpl, hy, hyl, hDye, hxl, hDxe, hq1, hq3]
            exact ⟨rfl, Le.snap [] rfl rfl (by simp)⟩
      refine awp_cond _ rfl (fun h => by cases h) fun _ => awp_skip ?_
      refine awp_regc ⟨173, [(4, .pv (gC g)), (5, ints S), (6, ints O), (7, ints D), (8, .I j), (9, .B (brG g S O x 0))], [], 888⟩ rfl ?_ ?_
      · simp [h2, hx, hDxe, hxl]
        exact Le.snap [] rfl rfl (by simp <;> exact wkB (by simp [brG, hd] <;> rw [Bool.eq_iff_iff] <;> simp))
      refine awp_seq ?_
      refine awp_seq ?_
      refine awp_run (s := ?s9) rfl ?o9 ?q9
      case o9 => simp; rfl
      refine awp_block ?_
      refine awp_loop (ι := Nat) (fun i => ⟨173, [(4, .pv (gC g)), (5, ints S), (6, ints O), (7, ints D), (8, .I j), (9, .B (brG g S O x i)), (10, .I i)], [], 896⟩) (fun i => i ≤ j) (fun i => j - i) 0 (Nat.zero_le _) ?_ ?_
      · exact Le.snap [] rfl rfl (by simp)
      intro i hi
      refine awp_seq ?_
      refine awp_regc ⟨173, [(4, .pv (gC g)), (5, ints S), (6, ints O), (7, ints D), (8, .I j), (9, .B (brG g S O x i)), (10, .I i), (116, .B (decide (i < j)))], [], 920⟩ rfl ?_ ?_
      · simp
        exact Le.snap [] rfl rfl (by simp)
      refine awp_cond _ rfl (fun h3 => awp_skip ?_) fun h3 => awp_exit (hit ?_)
      · simp only [decide_eq_true_eq] at h3
        have hwi : IntKind.i64.wrap ((i : Int) + 1) = ((i + 1 : Nat) : Int) := by rw [w64 (by omega) (by omega)]; omega
        have hil : i < O.length := by omega
        have hmy := (hOm O[i]).1 (List.getElem_mem hil)
        obtain ⟨y, hy⟩ : ∃ y : Nat, O[i] = y := ⟨O[i].toNat, by have := hmy.1.1; omega⟩
        rw [hy] at hmy
        have hyN : y < N := by have := hmy.1.2; omega
        have hDy := hDg y hyN
        have hOi : O[i]? = some (y : Int) := by rw [List.getElem?_eq_getElem hil, hy]
        have hb1 : brG g S O x (i + 1) = (brG g S O x i || (decide (dist g S y = (d : Int) - 1) && (outs g.edges y).contains x)) := by
          rw [brG, hOi, hd]
          rfl
        have hwd : IntKind.i64.wrap ((d : Int) - 1) = (d : Int) - 1 := by have := dist_range (g := g) (S := S) x; exact w64 (by omega) (by omega)
        have hol := outs_le g.edges y
        refine awp_cut (ι := Unit) (fun _ => ⟨173, [(4, .pv (gC g)), (5, ints S), (6, ints O), (7, ints D), (8, .I j), (9, .B (brG g S O x (i + 1))), (10, .I i)], [], 920⟩) (fun _ => True) ?_ fun _ _ => ?_
        · refine awp_block ?_
          rw [hb1]
          refine awp_drw rfl ?_
          cases brG g S O x i
          · obtain ⟨hyl, hDye⟩ := List.getElem?_eq_some_iff.1 hDy
            by_cases hyd : dist g S y = (d : Int) - 1
            · have hb : (dist g S y == (d : Int) - 1) = true := by simp [hyd]
              simp [hx, hy, h2, hil, hDxe, hDye, hxl, hyl, hwd, hb]
              refine callN1 (ref11_Out_ok g y (by omega)) rfl ?_
              simp [Function.comp_def]
              refine call0s [1112] (has_ok (outs g.edges y) x (by omega)) (by simp [Function.comp_def, take_map_len]) (.sc _) ?_
              simp [hyd]
              exact ⟨rfl, Le.snap [] rfl rfl (by simp)⟩
            · have hb : (dist g S y == (d : Int) - 1) = false := by simp [hyd]
              simp [hx, hy, h2, hil, hDxe, hDye, hxl, hyl, hwd, hb]
              exact ⟨rfl, Le.snap [] rfl rfl (by simp [hyd])⟩
          · simp
            exact ⟨rfl, Le.snap [] rfl rfl (by simp)⟩
        refine awp_reg rfl ?_
        simp [hwi]
        exact ⟨i + 1, by omega, by omega, Le.snap [] rfl rfl (by simp)⟩
      simp only [decide_eq_false_iff_not] at h3
      obtain rfl : i = j := by omega
      refine awp_regc ⟨173, [(4, .pv (gC g)), (5, ints S), (6, ints O), (7, ints D), (8, .I i), (171, .B false)], [], 1088⟩ rfl ?_ ?_
      · by_cases hd0 : d = 0
        · have hb : ((d : Int) == 0) = true := by simp [hd0]
          have hst : startK g S x = true := (dist_zero hok).1 (by rw [hd, hd0]; rfl)
          have hin : S.contains (x : Int) = true := by
            unfold startK at hst
            rw [Bool.and_eq_true] at hst
            exact hst.1
          simp [hbr, hx, h2, hDxe, hxl, hb]
          refine call0e (has_ok S x (by omega)) rfl ?_
          simp only [hin]
          simp
          exact Le.snap [] rfl rfl (by simp)
        · have hb : ((d : Int) == 0) = false := by simp [hd0]
          simp [hbr, hx, h2, hDxe, hxl, hb]
          exact Le.snap [] rfl rfl (by simp)
      refine awp_cond _ rfl (fun h => by cases h) fun _ => awp_skip ?_
      exact ⟨(), trivial, Le.snap [] rfl rfl (by simp)⟩
    refine awp_reg rfl ?_
    simp [hwj]
    exact ⟨j + 1, by omega, by omega, Le.snap [] rfl rfl (by simp)⟩
  refine awp_seq ?_
  refine awp_run (s := ?z9) rfl ?p9 ?r9
  case p9 => simp; refine call0e (law12_awake_ok) rfl ?_; simp; rfl
  refine awp_ret ?_
  exact ⟨.inr rfl, RetOk.one (by simp)⟩

end Go.Proofs.Ytnphfkceoklkkaa

/- The reference's way: its marks, edge by edge. Sorting what is in order. -/
namespace Go.Proofs.Ytnphfkceoklkkaa
open Go

theorem isort_id {c : Int → Int → Int} {l : List Int} (h : l.Pairwise fun a b => ¬ c b a < 0) : isort c l = l := by
  have key : ∀ (l acc : List Int), (acc.reverse ++ l).Pairwise (fun a b => ¬ c b a < 0) → l.foldl (insRev c) acc = l.reverse ++ acc := by
    intro l
    induction l with
    | nil => intro acc _; rfl
    | cons x l ih =>
      intro acc h
      have e : insRev c acc x = x :: acc := by
        cases acc with
        | nil => rfl
        | cons y r =>
          have : ¬ c x y < 0 := by
            rw [List.pairwise_append] at h
            exact h.2.2 y (by simp) x (by simp)
          rw [insRev, if_neg this]
      rw [List.foldl_cons, e, ih (x :: acc) (by simpa using h)]
      simp
  unfold isort isortRev
  rw [key l [] (by simpa using h)]
  simp

variable {g : Gr} {S : List Int} {key : Int}

/-- Which keys are marked in the midst of a round, edge by edge. -/
def onE (g : Gr) (S : List Int) (key : Int) (j i : Nat) (k : Int) : Bool :=
  onb g S key j k || (g.edges.take i).any fun e => decide (e.f = k) && (onb g S key j e.t && decide (dist g S e.t = dist g S key - j) && decide (dist g S k = dist g S key - ((j : Int) + 1)))

def condE (g : Gr) (S : List Int) (key : Int) (j i : Nat) (e : Ed) : Bool := onE g S key j i e.t && decide (dist g S e.t = dist g S key - j) && decide (dist g S e.f = dist g S key - ((j : Int) + 1))

theorem onE_zero {j : Nat} {k : Int} : onE g S key j 0 k = onb g S key j k := by simp [onE]

theorem onE_fix {j i : Nat} {k : Int} (hd : dist g S k = dist g S key - j) : onE g S key j i k = onb g S key j k := by
  unfold onE
  cases h : onb g S key j k with
  | true => rfl
  | false =>
    rw [Bool.false_or, List.any_eq_false]
    intro e _
    simp
    intros
    omega

theorem onE_step {j i : Nat} (h : i < g.edges.length) (k : Int) : onE g S key j (i + 1) k = (onE g S key j i k || (decide (g.edges[i].f = k) && condE g S key j i g.edges[i])) := by
  have e1 : onE g S key j (i + 1) k = (onE g S key j i k || (decide (g.edges[i].f = k) && (onb g S key j g.edges[i].t && decide (dist g S g.edges[i].t = dist g S key - j) && decide (dist g S k = dist g S key - ((j : Int) + 1))))) := by
    unfold onE
    rw [List.take_succ_eq_append_getElem h, List.any_append, ← Bool.or_assoc]
    simp
  rw [e1]
  congr 1
  generalize g.edges[i] = e
  unfold condE
  by_cases hf : e.f = k
  · subst hf
    by_cases ht : dist g S e.t = dist g S key - j
    · rw [onE_fix ht]
    · rw [decide_eq_false ht]
      simp
  · simp [hf]

theorem onE_all {j : Nat} {k : Int} : onE g S key j g.edges.length k = onb g S key (j + 1) k := by
  unfold onE
  rw [onb, List.take_length]
  congr 1
  rw [Bool.eq_iff_iff, List.any_eq_true, Bool.and_eq_true, List.any_eq_true]
  constructor
  · rintro ⟨e, he, h⟩
    simp only [Bool.and_eq_true, decide_eq_true_eq] at h
    obtain ⟨h1, ⟨h2, h3⟩, h4⟩ := h
    exact ⟨by simpa using h4, e.t, mem_outs.2 ⟨e, he, h1, rfl⟩, by simp [h2, h3]⟩
  · rintro ⟨h1, y, hy, h2⟩
    obtain ⟨e, he, h3, h4⟩ := mem_outs.1 hy
    subst h4
    simp only [Bool.and_eq_true, decide_eq_true_eq] at h1 h2
    exact ⟨e, he, by simp [h3, h2.1, h2.2, h1]⟩

def onL (g : Gr) (S : List Int) (key : Int) (j i : Nat) : List Bool := (List.range g.size.toNat).map fun (k : Nat) => onE g S key j i k
theorem onL_len (j i : Nat) : (onL g S key j i).length = g.size.toNat := by simp [onL]
theorem onL_next (j : Nat) : onL g S key j g.edges.length = onL g S key (j + 1) 0 := by
  unfold onL
  exact List.map_congr_left fun k _ => by rw [onE_all, onE_zero]
theorem onL_get (j i : Nat) {k : Nat} (hk : k < g.size.toNat) : (onL g S key j i)[k]? = some (onE g S key j i k) := by simp [onL, hk]
theorem onL_mk : onL g S key (dist g S key).toNat 0 = mkL g S key := by
  unfold onL mkL ldL
  exact List.map_congr_left fun k _ => by rw [onE_zero, if_neg (by omega)]

theorem onL_no {j i : Nat} (h : i < g.edges.length) (hc : condE g S key j i g.edges[i] = false) : onL g S key j (i + 1) = onL g S key j i := by
  unfold onL
  exact List.map_congr_left fun k _ => by rw [onE_step h, hc, Bool.and_false, Bool.or_false]
theorem onL_yes {j i f : Nat} (h : i < g.edges.length) (hf : g.edges[i].f = f) (hc : condE g S key j i g.edges[i] = true) : onL g S key j (i + 1) = (onL g S key j i).set f true := by
  apply List.ext_getElem?
  intro k
  by_cases hk : k < g.size.toNat
  · rw [List.getElem?_set, onL_get j (i + 1) hk, onL_get j i hk, onL_len, onE_step h, hc, Bool.and_true, hf]
    by_cases hfk : f = k
    · subst hfk
      rw [if_pos rfl, if_pos hk]
      simp
    · rw [if_neg hfk]
      have : ¬ (f : Int) = k := by omega
      simp [this]
  · rw [List.getElem?_eq_none (by rw [onL_len]; omega), List.getElem?_eq_none (by rw [List.length_set, onL_len]; omega)]

/-- Is k the key of distance n on the way? -/
def qW (g : Gr) (S : List Int) (key : Int) : Nat → Int → Bool
  | 0, k => onF g S key k && decide (dist g S k = 0)
  | m + 1, k => onF g S key k && decide (dist g S k = (m : Int) + 1) && (outs g.edges (atW g S key m)).contains k

theorem qW_0 {k : Int} : qW g S key 0 k = (onF g S key k && decide (dist g S k = 0)) := rfl
theorem qW_s {m : Nat} {k : Int} : qW g S key (m + 1) k = (onF g S key k && decide (dist g S k = (m : Int) + 1) && (outs g.edges (atW g S key m)).contains k) := rfl

theorem atW_q (n : Nat) : atW g S key n = leastK g.size.toNat (qW g S key n) := by
  cases n <;> rfl

theorem qW_spec (hg : GrOk g) (hkey : Key g key) (h0 : 0 ≤ dist g S key) {n : Nat} (hn : (n : Int) ≤ dist g S key) : qW g S key n (atW g S key n) = true ∧ ∀ k, 0 ≤ k → k < atW g S key n → qW g S key n k = false := by
  obtain ⟨k1, k2, k3⟩ := atW_spec hg hkey h0 n hn
  have hsz := hg.1.1
  have hq : qW g S key n (atW g S key n) = true := by
    cases n with
    | zero =>
      have e : dist g S (atW g S key 0) = 0 := by rw [k3]; rfl
      rw [qW_0, k2, e]
      rfl
    | succ m =>
      have e : dist g S (atW g S key (m + 1)) = (m : Int) + 1 := by rw [k3]; rfl
      have he := atW_edge hg hkey h0 (m := m) (by omega)
      rw [qW_s, k2, e]
      simp [he]
  refine ⟨hq, ?_⟩
  rw [atW_q]
  exact (leastK_spec (n := g.size.toNat) (q := qW g S key n) ⟨atW g S key n, ⟨k1.1, by have := k1.2; omega⟩, hq⟩).2.2

theorem qW_eq (hg : GrOk g) (hkey : Key g key) (h0 : 0 ≤ dist g S key) {n : Nat} (hn : (n : Int) ≤ dist g S key) {k A : Nat} (hA : atW g S key n = A) (hk : k ≤ A) : qW g S key n k = decide (k = A) := by
  obtain ⟨h1, h2⟩ := qW_spec hg hkey h0 hn
  rcases Nat.lt_or_ge k A with h | h
  · rw [h2 k (by omega) (by omega), decide_eq_false (by omega)]
  · obtain rfl : k = A := by omega
    rw [← hA, h1, decide_eq_true rfl]

end Go.Proofs.Ytnphfkceoklkkaa

/- Stable sorting leaves what is in order as it is, at any length. -/
namespace Go.Proofs.Ytnphfkceoklkkaa
open Go

theorem Le.npX {st st' : St} {X : List (List AV)} (hflat : ∀ ρ sn h m, X.map (List.map (conv ρ sn h (m + 1))) = X) (hsz : st'.sz = st.sz) (hn : 1 ≤ st'.n) (hh : st'.h = [(0, some ⟨1, X, 0⟩)]) (he : st.hp 0 = some ⟨1, X, 0⟩) (ht : ∀ p ∈ st'.t, Wk (conv [(0, 0)] [] st.hp 4 (st.get p.1)) p.2) : Le 1 st st' :=
  Le.ents [(0, 0)] [] hsz (by simp) (by simp) (by simp; omega) (by simp) hn ht (fun p hp => by
    rw [hh] at hp
    simp at hp
    subst hp
    exact ⟨0, _, _, rfl, by simp, he, EntUp.eq (by simp only [convE, hflat]) (by simp)⟩)

theorem outX {st : St} {X : List (List AV)} (hflat : ∀ ρ sn h m, X.map (List.map (conv ρ sn h (m + 1))) = X) (he : st.hp 0 = some ⟨1, X, 0⟩) : RetOk [] 1 st (.tup []) [some ⟨1, X, 0⟩] :=
  ⟨[], rfl, [], [], by simp [List.range, List.range.loop], by simp, by simp, by simp, by simp [List.range, List.range.loop, he, convE, hflat]⟩

theorem half_w {i j : Nat} (h : i + j ≤ 4000000) : IntKind.i64.wrap ((i : Int) + (j : Int)) = (i : Int) + (j : Int) ∧ IntKind.u64.wrap ((i : Int) + (j : Int)) = (i : Int) + (j : Int) ∧ Int.fdiv ((i : Int) + (j : Int)) 2 = (((i + j) / 2 : Nat) : Int) ∧ IntKind.i64.wrap (((i + j) / 2 : Nat) : Int) = (((i + j) / 2 : Nat) : Int) := by
  refine ⟨w64 (by omega) (by omega), by rw [IntKind.wrap_u64]; omega, ?_, w64 (by omega) (by omega)⟩
  rw [Int.fdiv_eq_ediv_of_nonneg _ (by decide)]
  omega

set_option maxHeartbeats 8000000 in
set_option maxRecDepth 100000 in
theorem symMerge_srt (f : FuncId) (capt : List AV) (c : Int → Int → Int) (l : List Int) (n : Nat) (X : List (List AV)) (hX : rowsI l = X) (hn : l.length = n) (hl : n ≤ 1000000) (hs : Still capt)
    (hc : ∀ x ∈ l, ∀ y ∈ l, ACalls Try.prog f (AV.I x :: AV.I y :: capt) [] (.I (c x y)) []) (hsrt : l.Pairwise fun a b => ¬ c b a < 0) :
    ∀ (d a m b : Nat), b - a ≤ d → a < m → m < b → b ≤ n → ACalls Try.prog nslices_symMergeCmpFunc_int [.rs 0 0 n, .I a, .I m, .I b, .fn (.func f) [] capt] [⟨1, X, 0⟩] (.tup []) [some ⟨1, X, 0⟩]
  | 0, a, m, b, hd, h1, h2, h3 => by omega
  | d + 1, a, m, b, hd, h1, h2, h3 => by
    have hs2 : ∀ ρ sn h, capt.map (conv ρ sn h 2) = capt := fun _ _ _ => hs _ _ _ 1
    have hs3 : ∀ ρ sn h, capt.map (conv ρ sn h 3) = capt := fun _ _ _ => hs _ _ _ 2
    have hs4 : ∀ ρ sn h, capt.map (conv ρ sn h 4) = capt := fun _ _ _ => hs _ _ _ 3
    have ih := symMerge_srt f capt c l n X hX hn hl hs hc hsrt d
    have hgx : ∀ i (h : i < n), X[i]? = some [AV.I (l[i]'(by omega))] := fun i h => by rw [← hX, List.getElem?_map, List.getElem?_eq_getElem (by omega)]; rfl
    have hcmp : ∀ i j (hi : i < n) (hj : j < n), ACalls Try.prog f (AV.I (l[i]'(by omega)) :: AV.I (l[j]'(by omega)) :: capt) [] (.I (c (l[i]'(by omega)) (l[j]'(by omega)))) [] := fun i j hi hj => hc _ (List.getElem_mem _) _ (List.getElem_mem _)
    have hnl : ∀ i j (hij : i < j) (hj : j < n), ¬ c (l[j]'(by omega)) (l[i]'(by omega)) < 0 := fun i j hij hj => List.pairwise_iff_getElem.1 hsrt i j (by omega) (by omega) hij
    have hflat : ∀ ρ sn h m, X.map (List.map (conv ρ sn h (m + 1))) = X := fun ρ sn h m => by rw [← hX]; simp [Function.comp_def]
    refine sslices_symMergeCmpFunc_int.acalls (Nat.le_of_ble_eq_true rfl) (Nat.le_of_ble_eq_true rfl) (Nat.le_of_ble_eq_true rfl) ?_
    show awp _ 1 _ _ ⟨220, [(0, .rs 0 0 n), (1, .I a), (2, .I m), (3, .I b), (4, .fn (.func f) [] capt)], [(0, some ⟨1, X, 0⟩)], 16⟩
    have hw1 : IntKind.i64.wrap ((m : Int) - a) = (m : Int) - a := w64 (by omega) (by omega)
    have hw2 : IntKind.i64.wrap ((b : Int) - m) = (b : Int) - m := w64 (by omega) (by omega)
    refine awp_seq ?_
    refine awp_regc ⟨220, [(0, .rs 0 0 n), (1, .I a), (2, .I m), (3, .I b), (4, .fn (.func f) [] capt), (28, .B (decide (m - a = 1)))], [(0, some ⟨1, X, 0⟩)], 48⟩ rfl ?_ ?_
    · simp [hw1]
      exact Le.keep rfl (Nat.le_refl _) (by simp; rw [Bool.eq_iff_iff]; simp; omega) (by simp)
    refine awp_cond _ rfl (fun h => ?_) fun h => awp_skip ?_
    · simp only [decide_eq_true_eq] at h
      refine awp_regc ⟨220, [(0, .rs 0 0 n), (1, .I a), (2, .I m), (3, .I b), (4, .fn (.func f) [] capt), (10, .I m)], [(0, some ⟨1, X, 0⟩)], 64⟩ rfl (by simp; exact Le.keep rfl (Nat.le_refl _) (by simp) (by simp)) ?_
      refine awp_regc ⟨220, [(0, .rs 0 0 n), (1, .I a), (2, .I m), (3, .I b), (4, .fn (.func f) [] capt), (10, .I m), (11, .I b)], [(0, some ⟨1, X, 0⟩)], 80⟩ rfl (by simp; exact Le.keep rfl (Nat.le_refl _) (by simp) (by simp)) ?_
      refine awp_seq ?_
      refine awp_block ?_
      refine awp_loop (ι := Nat) (fun j => ⟨220, [(0, .rs 0 0 n), (1, .I a), (2, .I m), (3, .I b), (4, .fn (.func f) [] capt), (10, .I m), (11, .I j)], [(0, some ⟨1, X, 0⟩)], 80⟩) (fun j => m ≤ j ∧ j ≤ b) (fun j => j - m) b ⟨by omega, Nat.le_refl _⟩ (Le.refl _ _) ?_
      rintro j ⟨hj1, hj2⟩
      refine awp_seq ?_
      refine awp_regc ⟨220, [(0, .rs 0 0 n), (1, .I a), (2, .I m), (3, .I b), (4, .fn (.func f) [] capt), (10, .I m), (11, .I j), (33, .B (decide (m < j)))], [(0, some ⟨1, X, 0⟩)], 104⟩ rfl (by simp; exact Le.keep rfl (Nat.le_refl _) (by simp) (by simp)) ?_
      refine awp_cond _ rfl (fun h4 => awp_skip ?_) fun h4 => awp_exit (hit ?_)
      · simp only [decide_eq_true_eq] at h4
        obtain ⟨hw, hu, hd, hw3⟩ := half_w (i := m) (j := j) (by omega)
        refine awp_block ?_
        refine awp_regc ⟨220, [(0, .rs 0 0 n), (1, .I a), (2, .I m), (3, .I b), (4, .fn (.func f) [] capt), (10, .I m), (11, .I j), (12, .I ((m + j) / 2 : Nat))], [(0, some ⟨1, X, 0⟩)], 160⟩ rfl ?_ ?_
        · simp [hw, hu, hd, hw3, IntKind.bits, -Int.natCast_ediv, -Int.natCast_add]
          exact Le.keep rfl (Nat.le_refl _) (by simp [hw, hu, hd, hw3]) (by simp)
        obtain ⟨q, hq⟩ : ∃ q, q = (m + j) / 2 := ⟨_, rfl⟩
        rw [← hq]
        have hqn : q < n := by omega
        have han : a < n := by omega
        have hg1 := hgx q hqn
        have hg2 := hgx a han
        have hcc := hcmp q a hqn han
        have hno := hnl a q (by omega) hqn
        generalize c l[q] l[a] = z at *
        generalize l[q] = lq at *
        generalize l[a] = la at *
        refine awp_dregc ⟨220, [(0, .rs 0 0 n), (1, .I a), (2, .I m), (3, .I b), (4, .fn (.func f) [] capt), (10, .I m), (11, .I j), (12, .I q), (50, .B false)], [(0, some ⟨1, X, 0⟩)], 248⟩ rfl ?_ ?_
        · simp [hg1, hg2, hqn, han]
          refine call0e hcc ?_ ?_
          · simp [hs4]
          simp
          exact ⟨rfl, Le.keep rfl (Nat.le_refl _) (by simp; omega) (by simp)⟩
        refine awp_cond _ rfl (fun h5 => by cases h5) fun _ => ?_
        refine awp_reg rfl ?_
        simp
        exact ⟨q, ⟨by omega, by omega⟩, by omega, Le.npX hflat rfl (by simp) rfl rfl (by simp [hs2, hs3, hs4])⟩
      refine awp_seq ?_
      refine awp_regc ⟨220, [(0, .rs 0 0 n), (1, .I a), (2, .I m), (3, .I b), (4, .fn (.func f) [] capt), (10, .I m), (13, .I a)], [(0, some ⟨1, X, 0⟩)], 120⟩ rfl (by simp; exact Le.keep rfl (Nat.le_refl _) (by simp) (by simp)) ?_
      have hw5 : IntKind.i64.wrap ((m : Int) - 1) = (m : Int) - 1 := w64 (by omega) (by omega)
      refine awp_block ?_
      refine awp_loop (ι := Unit) (fun _ => ⟨220, [(0, .rs 0 0 n), (1, .I a), (2, .I m), (3, .I b), (4, .fn (.func f) [] capt), (10, .I m), (13, .I a)], [(0, some ⟨1, X, 0⟩)], 120⟩) (fun _ => True) (fun _ => 0) () trivial (Le.refl _ _) ?_
      intro _ _
      refine awp_seq ?_
      refine awp_regc ⟨220, [(0, .rs 0 0 n), (1, .I a), (2, .I m), (3, .I b), (4, .fn (.func f) [] capt), (58, .B false)], [(0, some ⟨1, X, 0⟩)], 152⟩ rfl ?_ ?_
      · simp [hw5]
        exact Le.keep rfl (Nat.le_refl _) (by simp; omega) (by simp)
      refine awp_cond _ rfl (fun h => by cases h) fun _ => awp_exit (hit ?_)
      refine awp_ret ?_
      exact ⟨.inr rfl, outX hflat rfl⟩
    simp only [decide_eq_false_iff_not] at h
    refine awp_seq ?_
    refine awp_regc ⟨220, [(0, .rs 0 0 n), (1, .I a), (2, .I m), (3, .I b), (4, .fn (.func f) [] capt), (80, .B (decide (b - m = 1)))], [(0, some ⟨1, X, 0⟩)], 80⟩ rfl ?_ ?_
    · simp [hw2]
      exact Le.keep rfl (Nat.le_refl _) (by simp; rw [Bool.eq_iff_iff]; simp; omega) (by simp)
    refine awp_cond _ rfl (fun h6 => ?_) fun h6 => awp_skip ?_
    · simp only [decide_eq_true_eq] at h6
      refine awp_regc ⟨220, [(0, .rs 0 0 n), (1, .I a), (2, .I m), (3, .I b), (4, .fn (.func f) [] capt), (14, .I a)], [(0, some ⟨1, X, 0⟩)], 96⟩ rfl (by simp; exact Le.keep rfl (Nat.le_refl _) (by simp) (by simp)) ?_
      refine awp_regc ⟨220, [(0, .rs 0 0 n), (1, .I a), (2, .I m), (3, .I b), (4, .fn (.func f) [] capt), (14, .I a), (15, .I m)], [(0, some ⟨1, X, 0⟩)], 112⟩ rfl (by simp; exact Le.keep rfl (Nat.le_refl _) (by simp) (by simp)) ?_
      refine awp_seq ?_
      refine awp_block ?_
      refine awp_loop (ι := Nat) (fun i => ⟨220, [(0, .rs 0 0 n), (1, .I a), (2, .I m), (3, .I b), (4, .fn (.func f) [] capt), (14, .I i), (15, .I m)], [(0, some ⟨1, X, 0⟩)], 112⟩) (fun i => a ≤ i ∧ i ≤ m) (fun i => m - i) a ⟨Nat.le_refl _, by omega⟩ (Le.refl _ _) ?_
      rintro i ⟨hj1, hj2⟩
      refine awp_seq ?_
      refine awp_regc ⟨220, [(0, .rs 0 0 n), (1, .I a), (2, .I m), (3, .I b), (4, .fn (.func f) [] capt), (14, .I i), (15, .I m), (85, .B (decide (i < m)))], [(0, some ⟨1, X, 0⟩)], 136⟩ rfl (by simp; exact Le.keep rfl (Nat.le_refl _) (by simp) (by simp)) ?_
      refine awp_cond _ rfl (fun h4 => awp_skip ?_) fun h4 => awp_exit (hit ?_)
      · simp only [decide_eq_true_eq] at h4
        obtain ⟨hw, hu, hd, hw3⟩ := half_w (i := i) (j := m) (by omega)
        refine awp_block ?_
        refine awp_regc ⟨220, [(0, .rs 0 0 n), (1, .I a), (2, .I m), (3, .I b), (4, .fn (.func f) [] capt), (14, .I i), (15, .I m), (16, .I ((i + m) / 2 : Nat))], [(0, some ⟨1, X, 0⟩)], 192⟩ rfl ?_ ?_
        · simp [hw, hu, hd, hw3, IntKind.bits, -Int.natCast_ediv, -Int.natCast_add]
          exact Le.keep rfl (Nat.le_refl _) (by simp [hw, hu, hd, hw3]) (by simp)
        obtain ⟨q, hq⟩ : ∃ q, q = (i + m) / 2 := ⟨_, rfl⟩
        rw [← hq]
        have hqn : q < n := by omega
        have hmn : m < n := by omega
        have hg1 := hgx q hqn
        have hg2 := hgx m hmn
        have hcc := hcmp m q hmn hqn
        have hno := hnl q m (by omega) hmn
        generalize c l[m] l[q] = z at *
        generalize l[q] = lq at *
        generalize l[m] = lm at *
        have hwq : IntKind.i64.wrap ((q : Int) + 1) = ((q + 1 : Nat) : Int) := by rw [w64 (by omega) (by omega)]; omega
        refine awp_dregc ⟨220, [(0, .rs 0 0 n), (1, .I a), (2, .I m), (3, .I b), (4, .fn (.func f) [] capt), (14, .I i), (15, .I m), (16, .I q), (103, .B true)], [(0, some ⟨1, X, 0⟩)], 288⟩ rfl ?_ ?_
        · simp [hg1, hg2, hqn, hmn]
          refine call0e hcc ?_ ?_
          · simp [hs4]
          simp
          exact ⟨rfl, Le.keep rfl (Nat.le_refl _) (by simp; omega) (by simp)⟩
        refine awp_cond _ rfl (fun _ => ?_) fun h5 => by cases h5
        refine awp_reg rfl ?_
        simp [hwq]
        exact ⟨q + 1, ⟨by omega, by omega⟩, by omega, Le.npX hflat rfl (by simp) rfl rfl (by simp [hs2, hs3, hs4])⟩
      simp only [decide_eq_false_iff_not] at h4
      obtain rfl : i = m := by omega
      refine awp_seq ?_
      refine awp_regc ⟨220, [(14, .I i), (17, .I i)], [(0, some ⟨1, X, 0⟩)], 152⟩ rfl (by simp; exact Le.keep rfl (Nat.le_refl _) (by simp) (by simp)) ?_
      refine awp_block ?_
      refine awp_loop (ι := Unit) (fun _ => ⟨220, [(14, .I i), (17, .I i)], [(0, some ⟨1, X, 0⟩)], 152⟩) (fun _ => True) (fun _ => 0) () trivial (Le.refl _ _) ?_
      intro _ _
      refine awp_seq ?_
      refine awp_regc ⟨220, [(110, .B false)], [(0, some ⟨1, X, 0⟩)], 176⟩ rfl (by simp; exact Le.keep rfl (Nat.le_refl _) (by simp) (by simp)) ?_
      refine awp_cond _ rfl (fun h => by cases h) fun _ => awp_exit (hit ?_)
      refine awp_ret ?_
      exact ⟨.inr rfl, outX hflat rfl⟩
    simp only [decide_eq_false_iff_not] at h6
    obtain ⟨hw, hu, hd', hw3⟩ := half_w (i := a) (j := b) (by omega)
    refine awp_regc ⟨220, [(0, .rs 0 0 n), (1, .I a), (2, .I m), (3, .I b), (4, .fn (.func f) [] capt), (18, .I ((a + b) / 2 : Nat))], [(0, some ⟨1, X, 0⟩)], 136⟩ rfl ?_ ?_
    · simp [hw, hu, hd', hw3, IntKind.bits, -Int.natCast_ediv, -Int.natCast_add]
      exact Le.keep rfl (Nat.le_refl _) (by simp [hw, hu, hd', hw3]) (by simp)
    obtain ⟨mid, hmid⟩ : ∃ q, q = (a + b) / 2 := ⟨_, rfl⟩
    rw [← hmid]
    obtain ⟨nn, hnn⟩ : ∃ nn : Nat, nn = mid + m := ⟨_, rfl⟩
    have hwn : IntKind.i64.wrap ((mid : Int) + m) = (nn : Int) := by rw [w64 (by omega) (by omega)]; omega
    refine awp_regc ⟨220, [(0, .rs 0 0 n), (1, .I a), (2, .I m), (3, .I b), (4, .fn (.func f) [] capt), (18, .I mid), (19, .I nn)], [(0, some ⟨1, X, 0⟩)], 168⟩ rfl ?_ ?_
    · simp [hwn]
      exact Le.keep rfl (Nat.le_refl _) (by simp) (by simp)
    refine awp_regc ⟨220, [(0, .rs 0 0 n), (1, .I a), (2, .I m), (3, .I b), (4, .fn (.func f) [] capt), (18, .I mid), (19, .I nn)], [(0, some ⟨1, X, 0⟩)], 184⟩ rfl (by simp; exact Le.keep rfl (Nat.le_refl _) (by simp) (by simp)) ?_
    obtain ⟨s0, r0, hsr⟩ : ∃ s0 r0 : Nat, (mid < m ∧ s0 + b = nn ∧ r0 = mid) ∨ (m ≤ mid ∧ s0 = a ∧ r0 = m) := by
      rcases Nat.lt_or_ge mid m with h7 | h7
      · exact ⟨nn - b, mid, .inl ⟨h7, by omega, rfl⟩⟩
      · exact ⟨a, m, .inr ⟨h7, rfl, rfl⟩⟩
    refine awp_cut (ι := Unit) (fun _ => ⟨220, [(0, .rs 0 0 n), (1, .I a), (2, .I m), (3, .I b), (4, .fn (.func f) [] capt), (18, .I mid), (19, .I nn), (20, .I s0), (21, .I r0)], [(0, some ⟨1, X, 0⟩)], 256⟩) (fun _ => True) ?_ fun _ _ => ?_
    · refine awp_regc ⟨220, [(0, .rs 0 0 n), (1, .I a), (2, .I m), (3, .I b), (4, .fn (.func f) [] capt), (18, .I mid), (19, .I nn), (140, .B (decide (mid < m)))], [(0, some ⟨1, X, 0⟩)], 208⟩ rfl (by simp; exact Le.keep rfl (Nat.le_refl _) (by simp) (by simp)) ?_
      refine awp_cond _ rfl (fun h7 => ?_) fun h7 => ?_
      · simp only [decide_eq_true_eq] at h7
        have hwb : IntKind.i64.wrap ((nn : Int) - b) = (s0 : Int) := by rw [w64 (by omega) (by omega)]; omega
        refine awp_regc ⟨220, [(0, .rs 0 0 n), (1, .I a), (2, .I m), (3, .I b), (4, .fn (.func f) [] capt), (18, .I mid), (19, .I nn), (20, .I s0)], [(0, some ⟨1, X, 0⟩)], 240⟩ rfl (by simp [hwb]; exact Le.keep rfl (Nat.le_refl _) (by simp) (by simp)) ?_
        refine awp_reg rfl ?_
        simp
        exact Le.npX hflat rfl (by simp) rfl rfl (by simp [hs2, hs3, hs4]; exact wkI (by omega))
      · simp only [decide_eq_false_iff_not] at h7
        obtain ⟨_, rfl, rfl⟩ : m ≤ mid ∧ s0 = a ∧ r0 = m := by omega
        refine awp_regc ⟨220, [(0, .rs 0 0 n), (1, .I s0), (2, .I r0), (3, .I b), (4, .fn (.func f) [] capt), (18, .I mid), (19, .I nn), (20, .I s0)], [(0, some ⟨1, X, 0⟩)], 224⟩ rfl (by simp; exact Le.keep rfl (Nat.le_refl _) (by simp) (by simp)) ?_
        refine awp_reg rfl ?_
        simp
        exact Le.npX hflat rfl (by simp) rfl rfl (by simp [hs2, hs3, hs4])
    obtain ⟨p, hp⟩ : ∃ p : Nat, p + 1 = nn := ⟨nn - 1, by omega⟩
    have hwp : IntKind.i64.wrap ((nn : Int) - 1) = (p : Int) := by rw [w64 (by omega) (by omega)]; omega
    refine awp_regc ⟨220, [(0, .rs 0 0 n), (1, .I a), (2, .I m), (3, .I b), (4, .fn (.func f) [] capt), (18, .I mid), (19, .I nn), (20, .I s0), (21, .I r0), (22, .I p)], [(0, some ⟨1, X, 0⟩)], 280⟩ rfl (by simp [hwp]; exact Le.keep rfl (Nat.le_refl _) (by simp) (by simp)) ?_
    refine awp_seq ?_
    refine awp_block ?_
    refine awp_loop (ι := Nat) (fun s => ⟨220, [(0, .rs 0 0 n), (1, .I a), (2, .I m), (3, .I b), (4, .fn (.func f) [] capt), (18, .I mid), (19, .I nn), (20, .I s), (21, .I r0), (22, .I p)], [(0, some ⟨1, X, 0⟩)], 280⟩) (fun s => s0 ≤ s ∧ s ≤ r0) (fun s => r0 - s) s0 ⟨Nat.le_refl _, by omega⟩ (Le.refl _ _) ?_
    rintro s ⟨hj1, hj2⟩
    refine awp_seq ?_
    refine awp_regc ⟨220, [(0, .rs 0 0 n), (1, .I a), (2, .I m), (3, .I b), (4, .fn (.func f) [] capt), (18, .I mid), (19, .I nn), (20, .I s), (21, .I r0), (22, .I p), (151, .B (decide (s < r0)))], [(0, some ⟨1, X, 0⟩)], 304⟩ rfl (by simp; exact Le.keep rfl (Nat.le_refl _) (by simp) (by simp)) ?_
    refine awp_cond _ rfl (fun h4 => awp_skip ?_) fun h4 => awp_exit (hit ?_)
    · simp only [decide_eq_true_eq] at h4
      obtain ⟨hw, hu, hd, hw3⟩ := half_w (i := s) (j := r0) (by omega)
      refine awp_block ?_
      refine awp_regc ⟨220, [(0, .rs 0 0 n), (1, .I a), (2, .I m), (3, .I b), (4, .fn (.func f) [] capt), (18, .I mid), (19, .I nn), (20, .I s), (21, .I r0), (22, .I p), (23, .I ((s + r0) / 2 : Nat))], [(0, some ⟨1, X, 0⟩)], 360⟩ rfl ?_ ?_
      · simp [hw, hu, hd, hw3, IntKind.bits, -Int.natCast_ediv, -Int.natCast_add]
        exact Le.keep rfl (Nat.le_refl _) (by simp [hw, hu, hd, hw3]) (by simp)
      obtain ⟨q, hq⟩ : ∃ q, q = (s + r0) / 2 := ⟨_, rfl⟩
      rw [← hq]
      obtain ⟨u, hu2⟩ : ∃ u : Nat, u + q = p := ⟨p - q, by omega⟩
      have hun : u < n := by omega
      have hqn : q < n := by omega
      have hwu : IntKind.i64.wrap ((p : Int) - q) = (u : Int) := by rw [w64 (by omega) (by omega)]; omega
      have hg1 := hgx q hqn
      have hg2 := hgx u hun
      have hcc := hcmp u q hun hqn
      have hno := hnl q u (by omega) hun
      generalize c l[u] l[q] = z at *
      generalize l[q] = lq at *
      generalize l[u] = lu at *
      have hwq : IntKind.i64.wrap ((q : Int) + 1) = ((q + 1 : Nat) : Int) := by rw [w64 (by omega) (by omega)]; omega
      refine awp_dregc ⟨220, [(0, .rs 0 0 n), (1, .I a), (2, .I m), (3, .I b), (4, .fn (.func f) [] capt), (18, .I mid), (19, .I nn), (20, .I s), (21, .I r0), (22, .I p), (23, .I q), (171, .B true)], [(0, some ⟨1, X, 0⟩)], 472⟩ rfl ?_ ?_
      · simp [hg1, hg2, hqn, hun, hwu]
        refine call0e hcc ?_ ?_
        · simp [hs4]
        simp
        exact ⟨rfl, Le.keep rfl (Nat.le_refl _) (by simp; omega) (by simp)⟩
      refine awp_cond _ rfl (fun _ => ?_) fun h5 => by cases h5
      refine awp_reg rfl ?_
      simp [hwq]
      exact ⟨q + 1, ⟨by omega, by omega⟩, by omega, Le.npX hflat rfl (by simp) rfl rfl (by simp [hs2, hs3, hs4])⟩
    simp only [decide_eq_false_iff_not] at h4
    obtain rfl : s = r0 := by omega
    obtain ⟨e, he⟩ : ∃ e : Nat, e + s = nn := ⟨nn - s, by omega⟩
    have hwe : IntKind.i64.wrap ((nn : Int) - s) = (e : Int) := by rw [w64 (by omega) (by omega)]; omega
    refine awp_regc ⟨220, [(0, .rs 0 0 n), (1, .I a), (2, .I m), (3, .I b), (4, .fn (.func f) [] capt), (18, .I mid), (20, .I s), (24, .I e)], [(0, some ⟨1, X, 0⟩)], 336⟩ rfl (by simp [hwe]; exact Le.keep rfl (Nat.le_refl _) (by simp) (by simp)) ?_
    have hse : (decide (s < m) && decide (m < e)) = false := by rw [Bool.and_eq_false_iff]; simp; omega
    refine awp_seq ?_
    refine awp_regc ⟨220, [(0, .rs 0 0 n), (1, .I a), (2, .I m), (3, .I b), (4, .fn (.func f) [] capt), (18, .I mid), (20, .I s), (24, .I e), (185, .B false)], [(0, some ⟨1, X, 0⟩)], 400⟩ rfl ?_ ?_
    · by_cases h8 : s < m
      · have : ¬ m < e := by omega
        simp [h8, this]
        exact Le.keep rfl (Nat.le_refl _) (by simp) (by simp)
      · simp [h8]
        exact Le.keep rfl (Nat.le_refl _) (by simp) (by simp)
    refine awp_cond _ rfl (fun h => by cases h) fun _ => awp_skip ?_
    refine awp_cut (ι := Unit) (fun _ => ⟨220, [(0, .rs 0 0 n), (1, .I a), (2, .I m), (3, .I b), (4, .fn (.func f) [] capt), (18, .I mid), (20, .I s), (24, .I e)], [(0, some ⟨1, X, 0⟩)], 520⟩) (fun _ => True) ?_ fun _ _ => ?_
    · refine awp_regc ⟨220, [(0, .rs 0 0 n), (1, .I a), (2, .I m), (3, .I b), (4, .fn (.func f) [] capt), (18, .I mid), (20, .I s), (24, .I e), (199, .B (decide (a < s ∧ s < mid)))], [(0, some ⟨1, X, 0⟩)], 464⟩ rfl ?_ ?_
      · by_cases h8 : a < s
        · simp [h8]
          exact Le.keep rfl (Nat.le_refl _) (by simp) (by simp)
        · simp [h8]
          exact Le.keep rfl (Nat.le_refl _) (by simp) (by simp)
      refine awp_cond _ rfl (fun h7 => ?_) fun h7 => awp_skip ?_
      · simp only [decide_eq_true_eq] at h7
        refine awp_reg rfl ?_
        simp
        refine callM1 (i := 0) rfl (e' := ⟨1, X, 0⟩) (by simp only [convE, hflat]) (ih a s mid (by omega) (by omega) (by omega) (by omega)) (by simp) ?_ ?_
        · simp [hs2, hs3, hs4]
        simp [hflat]
        exact Le.npX hflat rfl (by simp) rfl rfl (by simp [hs2, hs3, hs4])
      · exact ⟨(), trivial, Le.npX hflat rfl (by simp) rfl rfl (by simp [hs2, hs3, hs4])⟩
    refine awp_regc ⟨220, [(0, .rs 0 0 n), (1, .I a), (2, .I m), (3, .I b), (4, .fn (.func f) [] capt), (18, .I mid), (24, .I e), (213, .B (decide (mid < e ∧ e < b)))], [(0, some ⟨1, X, 0⟩)], 584⟩ rfl ?_ ?_
    · by_cases h8 : mid < e
      · simp [h8]
        exact Le.keep rfl (Nat.le_refl _) (by simp) (by simp)
      · simp [h8]
        exact Le.keep rfl (Nat.le_refl _) (by simp) (by simp)
    refine awp_cond _ rfl (fun h7 => ?_) fun h7 => awp_skip ?_
    · simp only [decide_eq_true_eq] at h7
      refine awp_reg rfl ?_
      simp
      refine callM1 (i := 0) rfl (e' := ⟨1, X, 0⟩) (by simp only [convE, hflat]) (ih mid e b (by omega) (by omega) (by omega) (by omega)) (by simp) ?_ ?_
      · simp [hs2, hs3, hs4]
      simp [hflat]
      exact outX hflat rfl
    · exact ⟨.inl rfl, outX hflat rfl⟩

theorem insertion_srt (f : FuncId) (capt : List AV) (c : Int → Int → Int) (l : List Int) (n : Nat) (X : List (List AV)) (hX : rowsI l = X) (hn : l.length = n) (hl : n ≤ 1000000) (hs : Still capt)
    (hc : ∀ x ∈ l, ∀ y ∈ l, ACalls Try.prog f (AV.I x :: AV.I y :: capt) [] (.I (c x y)) []) (hsrt : l.Pairwise fun a b => ¬ c b a < 0) (a b : Nat) (hab : a ≤ b) (hb : b ≤ n) :
    ACalls Try.prog nslices_insertionSortCmpFunc_int [.rs 0 0 n, .I a, .I b, .fn (.func f) [] capt] [⟨1, X, 0⟩] (.tup []) [some ⟨1, X, 0⟩] := by
  obtain ⟨M, hM⟩ : ∃ M, M = (l.drop a).take (b - a) := ⟨_, rfl⟩
  have hMl : M.length = b - a := by rw [hM]; simp; omega
  have e : l.take a ++ M ++ l.drop b = l := by
    rw [hM, List.append_assoc]
    have : (l.drop a).take (b - a) ++ l.drop b = l.drop a := by
      have h2 : l.drop b = (l.drop a).drop (b - a) := by rw [List.drop_drop]; congr 1; omega
      rw [h2, List.take_append_drop]
    rw [this, List.take_append_drop]
  have hMs : M.Sublist l := by rw [hM]; exact (List.take_sublist _ _).trans (List.drop_sublist _ _)
  have hid : isort c M = M := isort_id (hsrt.sublist hMs)
  have hmem : ∀ x ∈ M, x ∈ l := fun x hx => hMs.subset hx
  have := insertion_ok f capt c (l.take a) M (l.drop b) n a b (by rw [e]; exact hn) (by simp; omega) (by omega) hl hs fun x hx y hy => hc x (hmem x hx) y (hmem y hy)
  rw [hid, e, hX] at this
  exact this

set_option maxHeartbeats 4000000 in
set_option maxRecDepth 100000 in
theorem stable_srt (f : FuncId) (capt : List AV) (c : Int → Int → Int) (l : List Int) (n : Nat) (X : List (List AV)) (hX : rowsI l = X) (hn : l.length = n) (hl : n ≤ 1000000) (hs : Still capt)
    (hc : ∀ x ∈ l, ∀ y ∈ l, ACalls Try.prog f (AV.I x :: AV.I y :: capt) [] (.I (c x y)) []) (hsrt : l.Pairwise fun a b => ¬ c b a < 0) :
    ACalls Try.prog nslices_stableCmpFunc_int [.rs 0 0 n, .I n, .fn (.func f) [] capt] [⟨1, X, 0⟩] (.tup []) [some ⟨1, X, 0⟩] := by
  have hs2 : ∀ ρ sn h, capt.map (conv ρ sn h 2) = capt := fun _ _ _ => hs _ _ _ 1
  have hs3 : ∀ ρ sn h, capt.map (conv ρ sn h 3) = capt := fun _ _ _ => hs _ _ _ 2
  have hs4 : ∀ ρ sn h, capt.map (conv ρ sn h 4) = capt := fun _ _ _ => hs _ _ _ 3
  have hflat : ∀ ρ sn h m, X.map (List.map (conv ρ sn h (m + 1))) = X := fun ρ sn h m => by rw [← hX]; simp [Function.comp_def]
  have hins := insertion_srt f capt c l n X hX hn hl hs hc hsrt
  have hsym := fun a m b => symMerge_srt f capt c l n X hX hn hl hs hc hsrt (b - a) a m b (Nat.le_refl _)
  refine sslices_stableCmpFunc_int.acalls (Nat.le_of_ble_eq_true rfl) (Nat.le_of_ble_eq_true rfl) (Nat.le_of_ble_eq_true rfl) ?_
  show awp _ 1 _ _ ⟨63, [(0, .rs 0 0 n), (1, .I n), (2, .fn (.func f) [] capt)], [(0, some ⟨1, X, 0⟩)], 16⟩
  refine awp_regc ⟨63, [(0, .rs 0 0 n), (1, .I n), (2, .fn (.func f) [] capt), (6, .I 20)], [(0, some ⟨1, X, 0⟩)], 24⟩ rfl (by simp; exact Le.keep rfl (Nat.le_refl _) (by simp) (by simp)) ?_
  refine awp_regc ⟨63, [(0, .rs 0 0 n), (1, .I n), (2, .fn (.func f) [] capt), (6, .I 20), (7, .I 0), (8, .I 20)], [(0, some ⟨1, X, 0⟩)], 48⟩ rfl (by simp; exact Le.keep rfl (Nat.le_refl _) (by simp) (by simp)) ?_
  refine awp_seq ?_
  refine awp_block ?_
  refine awp_loop (ι := Nat) (fun a => ⟨63, [(0, .rs 0 0 n), (1, .I n), (2, .fn (.func f) [] capt), (6, .I 20), (7, .I a), (8, .I (a + 20 : Nat))], [(0, some ⟨1, X, 0⟩)], 48⟩) (fun a => a ≤ n) (fun a => n - a) 0 (Nat.zero_le _) (Le.refl _ _) ?_
  intro a ha
  refine awp_seq ?_
  refine awp_regc ⟨63, [(0, .rs 0 0 n), (1, .I n), (2, .fn (.func f) [] capt), (6, .I 20), (7, .I a), (8, .I (a + 20 : Nat)), (13, .B (decide (a + 20 ≤ n)))], [(0, some ⟨1, X, 0⟩)], 72⟩ rfl ?_ ?_
  · simp
    exact Le.keep rfl (Nat.le_refl _) (by simp; omega) (by simp)
  refine awp_cond _ rfl (fun h => awp_skip ?_) fun h => awp_exit (hit ?_)
  · simp only [decide_eq_true_eq] at h
    have hw : IntKind.i64.wrap (((a + 20 : Nat) : Int) + 20) = ((a + 20 + 20 : Nat) : Int) := by rw [w64 (by omega) (by omega)]; omega
    generalize hB : a + 20 = B at *
    refine awp_block ?_
    refine awp_regc ⟨63, [(0, .rs 0 0 n), (1, .I n), (2, .fn (.func f) [] capt), (6, .I 20), (7, .I a), (8, .I B)], [(0, some ⟨1, X, 0⟩)], 112⟩ rfl ?_ ?_
    · simp
      refine callM1 (i := 0) rfl (e' := ⟨1, X, 0⟩) (by simp only [convE, hflat]) (hins a B (by omega) (by omega)) (by simp) ?_ ?_
      · simp [hs2, hs3, hs4]
      simp [hflat]
      exact Le.keep rfl (Nat.le_refl _) (by simp) (by simp)
    refine awp_regc ⟨63, [(0, .rs 0 0 n), (1, .I n), (2, .fn (.func f) [] capt), (6, .I 20), (7, .I B), (8, .I B)], [(0, some ⟨1, X, 0⟩)], 128⟩ rfl (by simp; exact Le.keep rfl (Nat.le_refl _) (by simp) (by simp)) ?_
    refine awp_reg rfl ?_
    simp [hw]
    exact ⟨B, by omega, by omega, Le.npX hflat rfl (by simp) rfl rfl (by simp [hs2, hs3, hs4])⟩
  simp only [decide_eq_false_iff_not] at h
  refine awp_regc ⟨63, [(0, .rs 0 0 n), (1, .I n), (2, .fn (.func f) [] capt), (6, .I 20)], [(0, some ⟨1, X, 0⟩)], 112⟩ rfl ?_ ?_
  · simp
    refine callM1 (i := 0) rfl (e' := ⟨1, X, 0⟩) (by simp only [convE, hflat]) (hins a n (by omega) (by omega)) (by simp) ?_ ?_
    · simp [hs2, hs3, hs4]
    simp [hflat]
    exact Le.keep rfl (Nat.le_refl _) (by simp) (by simp)
  refine awp_block ?_
  refine awp_loop (ι := Nat) (fun s => ⟨63, [(0, .rs 0 0 n), (1, .I n), (2, .fn (.func f) [] capt), (6, .I s)], [(0, some ⟨1, X, 0⟩)], 112⟩) (fun s => 1 ≤ s) (fun s => n - s) 20 (by omega) (Le.refl _ _) ?_
  intro s hs0
  refine awp_seq ?_
  refine awp_regc ⟨63, [(0, .rs 0 0 n), (1, .I n), (2, .fn (.func f) [] capt), (6, .I s), (30, .B (decide (s < n)))], [(0, some ⟨1, X, 0⟩)], 136⟩ rfl (by simp; exact Le.keep rfl (Nat.le_refl _) (by simp) (by simp)) ?_
  refine awp_cond _ rfl (fun h7 => awp_skip ?_) fun h7 => awp_exit (hit ?_)
  · simp only [decide_eq_true_eq] at h7
    obtain ⟨s2, hs22⟩ : ∃ s2, s2 = s + s := ⟨_, rfl⟩
    have hw2 : IntKind.i64.wrap (2 * (s : Int)) = (s2 : Int) := by rw [w64 (by omega) (by omega)]; omega
    have hw2' : IntKind.i64.wrap ((s : Int) * 2) = (s2 : Int) := by rw [w64 (by omega) (by omega)]; omega
    refine awp_block ?_
    refine awp_regc ⟨63, [(0, .rs 0 0 n), (1, .I n), (2, .fn (.func f) [] capt), (6, .I s), (7, .I (0 : Nat)), (8, .I (0 + s2 : Nat))], [(0, some ⟨1, X, 0⟩)], 168⟩ rfl ?_ ?_
    · simp [hw2]
      exact Le.keep rfl (Nat.le_refl _) (by simp) (by simp)
    refine awp_cut (ι := Nat) (fun a => ⟨63, [(0, .rs 0 0 n), (1, .I n), (2, .fn (.func f) [] capt), (6, .I s), (7, .I a)], [(0, some ⟨1, X, 0⟩)], 192⟩) (fun a => a ≤ n ∧ ¬ a + s2 ≤ n) ?_ ?_
    · refine awp_block ?_
      refine awp_loop (ι := Nat) (fun a => ⟨63, [(0, .rs 0 0 n), (1, .I n), (2, .fn (.func f) [] capt), (6, .I s), (7, .I a), (8, .I (a + s2 : Nat))], [(0, some ⟨1, X, 0⟩)], 168⟩) (fun a => a ≤ n) (fun a => n - a) 0 (Nat.zero_le _) (Le.refl _ _) ?_
      intro a ha
      obtain ⟨B, hB⟩ : ∃ B, B = a + s2 := ⟨_, rfl⟩
      rw [← hB]
      refine awp_seq ?_
      refine awp_regc ⟨63, [(0, .rs 0 0 n), (1, .I n), (2, .fn (.func f) [] capt), (6, .I s), (7, .I a), (8, .I B), (35, .B (decide (B ≤ n)))], [(0, some ⟨1, X, 0⟩)], 192⟩ rfl ?_ ?_
      · simp
        exact Le.keep rfl (Nat.le_refl _) (by simp) (by simp)
      refine awp_cond _ rfl (fun h8 => awp_skip ?_) fun h8 => awp_exit (hit ?_)
      · simp only [decide_eq_true_eq] at h8
        obtain ⟨m, hm⟩ : ∃ m, m = a + s := ⟨_, rfl⟩
        have hwm : IntKind.i64.wrap ((a : Int) + s) = (m : Int) := by rw [w64 (by omega) (by omega)]; omega
        have hwB : IntKind.i64.wrap ((B : Int) + s2) = ((B + s2 : Nat) : Int) := by rw [w64 (by omega) (by omega)]; omega
        refine awp_block ?_
        refine awp_regc ⟨63, [(0, .rs 0 0 n), (1, .I n), (2, .fn (.func f) [] capt), (6, .I s), (7, .I a), (8, .I B)], [(0, some ⟨1, X, 0⟩)], 256⟩ rfl ?_ ?_
        · simp [hwm]
          refine callM1 (i := 0) rfl (e' := ⟨1, X, 0⟩) (by simp only [convE, hflat]) (hsym a m B (by omega) (by omega) (by omega)) (by simp) ?_ ?_
          · simp [hs2, hs3, hs4]
          simp [hflat]
          exact Le.keep rfl (Nat.le_refl _) (by simp) (by simp)
        refine awp_regc ⟨63, [(0, .rs 0 0 n), (1, .I n), (2, .fn (.func f) [] capt), (6, .I s), (7, .I B), (8, .I B)], [(0, some ⟨1, X, 0⟩)], 272⟩ rfl (by simp; exact Le.keep rfl (Nat.le_refl _) (by simp) (by simp)) ?_
        refine awp_reg rfl ?_
        simp [hw2, hwB]
        exact ⟨B, by omega, by omega, Le.npX hflat rfl (by simp) rfl rfl (by simp [hs2, hs3, hs4])⟩
      simp only [decide_eq_false_iff_not] at h8
      exact ⟨a, ⟨ha, by omega⟩, Le.npX hflat rfl (by simp) rfl rfl (by simp [hs2, hs3, hs4])⟩
    rintro a ⟨ha1, ha2⟩
    obtain ⟨m, hm⟩ : ∃ m, m = a + s := ⟨_, rfl⟩
    have hwm : IntKind.i64.wrap ((a : Int) + s) = (m : Int) := by rw [w64 (by omega) (by omega)]; omega
    refine awp_cut (ι := Unit) (fun _ => ⟨63, [(0, .rs 0 0 n), (1, .I n), (2, .fn (.func f) [] capt), (6, .I s)], [(0, some ⟨1, X, 0⟩)], 300⟩) (fun _ => True) ?_ fun _ _ => ?_
    · refine awp_regc ⟨63, [(0, .rs 0 0 n), (1, .I n), (2, .fn (.func f) [] capt), (6, .I s), (7, .I a), (9, .I m)], [(0, some ⟨1, X, 0⟩)], 224⟩ rfl (by simp [hwm]; exact Le.keep rfl (Nat.le_refl _) (by simp) (by simp)) ?_
      refine awp_regc ⟨63, [(0, .rs 0 0 n), (1, .I n), (2, .fn (.func f) [] capt), (6, .I s), (7, .I a), (9, .I m), (54, .B (decide (m < n)))], [(0, some ⟨1, X, 0⟩)], 248⟩ rfl (by simp; exact Le.keep rfl (Nat.le_refl _) (by simp) (by simp)) ?_
      refine awp_cond _ rfl (fun h9 => ?_) fun h9 => awp_skip ?_
      · simp only [decide_eq_true_eq] at h9
        refine awp_reg rfl ?_
        simp
        refine callM1 (i := 0) rfl (e' := ⟨1, X, 0⟩) (by simp only [convE, hflat]) (hsym a m n (by omega) (by omega) (by omega)) (by simp) ?_ ?_
        · simp [hs2, hs3, hs4]
        simp [hflat]
        exact Le.npX hflat rfl (by simp) rfl rfl (by simp [hs2, hs3, hs4])
      · exact ⟨(), trivial, Le.npX hflat rfl (by simp) rfl rfl (by simp [hs2, hs3, hs4])⟩
    refine awp_reg rfl ?_
    simp [hw2']
    exact ⟨s2, by omega, by omega, Le.npX hflat rfl (by simp) rfl rfl (by simp [hs2, hs3, hs4])⟩
  exact ⟨.inl rfl, outX hflat rfl⟩

theorem SortStable_srt (f : FuncId) (capt : List AV) (c : Int → Int → Int) (l : List Int) (n : Nat) (hn : l.length = n) (hl : n < 20 ∨ n ≤ 1000000 ∧ l.Pairwise fun a b => ¬ c b a < 0) (hs : Still capt)
    (hc : ∀ x ∈ l, ∀ y ∈ l, ACalls Try.prog f (AV.I x :: AV.I y :: capt) [] (.I (c x y)) []) :
    ACalls Try.prog nslices_SortStableFunc_Lint_int [.rs 0 0 n, .fn (.func f) [] capt] [⟨1, rowsI l, 0⟩] (.tup []) [some ⟨1, rowsI (isort c l), 0⟩] := by
  rcases hl with hl | ⟨hl, hsrt⟩
  · exact SortStable_ok f capt c l n hn hl hs hc
  rw [isort_id hsrt]
  have hs2 : ∀ ρ sn h, capt.map (conv ρ sn h 2) = capt := fun _ _ _ => hs _ _ _ 1
  have hs3 : ∀ ρ sn h, capt.map (conv ρ sn h 3) = capt := fun _ _ _ => hs _ _ _ 2
  have hs4 : ∀ ρ sn h, capt.map (conv ρ sn h 4) = capt := fun _ _ _ => hs _ _ _ 3
  refine sslices_SortStableFunc_Lint_int.acalls (Nat.le_of_ble_eq_true rfl) (Nat.le_of_ble_eq_true rfl) (Nat.le_of_ble_eq_true rfl) ?_
  show awp _ 1 _ _ ⟨9, [(0, .rs 0 0 n), (1, .fn (.func f) [] capt)], [(0, some ⟨1, rowsI l, 0⟩)], 16⟩
  refine awp_run (s := ?s1) rfl ?o1 ?q1
  case o1 =>
    simp
    refine callM1 (i := 0) rfl (e' := ⟨1, rowsI l, 0⟩) (by simp [Function.comp_def]) (stable_srt f capt c l n _ rfl hn hl hs hc hsrt) (by simp) ?_ ?_
    · simp [hs2, hs3, hs4]
    simp [Function.comp_def]
    rfl
  exact ⟨.inl rfl, ⟨[], rfl, [], [], by simp [List.range, List.range.loop], by simp, by simp, by simp, by simp [List.range, List.range.loop, Function.comp_def]⟩⟩

end Go.Proofs.Ytnphfkceoklkkaa
