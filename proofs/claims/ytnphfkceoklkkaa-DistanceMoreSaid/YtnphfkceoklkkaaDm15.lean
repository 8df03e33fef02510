/- Texts of this claim, merged. -/
import Derived.Test.YtnphfkceoklkkaaDm14
import Derived.Test.YtnphfkceoklkkaaDm9
import Derived.Test.YtnphfkceoklkkaaDm13
set_option linter.unusedSimpArgs false
set_option linter.unusedVariables false
set_option linter.unusedSectionVars false
/- The way to a key: the program's function finds it (the walk). -/
namespace Go.Proofs.Ytnphfkceoklkkaa
open Go
variable {g : Gr} {S : List Int} {key : Int}

set_option maxHeartbeats 8000000 in
set_option maxRecDepth 100000 in
theorem Way_yes (hg : GrOk g) (hS : S.length ≤ 1099511627776) (hkey : Key g key) (h0 : 0 ≤ dist g S key) : ACalls Try.prog ndistance_Way [eG g, ints S, .I key] [] (.tup [.rs 0 0 (wayL g S key).length, .B true]) [some ⟨1, rowsI (wayL g S key), 0⟩] := by
  refine sdistance_Way.acalls (Nat.le_of_ble_eq_true rfl) (Nat.le_of_ble_eq_true rfl) (Nat.zero_le _) ?_
  show awp _ 0 _ _ ⟨110, [(0, eG g), (1, ints S), (2, .I key)], [], 16⟩
  have hsz := hg.1.1
  have hsz2 := hg.1.2.1
  have h500 := hg.1.2.2.1
  obtain ⟨N, hNe⟩ : ∃ N : Nat, N = g.size.toNat := ⟨_, rfl⟩
  have hall := distance_All_ok g S hg hS
  have hDl : (distL g S).length = N := by rw [distL_len, hNe]
  have hDg : ∀ k : Nat, k < N → (distL g S)[k]? = some (dist g S k) := fun k hk => by simp [distL, show k < g.size.toNat by omega]
  rw [← hNe] at hall
  obtain ⟨D, hD⟩ : ∃ D, D = distL g S := ⟨_, rfl⟩
  rw [← hD] at hall hDl hDg
  have hDr : ∀ k : Int, -1 ≤ dist g S k ∧ dist g S k ≤ 64 := fun k => by have := dist_range (g := g) (S := S) k; omega
  have hw : IntKind.i64.wrap ((N : Int) - 1) = (N : Int) - 1 := w64 (by omega) (by omega)
  obtain ⟨kk, hkk⟩ : ∃ kk : Nat, key = kk := ⟨key.toNat, by have := hkey.1; omega⟩
  have hkkN : kk < N := by have := hkey.2; omega
  obtain ⟨K, hK⟩ : ∃ K : Nat, dist g S key = K := ⟨(dist g S key).toNat, by omega⟩
  have hK64 : K ≤ 64 := by have := hDr key; omega
  have hgetk := hDg kk hkkN
  rw [← hkk, hK] at hgetk
  refine awp_regc ⟨110, [(1, ints S), (2, .I kk), (3, .pv (gC g))], [], 40⟩ rfl ?_ ?_
  · simp
    exact Le.snap [16] rfl rfl (by simp [hkk])
  refine awp_regc ⟨110, [(2, .I kk), (3, .pv (gC g)), (8, .pv [ints D])], [], 80⟩ rfl ?_ ?_
  · simp
    refine callN1 hall rfl ?_
    simp [Function.comp_def]
    exact Le.snap [56, 64] rfl rfl (by simp [Function.comp_def, ← hDl, take_map_len])
  refine awp_seq ?_
  refine awp_regc ⟨110, [(2, .I kk), (3, .pv (gC g)), (8, .pv [ints D]), (30, .B false)], [], 40⟩ rfl ?_ ?_
  · simp [hDl, hw]
    refine callf nlists_In rfl ?_
    refine call0e (lists_In_ok ..) rfl ?_
    simp
    have hb : (!decide ((kk : Int) ≤ (N : Int) - 1)) = false := by simp; omega
    rw [hb]
    simp [hgetk]
    exact Le.snap [] rfl rfl (by simp <;> exact wkB (by simp))
  refine awp_cond _ rfl (fun h => by cases h) fun _ => awp_skip ?_
  -- the marks
  refine awp_regc ⟨110, [(2, .I kk), (3, .pv (gC g)), (8, .pv [ints D]), (9, .pt 64 0 0)], [(64, some ⟨1, [[.rs 56 0 N]], 0⟩), (56, some ⟨1, List.replicate N [.B false], 0⟩)], 80⟩ rfl ?_ ?_
  · simp [hDl]
    exact ⟨by omega, Le.keep rfl (Nat.le_refl _) (by simp) (by simp)⟩
  have hfirst : (List.replicate N [AV.B false]).set kk [AV.B true] = rowsB (ldL g S key 0 0) := by
    apply List.ext_getElem?
    intro k
    rw [List.getElem?_set, List.getElem?_map]
    by_cases hk : k < N
    · rw [ldL_get 0 0 (by omega)]
      by_cases hkk2 : kk = k
      · subst hkk2
        rw [if_pos rfl, if_pos (by simpa using hk)]
        simp [onb, hkk]
      · rw [if_neg hkk2]
        have : ¬ (k : Int) = key := by omega
        simp [onb, this, hk]
    · rw [if_neg (by omega)]
      have e1 : (List.replicate N [AV.B false])[k]? = none := List.getElem?_eq_none (by simpa using hk)
      have e2 : (ldL g S key 0 0)[k]? = none := List.getElem?_eq_none (by rw [ldL_len]; omega)
      rw [e1, e2]
      rfl
  refine awp_regc ⟨110, [(2, .I kk), (3, .pv (gC g)), (8, .pv [ints D]), (9, .pt 64 0 0)], [(64, some ⟨1, [[.rs 56 0 N]], 0⟩), (56, some ⟨1, rowsB (ldL g S key 0 0), 0⟩)], 112⟩ rfl ?_ ?_
  · simp [hkkN, splice]
    exact Le.keep rfl (Nat.le_refl _) (by simp) (by simp; exact hfirst)
  have hwK : IntKind.i64.wrap ((K : Int) - 1) = (K : Int) - 1 := w64 (by omega) (by omega)
  refine awp_seq ?_
  refine awp_regc ⟨110, [(2, .I kk), (3, .pv (gC g)), (8, .pv [ints D]), (9, .pt 64 0 0), (10, .pt 152 0 0)], [(64, some ⟨1, [[.rs 56 0 N]], 0⟩), (56, some ⟨1, rowsB (ldL g S key 0 0), 0⟩), (152, some ⟨1, [[.I ((K : Int) - 1 - (0 : Nat))]], 0⟩)], 168⟩ rfl ?_ ?_
  · simp [hgetk, hwK, splice]
    exact Le.keep rfl (Nat.le_refl _) (by simp) (by simp)
  refine awp_block ?_
  let E : Nat → Nat → List (Nat × Option Ent) := fun j i => [(64, some ⟨1, [[.rs 56 0 N]], 0⟩), (56, some ⟨1, rowsB (ldL g S key j i), 0⟩), (152, some ⟨1, [[.I ((K : Int) - 1 - j)]], 0⟩)]
  have hflat : ∀ j i ρ sn h m, (rowsB (ldL g S key j i)).map (List.map (conv ρ sn h (m + 1))) = rowsB (ldL g S key j i) := fun j i ρ sn h m => by simp [Function.comp_def]
  refine awp_loop (ι := Nat) (fun j => ⟨110, [(2, .I kk), (3, .pv (gC g)), (8, .pv [ints D]), (9, .pt 64 0 0), (10, .pt 152 0 0)], E j 0, 168⟩) (fun j => j ≤ K) (fun j => K - j) 0 (Nat.zero_le _) (Le.refl _ _) ?_
  intro j hj
  refine awp_seq ?_
  refine awp_regc ⟨110, [(2, .I kk), (3, .pv (gC g)), (8, .pv [ints D]), (9, .pt 64 0 0), (10, .pt 152 0 0), (43, .B (decide (j < K)))], E j 0, 184⟩ rfl ?_ ?_
  · simp [E]
    exact Le.keep rfl (Nat.le_refl _) (by simp; omega) (by simp)
  refine awp_cond _ rfl (fun h => awp_skip ?_) fun h => awp_exit (hit ?_)
  · simp only [decide_eq_true_eq] at h
    refine awp_cut (ι := Unit) (fun _ => ⟨110, [(2, .I kk), (3, .pv (gC g)), (8, .pv [ints D]), (9, .pt 64 0 0), (10, .pt 152 0 0)], [(64, some ⟨1, [[.rs 56 0 N]], 0⟩), (56, some ⟨1, rowsB (ldL g S key (j + 1) 0), 0⟩), (152, some ⟨1, [[.I ((K : Int) - 1 - j)]], 0⟩)], 184⟩) (fun _ => True) ?_ fun _ _ => ?_
    · rw [← ldL_next, ← hNe]
      refine awp_block ?_
      refine awp_regc ⟨110, [(2, .I kk), (3, .pv (gC g)), (8, .pv [ints D]), (9, .pt 64 0 0), (10, .pt 152 0 0), (47, .I N), (48, .I (0 : Nat))], E j 0, 208⟩ rfl ?_ ?_
      · simp [hDl, E]
        exact Le.keep rfl (Nat.le_refl _) (by simp) (by simp)
      refine awp_block ?_
      refine awp_loop (ι := Nat) (fun i => ⟨110, [(2, .I kk), (3, .pv (gC g)), (8, .pv [ints D]), (9, .pt 64 0 0), (10, .pt 152 0 0), (47, .I N), (48, .I i)], E j i, 208⟩) (fun i => i ≤ N) (fun i => N - i) 0 (Nat.zero_le _) (Le.refl _ _) ?_
      intro i hi
      refine awp_regc ⟨110, [(2, .I kk), (3, .pv (gC g)), (8, .pv [ints D]), (9, .pt 64 0 0), (10, .pt 152 0 0), (47, .I N), (48, .I i), (49, .B (decide (i < N)))], E j i, 216⟩ rfl ?_ ?_
      · simp [E]
        exact Le.keep rfl (Nat.le_refl _) (by simp) (by simp)
      refine awp_seq ?_
      refine awp_cond _ rfl (fun h2 => awp_skip ?_) fun h2 => awp_exit (hit ?_)
      · simp only [decide_eq_true_eq] at h2
        have hstep := ldL_step (g := g) (S := S) (key := key) j i (by omega)
        have hget := hDg i h2
        have hdi := hDr i
        refine awp_cut (ι := Unit) (fun _ => ⟨110, [(2, .I kk), (3, .pv (gC g)), (8, .pv [ints D]), (9, .pt 64 0 0), (10, .pt 152 0 0), (47, .I N), (48, .I i)], E j (i + 1), 208⟩) (fun _ => True) ?_ fun _ _ => ?_
        · refine awp_block ?_
          refine awp_regc ⟨110, [(2, .I kk), (3, .pv (gC g)), (8, .pv [ints D]), (9, .pt 64 0 0), (10, .pt 152 0 0), (11, .I i), (47, .I N), (48, .I i)], E j i, 232⟩ rfl ?_ ?_
          · simp [E]
            exact Le.keep rfl (Nat.le_refl _) (by simp) (by simp)
          have hcc := contains_c1 (S := S) (key := key) hg (j := j) (i := i) (x := i) (by omega)
          rw [hK] at hcc
          rw [← hD] at hcc
          have hol := outs_le g.edges i
          obtain ⟨c, hc⟩ : ∃ c, c = (decide (dist g S i = (K : Int) - ((j : Int) + 1)) && (outs g.edges i).any fun y => onb g S key j y && decide (dist g S y = (K : Int) - j)) := ⟨_, rfl⟩
          have hon : onb g S key (j + 1) i = (onb g S key j i || c) := by rw [onb, hc, hK]
          refine awp_dregc ⟨110, [(2, .I kk), (3, .pv (gC g)), (8, .pv [ints D]), (9, .pt 64 0 0), (10, .pt 152 0 0), (11, .I i), (47, .I N), (48, .I i), (63, .B c)], E j i, 336⟩ rfl ?_ ?_
          · by_cases hd : dist g S i = (K : Int) - 1 - j
            · have hbq : (dist g S i == (K : Int) - 1 - j) = true := by simp [hd]
              have hdc : decide (dist g S i = (K : Int) - ((j : Int) + 1)) = true := by simp; omega
              rw [hdc, Bool.true_and] at hc
              simp [E, hget, hbq]
              refine callN1 (graph_Out_ok g i (by omega)) rfl ?_
              simp [Function.comp_def]
              have hLl : N ≤ (ldL g S key j i).length := by rw [ldL_len]; omega
              have htk : List.take N (rowsB (ldL g S key j i)) = rowsB (ldL g S key j i) := List.take_of_length_le (by rw [rowsB, List.length_map, ldL_len]; omega)
              have htk2 : List.take (outs g.edges i).length (rowsI (sorted (outs g.edges i))) = rowsI (sorted (outs g.edges i)) := List.take_of_length_le (by rw [rowsI, List.length_map, sorted_len]; exact Nat.le_refl _)
              refine call0s [304, 64, 56, 152] hcc (by
                simp [Function.comp_def]
                exact ⟨htk2, by rw [if_pos hLl]; exact congrArg _ htk⟩) (.sc _) ?_
              simp [hc]
              exact ⟨rfl, Le.keep rfl (Nat.le_refl _) (by simp) (by simp)⟩
            · have hbq : (dist g S i == (K : Int) - 1 - j) = false := by simp [hd]
              have hdc : decide (dist g S i = (K : Int) - ((j : Int) + 1)) = false := by simp; omega
              rw [hdc, Bool.false_and] at hc
              simp [E, hget, hbq, hc]
              exact ⟨rfl, Le.keep rfl (Nat.le_refl _) (by simp) (by simp)⟩
          have hdrop : (rowsB (ldL g S key j i)).length = N := by rw [rowsB, List.length_map, ldL_len, hNe]
          refine awp_cond _ rfl (fun h5 => ?_) fun h5 => awp_skip ?_
          · rw [h5, Bool.or_true] at hon
            rw [hon] at hstep
            refine awp_reg rfl ?_
            simp only [E]
            simp [h2]
            have hrow := ldL_get (g := g) (S := S) (key := key) j i (k := i) (by omega)
            refine ⟨[AV.B (if i < i then onb g S key (j + 1) i else onb g S key j i)], ?_, by simp, ?_⟩
            · rw [hrow]
              cases (if i < i then onb g S key (j + 1) i else onb g S key j i) <;> simp
            · exact Le.ents [(64, 64), (56, 56), (152, 152)] [] rfl (by simp) (by simp) (by simp) (by simp) (by simp) (by simp) fun p hp => by
                simp at hp
                rcases hp with rfl | rfl | rfl
                · exact ⟨64, _, _, rfl, by simp, rfl, EntUp.eq (by simp) (by simp)⟩
                · exact ⟨56, _, _, rfl, by simp, rfl, EntUp.eq (by
                    show convE _ _ _ _ ⟨1, (rowsB (ldL g S key j i)).set i [AV.B true], 0⟩ = _
                    rw [← hstep]
                    simp only [convE, hflat]) (by simp)⟩
                · exact ⟨152, _, _, rfl, by simp, rfl, EntUp.eq (by simp) (by simp)⟩
          · rw [h5, Bool.or_false] at hon
            have hsame : ldL g S key j (i + 1) = ldL g S key j i := by
              unfold ldL
              refine List.map_congr_left fun k hk => ?_
              by_cases hki : k = i
              · subst hki
                rw [if_pos (by omega), if_neg (by omega), hon]
              · by_cases hlt : k < i
                · rw [if_pos (by omega), if_pos hlt]
                · rw [if_neg (by omega), if_neg hlt]
            refine ⟨(), trivial, ?_⟩
            show Le 0 _ ⟨110, _, [(64, some ⟨1, [[.rs 56 0 N]], 0⟩), (56, some ⟨1, rowsB (ldL g S key j (i + 1)), 0⟩), (152, some ⟨1, [[.I ((K : Int) - 1 - j)]], 0⟩)], 208⟩
            rw [hsame]
            exact Le.ents [(64, 64), (56, 56), (152, 152)] [] rfl (by simp) (by simp) (by simp) (by simp) (by simp) (by simp) fun p hp => by
              simp at hp
              rcases hp with rfl | rfl | rfl
              · exact ⟨64, _, _, rfl, by simp, rfl, EntUp.eq (by simp) (by simp)⟩
              · exact ⟨56, _, _, rfl, by simp, rfl, EntUp.eq (by simp only [convE, hflat]) (by simp)⟩
              · exact ⟨152, _, _, rfl, by simp, rfl, EntUp.eq (by simp) (by simp)⟩
        have hwi : IntKind.i64.wrap ((i : Int) + 1) = ((i + 1 : Nat) : Int) := by rw [w64 (by omega) (by omega)]; omega
        refine awp_reg rfl ?_
        simp [hwi, E]
        refine ⟨i + 1, by omega, by omega, ?_⟩
        exact Le.ents [(64, 64), (56, 56), (152, 152)] [] rfl (by simp) (by simp) (by simp) (by simp) (by simp) (by simp) fun p hp => by
          simp at hp
          rcases hp with rfl | rfl | rfl
          · exact ⟨64, _, _, rfl, by simp, rfl, EntUp.eq (by simp) (by simp)⟩
          · exact ⟨56, _, _, rfl, by simp, rfl, EntUp.eq (by simp only [convE, hflat]) (by simp)⟩
          · exact ⟨152, _, _, rfl, by simp, rfl, EntUp.eq (by simp) (by simp)⟩
      simp only [decide_eq_false_iff_not] at h2
      obtain rfl : i = N := by omega
      refine ⟨(), trivial, ?_⟩
      exact Le.ents [(64, 64), (56, 56), (152, 152)] [] rfl (by simp) (by simp) (by simp) (by simp) (by simp) (by simp) fun p hp => by
        simp at hp
        rcases hp with rfl | rfl | rfl
        · exact ⟨64, _, _, rfl, by simp, rfl, EntUp.eq (by simp) (by simp)⟩
        · exact ⟨56, _, _, rfl, by simp, rfl, EntUp.eq (by simp only [convE, hflat]) (by simp)⟩
        · exact ⟨152, _, _, rfl, by simp, rfl, EntUp.eq (by simp) (by simp)⟩
    have hwj : IntKind.i64.wrap ((K : Int) - 1 - j - 1) = (K : Int) - 1 - ((j + 1 : Nat) : Int) := by rw [w64 (by omega) (by omega)]; omega
    refine awp_cut (ι := Unit) (fun _ => ⟨110, [(2, .I kk), (3, .pv (gC g)), (8, .pv [ints D]), (9, .pt 64 0 0), (10, .pt 192 0 0)], [(64, some ⟨1, [[.rs 56 0 N]], 0⟩), (56, some ⟨1, rowsB (ldL g S key (j + 1) 0), 0⟩), (192, some ⟨1, [[.I ((K : Int) - 1 - j)]], 0⟩)], 208⟩) (fun _ => True) ?_ fun _ _ => ?_
    · refine awp_regc ⟨110, [(2, .I kk), (3, .pv (gC g)), (8, .pv [ints D]), (9, .pt 64 0 0), (68, .I ((K : Int) - 1 - j))], [(64, some ⟨1, [[.rs 56 0 N]], 0⟩), (56, some ⟨1, rowsB (ldL g S key (j + 1) 0), 0⟩)], 192⟩ rfl ?_ ?_
      · simp
        exact Le.keep rfl (Nat.le_refl _) (by simp) (by simp)
      refine awp_reg rfl ?_
      simp [splice]
      exact Le.keep rfl (Nat.le_refl _) (by simp) (by simp)
    refine awp_reg rfl ?_
    simp [hwj, splice]
    refine ⟨j + 1, by omega, by omega, ?_⟩
    exact Le.ents [(64, 64), (56, 56), (192, 152)] [] rfl (by simp) (by simp) (by simp [E]) (by simp) (by simp [E]) (by simp [E]) fun p hp => by
      simp [E] at hp
      rcases hp with rfl | rfl | rfl
      · exact ⟨64, _, _, rfl, by simp, rfl, EntUp.eq (by simp) (by simp)⟩
      · exact ⟨56, _, _, rfl, by simp, rfl, EntUp.eq (by simp only [convE, hflat]) (by simp)⟩
      · exact ⟨192, _, _, rfl, by simp, rfl, EntUp.eq (by simp) (by simp)⟩
  simp only [decide_eq_false_iff_not] at h
  obtain rfl : j = K := by omega
  -- the first key
  have hKt : (dist g S key).toNat = j := by rw [hK]; rfl
  have hmk : ldL g S key j 0 = mkL g S key := by rw [mkL, hKt]
  obtain ⟨L, hL⟩ : ∃ L, L = mkL g S key := ⟨_, rfl⟩
  have hLg : ∀ k : Nat, k < N → L[k]? = some (onF g S key k) := fun k hk => by rw [hL]; exact mkL_get (by omega)
  have hLl : L.length = N := by rw [hL, mkL_len, hNe]
  obtain ⟨a0, ha0, ha1⟩ := idx_first hg hkey h0
  rw [← hD] at ha0
  have hat0 := atW_spec hg hkey h0 0 (by simpa using h0)
  have hmin := first_min hg hkey h0
  obtain ⟨A, hA⟩ : ∃ A : Nat, atW g S key 0 = A := ⟨(atW g S key 0).toNat, by have := hat0.1.1; omega⟩
  rw [hA] at hat0 hmin ha1
  have hAN : A < N := by have := hat0.1.2; omega
  have ha01 : a0 ≤ A := by omega
  have hix := IndexFuncI_ok ndistance_Way_c2 [] (fun x => decide (x = 0)) D (by omega) (fun ρ sn h n => by simp) fun e _ => Way_c2_ok e
  rw [ha0] at hix
  have htkL : List.take N (rowsB L) = rowsB L := List.take_of_length_le (by rw [rowsB, List.length_map]; omega)
  refine awp_regc ⟨110, [(2, .I kk), (3, .pv (gC g)), (8, .pv [ints D]), (9, .pv [bools L]), (12, .pt 200 0 0)], [(200, some ⟨1, [[.I a0]], 0⟩)], 216⟩ rfl ?_ ?_
  · simp only [E, hmk, ← hL]
    simp
    refine call0e hix rfl ?_
    simp [splice]
    exact Le.var1 200 [64, 56] rfl rfl (by simp) (by simp) rfl (by simp) (by simp) (by simp [Function.comp_def, ← hLl, take_map_len])
  refine awp_seq ?_
  refine awp_block ?_
  refine awp_loop (ι := Nat) (fun a => ⟨110, [(2, .I kk), (3, .pv (gC g)), (8, .pv [ints D]), (9, .pv [bools L]), (12, .pt 200 0 0)], [(200, some ⟨1, [[.I a]], 0⟩)], 216⟩) (fun a => a ≤ A) (fun a => A - a) a0 ha01 (Le.refl _ _) ?_
  intro a ha
  have haD := hDg a (by omega)
  have haL := hLg a (by omega)
  have hcond : (decide (dist g S a ≠ 0) || !onF g S key a) = decide (a < A) := by
    rcases Nat.lt_or_ge a A with hlt | hge
    · have := hmin a (by omega) (by omega)
      rw [decide_eq_true hlt]
      rw [Bool.and_eq_false_iff] at this
      rcases this with h5 | h5
      · rw [h5]; simp
      · simp at h5; simp [h5]
    · obtain rfl : a = A := by omega
      rw [decide_eq_false (by omega), hat0.2.1]
      have : dist g S a = 0 := by rw [hat0.2.2]; rfl
      simp [this]
  refine awp_seq ?_
  refine awp_regc ⟨110, [(2, .I kk), (3, .pv (gC g)), (8, .pv [ints D]), (9, .pv [bools L]), (12, .pt 200 0 0), (88, .B (decide (dist g S a ≠ 0) || !onF g S key a))], [(200, some ⟨1, [[.I a]], 0⟩)], 360⟩ rfl ?_ ?_
  · obtain ⟨hal, haDe⟩ := List.getElem?_eq_some_iff.1 haD
    obtain ⟨hal2, haLe⟩ := List.getElem?_eq_some_iff.1 haL
    by_cases hz : dist g S a = 0
    · simp [hDl, haDe, hz, hal2, haLe, show a < N by omega]
      exact Le.keep rfl (Nat.le_refl _) (by simp [hz]) (by simp)
    · have hz2 : (dist g S a != 0) = true := by simp [hz]
      simp [hDl, haDe, hz2, hal2, haLe, show a < N by omega]
      exact Le.keep rfl (Nat.le_refl _) (by simp [hz]) (by simp)
  refine awp_cond _ rfl (fun h6 => awp_skip ?_) fun h6 => awp_exit (hit ?_)
  · rw [hcond] at h6
    simp only [decide_eq_true_eq] at h6
    have hwa : IntKind.i64.wrap ((a : Int) + 1) = ((a + 1 : Nat) : Int) := by rw [w64 (by omega) (by omega)]; omega
    refine awp_block ?_
    refine awp_reg rfl ?_
    simp [hwa, splice]
    exact ⟨a + 1, by omega, by omega, Le.var1 200 [] rfl rfl (by simp) (by simp) rfl (by simp) (by simp) (by simp)⟩
  rw [hcond] at h6
  simp only [decide_eq_false_iff_not] at h6
  obtain rfl : a = A := by omega
  -- the way
  refine awp_regc ⟨110, [(2, .I kk), (3, .pv (gC g)), (8, .pv [ints D]), (9, .pv [bools L]), (12, .pt 200 0 0), (13, .rs 368 0 1)], [(200, some ⟨1, [[.I a]], 0⟩), (368, some ⟨1, rowsI (wayN g S key 1), 0⟩)], 384⟩ rfl ?_ ?_
  · have : wayN g S key 1 = [(a : Int)] := by rw [wayN_succ, hA]; rfl
    rw [this]
    simp
    exact Le.keep rfl (Nat.le_refl _) (by simp) (by simp)
  refine awp_seq ?_
  refine awp_block ?_
  refine awp_loop (ι := Nat) (fun m => ⟨110, [(2, .I kk), (3, .pv (gC g)), (8, .pv [ints D]), (9, .pv [bools L]), (12, .pt 200 0 0), (13, .rs 368 0 (m + 1))], [(200, some ⟨1, [[.I (atW g S key m)]], 0⟩), (368, some ⟨1, rowsI (wayN g S key (m + 1)), 0⟩)], 384⟩) (fun m => m ≤ j) (fun m => j - m) 0 (Nat.zero_le _) (by rw [hA]; exact Le.refl _ _) ?_
  intro m hm
  have hsp := atW_spec hg hkey h0 m (by omega)
  obtain ⟨w, hwe⟩ : ∃ w : Nat, atW g S key m = w := ⟨(atW g S key m).toNat, by have := hsp.1.1; omega⟩
  have hwlen : (wayN g S key (m + 1)).length = m + 1 := by simp [wayN]
  have hlast : decide ((w : Int) ≠ kk) = decide (m < j) := by
    rcases Nat.lt_or_ge m j with hlt | hge
    · rw [decide_eq_true hlt, decide_eq_true_eq]
      intro e
      rw [hwe, e, ← hkk, hK] at hsp
      have := hsp.2.2
      omega
    · obtain rfl : m = j := by omega
      have := atW_last hg hkey h0
      rw [hKt, hwe] at this
      simp
      omega
  rw [hwe]
  refine awp_seq ?_
  refine awp_regc ⟨110, [(2, .I kk), (3, .pv (gC g)), (8, .pv [ints D]), (9, .pv [bools L]), (12, .pt 200 0 0), (13, .rs 368 0 (m + 1)), (95, .B (decide ((w : Int) ≠ kk)))], [(200, some ⟨1, [[.I w]], 0⟩), (368, some ⟨1, rowsI (wayN g S key (m + 1)), 0⟩)], 408⟩ rfl ?_ ?_
  · simp
    exact Le.keep rfl (Nat.le_refl _) (by simp <;> rw [Bool.eq_iff_iff] <;> simp) (by simp)
  refine awp_cond _ rfl (fun h7 => awp_skip ?_) fun h7 => awp_exit (hit ?_)
  · rw [hlast] at h7
    simp only [decide_eq_true_eq] at h7
    have hwN : w < N := by have := hsp.1.2; rw [hwe] at this; omega
    have hol := outs_le g.edges w
    have hwd : dist g S w = m := by rw [← hwe]; exact hsp.2.2
    have hc3 := index_c3 (key := key) hg (a := w) (m := m) (by omega) hwd (by omega)
    rw [← hL, ← hD] at hc3
    obtain ⟨ix, hixl, hixe, hixn⟩ := idx_next hg hkey h0 (m := m) (by omega)
    simp only [hwe] at hixl hixe hixn
    rw [← hL, ← hD] at hixe
    rw [hixe] at hc3
    obtain ⟨w', hw'⟩ : ∃ w', w' = atW g S key (m + 1) := ⟨_, rfl⟩
    rw [← hw'] at hixn
    obtain ⟨O, hO⟩ : ∃ O, O = sorted (outs g.edges w) := ⟨_, rfl⟩
    have hOl : O.length = (outs g.edges w).length := by rw [hO, sorted_len]
    simp only [← hO] at hixl hixn hc3
    have hOix : O[ix]? = some w' := by rw [List.getElem?_eq_getElem hixl, hixn]
    refine awp_block ?_
    refine awp_regc ⟨110, [(2, .I kk), (3, .pv (gC g)), (8, .pv [ints D]), (9, .pv [bools L]), (12, .pt 200 0 0), (13, .rs 368 0 (m + 1)), (14, ints O)], [(200, some ⟨1, [[.I w]], 0⟩), (368, some ⟨1, rowsI (wayN g S key (m + 1)), 0⟩)], 440⟩ rfl ?_ ?_
    · simp
      refine callN1 (graph_Out_ok g w (by omega)) rfl ?_
      simp [Function.comp_def]
      refine Le.ents [(200, 200), (368, 368)] [424] rfl (by simp) (by simp) (by simp) (by simp) (by simp) (by simp [Function.comp_def, hO, take_map_len, sorted_len]; exact wkE (congrArg _ (List.take_of_length_le (by rw [List.length_map]; exact Nat.le_of_eq (sorted_len _))))) fun p hp => ?_
      simp at hp
      rcases hp with rfl | rfl
      · exact ⟨200, _, _, rfl, by simp, rfl, EntUp.eq (by simp) (by simp)⟩
      · exact ⟨368, _, _, rfl, by simp, rfl, EntUp.eq (by simp [Function.comp_def]) (by simp)⟩
    refine awp_regc ⟨110, [(2, .I kk), (3, .pv (gC g)), (8, .pv [ints D]), (9, .pv [bools L]), (12, .pt 200 0 0), (13, .rs 368 0 (m + 1))], [(200, some ⟨1, [[.I w']], 0⟩), (368, some ⟨1, rowsI (wayN g S key (m + 1)), 0⟩)], 496⟩ rfl ?_ ?_
    · simp
      refine call0s [200] hc3 (by simp) (.sc _) ?_
      simp [hOix, hixl, hixn, splice]
      exact Le.keep rfl (Nat.le_refl _) (by simp) (by simp)
    have hrows : List.take (m + 1) (rowsI (wayN g S key (m + 1))) ++ [[AV.I w']] = rowsI (wayN g S key (m + 1 + 1)) := by
      rw [List.take_of_length_le (by rw [rowsI, List.length_map, hwlen]; exact Nat.le_refl _), wayN_succ (m + 1), hw']
      simp
    refine awp_reg rfl ?_
    simp
    refine ⟨by omega, by omega, by omega, m + 1, by omega, by omega, ?_⟩
    rw [← hw']
    refine Le.ents [(200, 200), (520, 368)] [] rfl (by simp) (by simp) (by simp) (by simp) (by simp) (by simp) fun p hp => ?_
    simp at hp
    rcases hp with rfl | rfl
    · exact ⟨200, _, _, rfl, by simp, rfl, EntUp.eq (by simp) (by simp)⟩
    · exact ⟨520, _, _, rfl, by simp, rfl, EntUp.eq (by
        show convE _ _ _ _ ⟨1, List.take (m + 1) (rowsI (wayN g S key (m + 1))) ++ [[AV.I w']], 0⟩ = _
        rw [hrows]
        simp [Function.comp_def]) (by simp)⟩
  rw [hlast] at h7
  simp only [decide_eq_false_iff_not] at h7
  obtain rfl : m = j := by omega
  refine awp_seq ?_
  refine awp_run (s := ?z9) rfl ?p9 ?r9
  case p9 => simp; rfl
  refine awp_ret ?_
  have hwl : wayL g S key = wayN g S key (m + 1) := by rw [wayL, hKt]
  rw [hwl, hwlen]
  exact ⟨.inr rfl, RetOk.out [368] [] rfl (by simp) (by simp) (by simp) (by simp [Function.comp_def])⟩

end Go.Proofs.Ytnphfkceoklkkaa

/- The law's own waking: one known graph. -/
namespace Go.Proofs.Ytnphfkceoklkkaa
open Go

abbrev gW : Gr := ⟨4, [⟨0, 2, 1⟩, ⟨2, 1, 1⟩], []⟩

theorem gW_ok : GrOk gW := by
  refine ⟨⟨by decide, by decide, by decide, fun i h => absurd h (by simp)⟩, fun i h => ?_⟩
  have hi : i = 0 ∨ i = 1 := by simp at h; omega
  rcases hi with rfl | rfl
  · refine ⟨?_, ?_, ?_, fun h => by omega⟩
    · show Fits gW ⟨0, 2, 1⟩
      decide
    · show (1 : Int) ≤ 1
      decide
    · show (1 : Int) ≤ 3
      decide
  · refine ⟨?_, ?_, ?_, fun h => ?_⟩
    · show Fits gW ⟨2, 1, 1⟩
      decide
    · show (1 : Int) ≤ 1
      decide
    · show (1 : Int) ≤ 3
      decide
    · show cmpE ⟨0, 2, 1⟩ ⟨2, 1, 1⟩ < 0
      decide

theorem distL_W : distL gW [0] = [0, 2, 1, -1] := by decide
theorem dist_W : dist gW [0] 1 = 2 := by decide
theorem ordL_W : ordL gW [0] = [0, 2, 1] := by decide

abbrev aW : AV := .agg [.I 4, eEs [⟨0, 2, 1⟩, ⟨2, 1, 1⟩], .nilS]

theorem All_W : ACalls Try.prog ndistance_All [aW, ints [0]] [] (.rs 0 0 4) [some ⟨1, rowsI [0, 2, 1, -1], 0⟩] := by
  have h := distance_All_ok gW [0] gW_ok (by simp)
  rw [distL_W] at h
  refine acalls_wk (ys := [eG gW, ints [0]]) rfl (fun i hi => ?_) h
  match i with
  | 0 => exact wkA3 (.refl _) (.refl _) (.nil _ _)
  | 1 => exact .refl _
  | n + 2 => exact absurd hi (by simp)

theorem Order_W : ACalls Try.prog ndistance_Order [aW, ints [0]] [] (.rs 0 0 3) [some ⟨1, rowsI [0, 2, 1], 0⟩] := by
  have h := distance_Order_ok (S := [0]) gW_ok (by decide) (by simp)
  rw [ordL_W] at h
  refine acalls_wk (ys := [eG gW, ints [0]]) rfl (fun i hi => ?_) h
  match i with
  | 0 => exact wkA3 (.refl _) (.refl _) (.nil _ _)
  | 1 => exact .refl _
  | n + 2 => exact absurd hi (by simp)

theorem wayL_len (g : Gr) (S : List Int) (key : Int) : (wayL g S key).length = (dist g S key).toNat + 1 := by simp [wayL, wayN]

theorem Way_W : ACalls Try.prog ndistance_Way [aW, ints [0], .I 1] [] (.tup [.rs 0 0 3, .B true]) [some ⟨1, rowsI (wayL gW [0] 1), 0⟩] := by
  have h := Way_yes (S := [0]) (key := 1) gW_ok (by simp) ⟨by decide, by decide⟩ (by rw [dist_W]; decide)
  have hl : (wayL gW [0] 1).length = 3 := by rw [wayL_len, dist_W]; rfl
  rw [hl] at h
  refine acalls_wk (ys := [eG gW, ints [0], .I 1]) rfl (fun i hi => ?_) h
  match i with
  | 0 => exact wkA3 (.refl _) (.refl _) (.nil _ _)
  | 1 => exact .refl _
  | 2 => exact .refl _
  | n + 3 => exact absurd hi (by simp)

set_option maxRecDepth 100000 in
theorem law12_awake_ok : ACalls Try.prog nlaw12_awake [] [] (.B true) [] := by
  refine slaw12_awake.acalls (Nat.le_of_ble_eq_true rfl) (Nat.le_of_ble_eq_true rfl) (Nat.le_refl _) ?_
  show awp _ 0 _ _ ⟨62, [], [], 16⟩
  have hwl : (wayL gW [0] 1).length = 3 := by rw [wayL_len, dist_W]; rfl
  refine awp_seq ?_
  refine awp_run (s := ?s1) rfl ?o1 ?q1
  case o1 => simp; rfl
  refine awp_regc ⟨62, [(1, .pv [.I 4, eEs [⟨0, 2, 1⟩, ⟨2, 1, 1⟩], .nilS])], [], 72⟩ rfl ?_ ?_
  · simp [splice]
    exact Le.snap [56, 40] rfl rfl (by simp; exact .refl _)
  refine awp_regc ⟨62, [(1, .pv [.I 4, eEs [⟨0, 2, 1⟩, ⟨2, 1, 1⟩], .nilS]), (2, ints [0, 2, 1, -1])], [], 104⟩ rfl ?_ ?_
  · simp
    refine callN1r [80] All_W (by simp) (.rs _ _ _) plainI ?_
    simp
    exact Le.snap [88] rfl rfl (by simp; exact .refl _)
  refine awp_regc ⟨62, [(1, .pv [.I 4, eEs [⟨0, 2, 1⟩, ⟨2, 1, 1⟩], .nilS]), (2, ints [0, 2, 1, -1]), (3, ints [0, 2, 1])], [], 136⟩ rfl ?_ ?_
  · simp
    refine callN1r [112] Order_W (by simp) (.rs _ _ _) plainI ?_
    simp
    exact Le.snap [120] rfl rfl (by simp; exact ⟨.refl _, .refl _⟩)
  refine awp_regc ⟨62, [(2, ints [0, 2, 1, -1]), (3, ints [0, 2, 1]), (4, ints (wayL gW [0] 1)), (5, .B true)], [], 200⟩ rfl ?_ ?_
  · simp
    refine callN1r [144] Way_W (by simp) (.tup _ fun i => match i with | 0 => .rs _ _ _ | 1 => .sc _ | _ + 2 => .dead) plainI ?_
    simp [Function.comp_def]
    exact Le.snap [152] rfl rfl (by simp [Function.comp_def]; exact ⟨.refl _, .refl _, by rw [if_pos (by omega), List.take_of_length_le (by rw [List.length_map]; omega)]; exact .refl _⟩)
  refine awp_regc ⟨62, [(0, .B true)], [], 528⟩ rfl ?_ ?_
  · simp [hwl]
    exact Le.snap [] rfl rfl (by simp)
  refine awp_ret ?_
  exact ⟨.inr rfl, RetOk.one (by simp)⟩

end Go.Proofs.Ytnphfkceoklkkaa

/- Some keys, by the dice. -/
namespace Go.Proofs.Ytnphfkceoklkkaa
open Go

/-- Which of the first m keys the dice take, and where the dice stand then. -/
def someD (L : List Int) (a : Nat) : Nat → List Int × Nat
  | 0 => ([], a)
  | m + 1 => (if (nextD L (someD L a m).2 3).1 = 0 then (someD L a m).1 ++ [(m : Int)] else (someD L a m).1, (nextD L (someD L a m).2 3).2)

theorem someD_le {L : List Int} {a : Nat} (ha : a ≤ L.length) : ∀ m, (someD L a m).2 ≤ L.length
  | 0 => ha
  | m + 1 => nextD_le (someD_le ha m)

theorem someD_len {L : List Int} {a : Nat} : ∀ m, (someD L a m).1.length ≤ m
  | 0 => Nat.le_refl _
  | m + 1 => by
    have := someD_len (L := L) (a := a) m
    unfold someD
    simp only
    split
    · rw [List.length_append]; simp; omega
    · omega

theorem RetOk.k1n {rs : List (Nat × Option (Bool × Nat))} {st : St} {vs : List AV} {res : AV} {e0 e : Ent} (i : Nat) (hi : 1 ≤ i) (h1 : resAll st rs = some vs) (hw : Wk (conv [(0, 0), (i, 1)] [] st.hp 4 (resV vs)) res) (h0 : (st.hp 0).map (convE [(0, 0), (i, 1)] [] st.hp 4) = some e0) (he : (st.hp i).map (convE [(0, 0), (i, 1)] [] st.hp 4) = some e) : RetOk rs 1 st res [some e0, some e] :=
  ⟨vs, h1, [i], [], by simp [List.range, List.range.loop]; omega, by simpa using hi, by simp, by simpa [List.range, List.range.loop] using hw, by simpa [List.range, List.range.loop] using ⟨by simpa using h0, by simpa using he⟩⟩

set_option maxRecDepth 100000 in
theorem Some_ok (L : List Int) (a N : Nat) (hl : L.length ≤ 400) (ha : a ≤ L.length) (hN : N ≤ 1000) : ACalls Try.prog nmade_Dice_Some [.pt 0 0 0, .I N] [dice L a] (.rs 1 0 (someD L a N).1.length) [some (dice L (someD L a N).2), some ⟨1, rowsI (someD L a N).1, 0⟩] := by
  refine smade_Dice_Some.acalls (Nat.le_of_ble_eq_true rfl) (Nat.le_of_ble_eq_true rfl) (by simp) ?_
  show awp _ 1 _ _ ⟨20, [(0, .pt 0 0 0), (1, .I N)], [(0, some (dice L a))], 16⟩
  refine awp_seq ?_
  refine awp_run (s := ?s1) rfl ?o1 ?q1
  case o1 => simp; rfl
  refine awp_seq ?_
  refine awp_run (s := ?s2) rfl ?o2 ?q2
  case o2 => simp; rfl
  refine awp_seq ?_
  refine awp_seq ?_
  refine awp_run (s := ?s3) rfl ?o3 ?q3
  case o3 => simp; rfl
  refine awp_block ?_
  refine awp_loop (ι := Nat) (fun m => ⟨20, [(0, .pt 0 0 0), (1, .I N), (5, .rs 16 0 (someD L a m).1.length), (6, .I m)], [(0, some (dice L (someD L a m).2)), (16, some ⟨1, rowsI (someD L a m).1, 0⟩)], 40⟩) (fun m => m ≤ N) (fun m => N - m) 0 (Nat.zero_le _) ?_ ?_
  · refine Le.lst [(0, 0)] [] [(16, 1)] rfl (by simp) (by simp) (by simp) (by simp) (by simp) (by simp) (by simp) (by simp [Up, someD]) fun p hp e' he' => ?_
    simp [someD] at hp
    rcases hp with rfl | rfl
    · cases he'
      exact .inl ⟨(0, 0), by simp, rfl, _, rfl, EntUp.eq (by simp [Function.comp_def]) (by simp)⟩
    · cases he'
      exact .inr ⟨by simp, by simp, rfl⟩
  intro m hm
  have hle := someD_le (L := L) ha m
  have hlen := someD_len (L := L) (a := a) m
  have hnx := Next1_ok L (someD L a m).2 3 hl hle (by omega)
  obtain ⟨X, hX⟩ : ∃ X, X = (someD L a m).1 := ⟨_, rfl⟩
  obtain ⟨b, hb⟩ : ∃ b, b = (someD L a m).2 := ⟨_, rfl⟩
  have hs1 : someD L a (m + 1) = (if (nextD L b 3).1 = 0 then X ++ [(m : Int)] else X, (nextD L b 3).2) := by rw [hX, hb]; rfl
  rw [← hX] at hlen
  rw [← hb] at hle hnx
  rw [← hX, ← hb]
  refine awp_seq ?_
  refine awp_regc ⟨20, [(0, .pt 0 0 0), (1, .I N), (5, .rs 16 0 X.length), (6, .I m), (9, .B (decide (m < N)))], [(0, some (dice L b)), (16, some ⟨1, rowsI X, 0⟩)], 64⟩ rfl ?_ ?_
  · simp
    exact Le.keep rfl (Nat.le_refl _) (by simp) (by simp)
  refine awp_cond _ rfl (fun h => awp_skip ?_) fun h => awp_exit (hit ?_)
  · simp only [decide_eq_true_eq] at h
    have hwm : IntKind.i64.wrap ((m : Int) + 1) = ((m + 1 : Nat) : Int) := by rw [w64 (by omega) (by omega)]; omega
    refine awp_cut (ι := Unit) (fun _ => ⟨20, [(0, .pt 0 0 0), (1, .I N), (5, .rs 16 0 (someD L a (m + 1)).1.length), (6, .I m)], [(0, some (dice L (someD L a (m + 1)).2)), (16, some ⟨1, rowsI (someD L a (m + 1)).1, 0⟩)], 64⟩) (fun _ => True) ?_ fun _ _ => ?_
    · refine awp_block ?_
      refine awp_regc ⟨20, [(0, .pt 0 0 0), (1, .I N), (5, .rs 16 0 X.length), (6, .I m), (14, .B (decide ((nextD L b 3).1 = 0)))], [(0, some (dice L (nextD L b 3).2)), (16, some ⟨1, rowsI X, 0⟩)], 88⟩ rfl ?_ ?_
      · simp
        refine callM1 (i := 0) rfl (e' := dice L b) (by simp [Function.comp_def]) hnx (by simp) (by simp) ?_
        simp [Function.comp_def]
        exact Le.keep rfl (Nat.le_refl _) (by simp <;> rw [Bool.eq_iff_iff] <;> simp) (by simp)
      refine awp_cond _ rfl (fun h2 => ?_) fun h2 => awp_skip ?_
      · simp only [decide_eq_true_eq] at h2
        rw [if_pos h2] at hs1
        rw [hs1]
        refine awp_reg rfl ?_
        simp
        refine ⟨by omega, by omega, ?_⟩
        refine Le.ents [(0, 0), (112, 16)] [] rfl (by simp) (by simp) (by simp) (by simp) (by simp) (by simp) fun p hp => ?_
        simp at hp
        rcases hp with rfl | rfl
        · exact ⟨0, _, _, rfl, by simp, rfl, EntUp.eq (by simp [Function.comp_def]) (by simp)⟩
        · exact ⟨112, _, _, rfl, by simp, rfl, EntUp.eq (by simp [Function.comp_def]; try rw [List.take_of_length_le (by simp)]) (by simp)⟩
      · simp only [decide_eq_false_iff_not] at h2
        rw [if_neg h2] at hs1
        rw [hs1]
        refine ⟨(), trivial, ?_⟩
        show Le 1 _ ⟨20, [(0, .pt 0 0 0), (1, .I N), (5, .rs 16 0 X.length), (6, .I m)], [(0, some (dice L (nextD L b 3).2)), (16, some ⟨1, rowsI X, 0⟩)], 64⟩
        refine Le.ents [(0, 0), (16, 16)] [] rfl (by simp) (by simp) (by simp) (by simp) (by simp) (by simp) fun p hp => ?_
        simp at hp
        rcases hp with rfl | rfl
        · exact ⟨0, _, _, rfl, by simp, rfl, EntUp.eq (by simp [Function.comp_def]) (by simp)⟩
        · exact ⟨16, _, _, rfl, by simp, rfl, EntUp.eq (by simp [Function.comp_def]) (by simp)⟩
    refine awp_reg rfl ?_
    simp [hwm]
    refine ⟨m + 1, by omega, by omega, ?_⟩
    refine Le.ents [(0, 0), (16, 16)] [] rfl (by simp) (by simp) (by simp) (by simp) (by simp) (by simp) fun p hp => ?_
    simp at hp
    rcases hp with rfl | rfl
    · exact ⟨0, _, _, rfl, by simp, rfl, EntUp.eq (by simp [Function.comp_def]) (by simp)⟩
    · exact ⟨16, _, _, rfl, by simp, rfl, EntUp.eq (by simp [Function.comp_def]) (by simp)⟩
  simp only [decide_eq_false_iff_not] at h
  obtain rfl : m = N := by omega
  refine awp_seq ?_
  refine awp_run (s := ?z9) rfl ?p9 ?r9
  case p9 => simp; rfl
  refine awp_ret ?_
  rw [← hX, ← hb]
  exact ⟨.inr rfl, RetOk.k1n 16 (by simp) rfl (by simp) (by simp [Function.comp_def]) (by simp [Function.comp_def])⟩

end Go.Proofs.Ytnphfkceoklkkaa

/- DistanceOrder: the program's contract. -/
namespace Go.Proofs.Ytnphfkceoklkkaa
open Go
variable {g : Gr} {S : List Int}

/-- Does a key before the i-th have an edge to x, and lie one nearer? -/
def brG (g : Gr) (S O : List Int) (x : Int) : Nat → Bool
  | 0 => decide (dist g S x = 0)
  | i + 1 => brG g S O x i || (decide (dist g S (O[i]?.getD 0) = dist g S x - 1) && (outs g.edges (O[i]?.getD 0)).contains x)

theorem brG_of {O : List Int} {x : Int} : ∀ {n i : Nat}, i < n → (dist g S (O[i]?.getD 0) = dist g S x - 1 ∧ x ∈ outs g.edges (O[i]?.getD 0)) → brG g S O x n = true
  | n + 1, i, h, hh => by
    rw [brG, Bool.or_eq_true]
    rcases Nat.lt_or_ge i n with h1 | h1
    · exact .inl (brG_of h1 hh)
    · obtain rfl : i = n := by omega
      right
      simp [hh.1, hh.2]

theorem brG_zero {O : List Int} {x : Int} (h : dist g S x = 0) : ∀ n, brG g S O x n = true
  | 0 => by simp [brG, h]
  | n + 1 => by rw [brG, brG_zero h n]; rfl

theorem mem_ordL (hg : GrOk g) {x : Int} : x ∈ ordL g S ↔ Key g x ∧ 0 ≤ dist g S x := by
  have hsz := hg.1.1
  unfold ordL
  rw [mem_ordN]
  constructor
  · rintro ⟨h1, h2, h3⟩
    exact ⟨⟨h1.1, by omega⟩, h2⟩
  · rintro ⟨h1, h2⟩
    refine ⟨⟨h1.1, by have := h1.2; omega⟩, h2, ?_⟩
    rcases dist_lt (S := S) hg h1 with h | h
    · omega
    · have := h1.1; have := h1.2; omega

theorem ordL_br (hg : GrOk g) {at_ : Nat} (h : at_ < (ordL g S).length) : brG g S (ordL g S) (ordL g S)[at_] at_ = true := by
  have hm := (mem_ordL hg).1 (List.getElem_mem h)
  obtain ⟨x, hx⟩ : ∃ x, x = (ordL g S)[at_] := ⟨_, rfl⟩
  rw [← hx] at hm ⊢
  by_cases h0 : dist g S x = 0
  · exact brG_zero h0 _
  obtain ⟨n, hn⟩ : ∃ n : Nat, dist g S x = (n : Int) + 1 := ⟨(dist g S x - 1).toNat, by have := hm.2; omega⟩
  obtain ⟨e, he, h4, h5⟩ := dist_pred hg hn
  have hf := hg.fits e he
  have hme : e.f ∈ ordL g S := (mem_ordL hg).2 ⟨⟨hf.1, by have := hf.2.1; omega⟩, by omega⟩
  obtain ⟨i, hi, hie⟩ := List.mem_iff_getElem.1 hme
  have hget : (ordL g S)[i]?.getD 0 = e.f := by rw [List.getElem?_eq_getElem hi, hie]; rfl
  have hia : i < at_ := by
    rcases Nat.lt_trichotomy i at_ with h1 | h1 | h1
    · exact h1
    · subst h1
      rw [hie] at hx
      rw [hx] at hn
      omega
    · have := List.pairwise_iff_getElem.1 (ordN_pair (g := g) (S := S) g.size.toNat) at_ i h hi h1
      have e1 : (ordN g S g.size.toNat)[at_] = x := hx.symm
      have e2 : (ordN g S g.size.toNat)[i] = e.f := hie
      rw [e1, e2] at this
      unfold Lt at this
      omega
  exact brG_of hia ⟨by rw [hget]; omega, by rw [hget]; exact mem_outs.2 ⟨e, he, rfl, h4⟩⟩

theorem ordL_prev {at_ : Nat} (h : at_ + 1 < (ordL g S).length) : Lt g S (ordL g S)[at_] (ordL g S)[at_ + 1] :=
  List.pairwise_iff_getElem.1 (ordN_pair (g := g) (S := S) g.size.toNat) at_ (at_ + 1) (by unfold ordL at h; omega) h (Nat.lt_succ_self _)

set_option maxHeartbeats 8000000 in
set_option maxRecDepth 100000 in
theorem law12_DistanceOrder_ok (L : List Int) : ACalls Try.prog nlaw12_DistanceOrder [ints L] [] (.B true) [] := by
  refine slaw12_DistanceOrder.acalls (Nat.le_of_ble_eq_true rfl) (Nat.le_of_ble_eq_true rfl) (Nat.le_refl _) ?_
  show awp _ 0 _ _ ⟨173, [(0, ints L)], [], 16⟩
  refine awp_seq ?_
  refine awp_run (s := ?s1) rfl ?o1 ?q1
  case o1 => simp; rfl
  refine awp_seq ?_
  refine awp_regc ⟨173, [(0, ints L), (13, .B (decide (¬ L.length ≤ 400)))], [], 48⟩ rfl ?_ ?_
  · simp
    refine call0e (Light_ok L) rfl ?_
    simp
    exact Le.snap [] rfl rfl (by simp <;> exact wkB (by rw [Bool.eq_iff_iff]; simp))
  refine awp_cond _ rfl (fun h => ?_) fun h => awp_skip ?_
  · refine awp_seq ?_
    refine awp_run (s := ?s2) rfl ?o2 ?q2
    case o2 => simp; refine call0e (law12_awake_ok) rfl ?_; simp; rfl
    refine awp_ret ?_
    exact ⟨.inr rfl, RetOk.one (by simp)⟩
  have hl : L.length ≤ 400 := by simpa using h
  have hm := graphD_made L 0 (Nat.zero_le _)
  obtain ⟨g, hg⟩ : ∃ g, g = (graphD L 0).1 := ⟨_, rfl⟩
  obtain ⟨a, ha⟩ : ∃ a, a = (graphD L 0).2 := ⟨_, rfl⟩
  have hok := hm.ok
  have hlo := hm.lo
  have hhi := hm.hi
  have h500 := hok.1.2.2.1
  have hal := hm.at_
  rw [← hg] at hok hlo hhi h500
  rw [← ha] at hal
  have hgr := Graph_ok L 0 hl (Nat.zero_le _)
  rw [← hg, ← ha] at hgr
  clear hm
  obtain ⟨N, hN⟩ : ∃ N : Nat, g.size = N := ⟨g.size.toNat, by omega⟩
  have hsome := Some_ok L a N hl hal (by omega)
  have hsl := someD_len (L := L) (a := a) N
  rw [← hN] at hsome
  obtain ⟨S, hS⟩ : ∃ S, S = (someD L a N).1 := ⟨_, rfl⟩
  rw [← hS] at hsome hsl
  have hO := distance_Order_ok (S := S) hok (by omega) (by omega)
  have hD := distance_All_ok g S hok (by omega)
  have hOm := fun x => mem_ordL (S := S) (x := x) hok
  have hOp := fun i h => ordL_prev (g := g) (S := S) (at_ := i) h
  have hOb := fun i h => ordL_br (S := S) hok (at_ := i) h
  have hDl : (distL g S).length = N := by rw [distL_len]; omega
  have hDg : ∀ k : Nat, k < N → (distL g S)[k]? = some (dist g S k) := fun k hk => by simp [distL, show k < g.size.toNat by omega]
  have hNn : g.size.toNat = N := by omega
  rw [hNn] at hD
  obtain ⟨O, hOe⟩ : ∃ O, O = ordL g S := ⟨_, rfl⟩
  obtain ⟨D, hDe⟩ : ∃ D, D = distL g S := ⟨_, rfl⟩
  rw [← hOe] at hO
  simp only [← hOe] at hOm hOp hOb
  rw [← hDe] at hD hDl
  simp only [← hDe] at hDg
  refine awp_regc ⟨173, [(3, .pt 56 0 0)], [(56, some (dice L 0))], 72⟩ rfl ?_ ?_
  · simp
    refine callN1 (Roll_ok L) rfl ?_
    simp [Function.comp_def]
    exact Le.keep rfl (Nat.le_refl _) (by simp) (by simp)
  refine awp_regc ⟨173, [(3, .pt 56 0 0), (4, .pv (gC g))], [(56, some (dice L a))], 104⟩ rfl ?_ ?_
  · simp
    refine callM1 (i := 56) rfl (e' := dice L 0) (by simp [Function.comp_def]) hgr (by simp) (by simp) ?_
    simp [Function.comp_def]
    exact Le.dc 56 56 [88] rfl rfl (by simp) (by simp) (by simp) (by simp)
  refine awp_regc ⟨173, [(4, .pv (gC g)), (5, ints S)], [], 144⟩ rfl ?_ ?_
  · simp
    refine callM1 (i := 56) rfl (e' := dice L a) (by simp [Function.comp_def]) hsome (by simp) (by simp) ?_
    simp [Function.comp_def]
    exact Le.snap [128] rfl rfl (by simp [Function.comp_def, take_map_len])
  refine awp_dregc ⟨173, [(4, .pv (gC g)), (5, ints S), (6, ints O), (7, ints D)], [], 208⟩ rfl ?_ ?_
  · simp
    refine callN1 hO rfl ?_
    simp [Function.comp_def]
    refine callN1 hD rfl ?_
    simp [Function.comp_def]
    exact ⟨rfl, Le.snap [160, 184] rfl rfl (by simp [Function.comp_def, ← hDl, take_map_len])⟩
  refine awp_seq ?_
  refine awp_regc ⟨173, [(4, .pv (gC g)), (5, ints S), (6, ints O), (7, ints D), (33, .B false)], [], 248⟩ rfl ?_ ?_
  · simp [hDl, hN]
    exact Le.snap [] rfl rfl (by simp)
  refine awp_cond _ rfl (fun h => by cases h) fun _ => awp_skip ?_
  refine awp_seq ?_
  refine awp_seq ?_
  refine awp_run (s := ?s8) rfl ?o8 ?q8
  case o8 => simp; rfl
  refine awp_block ?_
  refine awp_loop (ι := Nat) (fun j => ⟨173, [(4, .pv (gC g)), (5, ints S), (6, ints O), (7, ints D), (8, .I j)], [], 256⟩) (fun j => j ≤ O.length) (fun j => O.length - j) 0 (Nat.zero_le _) ?_ ?_
  · exact Le.snap [] rfl rfl (by simp)
  intro j hj
  have hOl : O.length ≤ 1000000 := by
    have e : isort (cD g S) (whereQ g.size.toNat fun k => decide (0 ≤ dist g S k)) = ordL g S := order_eq hok
    have h1 : O.length = (whereQ g.size.toNat fun k => decide (0 ≤ dist g S k)).length := by
      rw [hOe, ← e]
      unfold isort
      rw [List.length_reverse, isortRev_len]
    have h3 := whereQ_le g.size.toNat fun k => decide (0 ≤ dist g S k)
    omega
  refine awp_seq ?_
  refine awp_regc ⟨173, [(4, .pv (gC g)), (5, ints S), (6, ints O), (7, ints D), (8, .I j), (37, .B (decide (j < O.length)))], [], 288⟩ rfl ?_ ?_
  · simp
    exact Le.snap [] rfl rfl (by simp)
  refine awp_cond _ rfl (fun h2 => awp_skip ?_) fun h2 => awp_exit (hit ?_)
  · simp only [decide_eq_true_eq] at h2
    have hwj : IntKind.i64.wrap ((j : Int) + 1) = ((j + 1 : Nat) : Int) := by rw [w64 (by omega) (by omega)]; omega
    have hbr := hOb j h2
    have hmx := (hOm O[j]).1 (List.getElem_mem h2)
    obtain ⟨x, hx⟩ : ∃ x : Nat, O[j] = x := ⟨O[j].toNat, by have := hmx.1.1; omega⟩
    rw [hx] at hbr hmx
    have hxN : x < N := by have := hmx.1.2; omega
    have hDx := hDg x hxN
    have hOj : O[j]? = some (x : Int) := by rw [List.getElem?_eq_getElem h2, hx]
    obtain ⟨d, hd⟩ : ∃ d : Nat, dist g S x = d := ⟨(dist g S x).toNat, by have := hmx.2; omega⟩
    rw [hd] at hDx
    obtain ⟨hxl, hDxe⟩ := List.getElem?_eq_some_iff.1 hDx
    have hxN2 : ¬ (N : Int) ≤ (x : Int) := by omega
    have hx0 : ¬ (x : Int) < 0 := by omega
    refine awp_cut (ι := Unit) (fun _ => ⟨173, [(4, .pv (gC g)), (5, ints S), (6, ints O), (7, ints D), (8, .I j)], [], 288⟩) (fun _ => True) ?_ fun _ _ => ?_
    · refine awp_block ?_
      refine awp_seq ?_
      refine awp_dregc ⟨173, [(4, .pv (gC g)), (5, ints S), (6, ints O), (7, ints D), (8, .I j), (105, .B false)], [], 816⟩ rfl ?_ ?_
      · by_cases hj0 : j = 0
        · have hj1 : ¬ 0 < j := by omega
          simp [hOj, hx, h2, hN, hx0, hxN2, hj1]
          exact ⟨rfl, Le.snap [] rfl rfl (by simp)⟩
        · obtain ⟨p, hp⟩ : ∃ p, j = p + 1 := ⟨j - 1, by omega⟩
          have hpl : p < O.length := by omega
          have hlt := hOp p (by omega)
          simp only [← hp] at hlt
          rw [hx] at hlt
          have hmy := (hOm O[p]).1 (List.getElem_mem hpl)
          obtain ⟨y, hy⟩ : ∃ y : Nat, O[p] = y := ⟨O[p].toNat, by have := hmy.1.1; omega⟩
          rw [hy] at hmy hlt
          have hyN : y < N := by have := hmy.1.2; omega
          have hDy := hDg y hyN
          obtain ⟨hyl, hDye⟩ := List.getElem?_eq_some_iff.1 hDy
          have hOi : O[p]? = some (y : Int) := by rw [List.getElem?_eq_getElem hpl, hy]
          have hwp : IntKind.i64.wrap ((j : Int) - 1) = (p : Int) := by rw [w64 (by omega) (by omega)]; omega
          have hq1 : ¬ (d : Int) < dist g S y := by unfold Lt at hlt; omega
          have hj1 : 0 < j := by omega
          by_cases heq : dist g S y = d
          · have hq2 : ¬ x ≤ y := by unfold Lt at hlt; omega
            simp [hOj, hx, h2, hN, hx0, hxN2, hj1, hwp, hpl, hy, hyl, hDye, hxl, hDxe, hq1, heq, hq2]
            exact ⟨rfl, Le.snap [] rfl rfl (by simp)⟩
          · have hq3 : (dist g S y == (d : Int)) = false := by simp [heq]
            simp [hOj, hx, h2, hN, hx0, hxN2, hj1, hwp, hpl, hy, hyl, hDye, hxl, hDxe, hq1, hq3]
            exact ⟨rfl, Le.snap [] rfl rfl (by simp)⟩
      refine awp_cond _ rfl (fun h => by cases h) fun _ => awp_skip ?_
      refine awp_regc ⟨173, [(4, .pv (gC g)), (5, ints S), (6, ints O), (7, ints D), (8, .I j), (9, .B (brG g S O x 0))], [], 888⟩ rfl ?_ ?_
      · simp [h2, hx, hDxe, hxl]
        exact Le.snap [] rfl rfl (by simp <;> exact wkB (by simp [brG, hd] <;> rw [Bool.eq_iff_iff] <;> simp))
      refine awp_seq ?_
      refine awp_seq ?_
      refine awp_run (s := ?s9) rfl ?o9 ?q9
      case o9 => simp; rfl
      refine awp_block ?_
      refine awp_loop (ι := Nat) (fun i => ⟨173, [(4, .pv (gC g)), (5, ints S), (6, ints O), (7, ints D), (8, .I j), (9, .B (brG g S O x i)), (10, .I i)], [], 896⟩) (fun i => i ≤ j) (fun i => j - i) 0 (Nat.zero_le _) ?_ ?_
      · exact Le.snap [] rfl rfl (by simp)
      intro i hi
      refine awp_seq ?_
      refine awp_regc ⟨173, [(4, .pv (gC g)), (5, ints S), (6, ints O), (7, ints D), (8, .I j), (9, .B (brG g S O x i)), (10, .I i), (116, .B (decide (i < j)))], [], 920⟩ rfl ?_ ?_
      · simp
        exact Le.snap [] rfl rfl (by simp)
      refine awp_cond _ rfl (fun h3 => awp_skip ?_) fun h3 => awp_exit (hit ?_)
      · simp only [decide_eq_true_eq] at h3
        have hwi : IntKind.i64.wrap ((i : Int) + 1) = ((i + 1 : Nat) : Int) := by rw [w64 (by omega) (by omega)]; omega
        have hil : i < O.length := by omega
        have hmy := (hOm O[i]).1 (List.getElem_mem hil)
        obtain ⟨y, hy⟩ : ∃ y : Nat, O[i] = y := ⟨O[i].toNat, by have := hmy.1.1; omega⟩
        rw [hy] at hmy
        have hyN : y < N := by have := hmy.1.2; omega
        have hDy := hDg y hyN
        have hOi : O[i]? = some (y : Int) := by rw [List.getElem?_eq_getElem hil, hy]
        have hb1 : brG g S O x (i + 1) = (brG g S O x i || (decide (dist g S y = (d : Int) - 1) && (outs g.edges y).contains x)) := by
          rw [brG, hOi, hd]
          rfl
        have hwd : IntKind.i64.wrap ((d : Int) - 1) = (d : Int) - 1 := by have := dist_range (g := g) (S := S) x; exact w64 (by omega) (by omega)
        have hol := outs_le g.edges y
        refine awp_cut (ι := Unit) (fun _ => ⟨173, [(4, .pv (gC g)), (5, ints S), (6, ints O), (7, ints D), (8, .I j), (9, .B (brG g S O x (i + 1))), (10, .I i)], [], 920⟩) (fun _ => True) ?_ fun _ _ => ?_
        · refine awp_block ?_
          rw [hb1]
          refine awp_drw rfl ?_
          cases brG g S O x i
          · obtain ⟨hyl, hDye⟩ := List.getElem?_eq_some_iff.1 hDy
            by_cases hyd : dist g S y = (d : Int) - 1
            · have hb : (dist g S y == (d : Int) - 1) = true := by simp [hyd]
              simp [hx, hy, h2, hil, hDxe, hDye, hxl, hyl, hwd, hb]
              refine callN1 (ref11_Out_ok g y (by omega)) rfl ?_
              simp [Function.comp_def]
              refine call0s [1112] (has_ok (outs g.edges y) x (by omega)) (by simp [Function.comp_def, take_map_len]) (.sc _) ?_
              simp [hyd]
              exact ⟨rfl, Le.snap [] rfl rfl (by simp)⟩
            · have hb : (dist g S y == (d : Int) - 1) = false := by simp [hyd]
              simp [hx, hy, h2, hil, hDxe, hDye, hxl, hyl, hwd, hb]
              exact ⟨rfl, Le.snap [] rfl rfl (by simp [hyd])⟩
          · simp
            exact ⟨rfl, Le.snap [] rfl rfl (by simp)⟩
        refine awp_reg rfl ?_
        simp [hwi]
        exact ⟨i + 1, by omega, by omega, Le.snap [] rfl rfl (by simp)⟩
      simp only [decide_eq_false_iff_not] at h3
      obtain rfl : i = j := by omega
      refine awp_regc ⟨173, [(4, .pv (gC g)), (5, ints S), (6, ints O), (7, ints D), (8, .I i), (171, .B false)], [], 1088⟩ rfl ?_ ?_
      · by_cases hd0 : d = 0
        · have hb : ((d : Int) == 0) = true := by simp [hd0]
          have hst : startK g S x = true := (dist_zero hok).1 (by rw [hd, hd0]; rfl)
          have hin : S.contains (x : Int) = true := by
            unfold startK at hst
            rw [Bool.and_eq_true] at hst
            exact hst.1
          simp [hbr, hx, h2, hDxe, hxl, hb]
          refine call0e (has_ok S x (by omega)) rfl ?_
          simp only [hin]
          simp
          exact Le.snap [] rfl rfl (by simp)
        · have hb : ((d : Int) == 0) = false := by simp [hd0]
          simp [hbr, hx, h2, hDxe, hxl, hb]
          exact Le.snap [] rfl rfl (by simp)
      refine awp_cond _ rfl (fun h => by cases h) fun _ => awp_skip ?_
      exact ⟨(), trivial, Le.snap [] rfl rfl (by simp)⟩
    refine awp_reg rfl ?_
    simp [hwj]
    exact ⟨j + 1, by omega, by omega, Le.snap [] rfl rfl (by simp)⟩
  refine awp_seq ?_
  refine awp_run (s := ?z9) rfl ?p9 ?r9
  case p9 => simp; refine call0e (law12_awake_ok) rfl ?_; simp; rfl
  refine awp_ret ?_
  exact ⟨.inr rfl, RetOk.one (by simp)⟩

end Go.Proofs.Ytnphfkceoklkkaa

/- More edges, more starting keys: no distance grows. ref11.Put. -/
namespace Go.Proofs.Ytnphfkceoklkkaa
open Go

theorem dist_mono {g g' : Gr} {S S' : List Int} (hg : GrOk g) (hg' : GrOk g') (hgone : g'.gone = g.gone) (he : ∀ e ∈ g.edges, e ∈ g'.edges) (hS : ∀ x ∈ S, x ∈ S') : ∀ (n : Nat) (k : Int), dist g S k = n → 0 ≤ dist g' S' k ∧ dist g' S' k ≤ n
  | 0, k, h => by
    have h1 := (dist_zero hg).1 h
    have h2 : startK g' S' k = true := by
      unfold startK at *
      rw [Bool.and_eq_true, List.contains_iff_mem] at *
      exact ⟨hS _ h1.1, by rw [hgone]; exact h1.2⟩
    have h3 := (dist_zero hg').2 h2
    rw [h3]
    exact ⟨Int.le_refl _, by omega⟩
  | n + 1, k, h => by
    obtain ⟨e, hm, ht, hf⟩ := dist_pred hg (n := n) (k := k) (by rw [h]; rfl)
    obtain ⟨i1, i2⟩ := dist_mono hg hg' hgone he hS n e.f hf
    have := dist_edge (S := S') hg' (he e hm) i1
    rw [ht] at this
    exact ⟨this.1, by push_cast; omega⟩

theorem mem_plusE {g : Gr} {x e : Ed} (h : e ∈ g.edges) : e ∈ (plusE g x).edges := by
  unfold plusE
  have h2 : e ∈ g.edges.take (idxE g.edges ⟨x.f, x.t, 0⟩) ++ g.edges.drop (idxE g.edges ⟨x.f, x.t, 0⟩) := by rw [List.take_append_drop]; exact h
  rw [List.mem_append] at h2
  rw [List.mem_append, List.mem_cons]
  rcases h2 with h2 | h2
  · exact .inl h2
  · exact .inr (.inr h2)

/-- Where a key is put. -/
def putI (S : List Int) (key : Int) : Nat := S.findIdx fun x => !decide (x < key)
/-- A key put into a list. -/
def putL (S : List Int) (key : Int) : List Int := if S[putI S key]? = some key then S else S.take (putI S key) ++ [key] ++ S.drop (putI S key)

theorem mem_putL {S : List Int} {key x : Int} (h : x ∈ S) : x ∈ putL S key := by
  unfold putL
  split
  · exact h
  · have h2 : x ∈ S.take (putI S key) ++ S.drop (putI S key) := by rw [List.take_append_drop]; exact h
    rw [List.mem_append] at h2
    rw [List.mem_append, List.mem_append]
    rcases h2 with h2 | h2
    · exact .inl (.inl h2)
    · exact .inr h2

theorem putL_len (S : List Int) (key : Int) : (putL S key).length ≤ S.length + 1 := by
  unfold putL
  split
  · omega
  · have : putI S key ≤ S.length := List.findIdx_le_length
    simp
    omega

set_option maxHeartbeats 1000000 in
set_option maxRecDepth 100000 in
theorem Put_ok (S : List Int) (key : Int) (hl : S.length ≤ 1000000) : ACalls Try.prog nref11_Put [ints S, .I key] [] (.rs 0 0 (putL S key).length) [some ⟨1, rowsI (putL S key), 0⟩] := by
  refine sref11_Put.acalls (Nat.le_of_ble_eq_true rfl) (Nat.le_of_ble_eq_true rfl) (Nat.zero_le _) ?_
  show awp _ 0 _ _ ⟨45, [(0, ints S), (1, .I key)], [], 16⟩
  obtain ⟨F, hF⟩ : ∃ F, F = putI S key := ⟨_, rfl⟩
  have hFl : F ≤ S.length := by rw [hF]; exact List.findIdx_le_length
  have hbef : ∀ i (h : i < S.length), i < F → S[i] < key := fun i h hi => by
    have := List.not_of_lt_findIdx (p := fun x => !decide (x < key)) (xs := S) (i := i) (by rw [hF] at hi; exact hi)
    simpa using this
  have hat : ∀ (h : F < S.length), ¬ S[F] < key := fun h => by
    subst hF
    have := List.findIdx_getElem (p := fun x => !decide (x < key)) (xs := S) (w := h)
    have h2 : (!decide (S[putI S key] < key)) = true := this
    simpa using h2
  refine awp_seq ?_
  refine awp_run (s := ?s1) rfl ?o1 ?q1
  case o1 => simp; rfl
  refine awp_seq ?_
  refine awp_run (s := ?s2) rfl ?o2 ?q2
  case o2 => simp; rfl
  refine awp_seq ?_
  refine awp_block ?_
  refine awp_loop (ι := Nat) (fun i => ⟨45, [(0, ints S), (1, .I key), (5, .I i)], [], 32⟩) (fun i => i ≤ F) (fun i => F - i) 0 (Nat.zero_le _) ?_ ?_
  · exact Le.snap [] rfl rfl (by simp)
  intro i hi
  refine awp_seq ?_
  refine awp_regc ⟨45, [(0, ints S), (1, .I key), (5, .I i), (17, .B (decide (i < F)))], [], 128⟩ rfl ?_ ?_
  · by_cases hil : i < S.length
    · have hc : decide (S[i] < key) = decide (i < F) := by
        rcases Nat.lt_or_ge i F with h | h
        · rw [decide_eq_true h, decide_eq_true (hbef i hil h)]
        · obtain rfl : i = F := by omega
          rw [decide_eq_false (Nat.lt_irrefl _), decide_eq_false (hat hil)]
      simp [hil]
      exact Le.snap [] rfl rfl (by simp [hc])
    · have h2 : ¬ i < F := by omega
      simp [hil]
      exact Le.snap [] rfl rfl (by simp [h2])
  refine awp_cond _ rfl (fun h2 => awp_skip ?_) fun h2 => awp_exit (hit ?_)
  · simp only [decide_eq_true_eq] at h2
    have hwi : IntKind.i64.wrap ((i : Int) + 1) = ((i + 1 : Nat) : Int) := by rw [w64 (by omega) (by omega)]; omega
    refine awp_block ?_
    refine awp_reg rfl ?_
    simp [hwi]
    exact ⟨i + 1, by omega, by omega, Le.snap [] rfl rfl (by simp)⟩
  simp only [decide_eq_false_iff_not] at h2
  obtain rfl : i = F := by omega
  refine awp_seq ?_
  refine awp_regc ⟨45, [(0, ints S), (1, .I key), (5, .I i), (31, .B (decide (S[i]? = some key)))], [], 224⟩ rfl ?_ ?_
  · by_cases hil : i < S.length
    · simp [hil]
      exact Le.snap [] rfl rfl (by simp <;> exact wkB (by rw [Bool.eq_iff_iff]; simp))
    · simp [hil]
      exact Le.snap [] rfl rfl (by simp [hil])
  refine awp_cond _ rfl (fun h3 => ?_) fun h3 => awp_skip ?_
  · simp only [decide_eq_true_eq] at h3
    have hp : putL S key = S := by unfold putL; rw [← hF]; exact if_pos h3
    rw [hp]
    refine awp_regc ⟨45, [(4, .rs 232 0 S.length)], [(232, some ⟨1, rowsI S, 0⟩)], 248⟩ rfl ?_ ?_
    · simp
      exact ⟨by omega, by omega, Le.keep rfl (Nat.le_refl _) (by simp) (by simp)⟩
    refine awp_ret ?_
    exact ⟨.inr rfl, RetOk.out [232] [] rfl (by simp) (by simp) (by simp) (by simp [Function.comp_def])⟩
  · simp only [decide_eq_false_iff_not] at h3
    have hp : putL S key = S.take i ++ [key] ++ S.drop i := by unfold putL; rw [← hF]; exact if_neg h3
    have hpl : (putL S key).length = S.length + 1 := by rw [hp]; simp; omega
    rw [hpl]
    refine awp_dregc ⟨45, [(4, .rs 304 0 (S.length + 1))], [(304, some ⟨1, rowsI (putL S key), 0⟩)], 320⟩ rfl ?_ ?_
    · have e1 : i + 1 + (S.length - i) = S.length + 1 := by omega
      have e2 : List.take (i + 1) (List.take i (rowsI S) ++ [[AV.I key]]) ++ List.drop i (rowsI S) = rowsI (putL S key) := by
        rw [List.take_of_length_le (by simp; omega), hp]
        simp [List.map_take, List.map_drop]
      simp [hFl]
      refine ⟨by omega, by omega, by omega, by omega, by omega, by omega, rfl, ?_⟩
      exact Le.keep rfl (Nat.le_refl _) (by simp [e1]) (by
        simp
        exact e2)
    refine awp_ret ?_
    exact ⟨.inr rfl, RetOk.out [304] [] rfl (by simp) (by simp) (by simp) (by simp [Function.comp_def])⟩

end Go.Proofs.Ytnphfkceoklkkaa

/- DistanceMore: the program's contract. -/
namespace Go.Proofs.Ytnphfkceoklkkaa
open Go

set_option maxHeartbeats 8000000 in
set_option maxRecDepth 100000 in
theorem law12_DistanceMore_ok (L : List Int) : ACalls Try.prog nlaw12_DistanceMore [ints L] [] (.B true) [] := by
  refine slaw12_DistanceMore.acalls (Nat.le_of_ble_eq_true rfl) (Nat.le_of_ble_eq_true rfl) (Nat.le_refl _) ?_
  show awp _ 0 _ _ ⟨124, [(0, ints L)], [], 16⟩
  refine awp_seq ?_
  refine awp_run (s := ?s1) rfl ?o1 ?q1
  case o1 => simp; rfl
  refine awp_seq ?_
  refine awp_regc ⟨124, [(0, ints L), (15, .B (decide (¬ L.length ≤ 400)))], [], 48⟩ rfl ?_ ?_
  · simp
    refine call0e (Light_ok L) rfl ?_
    simp
    exact Le.snap [] rfl rfl (by simp <;> exact wkB (by rw [Bool.eq_iff_iff]; simp))
  refine awp_cond _ rfl (fun h => ?_) fun h => awp_skip ?_
  · refine awp_seq ?_
    refine awp_run (s := ?s2) rfl ?o2 ?q2
    case o2 => simp; refine call0e (law12_awake_ok) rfl ?_; simp; rfl
    refine awp_ret ?_
    exact ⟨.inr rfl, RetOk.one (by simp)⟩
  have hl : L.length ≤ 400 := by simpa using h
  have hm := graphD_made L 0 (Nat.zero_le _)
  obtain ⟨g, hg⟩ : ∃ g, g = (graphD L 0).1 := ⟨_, rfl⟩
  obtain ⟨a, ha⟩ : ∃ a, a = (graphD L 0).2 := ⟨_, rfl⟩
  have hok := hm.ok
  have hlo := hm.lo
  have hhi := hm.hi
  have h500 := hok.1.2.2.1
  have hal := hm.at_
  rw [← hg] at hok hlo hhi h500
  rw [← ha] at hal
  have hgr := Graph_ok L 0 hl (Nat.zero_le _)
  rw [← hg, ← ha] at hgr
  clear hm
  obtain ⟨N, hN⟩ : ∃ N : Nat, g.size = N := ⟨g.size.toNat, by omega⟩
  have hsome := Some_ok L a N hl hal (by omega)
  have hsl := someD_len (L := L) (a := a) N
  rw [← hN] at hsome
  obtain ⟨S, hS⟩ : ∃ S, S = (someD L a N).1 := ⟨_, rfl⟩
  rw [← hS] at hsome hsl
  have hD := distance_All_ok g S hok (by omega)
  have hDl : (distL g S).length = N := by rw [distL_len]; omega
  have hDg : ∀ k : Nat, k < N → (distL g S)[k]? = some (dist g S k) := fun k hk => by simp [distL, show k < g.size.toNat by omega]
  have hNn : g.size.toNat = N := by omega
  rw [hNn] at hD
  obtain ⟨D, hDe⟩ : ∃ D, D = distL g S := ⟨_, rfl⟩
  rw [← hDe] at hD hDl
  simp only [← hDe] at hDg
  refine awp_regc ⟨124, [(3, .pt 56 0 0)], [(56, some (dice L 0))], 72⟩ rfl ?_ ?_
  · simp
    refine callN1 (Roll_ok L) rfl ?_
    simp [Function.comp_def]
    exact Le.keep rfl (Nat.le_refl _) (by simp) (by simp)
  refine awp_regc ⟨124, [(3, .pt 56 0 0), (4, .pv (gC g))], [(56, some (dice L a))], 104⟩ rfl ?_ ?_
  · simp
    refine callM1 (i := 56) rfl (e' := dice L 0) (by simp [Function.comp_def]) hgr (by simp) (by simp) ?_
    simp [Function.comp_def]
    exact Le.dc 56 56 [88] rfl rfl (by simp) (by simp) (by simp) (by simp)
  obtain ⟨b, hb⟩ : ∃ b, b = (someD L a N).2 := ⟨_, rfl⟩
  have hbl : b ≤ L.length := by rw [hb]; exact someD_le hal N
  rw [← hb] at hsome
  refine awp_regc ⟨124, [(3, .pt 56 0 0), (4, .pv (gC g)), (5, ints S)], [(56, some (dice L b))], 144⟩ rfl ?_ ?_
  · simp
    refine callM1 (i := 56) rfl (e' := dice L a) (by simp [Function.comp_def]) hsome (by simp) (by simp) ?_
    simp [Function.comp_def]
    exact Le.dc 56 56 [128] rfl rfl (by simp) (by simp) (by simp) (by simp [Function.comp_def, take_map_len])
  refine awp_regc ⟨124, [(3, .pt 56 0 0), (4, .pv (gC g)), (5, ints S), (6, .pt 152 0 0)], [(56, some (dice L b)), (152, some (rowG g))], 168⟩ rfl ?_ ?_
  · simp [splice]
    exact Le.keep rfl (Nat.le_refl _) (by simp) (by simp)
  have q1 := nextD_le (n := N) hbl
  have q2 := nextD_le (n := N) q1
  obtain ⟨x, hx⟩ : ∃ x : Ed, x = ⟨(nextD L b N).1, (nextD L (nextD L b N).2 N).1, 1⟩ := ⟨_, rfl⟩
  obtain ⟨c, hc⟩ : ∃ c, c = (nextD L (nextD L b N).2 N).2 := ⟨_, rfl⟩
  have hcl : c ≤ L.length := by rw [hc]; exact q2
  have hgl : g.gone.length ≤ 1000000 := Nat.le_trans hok.gone_le (by omega)
  have hwith := ref11_With_ok g x (by omega) (by omega)
  have hwok := withR_ok (g := g) (e := x)
  generalize withR g x = w at hwith hwok
  refine awp_cut (ι := Gr) (fun g' => ⟨124, [(3, .pt 56 0 0), (4, .pv (gC g)), (5, ints S), (6, .pv (gC g'))], [(56, some (dice L c))], 336⟩) (fun g' => GrOk g' ∧ g'.size = N ∧ g'.gone = g.gone ∧ ∀ e ∈ g.edges, e ∈ g'.edges) ?_ ?_
  · refine awp_dregc ⟨124, [(3, .pt 56 0 0), (4, .pv (gC g)), (5, ints S), (6, .pt 152 0 0), (7, .pv (gC w.1)), (8, .I w.2)], [(56, some (dice L c)), (152, some (rowG g))], 304⟩ rfl ?_ ?_
    · simp [hN]
      refine callM1 (i := 56) rfl (e' := dice L b) (by simp [Function.comp_def]) (Next1_ok L b N hl hbl (by omega)) (by simp) (by simp) ?_
      simp [Function.comp_def]
      refine callM1 (i := 56) rfl (e' := dice L (nextD L b N).2) (by simp [Function.comp_def]) (Next1_ok L _ N hl q1 (by omega)) (by simp) (by simp) ?_
      simp [Function.comp_def]
      refine call0e hwith (by rw [hx]; simp [hN]) ?_
      simp
      refine ⟨rfl, Le.ents [(56, 56), (152, 152)] [280] rfl (by simp) (by simp) (by simp) (by simp) (by simp) (by simp) fun p hp => ?_⟩
      simp at hp
      rcases hp with rfl | rfl
      · exact ⟨56, _, _, rfl, by simp, rfl, EntUp.eq (by simp [Function.comp_def, hc]) (by simp)⟩
      · exact ⟨152, _, _, rfl, by simp, rfl, EntUp.eq (by simp) (by simp)⟩
    refine awp_regc ⟨124, [(3, .pt 56 0 0), (4, .pv (gC g)), (5, ints S), (6, .pt 152 0 0), (7, .pv (gC w.1)), (41, .B (decide (w.2 = 0)))], [(56, some (dice L c)), (152, some (rowG g))], 320⟩ rfl ?_ ?_
    · simp
      exact Le.keep rfl (Nat.le_refl _) (by simp <;> rw [Bool.eq_iff_iff] <;> simp) (by simp)
    refine awp_cond _ rfl (fun h4 => ?_) fun h4 => awp_skip ?_
    · simp only [decide_eq_true_eq] at h4
      obtain ⟨_, _, _, _, w5, w6, w7⟩ := hwok h4
      refine awp_reg rfl ?_
      simp [splice]
      rw [← w6] at w7
      refine ⟨w.1, ⟨w7, by rw [w6]; exact hN, by rw [w6]; rfl, fun e he => by rw [w6]; exact mem_plusE he⟩, Le.dc 56 56 [152] rfl rfl (by simp) (by simp) rfl (by simp)⟩
    · exact ⟨g, ⟨hok, hN, rfl, fun e he => he⟩, Le.dc 56 56 [152] rfl rfl (by simp) (by simp) rfl (by simp)⟩
  rintro g' ⟨g1, g2, g3, g4⟩
  have hg'N : g'.size.toNat = N := by omega
  have hD2 := distance_All_ok g' S g1 (by omega)
  obtain ⟨key, hkey⟩ : ∃ key, key = (nextD L c N).1 := ⟨_, rfl⟩
  have hPl := putL_len S key
  have hPut := Put_ok S key (by omega)
  have hD3 := distance_All_ok g (putL S key) hok (by omega)
  rw [hg'N] at hD2
  rw [hNn] at hD3
  obtain ⟨P, hP⟩ : ∃ P, P = putL S key := ⟨_, rfl⟩
  rw [← hP] at hPl hPut hD3
  have hD2l : (distL g' S).length = N := by rw [distL_len]; exact hg'N
  have hD3l : (distL g P).length = N := by rw [distL_len]; exact hNn
  have hD2g : ∀ k : Nat, k < N → (distL g' S)[k]? = some (dist g' S k) := fun k hk => by simp [distL, show k < g'.size.toNat by omega]
  have hD3g : ∀ k : Nat, k < N → (distL g P)[k]? = some (dist g P k) := fun k hk => by simp [distL, show k < g.size.toNat by omega]
  have hm2 : ∀ (k : Nat), 0 ≤ dist g S k → 0 ≤ dist g' S k ∧ dist g' S k ≤ dist g S k := fun k h0 => by
    have := dist_mono hok g1 g3 g4 (S := S) (S' := S) (fun x hx => hx) (dist g S k).toNat k (by omega)
    omega
  have hm3 : ∀ (k : Nat), 0 ≤ dist g S k → 0 ≤ dist g P k ∧ dist g P k ≤ dist g S k := fun k h0 => by
    have := dist_mono hok hok rfl (fun e he => he) (S := S) (S' := P) (fun x hx => by rw [hP]; exact mem_putL hx) (dist g S k).toNat k (by omega)
    omega
  obtain ⟨D2, hD2e⟩ : ∃ D2, D2 = distL g' S := ⟨_, rfl⟩
  obtain ⟨D3, hD3e⟩ : ∃ D3, D3 = distL g P := ⟨_, rfl⟩
  rw [← hD2e] at hD2 hD2l
  rw [← hD3e] at hD3 hD3l
  simp only [← hD2e] at hD2g
  simp only [← hD3e] at hD3g
  have hnx := Next1_ok L c N hl hcl (by omega)
  rw [← hkey] at hnx
  refine awp_dregc ⟨124, [(4, .pv (gC g)), (9, ints D), (10, ints D2), (11, ints D3)], [], 472⟩ rfl ?_ ?_
  · simp [hN]
    refine callN1 hD (by simp [hN]) ?_
    simp [Function.comp_def]
    refine callN1 hD2 (by simp) ?_
    simp [Function.comp_def]
    refine callM1 (i := 56) rfl (e' := dice L c) (by simp [Function.comp_def]) hnx (by simp) (by simp) ?_
    simp [Function.comp_def]
    refine callN1 hPut rfl ?_
    simp [Function.comp_def]
    refine callN1r [432] hD3 (by simp [Function.comp_def, take_map_len, hN]) (.rs _ _ _) plainI ?_
    simp [Function.comp_def]
    have tk : ∀ l : List Int, l.length = N → List.take N (List.map (fun x => [AV.I x]) l) = List.map (fun x => [AV.I x]) l := fun l h => List.take_of_length_le (by rw [List.length_map]; omega)
    have t1 := tk D hDl
    have t2 := tk D2 hD2l
    have t3 := tk D3 hD3l
    exact ⟨rfl, Le.snap [352, 376, 440] rfl rfl (by simp [Function.comp_def, hDl, hD2l, hD3l, t1, t2, t3])⟩
  refine awp_seq ?_
  refine awp_regc ⟨124, [(4, .pv (gC g)), (9, ints D), (10, ints D2), (11, ints D3), (75, .B false)], [], 624⟩ rfl ?_ ?_
  · simp [hDl, hD2l, hD3l, hN]
    exact Le.snap [] rfl rfl (by simp)
  refine awp_cond _ rfl (fun h => by cases h) fun _ => awp_skip ?_
  refine awp_seq ?_
  refine awp_seq ?_
  refine awp_run (s := ?s8) rfl ?o8 ?q8
  case o8 => simp; rfl
  refine awp_block ?_
  refine awp_loop (ι := Nat) (fun k => ⟨124, [(4, .pv (gC g)), (9, ints D), (10, ints D2), (11, ints D3), (12, .I k)], [], 632⟩) (fun k => k ≤ N) (fun k => N - k) 0 (Nat.zero_le _) ?_ ?_
  · exact Le.snap [] rfl rfl (by simp)
  intro k hk
  refine awp_seq ?_
  refine awp_regc ⟨124, [(4, .pv (gC g)), (9, ints D), (10, ints D2), (11, ints D3), (12, .I k), (79, .B (decide (k < N)))], [], 664⟩ rfl ?_ ?_
  · simp [hN]
    exact Le.snap [] rfl rfl (by simp)
  refine awp_cond _ rfl (fun h2 => awp_skip ?_) fun h2 => awp_exit (hit ?_)
  · simp only [decide_eq_true_eq] at h2
    have hwk : IntKind.i64.wrap ((k : Int) + 1) = ((k + 1 : Nat) : Int) := by rw [w64 (by omega) (by omega)]; omega
    obtain ⟨k1, e1⟩ := List.getElem?_eq_some_iff.1 (hDg k h2)
    obtain ⟨k2, e2⟩ := List.getElem?_eq_some_iff.1 (hD2g k h2)
    obtain ⟨k3, e3⟩ := List.getElem?_eq_some_iff.1 (hD3g k h2)
    refine awp_cut (ι := Unit) (fun _ => ⟨124, [(4, .pv (gC g)), (9, ints D), (10, ints D2), (11, ints D3), (12, .I k)], [], 664⟩) (fun _ => True) ?_ fun _ _ => ?_
    · refine awp_block ?_
      refine awp_dregc ⟨124, [(4, .pv (gC g)), (9, ints D), (10, ints D2), (11, ints D3), (12, .I k), (122, .B false)], [], 992⟩ rfl ?_ ?_
      · by_cases h0 : 0 ≤ dist g S k
        · obtain ⟨a1, a2⟩ := hm2 k h0
          obtain ⟨a3, a4⟩ := hm3 k h0
          have n1 : ¬ dist g' S k < 0 := by omega
          have n2 : ¬ dist g S k < dist g' S k := by omega
          have n3 : ¬ dist g P k < 0 := by omega
          have n4 : ¬ dist g S k < dist g P k := by omega
          simp [k1, e1, k2, e2, k3, e3, h0, n1, n2, n3, n4]
          exact ⟨rfl, Le.snap [] rfl rfl (by simp)⟩
        · simp [k1, e1, h0]
          exact ⟨rfl, Le.snap [] rfl rfl (by simp)⟩
      refine awp_cond _ rfl (fun h => by cases h) fun _ => awp_skip ?_
      exact ⟨(), trivial, Le.snap [] rfl rfl (by simp)⟩
    refine awp_reg rfl ?_
    simp [hwk]
    exact ⟨k + 1, by omega, by omega, Le.snap [] rfl rfl (by simp)⟩
  refine awp_seq ?_
  refine awp_run (s := ?z9) rfl ?p9 ?r9
  case p9 => simp; refine call0e (law12_awake_ok) rfl ?_; simp; rfl
  refine awp_ret ?_
  exact ⟨.inr rfl, RetOk.one (by simp)⟩

end Go.Proofs.Ytnphfkceoklkkaa
