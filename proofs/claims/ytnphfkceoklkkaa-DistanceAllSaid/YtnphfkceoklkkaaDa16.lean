/- Texts of this claim, merged. -/
import Derived.Test.YtnphfkceoklkkaaDa15
set_option linter.unusedSimpArgs false
set_option linter.unusedVariables false
set_option linter.unusedSectionVars false
/- The reference's way to a key: the walk. -/
namespace Go.Proofs.Ytnphfkceoklkkaa
open Go
variable {g : Gr} {S : List Int} {key : Int}

set_option maxHeartbeats 1000000 in
set_option maxRecDepth 100000 in
theorem ref12_Way_no (hg : GrOk g) (hS : S.length ≤ 1099511627776) (hno : ¬ (Key g key ∧ 0 ≤ dist g S key)) : ACalls Try.prog nref12_Way [eG g, ints S, .I key] [] (.tup [.vs 1 false [], .B false]) [] := by
  refine sref12_Way.acalls (Nat.le_of_ble_eq_true rfl) (Nat.le_of_ble_eq_true rfl) (Nat.zero_le _) ?_
  show awp _ 0 _ _ ⟨134, [(0, eG g), (1, ints S), (2, .I key)], [], 16⟩
  have hsz := hg.1.1
  have hsz2 := hg.1.2.1
  obtain ⟨N, hNe⟩ : ∃ N : Nat, N = g.size.toNat := ⟨_, rfl⟩
  have hall := ref12_All_ok g S hg hS
  have hDl : (distL g S).length = N := by rw [distL_len, hNe]
  have hDg : ∀ k : Nat, k < N → (distL g S)[k]? = some (dist g S k) := fun k hk => by simp [distL, show k < g.size.toNat by omega]
  rw [← hNe] at hall
  obtain ⟨D, hD⟩ : ∃ D, D = distL g S := ⟨_, rfl⟩
  rw [← hD] at hall hDl hDg
  refine awp_regc ⟨134, [(1, ints S), (2, .I key), (3, .pv (gC g))], [], 40⟩ rfl ?_ ?_
  · simp
    exact Le.snap [16] rfl rfl (by simp)
  refine awp_regc ⟨134, [(2, .I key), (3, .pv (gC g)), (8, ints D)], [], 72⟩ rfl ?_ ?_
  · simp
    refine callN1 hall rfl ?_
    simp [Function.comp_def]
    exact Le.snap [56] rfl rfl (by simp [Function.comp_def, ← hDl, take_map_len])
  refine awp_seq ?_
  refine awp_regc ⟨134, [(33, .B true)], [], 192⟩ rfl ?_ ?_
  · by_cases hk1 : key < 0
    · simp [hk1]
      exact Le.snap [] rfl rfl (by simp)
    by_cases hk2 : g.size ≤ key
    · simp [hk1, hk2]
      exact Le.snap [] rfl rfl (by simp)
    obtain ⟨k, hke⟩ : ∃ k : Nat, key = k := ⟨key.toNat, by omega⟩
    have hd : dist g S key < 0 := by
      have : ¬ 0 ≤ dist g S key := fun h => hno ⟨⟨by omega, by omega⟩, h⟩
      omega
    rw [hke] at hd hk1 hk2 ⊢
    obtain ⟨hkl, hget⟩ := List.getElem?_eq_some_iff.1 (hDg k (by omega))
    simp [hk1, hk2, hget, hkl, hd]
    exact Le.snap [] rfl rfl (by simp)
  refine awp_cond _ rfl (fun _ => ?_) fun h => by cases h
  refine awp_seq ?_
  refine awp_run (s := ?s3) rfl ?o3 ?q3
  case o3 => simp; rfl
  refine awp_ret ?_
  exact ⟨.inr rfl, RetOk.out [] [] rfl (by simp) (by simp) (by simp; exact wkT2 (.nil _ _) (.refl _)) (by simp)⟩

set_option maxHeartbeats 8000000 in
set_option maxRecDepth 100000 in
theorem ref12_Way_yes (hg : GrOk g) (hS : S.length ≤ 1099511627776) (hkey : Key g key) (h0 : 0 ≤ dist g S key) : ACalls Try.prog nref12_Way [eG g, ints S, .I key] [] (.tup [.rs 0 0 (wayL g S key).length, .B true]) [some ⟨1, rowsI (wayL g S key), 0⟩] := by
  refine sref12_Way.acalls (Nat.le_of_ble_eq_true rfl) (Nat.le_of_ble_eq_true rfl) (Nat.zero_le _) ?_
  show awp _ 0 _ _ ⟨134, [(0, eG g), (1, ints S), (2, .I key)], [], 16⟩
  have hsz := hg.1.1
  have hsz2 := hg.1.2.1
  have h500 := hg.1.2.2.1
  obtain ⟨N, hNe⟩ : ∃ N : Nat, N = g.size.toNat := ⟨_, rfl⟩
  have hgN : g.size = N := by omega
  have hall := ref12_All_ok g S hg hS
  have hDl : (distL g S).length = N := by rw [distL_len, hNe]
  have hDg : ∀ k : Nat, k < N → (distL g S)[k]? = some (dist g S k) := fun k hk => by simp [distL, show k < g.size.toNat by omega]
  rw [← hNe] at hall
  obtain ⟨D, hD⟩ : ∃ D, D = distL g S := ⟨_, rfl⟩
  rw [← hD] at hall hDl hDg
  have hDr : ∀ k : Int, -1 ≤ dist g S k ∧ dist g S k ≤ 64 := fun k => by have := dist_range (g := g) (S := S) k; omega
  obtain ⟨kk, hkk⟩ : ∃ kk : Nat, key = kk := ⟨key.toNat, by have := hkey.1; omega⟩
  have hkkN : kk < N := by have := hkey.2; omega
  obtain ⟨K, hK⟩ : ∃ K : Nat, dist g S key = K := ⟨(dist g S key).toNat, by omega⟩
  have hK64 : K ≤ 64 := by have := hDr key; omega
  obtain ⟨hkkl, hgetk⟩ := List.getElem?_eq_some_iff.1 (hDg kk hkkN)
  rw [← hkk, hK] at hgetk
  refine awp_regc ⟨134, [(1, ints S), (2, .I kk), (3, .pv (gC g))], [], 40⟩ rfl ?_ ?_
  · simp
    exact Le.snap [16] rfl rfl (by simp [hkk])
  refine awp_regc ⟨134, [(2, .I kk), (3, .pv (gC g)), (8, ints D)], [], 72⟩ rfl ?_ ?_
  · simp
    refine callN1 hall rfl ?_
    simp [Function.comp_def]
    exact Le.snap [56] rfl rfl (by simp [Function.comp_def, ← hDl, take_map_len])
  refine awp_seq ?_
  refine awp_regc ⟨134, [(2, .I kk), (3, .pv (gC g)), (8, ints D), (33, .B false)], [], 192⟩ rfl ?_ ?_
  · have hb : ¬ (kk : Int) < 0 := by omega
    have hb2 : ¬ N ≤ kk := by omega
    simp [hb, hgN, hb2, hgetk, hkkl]
    exact Le.snap [] rfl rfl (by simp <;> exact wkB (by simp))
  refine awp_cond _ rfl (fun h => by cases h) fun _ => awp_skip ?_
  refine awp_regc ⟨134, [(2, .I kk), (3, .pv (gC g)), (8, ints D), (9, .rs 208 0 N)], [(208, some ⟨1, List.replicate N [.B false], 0⟩)], 224⟩ rfl ?_ ?_
  · simp [hgN]
    first | exact Le.keep rfl (Nat.le_refl _) (by simp) (by simp) | exact ⟨by omega, Le.keep rfl (Nat.le_refl _) (by simp) (by simp)⟩ | exact ⟨by omega, by omega, Le.keep rfl (Nat.le_refl _) (by simp) (by simp)⟩
  have hfirst : (List.replicate N [AV.B false]).set kk [AV.B true] = rowsB (onL g S key 0 0) := by
    apply List.ext_getElem?
    intro k
    rw [List.getElem?_set, List.getElem?_map]
    by_cases hk : k < N
    · rw [onL_get 0 0 (by omega)]
      by_cases hkk2 : kk = k
      · subst hkk2
        rw [if_pos rfl, if_pos (by simpa using hk)]
        simp [onE_zero, onb, hkk]
      · rw [if_neg hkk2]
        have : ¬ (k : Int) = key := by omega
        simp [onE_zero, onb, this, hk]
    · rw [if_neg (by omega)]
      have e1 : (List.replicate N [AV.B false])[k]? = none := List.getElem?_eq_none (by simpa using hk)
      have e2 : (onL g S key 0 0)[k]? = none := List.getElem?_eq_none (by rw [onL_len]; omega)
      rw [e1, e2]
      rfl
  refine awp_regc ⟨134, [(2, .I kk), (3, .pv (gC g)), (8, ints D), (9, .rs 208 0 N)], [(208, some ⟨1, rowsB (onL g S key 0 0), 0⟩)], 256⟩ rfl ?_ ?_
  · simp [hkkN, splice]
    exact Le.keep rfl (Nat.le_refl _) (by simp) (by simp; exact hfirst)
  refine awp_seq ?_
  refine awp_regc ⟨134, [(2, .I kk), (3, .pv (gC g)), (8, ints D), (9, .rs 208 0 N), (10, .I ((K : Int) - (0 : Nat)))], [(208, some ⟨1, rowsB (onL g S key 0 0), 0⟩)], 296⟩ rfl ?_ ?_
  · simp [hgetk, hkkl]
    exact Le.keep rfl (Nat.le_refl _) (by simp) (by simp)
  have hflat : ∀ j i ρ sn h m, (rowsB (onL g S key j i)).map (List.map (conv ρ sn h (m + 1))) = rowsB (onL g S key j i) := fun j i ρ sn h m => by simp [Function.comp_def]
  refine awp_block ?_
  refine awp_loop (ι := Nat) (fun j => ⟨134, [(2, .I kk), (3, .pv (gC g)), (8, ints D), (9, .rs 208 0 N), (10, .I ((K : Int) - j))], [(208, some ⟨1, rowsB (onL g S key j 0), 0⟩)], 296⟩) (fun j => j ≤ K) (fun j => K - j) 0 (Nat.zero_le _) (Le.refl _ _) ?_
  intro j hj
  refine awp_seq ?_
  refine awp_regc ⟨134, [(2, .I kk), (3, .pv (gC g)), (8, ints D), (9, .rs 208 0 N), (10, .I ((K : Int) - j)), (45, .B (decide (j < K)))], [(208, some ⟨1, rowsB (onL g S key j 0), 0⟩)], 312⟩ rfl ?_ ?_
  · simp
    exact Le.keep rfl (Nat.le_refl _) (by simp <;> omega) (by simp)
  refine awp_cond _ rfl (fun h => awp_skip ?_) fun h => awp_exit (hit ?_)
  · simp only [decide_eq_true_eq] at h
    refine awp_cut (ι := Unit) (fun _ => ⟨134, [(2, .I kk), (3, .pv (gC g)), (8, ints D), (9, .rs 208 0 N), (10, .I ((K : Int) - j))], [(208, some ⟨1, rowsB (onL g S key (j + 1) 0), 0⟩)], 400⟩) (fun _ => True) ?_ fun _ _ => ?_
    · rw [← onL_next]
      refine awp_block ?_
      refine awp_regc ⟨134, [(2, .I kk), (3, .pv (gC g)), (8, ints D), (9, .rs 208 0 N), (10, .I ((K : Int) - j)), (11, .I (0 : Nat))], [(208, some ⟨1, rowsB (onL g S key j 0), 0⟩)], 320⟩ rfl ?_ ?_
      · simp
        exact Le.keep rfl (Nat.le_refl _) (by simp) (by simp)
      refine awp_block ?_
      refine awp_loop (ι := Nat) (fun i => ⟨134, [(2, .I kk), (3, .pv (gC g)), (8, ints D), (9, .rs 208 0 N), (10, .I ((K : Int) - j)), (11, .I i)], [(208, some ⟨1, rowsB (onL g S key j i), 0⟩)], 320⟩) (fun i => i ≤ g.edges.length) (fun i => g.edges.length - i) 0 (Nat.zero_le _) (Le.refl _ _) ?_
      intro i hi
      refine awp_seq ?_
      refine awp_regc ⟨134, [(2, .I kk), (3, .pv (gC g)), (8, ints D), (9, .rs 208 0 N), (10, .I ((K : Int) - j)), (11, .I i), (52, .B (decide (i < g.edges.length)))], [(208, some ⟨1, rowsB (onL g S key j i), 0⟩)], 360⟩ rfl ?_ ?_
      · simp
        exact Le.keep rfl (Nat.le_refl _) (by simp) (by simp)
      refine awp_cond _ rfl (fun h2 => awp_skip ?_) fun h2 => awp_exit (hit ?_)
      · simp only [decide_eq_true_eq] at h2
        refine awp_cut (ι := Unit) (fun _ => ⟨134, [(2, .I kk), (3, .pv (gC g)), (8, ints D), (9, .rs 208 0 N), (10, .I ((K : Int) - j)), (11, .I i)], [(208, some ⟨1, rowsB (onL g S key j (i + 1)), 0⟩)], 700⟩) (fun _ => True) ?_ fun _ _ => ?_
        · obtain ⟨e, he⟩ : ∃ e, e = g.edges[i] := ⟨_, rfl⟩
          have hmem : e ∈ g.edges := by rw [he]; exact List.getElem_mem h2
          have hfit := hg.fits e hmem
          obtain ⟨x, hx⟩ : ∃ x : Nat, e.f = x := ⟨e.f.toNat, by have := hfit.1; omega⟩
          obtain ⟨y, hy⟩ : ∃ y : Nat, e.t = y := ⟨e.t.toNat, by have := hfit.2.2.1; omega⟩
          have hxN : x < N := by have := hfit.2.1; omega
          have hyN : y < N := by have := hfit.2.2.2.1; omega
          obtain ⟨hxl, hDxe⟩ := List.getElem?_eq_some_iff.1 (hDg x hxN)
          obtain ⟨hyl, hDye⟩ := List.getElem?_eq_some_iff.1 (hDg y hyN)
          have hee : g.edges[i]? = some e := by rw [List.getElem?_eq_getElem h2, he]
          have hyes := onL_yes (g := g) (S := S) (key := key) (j := j) (i := i) (f := x) h2 (by rw [← he]; exact hx)
          have hnop := onL_no (g := g) (S := S) (key := key) (j := j) (i := i) h2
          rw [← he] at hyes hnop
          have hony : (rowsB (onL g S key j i))[y]? = some [AV.B (onE g S key j i y)] := by
            rw [List.getElem?_map, onL_get j i (by omega)]
            rfl
          have honx : (rowsB (onL g S key j i))[x]? = some [AV.B (onE g S key j i x)] := by
            rw [List.getElem?_map, onL_get j i (by omega)]
            rfl
          have hce : condE g S key j i e = (onE g S key j i y && decide (dist g S y = (K : Int) - j) && decide (dist g S x = (K : Int) - j - 1)) := by
            unfold condE
            rw [hx, hy, hK]
            congr 1
            rw [Bool.eq_iff_iff]
            simp
            omega
          have hrl : (rowsB (onL g S key j i)).length = N := by rw [rowsB, List.length_map, onL_len, hNe]
          have hfl := hflat j i
          have hw : IntKind.i64.wrap ((K : Int) - j - 1) = (K : Int) - j - 1 := w64 (by omega) (by omega)
          obtain ⟨c, hc⟩ : ∃ c, c = condE g S key j i e := ⟨_, rfl⟩
          rw [← hc] at hce hyes hnop
          generalize hY : rowsB (onL g S key j i) = Y at *
          refine awp_block ?_
          refine awp_regc ⟨134, [(2, .I kk), (3, .pv (gC g)), (8, ints D), (9, .rs 208 0 N), (10, .I ((K : Int) - j)), (11, .I i), (12, .pv [.I x, .I y, .I e.v])], [(208, some ⟨1, Y, 0⟩)], 416⟩ rfl ?_ ?_
          · simp [h2, hee, ← he, splice]
            exact Le.var1 208 [400] rfl rfl (by simp) (by simp) rfl (by simp only [convE, hfl]) (by simp) (by simp [hx, hy])
          refine awp_regc ⟨134, [(2, .I kk), (3, .pv (gC g)), (8, ints D), (9, .rs 208 0 N), (10, .I ((K : Int) - j)), (11, .I i), (12, .pv [.I x, .I y, .I e.v]), (83, .B c)], [(208, some ⟨1, Y, 0⟩)], 608⟩ rfl ?_ ?_
          · by_cases hA : onE g S key j i y = true
            · by_cases hB : dist g S y = (K : Int) - j
              · have hB2 : (dist g S y == (K : Int) - j) = true := by simp [hB]
                have hDy2 : D[y] = (K : Int) - j := by rw [hDye, hB]
                have hq : c = (dist g S x == (K : Int) - j - 1) := by
                  rw [hce, hA, decide_eq_true hB, Bool.eq_iff_iff]
                  simp
                simp [hony, hA, hyN, hyl, hDy2, hxl, hDxe, hw]
                exact Le.keep rfl (Nat.le_refl _) (by simp [hq]) (by simp)
              · have hB2 : (dist g S y == (K : Int) - j) = false := by simp [hB]
                have hq : c = false := by rw [hce, decide_eq_false hB]; simp
                simp [hony, hA, hyN, hyl, hDye, hB2]
                exact Le.keep rfl (Nat.le_refl _) (by simp [hq]) (by simp)
            · have hA2 : onE g S key j i y = false := by simpa using hA
              have hq : c = false := by rw [hce, hA2]; rfl
              simp [hony, hA2, hyN]
              exact Le.keep rfl (Nat.le_refl _) (by simp [hq]) (by simp)
          refine awp_cond _ rfl (fun h5 => ?_) fun h5 => awp_skip ?_
          · have hs : rowsB (onL g S key j (i + 1)) = Y.set x [AV.B true] := by rw [hyes h5, rowsB, List.map_set, ← hY]
            rw [hs]
            refine awp_reg rfl ?_
            simp [honx, hxN]
            exact Le.var1 208 [] rfl rfl (by simp) (by simp) rfl (by simp only [convE, splice]; simp [List.map_set, hfl]) (by simp) (by simp)
          · have hs : rowsB (onL g S key j (i + 1)) = Y := by rw [hnop h5, hY]
            rw [hs]
            exact ⟨(), trivial, Le.var1 208 [] rfl rfl (by simp) (by simp) rfl (by simp only [convE, hfl]) (by simp) (by simp)⟩
        have hwi : IntKind.i64.wrap ((i : Int) + 1) = ((i + 1 : Nat) : Int) := by rw [w64 (by omega) (by omega)]; omega
        refine awp_reg rfl ?_
        simp [hwi]
        exact ⟨i + 1, by omega, by omega, Le.var1 208 [] rfl rfl (by simp) (by simp) rfl (by simp only [convE, hflat]) (by simp) (by simp)⟩
      simp only [decide_eq_false_iff_not] at h2
      obtain rfl : i = g.edges.length := by omega
      exact ⟨(), trivial, Le.var1 208 [] rfl rfl (by simp) (by simp) rfl (by simp only [convE, hflat]) (by simp) (by simp)⟩
    have hwj : IntKind.i64.wrap ((K : Int) - j - 1) = (K : Int) - ((j + 1 : Nat) : Int) := by rw [w64 (by omega) (by omega)]; omega
    refine awp_reg rfl ?_
    simp [hwj]
    exact ⟨j + 1, by omega, by omega, Le.var1 208 [] rfl rfl (by simp) (by simp) rfl (by simp only [convE, hflat]) (by simp) (by simp)⟩
  simp only [decide_eq_false_iff_not] at h
  obtain rfl : j = K := by omega
  have hKt : (dist g S key).toNat = j := by rw [hK]; rfl
  have hmk : onL g S key j 0 = mkL g S key := by rw [← hKt]; exact onL_mk
  obtain ⟨L, hL⟩ : ∃ L, L = mkL g S key := ⟨_, rfl⟩
  have hLg : ∀ k : Nat, k < N → L[k]? = some (onF g S key k) := fun k hk => by rw [hL]; exact mkL_get (by omega)
  have hLl : L.length = N := by rw [hL, mkL_len, hNe]
  rw [hmk, ← hL]
  have htkL : List.take N (rowsB L) = rowsB L := List.take_of_length_le (by rw [rowsB, List.length_map]; omega)
  refine awp_regc ⟨134, [(2, .I kk), (3, .pv (gC g)), (8, ints D), (9, bools L), (13, .sc (.slice none 0 0))], [], 320⟩ rfl ?_ ?_
  · simp
    exact Le.snap [208] rfl rfl (by simp [Function.comp_def, ← hLl, take_map_len])
  refine awp_seq ?_
  refine awp_regc ⟨134, [(2, .I kk), (3, .pv (gC g)), (8, ints D), (9, bools L), (13, .sc (.slice none 0 0)), (14, .I (0 : Nat))], [], 328⟩ rfl ?_ ?_
  · simp
    exact Le.snap [] rfl rfl (by simp)
  have hwl : ∀ m, (wayN g S key m).length = m := fun m => by simp [wayN]
  refine awp_block ?_
  refine awp_loop (ι := Nat) (fun m => ⟨134, [(2, .I kk), (3, .pv (gC g)), (8, ints D), (9, bools L), (13, .rs 16 0 m), (14, .I m)], [(16, some ⟨1, rowsI (wayN g S key m), 0⟩)], 328⟩) (fun m => m ≤ j + 1) (fun m => j + 1 - m) 0 (Nat.zero_le _) (Le.lst [] [] [(16, 1)] rfl (by simp) (by simp) (by simp) (by simp) (by simp) (by simp) (by simp) (by simp [Up, wayN]) (by simp [wayN])) ?_
  intro m hm
  refine awp_seq ?_
  refine awp_regc ⟨134, [(2, .I kk), (3, .pv (gC g)), (8, ints D), (9, bools L), (13, .rs 16 0 m), (14, .I m), (93, .B (decide (m ≤ j)))], [(16, some ⟨1, rowsI (wayN g S key m), 0⟩)], 376⟩ rfl ?_ ?_
  · simp [hgetk, hkkl]
    exact Le.keep rfl (Nat.le_refl _) (by simp) (by simp)
  refine awp_cond _ rfl (fun h => awp_skip ?_) fun h => awp_exit (hit ?_)
  · simp only [decide_eq_true_eq] at h
    have hsp := atW_spec hg hkey h0 m (by omega)
    obtain ⟨A, hA⟩ : ∃ A : Nat, atW g S key m = A := ⟨(atW g S key m).toNat, by have := hsp.1.1; omega⟩
    have hAN : A < N := by have := hsp.1.2; rw [hA] at this; omega
    have hqw : ∀ k : Nat, k ≤ A → qW g S key m k = decide (k = A) := fun k hk => qW_eq hg hkey h0 (by omega) hA hk
    have hrl : (rowsI (wayN g S key m)).length = m := by rw [rowsI, List.length_map, hwl]
    have hrow : rowsI (wayN g S key (m + 1)) = rowsI (wayN g S key m) ++ [[AV.I A]] := by rw [wayN_succ, hA, rowsI, List.map_append]; rfl
    have hwg : ∀ m' , m = m' + 1 → (rowsI (wayN g S key m))[m']? = some [AV.I (atW g S key m')] := fun m' h => by
      subst h
      simp [wayN]
    have hfl : ∀ ρ sn h p, (rowsI (wayN g S key m)).map (List.map (conv ρ sn h (p + 1))) = rowsI (wayN g S key m) := fun ρ sn h p => by simp [Function.comp_def]
    refine awp_cut (ι := Unit) (fun _ => ⟨134, [(2, .I kk), (3, .pv (gC g)), (8, ints D), (9, bools L), (13, .rs 16 0 (m + 1)), (14, .I m)], [(16, some ⟨1, rowsI (wayN g S key (m + 1)), 0⟩)], 800⟩) (fun _ => True) ?_ fun _ _ => ?_
    · rw [hrow]
      generalize hR : rowsI (wayN g S key m) = R at *
      refine awp_block ?_
      refine awp_regc ⟨134, [(2, .I kk), (3, .pv (gC g)), (8, ints D), (9, bools L), (13, .rs 16 0 m), (14, .I m), (15, .I (0 : Nat))], [(16, some ⟨1, R, 0⟩)], 384⟩ rfl ?_ ?_
      · simp
        exact Le.keep rfl (Nat.le_refl _) (by simp) (by simp)
      refine awp_block ?_
      refine awp_loop (ι := Nat) (fun k => ⟨134, [(2, .I kk), (3, .pv (gC g)), (8, ints D), (9, bools L), (13, .rs 16 0 m), (14, .I m), (15, .I k)], [(16, some ⟨1, R, 0⟩)], 384⟩) (fun k => k ≤ A) (fun k => A - k) 0 (Nat.zero_le _) (Le.refl _ _) ?_
      intro k hk
      have hkN : k < N := by omega
      refine awp_seq ?_
      refine awp_regc ⟨134, [(2, .I kk), (3, .pv (gC g)), (8, ints D), (9, bools L), (13, .rs 16 0 m), (14, .I m), (15, .I k), (99, .B true)], [(16, some ⟨1, R, 0⟩)], 416⟩ rfl ?_ ?_
      · simp [hgN]
        exact Le.keep rfl (Nat.le_refl _) (by simp; omega) (by simp)
      refine awp_cond _ rfl (fun _ => awp_skip ?_) fun h => by cases h
      obtain ⟨hkl, hDk⟩ := List.getElem?_eq_some_iff.1 (hDg k hkN)
      obtain ⟨hkl2, hLk⟩ := List.getElem?_eq_some_iff.1 (hLg k hkN)
      refine awp_cut (ι := Unit) (fun _ => ⟨134, [(2, .I kk), (3, .pv (gC g)), (8, ints D), (9, bools L), (13, .rs 16 0 m), (14, .I m), (15, .I k)], [(16, some ⟨1, R, 0⟩)], 632⟩) (fun _ => k < A) ?_ fun _ hkA => ?_
      · refine awp_block ?_
        refine awp_dregc ⟨134, [(2, .I kk), (3, .pv (gC g)), (8, ints D), (9, bools L), (13, .rs 16 0 m), (14, .I m), (15, .I k), (128, .B (qW g S key m k))], [(16, some ⟨1, R, 0⟩)], 632⟩ rfl ?_ ?_
        · by_cases h1 : onF g S key k = true
          · by_cases h2 : dist g S k = m
            · cases m with
              | zero =>
                have hq : qW g S key 0 k = true := by rw [qW_0, h1, h2]; rfl
                simp [hkl2, hLk, h1, hkl, hDk, h2]
                exact ⟨rfl, Le.keep rfl (Nat.le_refl _) (by simp [hq]) (by simp)⟩
              | succ m' =>
                have hwm : IntKind.i64.wrap (((m' + 1 : Nat) : Int) - 1) = (m' : Int) := by rw [w64 (by omega) (by omega)]; omega
                have hw' := hwg m' rfl
                have hspm := atW_spec hg hkey h0 m' (by omega)
                obtain ⟨w, hwe⟩ : ∃ w, w = atW g S key m' := ⟨_, rfl⟩
                rw [← hwe] at hw'
                have hq : qW g S key (m' + 1) k = (outs g.edges w).contains (k : Int) := by
                  rw [qW_s, h1, ← hwe, h2]
                  simp
                have hol := outs_le g.edges w
                rw [hq]
                obtain ⟨M, hM⟩ : ∃ M : Nat, M = m' + 1 := ⟨_, rfl⟩
                have hM0 : ((M : Int) == 0) = false := by simp; omega
                have hm'M : m' < M := by omega
                simp only [← hM] at *
                simp [hkl2, hLk, h1, hkl, hDk, h2, hM0, hwm, hw', hm'M]
                refine callN1 (ref11_Out_ok g w (by omega)) rfl ?_
                simp [Function.comp_def]
                refine call0s [592] (has_ok (outs g.edges w) k (by omega)) (by simp [Function.comp_def, take_map_len]) (.sc _) ?_
                simp
                exact ⟨rfl, Le.keep rfl (Nat.le_refl _) (by simp) (by simp)⟩
            · have hq : qW g S key m k = false := by
                cases m with
                | zero => rw [qW_0, decide_eq_false (by simpa using h2), Bool.and_false]
                | succ m' => rw [qW_s, decide_eq_false (by simpa using h2), Bool.and_false, Bool.false_and]
              have h3 : (dist g S k == (m : Int)) = false := by simp [h2]
              rw [hq]
              simp [hkl2, hLk, h1, hkl, hDk, h3]
              exact ⟨rfl, Le.keep rfl (Nat.le_refl _) (by simp) (by simp)⟩
          · have h3 : onF g S key k = false := by simpa using h1
            have hq : qW g S key m k = false := by
              cases m with
              | zero => rw [qW_0, h3]; rfl
              | succ m' => rw [qW_s, h3]; rfl
            rw [hq]
            simp [hkl2, hLk, h3]
            exact ⟨rfl, Le.keep rfl (Nat.le_refl _) (by simp) (by simp)⟩
        refine awp_cond _ rfl (fun h5 => ?_) fun h5 => awp_skip ?_
        · rw [hqw k hk] at h5
          simp only [decide_eq_true_eq] at h5
          subst h5
          refine awp_cut (ι := Unit) (fun _ => ⟨134, [(2, .I kk), (3, .pv (gC g)), (8, ints D), (9, bools L), (13, .rs 16 0 (m + 1)), (14, .I m)], [(16, some ⟨1, R ++ [[AV.I k]], 0⟩)], 800⟩) (fun _ => True) ?_ fun _ _ => ?_
          · refine awp_reg rfl ?_
            simp [hrl]
            refine ⟨by omega, by omega, ?_⟩
            have htk : List.take m R = R := List.take_of_length_le (by omega)
            refine Le.ren1 656 16 [] rfl rfl (by simp) (by simp) rfl (by simp only [convE]; simp [htk, hfl]) (by simp) (by simp)
          · exact awp_exit (miss (by decide) (hit ⟨(), trivial, Le.refl _ _⟩))
        · rw [hqw k hk] at h5
          simp only [decide_eq_false_iff_not] at h5
          exact ⟨(), by omega, Le.keep rfl (Nat.le_refl _) (by simp) (by simp)⟩
      have hwk : IntKind.i64.wrap ((k : Int) + 1) = ((k + 1 : Nat) : Int) := by rw [w64 (by omega) (by omega)]; omega
      refine awp_reg rfl ?_
      simp [hwk]
      exact ⟨k + 1, by omega, by omega, Le.var1 16 [] rfl rfl (by simp) (by simp) rfl (by simp only [convE, hfl]) (by simp) (by simp)⟩
    have hwm : IntKind.i64.wrap ((m : Int) + 1) = ((m + 1 : Nat) : Int) := by rw [w64 (by omega) (by omega)]; omega
    refine awp_reg rfl ?_
    simp [hwm]
    exact ⟨m + 1, by omega, by omega, Le.var1 16 [] rfl rfl (by simp) (by simp) rfl (by simp [Function.comp_def]) (by simp) (by simp)⟩
  simp only [decide_eq_false_iff_not] at h
  obtain rfl : m = j + 1 := by omega
  refine awp_seq ?_
  refine awp_run (s := ?z9) rfl ?p9 ?r9
  case p9 => simp; rfl
  refine awp_ret ?_
  have hwl2 : wayL g S key = wayN g S key (j + 1) := by rw [wayL, hKt]
  rw [hwl2, hwl]
  exact ⟨.inr rfl, RetOk.out [16] [] rfl (by simp) (by simp) (by simp) (by simp [Function.comp_def])⟩

end Go.Proofs.Ytnphfkceoklkkaa

/- DistanceWays: the program's contract. -/
namespace Go.Proofs.Ytnphfkceoklkkaa
open Go

/-- What is returned for a key: the way to it, or nothing. -/
def wayO (g : Gr) (S : List Int) (key : Int) : List Int := if 0 ≤ dist g S key then wayL g S key else []

structure WayOk (g : Gr) (S : List Int) (key : Int) (W : List Int) : Prop where
  len : ∀ d : Nat, dist g S key = d → W.length = d + 1
  last : ∀ d : Nat, dist g S key = d → W[d]? = some key
  first : ∀ d : Nat, dist g S key = d → ∃ w, W[0]? = some w ∧ S.contains w = true
  none : dist g S key < 0 → W = []
  key_ : ∀ x ∈ W, Key g x
  edge : ∀ i (h : i + 1 < W.length), (outs g.edges W[i]).contains W[i + 1] = true

theorem wayO_ok {g : Gr} {S : List Int} {key : Int} (hg : GrOk g) (hkey : Key g key) : WayOk g S key (wayO g S key) := by
  by_cases h0 : 0 ≤ dist g S key
  · have e : wayO g S key = wayL g S key := if_pos h0
    rw [e]
    have hat : ∀ m : Nat, (m : Int) ≤ dist g S key → (wayL g S key)[m]? = some (atW g S key m) := fun m hm => by
      unfold wayL wayN
      rw [List.getElem?_map, List.getElem?_range (by omega)]
      rfl
    have hlen := wayL_len g S key
    constructor
    · intro d hd
      rw [hlen]
      omega
    · intro d hd
      rw [hat d (by omega)]
      have := atW_last hg hkey h0
      rw [hd] at this
      exact congrArg some this
    · intro d hd
      refine ⟨_, hat 0 (by omega), ?_⟩
      have h1 := (atW_spec hg hkey h0 0 (by omega)).2.2
      have hst : startK g S (atW g S key 0) = true := (dist_zero hg).1 h1
      unfold startK at hst
      rw [Bool.and_eq_true] at hst
      exact hst.1
    · intro h
      omega
    · intro x hx
      unfold wayL wayN at hx
      rw [List.mem_map] at hx
      obtain ⟨m, hm, rfl⟩ := hx
      rw [List.mem_range] at hm
      exact (atW_spec hg hkey h0 m (by omega)).1
    · intro i h
      have h1 := hat i (by omega)
      have h2 := hat (i + 1) (by omega)
      rw [List.getElem?_eq_getElem (by omega)] at h1
      rw [List.getElem?_eq_getElem h] at h2
      rw [Option.some.inj h1, Option.some.inj h2, List.contains_iff_mem]
      exact atW_edge hg hkey h0 (by omega)
  · have e : wayO g S key = [] := if_neg h0
    rw [e]
    exact ⟨fun d hd => by omega, fun d hd => by omega, fun d hd => by omega, fun _ => rfl, fun x hx => by simp at hx, fun i h => by simp at h⟩

set_option maxHeartbeats 8000000 in
set_option maxRecDepth 100000 in
theorem law12_DistanceWays_ok (L : List Int) : ACalls Try.prog nlaw12_DistanceWays [ints L] [] (.B true) [] := by
  refine slaw12_DistanceWays.acalls (Nat.le_of_ble_eq_true rfl) (Nat.le_of_ble_eq_true rfl) (Nat.le_refl _) ?_
  show awp _ 0 _ _ ⟨144, [(0, ints L)], [], 16⟩
  refine awp_seq ?_
  refine awp_run (s := ?s1) rfl ?o1 ?q1
  case o1 => simp; rfl
  refine awp_seq ?_
  refine awp_regc ⟨144, [(0, ints L), (15, .B (decide (¬ L.length ≤ 400)))], [], 48⟩ rfl ?_ ?_
  · simp
    refine call0e (Light_ok L) rfl ?_
    simp
    exact Le.snap [] rfl rfl (by simp <;> exact wkB (by rw [Bool.eq_iff_iff]; simp))
  refine awp_cond _ rfl (fun h => ?_) fun h => awp_skip ?_
  · refine awp_seq ?_
    refine awp_run (s := ?s2) rfl ?o2 ?q2
    case o2 => simp; refine call0e (law12_awake_ok) rfl ?_; simp; rfl
    refine awp_ret ?_
    exact ⟨.inr rfl, RetOk.one (by simp)⟩
  have hl : L.length ≤ 400 := by simpa using h
  have hm := graphD_made L 0 (Nat.zero_le _)
  obtain ⟨g, hg⟩ : ∃ g, g = (graphD L 0).1 := ⟨_, rfl⟩
  obtain ⟨a, ha⟩ : ∃ a, a = (graphD L 0).2 := ⟨_, rfl⟩
  have hok := hm.ok
  have hlo := hm.lo
  have hhi := hm.hi
  have h500 := hok.1.2.2.1
  have hal := hm.at_
  rw [← hg] at hok hlo hhi h500
  rw [← ha] at hal
  have hgr := Graph_ok L 0 hl (Nat.zero_le _)
  rw [← hg, ← ha] at hgr
  clear hm
  obtain ⟨N, hN⟩ : ∃ N : Nat, g.size = N := ⟨g.size.toNat, by omega⟩
  have hsome := Some_ok L a N hl hal (by omega)
  have hsl := someD_len (L := L) (a := a) N
  rw [← hN] at hsome
  obtain ⟨S, hS⟩ : ∃ S, S = (someD L a N).1 := ⟨_, rfl⟩
  rw [← hS] at hsome hsl
  have hD := distance_All_ok g S hok (by omega)
  have hDl : (distL g S).length = N := by rw [distL_len]; omega
  have hDg : ∀ k : Nat, k < N → (distL g S)[k]? = some (dist g S k) := fun k hk => by simp [distL, show k < g.size.toNat by omega]
  have hNn : g.size.toNat = N := by omega
  rw [hNn] at hD
  obtain ⟨D, hDe⟩ : ∃ D, D = distL g S := ⟨_, rfl⟩
  rw [← hDe] at hD hDl
  simp only [← hDe] at hDg
  refine awp_regc ⟨144, [(3, .pt 56 0 0)], [(56, some (dice L 0))], 72⟩ rfl ?_ ?_
  · simp
    refine callN1 (Roll_ok L) rfl ?_
    simp [Function.comp_def]
    exact Le.keep rfl (Nat.le_refl _) (by simp) (by simp)
  refine awp_regc ⟨144, [(3, .pt 56 0 0), (4, .pv (gC g))], [(56, some (dice L a))], 104⟩ rfl ?_ ?_
  · simp
    refine callM1 (i := 56) rfl (e' := dice L 0) (by simp [Function.comp_def]) hgr (by simp) (by simp) ?_
    simp [Function.comp_def]
    exact Le.dc 56 56 [88] rfl rfl (by simp) (by simp) (by simp) (by simp)
  refine awp_regc ⟨144, [(4, .pv (gC g)), (5, ints S)], [], 144⟩ rfl ?_ ?_
  · simp
    refine callM1 (i := 56) rfl (e' := dice L a) (by simp [Function.comp_def]) hsome (by simp) (by simp) ?_
    simp [Function.comp_def]
    exact Le.snap [128] rfl rfl (by simp [Function.comp_def, take_map_len])
  refine awp_regc ⟨144, [(4, .pv (gC g)), (5, ints S), (6, ints D)], [], 176⟩ rfl ?_ ?_
  · simp
    refine callN1 hD rfl ?_
    simp [Function.comp_def]
    exact Le.snap [160] rfl rfl (by simp [Function.comp_def, ← hDl, take_map_len])
  refine awp_seq ?_
  refine awp_regc ⟨144, [(4, .pv (gC g)), (5, ints S), (6, ints D), (32, .B false)], [], 216⟩ rfl ?_ ?_
  · simp [hDl, hN]
    exact Le.snap [] rfl rfl (by simp)
  refine awp_cond _ rfl (fun h => by cases h) fun _ => awp_skip ?_
  -- the edges
  refine awp_seq ?_
  refine awp_seq ?_
  refine awp_run (s := ?s8) rfl ?o8 ?q8
  case o8 => simp; rfl
  refine awp_block ?_
  refine awp_loop (ι := Nat) (fun j => ⟨144, [(4, .pv (gC g)), (5, ints S), (6, ints D), (7, .I j)], [], 224⟩) (fun j => j ≤ g.edges.length) (fun j => g.edges.length - j) 0 (Nat.zero_le _) ?_ ?_
  · exact Le.snap [] rfl rfl (by simp)
  intro j hj
  refine awp_seq ?_
  refine awp_regc ⟨144, [(4, .pv (gC g)), (5, ints S), (6, ints D), (7, .I j), (37, .B (decide (j < g.edges.length)))], [], 264⟩ rfl ?_ ?_
  · simp
    exact Le.snap [] rfl rfl (by simp)
  refine awp_cond _ rfl (fun h2 => awp_skip ?_) fun h2 => awp_exit (hit ?_)
  · simp only [decide_eq_true_eq] at h2
    have hwj : IntKind.i64.wrap ((j : Int) + 1) = ((j + 1 : Nat) : Int) := by rw [w64 (by omega) (by omega)]; omega
    refine awp_cut (ι := Unit) (fun _ => ⟨144, [(4, .pv (gC g)), (5, ints S), (6, ints D), (7, .I j)], [], 264⟩) (fun _ => True) ?_ fun _ _ => ?_
    · obtain ⟨e, he⟩ : ∃ e, e = g.edges[j] := ⟨_, rfl⟩
      have hmem : e ∈ g.edges := by rw [he]; exact List.getElem_mem h2
      have hfit := hok.fits e hmem
      have hedge := dist_edge (S := S) hok hmem
      obtain ⟨x, hx⟩ : ∃ x : Nat, e.f = x := ⟨e.f.toNat, by have := hfit.1; omega⟩
      obtain ⟨y, hy⟩ : ∃ y : Nat, e.t = y := ⟨e.t.toNat, by have := hfit.2.2.1; omega⟩
      rw [hx, hy] at hedge
      have hxN : x < N := by have := hfit.2.1; omega
      have hyN : y < N := by have := hfit.2.2.2.1; omega
      obtain ⟨hxl, hDxe⟩ := List.getElem?_eq_some_iff.1 (hDg x hxN)
      obtain ⟨hyl, hDye⟩ := List.getElem?_eq_some_iff.1 (hDg y hyN)
      have hrx := dist_range (g := g) (S := S) x
      have hwd : IntKind.i64.wrap (dist g S x + 1) = dist g S x + 1 := w64 (by omega) (by omega)
      have hee : g.edges[j]? = some e := by rw [List.getElem?_eq_getElem h2, he]
      refine awp_block ?_
      refine awp_regc ⟨144, [(4, .pv (gC g)), (5, ints S), (6, ints D), (7, .I j), (8, .pv [.I x, .I y, .I e.v])], [], 320⟩ rfl ?_ ?_
      · simp [h2, hee, ← he, splice]
        exact Le.snap [304] rfl rfl (by simp [hx, hy])
      refine awp_dregc ⟨144, [(4, .pv (gC g)), (5, ints S), (6, ints D), (7, .I j), (72, .B false)], [], 544⟩ rfl ?_ ?_
      · by_cases h0 : 0 ≤ dist g S x
        · have h1 := hedge h0
          have hq1 : ¬ dist g S y < 0 := by omega
          have hq2 : ¬ dist g S x + 1 < dist g S y := by omega
          simp [hxl, hDxe, hyl, hDye, h0, hq1, hq2, hwd]
          exact ⟨rfl, Le.snap [] rfl rfl (by simp)⟩
        · simp [hxl, hDxe, hyl, hDye, h0]
          exact ⟨rfl, Le.snap [] rfl rfl (by simp)⟩
      refine awp_cond _ rfl (fun h => by cases h) fun _ => awp_skip ?_
      exact ⟨(), trivial, Le.snap [] rfl rfl (by simp)⟩
    refine awp_reg rfl ?_
    simp [hwj]
    exact ⟨j + 1, by omega, by omega, Le.snap [] rfl rfl (by simp)⟩
  -- the ways
  refine awp_seq ?_
  refine awp_seq ?_
  refine awp_run (s := ?s9) rfl ?o9 ?q9
  case o9 => simp; rfl
  refine awp_block ?_
  refine awp_loop (ι := Nat) (fun k => ⟨144, [(4, .pv (gC g)), (5, ints S), (6, ints D), (9, .I k)], [], 272⟩) (fun k => k ≤ N) (fun k => N - k) 0 (Nat.zero_le _) ?_ ?_
  · exact Le.snap [] rfl rfl (by simp)
  intro k hk
  refine awp_seq ?_
  refine awp_regc ⟨144, [(4, .pv (gC g)), (5, ints S), (6, ints D), (9, .I k), (76, .B (decide (k < N)))], [], 304⟩ rfl ?_ ?_
  · simp [hN]
    exact Le.snap [] rfl rfl (by simp)
  refine awp_cond _ rfl (fun h2 => awp_skip ?_) fun h2 => awp_exit (hit ?_)
  · simp only [decide_eq_true_eq] at h2
    have hwk : IntKind.i64.wrap ((k : Int) + 1) = ((k + 1 : Nat) : Int) := by rw [w64 (by omega) (by omega)]; omega
    have hkey : Key g k := ⟨by omega, by omega⟩
    have hwok := wayO_ok (S := S) hok hkey
    obtain ⟨W, hW⟩ : ∃ W, W = wayO g S k := ⟨_, rfl⟩
    rw [← hW] at hwok
    obtain ⟨hkl, hDke⟩ := List.getElem?_eq_some_iff.1 (hDg k h2)
    have hrk := dist_range (g := g) (S := S) k
    refine awp_cut (ι := Unit) (fun _ => ⟨144, [(4, .pv (gC g)), (5, ints S), (6, ints D), (9, .I k)], [], 304⟩) (fun _ => True) ?_ fun _ _ => ?_
    · refine awp_block ?_
      refine awp_regc ⟨144, [(4, .pv (gC g)), (5, ints S), (6, ints D), (9, .I k), (10, ints W), (11, .B (decide (0 ≤ dist g S k)))], [], 376⟩ rfl ?_ ?_
      · by_cases h0 : 0 ≤ dist g S k
        · have hy := Way_yes hok (S := S) (by omega) hkey h0
          have e : wayL g S k = W := by rw [hW]; exact (if_pos h0).symm
          rw [e] at hy
          simp
          refine callN1 hy rfl ?_
          simp [Function.comp_def]
          exact Le.snap [328] rfl rfl (by simp [Function.comp_def, take_map_len, h0])
        · have hn := Way_no hok (S := S) (key := k) (by omega) (fun h => h0 h.2)
          have e : W = [] := hwok.none (by omega)
          rw [e]
          simp
          refine call0e hn rfl ?_
          simp
          exact Le.snap [] rfl rfl (by simp [h0]; exact .refl _)
      refine awp_seq ?_
      refine awp_regc ⟨144, [(4, .pv (gC g)), (5, ints S), (6, ints D), (9, .I k), (10, ints W), (123, .B false)], [], 680⟩ rfl ?_ ?_
      · by_cases h0 : 0 ≤ dist g S k
        · obtain ⟨d, hd⟩ : ∃ d : Nat, dist g S k = d := ⟨(dist g S k).toNat, by omega⟩
          rw [hd] at hDke
          have hWl := hwok.len d hd
          obtain ⟨hdl, hWd⟩ := List.getElem?_eq_some_iff.1 (hwok.last d hd)
          obtain ⟨w, hw0, hSw⟩ := hwok.first d hd
          obtain ⟨h0l, hw0e⟩ := List.getElem?_eq_some_iff.1 hw0
          obtain ⟨nl, hnl⟩ : ∃ nl : Nat, W.length = nl := ⟨_, rfl⟩
          have hw1 : IntKind.i64.wrap ((d : Int) + 1) = (nl : Int) := by rw [w64 (by omega) (by omega)]; omega
          have hw2 : IntKind.i64.wrap ((nl : Int) - 1) = (d : Int) := by rw [w64 (by omega) (by omega)]; omega
          have hdn : d < nl := by omega
          have h0n : 0 < nl := by omega
          simp [hd, hkl, hDke, hnl, hw1, hw2, hWd, hw0e, hdn, h0n]
          refine call0e (has_ok S w (by omega)) rfl ?_
          simp only [hSw]
          simp
          exact Le.snap [] rfl rfl (by simp)
        · simp [hkl, hDke, h0]
          exact Le.snap [] rfl rfl (by simp)
      refine awp_cond _ rfl (fun h => by cases h) fun _ => awp_skip ?_
      refine awp_seq ?_
      refine awp_run (s := ?s12) rfl ?o12 ?q12
      case o12 => simp; rfl
      refine awp_block ?_
      refine awp_loop (ι := Nat) (fun p => ⟨144, [(4, .pv (gC g)), (5, ints S), (6, ints D), (9, .I k), (10, ints W), (12, .I p)], [], 688⟩) (fun p => 1 ≤ p ∧ p ≤ W.length + 1) (fun p => W.length + 1 - p) 1 ⟨Nat.le_refl _, by omega⟩ ?_ ?_
      · exact Le.snap [] rfl rfl (by simp)
      rintro p ⟨hp1, hp2⟩
      have hWb : W.length ≤ 1000 := by
        by_cases h0 : 0 ≤ dist g S k
        · have := hwok.len (dist g S k).toNat (by omega)
          omega
        · rw [hwok.none (by omega)]
          simp
      refine awp_seq ?_
      refine awp_regc ⟨144, [(4, .pv (gC g)), (5, ints S), (6, ints D), (9, .I k), (10, ints W), (12, .I p), (127, .B (decide (p < W.length)))], [], 720⟩ rfl ?_ ?_
      · simp
        exact Le.snap [] rfl rfl (by simp)
      refine awp_cond _ rfl (fun h3 => awp_skip ?_) fun h3 => awp_exit (hit ?_)
      · simp only [decide_eq_true_eq] at h3
        have hwp : IntKind.i64.wrap ((p : Int) + 1) = ((p + 1 : Nat) : Int) := by rw [w64 (by omega) (by omega)]; omega
        obtain ⟨q, hq⟩ : ∃ q, p = q + 1 := ⟨p - 1, by omega⟩
        have hwq : IntKind.i64.wrap ((p : Int) - 1) = (q : Int) := by rw [w64 (by omega) (by omega)]; omega
        have hql : q < W.length := by omega
        have hedge := hwok.edge q (by omega)
        simp only [← hq] at hedge
        obtain ⟨u, hu⟩ : ∃ u, W[q] = u := ⟨_, rfl⟩
        obtain ⟨v, hv⟩ : ∃ v, W[p] = v := ⟨_, rfl⟩
        rw [hu, hv] at hedge
        have hol := outs_le g.edges u
        refine awp_cut (ι := Unit) (fun _ => ⟨144, [(4, .pv (gC g)), (5, ints S), (6, ints D), (9, .I k), (10, ints W), (12, .I p)], [], 720⟩) (fun _ => True) ?_ fun _ _ => ?_
        · refine awp_block ?_
          refine awp_dregc ⟨144, [(4, .pv (gC g)), (5, ints S), (6, ints D), (9, .I k), (10, ints W), (12, .I p), (142, .B false)], [], 824⟩ rfl ?_ ?_
          · simp [hwq, hql, hu, hv, h3]
            refine callN1 (ref11_Out_ok g u (by omega)) rfl ?_
            simp [Function.comp_def, hu, hv, h3]
            refine call0s [768] (has_ok (outs g.edges u) v (by omega)) (by simp [Function.comp_def, take_map_len]) (.sc _) ?_
            simp only [hedge]
            simp
            exact ⟨rfl, Le.snap [] rfl rfl (by simp)⟩
          refine awp_cond _ rfl (fun h => by cases h) fun _ => awp_skip ?_
          exact ⟨(), trivial, Le.snap [] rfl rfl (by simp)⟩
        refine awp_reg rfl ?_
        simp [hwp]
        exact ⟨p + 1, ⟨by omega, by omega⟩, by omega, Le.snap [] rfl rfl (by simp)⟩
      exact ⟨(), trivial, Le.snap [] rfl rfl (by simp)⟩
    refine awp_reg rfl ?_
    simp [hwk]
    exact ⟨k + 1, by omega, by omega, Le.snap [] rfl rfl (by simp)⟩
  refine awp_seq ?_
  refine awp_run (s := ?z9) rfl ?p9 ?r9
  case p9 => simp; refine call0e (law12_awake_ok) rfl ?_; simp; rfl
  refine awp_ret ?_
  exact ⟨.inr rfl, RetOk.one (by simp)⟩

end Go.Proofs.Ytnphfkceoklkkaa

/- law12.agree: program and reference answer alike. -/
namespace Go.Proofs.Ytnphfkceoklkkaa
open Go

instance (g : Gr) (k : Int) : Decidable (Key g k) := by unfold Key; infer_instance

variable {g : Gr} {S : List Int}

set_option maxHeartbeats 1000000 in
set_option maxRecDepth 100000 in
theorem distance_Order_ok2 (hg : GrOk g) (hN : g.size < 20 ∨ g.edges = []) (hS : S.length ≤ 1099511627776) : ACalls Try.prog ndistance_Order [eG g, ints S] [] (.rs 0 0 (ordL g S).length) [some ⟨1, rowsI (ordL g S), 0⟩] := by
  refine sdistance_Order.acalls (Nat.le_of_ble_eq_true rfl) (Nat.le_of_ble_eq_true rfl) (Nat.zero_le _) ?_
  show awp _ 0 _ _ ⟨18, [(0, eG g), (1, ints S)], [], 16⟩
  have hsz2 := hg.1.2.1
  have hsz := hg.1.1
  obtain ⟨N, hNe⟩ : ∃ N : Nat, N = g.size.toNat := ⟨_, rfl⟩
  have hall := distance_All_ok g S hg hS
  have hDl : (distL g S).length = N := by rw [distL_len, hNe]
  have hDg : ∀ k : Nat, k < N → (distL g S).getD k 0 = dist g S k := fun k hk => distL_get (by omega)
  rw [← hNe] at hall
  obtain ⟨D, hD⟩ : ∃ D, D = distL g S := ⟨_, rfl⟩
  rw [← hD] at hall hDl hDg
  obtain ⟨W, hW⟩ : ∃ W, W = whereQ N fun k => decide (0 ≤ dist g S k) := ⟨_, rfl⟩
  have hWl : W.length ≤ N := by rw [hW]; exact whereQ_le _ _
  have hWm : ∀ x ∈ W, 0 ≤ x ∧ x < N := fun x hx => by rw [hW] at hx; exact (mem_whereQ.1 hx).1
  have hwhere : ACalls Try.prog nlists_Where [.I N, .fn (.func ndistance_Order_c1) [] [.pv [ints D]]] [] (.rs 0 0 W.length) [some ⟨1, rowsI W, 0⟩] := by
    have := Where_ok ndistance_Order_c1 [.pv [ints D]] (fun k => decide (0 ≤ dist g S k)) N (by omega) (fun ρ sn h n => by simp) (fun k hk => by
      have h1 := Order_c1_ok D k (by omega)
      rw [hDg k (by omega)] at h1
      exact h1)
    simpa [← hW] using this
  have hWs : W.length < 20 ∨ W.length ≤ 1000000 ∧ W.Pairwise fun a b => ¬ cD g S b a < 0 := by
    rcases hN with hN | hN
    · exact .inl (by omega)
    · refine .inr ⟨by have := hg.1.2.1; omega, ?_⟩
      rw [hW]
      refine (whereQ_pair _ _).imp_of_mem fun {a b} ha hb _ => ?_
      have h1 := (mem_whereQ.1 ha).2
      have h2 := (mem_whereQ.1 hb).2
      simp only [decide_eq_true_eq] at h1 h2
      have z : ∀ x, 0 ≤ dist g S x → dist g S x = 0 := fun x hx => by
        obtain ⟨d, hd⟩ : ∃ d : Nat, dist g S x = d := ⟨(dist g S x).toNat, by omega⟩
        cases d with
        | zero => exact hd
        | succ d =>
          obtain ⟨e, he, _⟩ := dist_pred hg (n := d) (k := x) (by rw [hd]; rfl)
          rw [hN] at he
          cases he
      unfold cD
      rw [z a h1, z b h2]
      decide
  have hsort := SortStable_srt ndistance_Order_c2 [.pv [ints D]] (cD g S) W W.length rfl hWs (fun ρ sn h n => by simp) (fun x hx y hy => by
    obtain ⟨a, ha⟩ : ∃ a : Nat, x = a := ⟨x.toNat, by have := hWm x hx; omega⟩
    obtain ⟨b, hb⟩ : ∃ b : Nat, y = b := ⟨y.toNat, by have := hWm y hy; omega⟩
    have h1 := hWm x hx
    have h2 := hWm y hy
    subst ha hb
    have h3 := Order_c2_ok D a b (by omega) (by omega)
    rw [hDg a (by omega), hDg b (by omega)] at h3
    exact h3)
  have hord : isort (cD g S) W = ordL g S := by rw [hW, hNe]; exact order_eq hg
  have hol : (ordL g S).length = W.length := by
    rw [← hord]
    unfold isort
    rw [List.length_reverse, isortRev_len]
  rw [hord] at hsort
  have htk : List.take N (rowsI D) = rowsI D := List.take_of_length_le (by simp [hDl])
  have hRl : (rowsI D).length = N := by simp [hDl]
  refine awp_regc ⟨18, [(1, ints S), (2, .pv (gC g))], [], 32⟩ rfl ?_ ?_
  · simp
    exact Le.snap [16] rfl rfl (by simp)
  refine awp_regc ⟨18, [(5, .pv [ints D])], [], 72⟩ rfl ?_ ?_
  · simp
    refine callN1 hall rfl ?_
    simp [Function.comp_def]
    exact Le.snap [48, 56] rfl rfl (by simp [Function.comp_def, ← hDl, take_map_len])
  refine awp_regc ⟨18, [(5, .pv [ints D]), (6, .rs 96 0 W.length)], [(96, some ⟨1, rowsI W, 0⟩)], 112⟩ rfl ?_ ?_
  · simp [hDl]
    refine callN1 hwhere (by simp) ?_
    simp [Function.comp_def]
    exact Le.keep rfl (Nat.le_refl _) (by simp) (by simp)
  rw [hol]
  refine awp_regc ⟨18, [(6, .rs 96 0 W.length)], [(96, some ⟨1, rowsI (ordL g S), 0⟩)], 136⟩ rfl ?_ ?_
  · simp
    refine callM1 (i := 96) rfl (e' := ⟨1, rowsI W, 0⟩) (by simp [Function.comp_def]) hsort (by simp) (by simp) ?_
    simp [Function.comp_def]
    exact Le.keep rfl (Nat.le_refl _) (by simp) (by simp)
  refine awp_seq ?_
  refine awp_run (s := ?s1) rfl ?o1 ?q1
  case o1 => simp; rfl
  refine awp_ret ?_
  exact ⟨.inr rfl, RetOk.out [96] [] rfl (by simp) (by simp) (by simp) (by simp [Function.comp_def])⟩


theorem ordL_le (hg : GrOk g) : (ordL g S).length ≤ 4096 := by
  have h1 : ∀ m : Nat, (ordN g S m).length ≤ m * g.size.toNat := by
    intro m
    induction m with
    | zero => simp [ordN]
    | succ m ih =>
      rw [ordN, List.length_append]
      have := whereQ_le g.size.toNat fun k => decide (dist g S k = m)
      rw [Nat.add_mul]
      omega
  have := h1 g.size.toNat
  have h2 := hg.1.2.1
  have : g.size.toNat * g.size.toNat ≤ 64 * 64 := Nat.mul_le_mul (by omega) (by omega)
  unfold ordL
  omega

set_option maxHeartbeats 4000000 in
set_option maxRecDepth 100000 in
theorem law12_agree_ok (hg : GrOk g) (hN : g.size < 20 ∨ g.edges = []) (hS : S.length ≤ 1000000) : ACalls Try.prog nlaw12_agree [eG g, ints S] [] (.B true) [] := by
  refine slaw12_agree.acalls (Nat.le_of_ble_eq_true rfl) (Nat.le_of_ble_eq_true rfl) (Nat.le_refl _) ?_
  show awp _ 0 _ _ ⟨55, [(0, eG g), (1, ints S)], [], 16⟩
  have hsz := hg.1.1
  have hsz2 := hg.1.2.1
  obtain ⟨N, hNe⟩ : ∃ N : Nat, g.size = N := ⟨g.size.toNat, by omega⟩
  have hNn : g.size.toNat = N := by omega
  have hA := distance_All_ok g S hg (by omega)
  have hB := ref12_All_ok g S hg (by omega)
  have hC := distance_Order_ok2 hg hN (S := S) (by omega)
  have hE := ref12_Order_ok hg (S := S) (by omega)
  have hDl : (distL g S).length = N := by rw [distL_len]; omega
  have hOl := ordL_le (S := S) hg
  rw [hNn] at hA hB
  obtain ⟨D, hD⟩ : ∃ D, D = distL g S := ⟨_, rfl⟩
  obtain ⟨O, hO⟩ : ∃ O, O = ordL g S := ⟨_, rfl⟩
  rw [← hD] at hA hB hDl
  rw [← hO] at hC hE hOl
  refine awp_regc ⟨55, [(1, ints S), (2, .pv (gC g))], [], 32⟩ rfl ?_ ?_
  · simp
    exact Le.snap [16] rfl rfl (by simp)
  refine awp_seq ?_
  refine awp_regc ⟨55, [(1, ints S), (2, .pv (gC g)), (5, .I (((0 : Nat) : Int) - 1))], [], 40⟩ rfl ?_ ?_
  · simp
    exact Le.snap [] rfl rfl (by simp)
  refine awp_block ?_
  refine awp_loop (ι := Nat) (fun k => ⟨55, [(1, ints S), (2, .pv (gC g)), (5, .I ((k : Int) - 1))], [], 40⟩) (fun k => k ≤ N + 2) (fun k => N + 2 - k) 0 (by omega) ?_ ?_
  · exact Le.refl _ _
  intro k hk
  have hwk : IntKind.i64.wrap (k : Int) = (k : Int) := w64 (by omega) (by omega)
  obtain ⟨key, hkey⟩ : ∃ key : Int, key = (k : Int) - 1 := ⟨_, rfl⟩
  rw [← hkey]
  refine awp_seq ?_
  refine awp_regc ⟨55, [(1, ints S), (2, .pv (gC g)), (5, .I key), (13, .B (decide (key ≤ N)))], [], 72⟩ rfl ?_ ?_
  · simp [hNe]
    exact Le.snap [] rfl rfl (by simp)
  refine awp_cond _ rfl (fun h2 => awp_skip ?_) fun h2 => awp_exit (hit ?_)
  · simp only [decide_eq_true_eq] at h2
    refine awp_cut (ι := Unit) (fun _ => ⟨55, [(1, ints S), (2, .pv (gC g)), (5, .I key)], [], 320⟩) (fun _ => True) ?_ fun _ _ => ?_
    · refine awp_block ?_
      obtain ⟨W, hW⟩ : ∃ W, W = (if Key g key ∧ 0 ≤ dist g S key then wayL g S key else []) := ⟨_, rfl⟩
      have hWl : W.length ≤ 1000 := by
        rw [hW]
        split
        · have := dist_range (g := g) (S := S) key
          rw [wayL_len]
          omega
        · simp
      obtain ⟨b, hb⟩ : ∃ b, b = decide (Key g key ∧ 0 ≤ dist g S key) := ⟨_, rfl⟩
      refine awp_regc ⟨55, [(1, ints S), (2, .pv (gC g)), (5, .I key), (6, ints W), (7, .B b)], [], 144⟩ rfl ?_ ?_
      · by_cases h0 : Key g key ∧ 0 ≤ dist g S key
        · have hy := Way_yes hg (S := S) (by omega) h0.1 h0.2
          rw [if_pos h0] at hW
          rw [decide_eq_true h0] at hb
          rw [← hW] at hy
          simp
          refine callN1 hy rfl ?_
          simp [Function.comp_def]
          exact Le.snap [96] rfl rfl (by simp [Function.comp_def, take_map_len, hb])
        · have hn := Way_no hg (S := S) (key := key) (by omega) h0
          rw [if_neg h0] at hW
          rw [decide_eq_false h0] at hb
          rw [hW]
          simp
          refine call0e hn rfl ?_
          simp
          exact Le.snap [] rfl rfl (by simp [hb]; exact .refl _)
      refine awp_regc ⟨55, [(1, ints S), (2, .pv (gC g)), (5, .I key), (6, ints W), (7, .B b), (8, ints W), (9, .B b)], [], 216⟩ rfl ?_ ?_
      · by_cases h0 : Key g key ∧ 0 ≤ dist g S key
        · have hy := ref12_Way_yes hg (S := S) (by omega) h0.1 h0.2
          rw [if_pos h0] at hW
          rw [decide_eq_true h0] at hb
          rw [← hW] at hy
          simp
          refine callN1 hy rfl ?_
          simp [Function.comp_def]
          exact Le.snap [168] rfl rfl (by simp [Function.comp_def, take_map_len, hb])
        · have hn := ref12_Way_no hg (S := S) (key := key) (by omega) h0
          rw [if_neg h0] at hW
          rw [decide_eq_false h0] at hb
          rw [hW]
          simp
          refine call0e hn rfl ?_
          simp
          exact Le.snap [] rfl rfl (by simp [hb]; exact .refl _)
      refine awp_regc ⟨55, [(1, ints S), (2, .pv (gC g)), (5, .I key), (38, .B false)], [], 288⟩ rfl ?_ ?_
      · simp
        refine call0e (SameInts_ok W W (by omega)) rfl ?_
        simp
        exact Le.snap [] rfl rfl (by simp)
      refine awp_cond _ rfl (fun h => by cases h) fun _ => awp_skip ?_
      exact ⟨(), trivial, Le.snap [] rfl rfl (by simp)⟩
    subst hkey
    refine awp_reg rfl ?_
    simp [hwk]
    exact ⟨k + 1, by omega, by omega, Le.snap [] rfl rfl (by simp)⟩
  refine awp_dregc ⟨55, [(4, .B true)], [], 208⟩ rfl ?_ ?_
  · have t1 : List.take N (List.map (fun x => [AV.I x]) D) = List.map (fun x => [AV.I x]) D := List.take_of_length_le (by rw [List.length_map]; omega)
    have t2 : List.take O.length (List.map (fun x => [AV.I x]) O) = List.map (fun x => [AV.I x]) O := List.take_of_length_le (by rw [List.length_map]; omega)
    have l1 : N ≤ (List.map (fun x => [AV.I x]) D).length := by rw [List.length_map]; omega
    simp
    refine callN1 hA rfl ?_
    simp [Function.comp_def]
    refine callN1 hB rfl ?_
    simp [Function.comp_def]
    refine call0s [88, 112] (SameInts_ok D D (by omega)) (by simp [Function.comp_def, hDl, t1]) (.sc _) ?_
    simp
    refine callN1 hC rfl ?_
    simp [Function.comp_def]
    refine callN1 hE rfl ?_
    simp [Function.comp_def]
    refine call0s [152, 176] (SameInts_ok O O (by omega)) (by simp [Function.comp_def, t2]) (.sc _) ?_
    simp
    exact ⟨rfl, Le.snap [] rfl rfl (by simp)⟩
  refine awp_ret ?_
  exact ⟨.inr rfl, RetOk.one (by simp)⟩

end Go.Proofs.Ytnphfkceoklkkaa

/- DistanceAll: the program's contract. -/
namespace Go.Proofs.Ytnphfkceoklkkaa
open Go

theorem empty_ok {M : Int} (h0 : 0 ≤ M) (h1 : M ≤ 64) : GrOk ⟨M, [], []⟩ :=
  ⟨⟨h0, h1, by simp, fun i hi => absurd hi (by simp)⟩, fun i hi => absurd hi (by simp)⟩

set_option maxHeartbeats 4000000 in
set_option maxRecDepth 100000 in
theorem law12_DistanceAll_ok (L Q : List Int) : ACalls Try.prog nlaw12_DistanceAll [ints L, ints Q] [] (.B true) [] := by
  refine slaw12_DistanceAll.acalls (Nat.le_of_ble_eq_true rfl) (Nat.le_of_ble_eq_true rfl) (Nat.le_refl _) ?_
  show awp _ 0 _ _ ⟨51, [(0, ints L), (1, ints Q)], [], 16⟩
  refine awp_regc ⟨51, [(0, ints L), (1, ints Q)], [], 24⟩ rfl ?_ ?_
  · simp
    exact Le.snap [] rfl rfl (by simp)
  refine awp_seq ?_
  refine awp_regc ⟨51, [(0, ints L), (1, ints Q), (14, .B (decide (¬ (L.length ≤ 400 ∧ Q.length ≤ 70))))], [], 88⟩ rfl ?_ ?_
  · simp
    refine call0e (Light_ok L) rfl ?_
    by_cases h : L.length ≤ 400
    · simp [h]
      exact Le.snap [] rfl rfl (by simp <;> exact wkB (by rw [Bool.eq_iff_iff]; simp; omega))
    · simp [h]
      exact Le.snap [] rfl rfl (by simp)
  refine awp_cond _ rfl (fun h => ?_) fun h => awp_skip ?_
  · refine awp_seq ?_
    refine awp_run (s := ?s2) rfl ?o2 ?q2
    case o2 => simp; refine call0e (law12_awake_ok) rfl ?_; simp; rfl
    refine awp_ret ?_
    exact ⟨.inr rfl, RetOk.one (by simp)⟩
  simp only [decide_eq_false_iff_not, Decidable.not_not] at h
  obtain ⟨hl, hql⟩ := h
  have hm := graphD_made L 0 (Nat.zero_le _)
  obtain ⟨g, hg⟩ : ∃ g, g = (graphD L 0).1 := ⟨_, rfl⟩
  obtain ⟨a, ha⟩ : ∃ a, a = (graphD L 0).2 := ⟨_, rfl⟩
  have hok := hm.ok
  have hlo := hm.lo
  have hhi := hm.hi
  have hal := hm.at_
  rw [← hg] at hok hlo hhi
  rw [← ha] at hal
  have hgr := Graph_ok L 0 hl (Nat.zero_le _)
  rw [← hg, ← ha] at hgr
  clear hm
  obtain ⟨N, hN⟩ : ∃ N : Nat, g.size = N := ⟨g.size.toNat, by omega⟩
  have hsome := Some_ok L a N hl hal (by omega)
  have hsl := someD_len (L := L) (a := a) N
  obtain ⟨S, hS⟩ : ∃ S, S = (someD L a N).1 := ⟨_, rfl⟩
  obtain ⟨b, hb⟩ : ∃ b, b = (someD L a N).2 := ⟨_, rfl⟩
  have hbl : b ≤ L.length := by rw [hb]; exact someD_le hal N
  rw [← hS, ← hb] at hsome
  rw [← hS] at hsl
  have hnx := Next1_ok L b N hl hbl (by omega)
  obtain ⟨x, hx⟩ : ∃ x, x = (nextD L b N).1 := ⟨_, rfl⟩
  rw [← hx] at hnx
  have hmo := Mod_ok (Q.length : Int) 65 (by omega)
  have hmr := modI_lt (n := (Q.length : Int)) (m := 65) (by omega)
  obtain ⟨M, hM⟩ : ∃ M, M = modI (Q.length : Int) 65 := ⟨_, rfl⟩
  rw [← hM] at hmo hmr
  have hMok := empty_ok (M := M) hmr.1 (by omega)
  have c1 := law12_agree_ok hok (S := Q) (.inl (by omega)) (by omega)
  have c2 := law12_agree_ok hok (S := S) (.inl (by omega)) (by omega)
  have c3 := law12_agree_ok hok (S := [x]) (.inl (by omega)) (by simp)
  have c4 := law12_agree_ok hMok (S := Q) (.inr rfl) (by omega)
  refine awp_regc ⟨51, [(1, ints Q), (5, .pt 96 0 0)], [(96, some (dice L 0))], 112⟩ rfl ?_ ?_
  · simp
    refine callN1 (Roll_ok L) rfl ?_
    simp [Function.comp_def]
    exact Le.keep rfl (Nat.le_refl _) (by simp) (by simp)
  refine awp_regc ⟨51, [(1, ints Q), (5, .pt 96 0 0), (6, .pv (gC g))], [(96, some (dice L a))], 144⟩ rfl ?_ ?_
  · simp
    refine callM1 (i := 96) rfl (e' := dice L 0) (by simp [Function.comp_def]) hgr (by simp) (by simp) ?_
    simp [Function.comp_def]
    exact Le.dc 96 96 [128] rfl rfl (by simp) (by simp) (by simp) (by simp)
  refine awp_dregc ⟨51, [(4, .B true)], [], 400⟩ rfl ?_ ?_
  · simp
    refine call0e law12_awake_ok rfl ?_
    simp
    refine callf nlaw12_agree rfl ?_
    refine call0e c1 (by simp) ?_
    simp [hN]
    refine callM1 (i := 96) rfl (e' := dice L a) (by simp [Function.comp_def]) hsome (by simp) (by simp) ?_
    simp [Function.comp_def]
    refine callf nlaw12_agree rfl ?_
    refine call0s [232] c2 (by simp [Function.comp_def, take_map_len, hN]) (.sc _) ?_
    simp [hN]
    refine callM1 (i := 96) rfl (e' := dice L b) (by simp [Function.comp_def]) hnx (by simp) (by simp) ?_
    simp [Function.comp_def]
    refine callf nlaw12_agree rfl ?_
    refine call0s [304] c3 (by simp [Function.comp_def, hN]) (.sc _) ?_
    simp
    refine call0e hmo rfl ?_
    simp
    refine callf nlaw12_agree rfl ?_
    refine call0 c4 (by simp; exact wkA3 (.refl _) (.nil _ _) (.nil _ _)) ?_
    simp
    exact ⟨rfl, Le.snap [] rfl rfl (by simp)⟩
  refine awp_ret ?_
  exact ⟨.inr rfl, RetOk.one (by simp)⟩

end Go.Proofs.Ytnphfkceoklkkaa
