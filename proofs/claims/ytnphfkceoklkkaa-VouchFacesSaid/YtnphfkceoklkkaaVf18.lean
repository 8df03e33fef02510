/- Texts of this claim, merged. -/
import Derived.Test.YtnphfkceoklkkaaVf17
set_option linter.unusedSimpArgs false
set_option linter.unusedVariables false
set_option linter.unusedSectionVars false
/- The reference's active vouches (ref10.Active, Between). -/
namespace Go.Proofs.Ytnphfkceoklkkaa
open Go

def HoldsR (v : Vch) (g : List Int) (t : Int) : Prop := v.ti ≤ t ∧ t < v.en ∧ (v.re = -1 ∨ t < v.re) ∧ v.fr ∉ g ∧ v.to ∉ g
instance (v : Vch) (g : List Int) (t : Int) : Decidable (HoldsR v g t) := by unfold HoldsR; infer_instance
/-- Is the next one a later one between the same? -/
def nextB (V : List Vch) (t : Int) (i : Nat) (v : Vch) : Bool := (V[i + 1]?).any fun w => decide (LaterP v t w)
def keepR (V : List Vch) (g : List Int) (t : Int) (i : Nat) (v : Vch) : Bool := decide (HoldsR v g t) && !nextB V t i v
/-- The reference's active ones among the first of the vouches. -/
def actRN (V : List Vch) (g : List Int) (t : Int) : Nat → List Vch
  | 0 => []
  | i + 1 => actRN V g t i ++ match V[i]? with | some v => if keepR V g t i v then [v] else [] | none => []
def actR (l : List Stm) (t : Int) : List Vch := actRN (ofR l) (goneN l t 64) t (ofR l).length
theorem actRN_le (V : List Vch) (g : List Int) (t : Int) : ∀ i, (actRN V g t i).length ≤ i
  | 0 => Nat.le_refl _
  | i + 1 => by
    have := actRN_le V g t i
    unfold actRN
    rw [List.length_append]
    split
    · split <;> simp <;> omega
    · simp; omega
theorem ofR_len (l : List Stm) : (ofR l).length = (rawR l l).length := by unfold ofR isortV; rw [List.length_reverse, isortRevV_len]

set_option maxHeartbeats 4000000 in
set_option maxRecDepth 100000 in
theorem ref10_Active_ok (l : List Stm) (t : Int) (hl : l.length ≤ 100000) : ACalls Try.prog nref10_Active [sts l, .I t] [] (.rs 0 0 (actR l t).length) [some ⟨7, rowsV (actR l t), 0⟩] := by
  refine sref10_Active.acalls (Nat.le_of_ble_eq_true rfl) (Nat.le_of_ble_eq_true rfl) (Nat.zero_le _) ?_
  show awp _ 0 _ _ ⟨107, [(0, sts l), (1, .I t)], [], 16⟩
  refine awp_regc ⟨107, [(0, sts l), (1, .I t)], [], 24⟩ rfl (by simp; exact Le.snap [] rfl rfl (by simp)) ?_
  have hof := ref10_Of_ok l hl
  have hgo := ref10_Gone_ok l t (by omega)
  have hVl := ofR_len l
  have hVl2 := rawR_le l l
  have hGl := goneN_le l t 64
  have hact : actR l t = actRN (ofR l) (goneN l t 64) t (ofR l).length := rfl
  rw [hact]
  generalize ofR l = V at *
  generalize goneN l t 64 = G at *
  have tkV : List.take V.length (rowsV V) = rowsV V := List.take_of_length_le (by simp)
  have tkG : List.take G.length (rwI G) = rwI G := List.take_of_length_le (by simp)
  refine awp_regc ⟨107, [(1, .I t), (5, vchs V), (6, ints G)], [], 80⟩ rfl ?_ ?_
  · simp
    refine callN1 hof rfl ?_
    simp [Function.comp_def]
    refine callN1 hgo rfl ?_
    simp [Function.comp_def]
    exact Le.snap [32, 56] rfl rfl (by
      simp [Function.comp_def]
      exact ⟨wkE (congrArg _ tkV), wkE (congrArg _ tkG)⟩)
  refine awp_regc ⟨107, [(1, .I t), (5, vchs V), (6, ints G), (7, .sc (.slice none 0 0))], [], 88⟩ rfl (by simp; exact Le.snap [] rfl rfl (by simp)) ?_
  refine awp_seq ?_
  refine awp_regc ⟨107, [(1, .I t), (5, vchs V), (6, ints G), (7, .sc (.slice none 0 0)), (8, .I (0 : Nat))], [], 96⟩ rfl (by simp; exact Le.snap [] rfl rfl (by simp)) ?_
  refine awp_block ?_
  refine awp_loop (ι := Nat) (fun i => ⟨107, [(1, .I t), (5, vchs V), (6, ints G), (7, .rs 16 0 (actRN V G t i).length), (8, .I i)], [(16, some ⟨7, rowsV (actRN V G t i), 0⟩)], 96⟩) (fun i => i ≤ V.length) (fun i => V.length - i) 0 (Nat.zero_le _) (Le.lst [] [] [(16, 7)] rfl (by simp) (by simp) (by simp) (by simp) (by simp) (by simp) (by simp) (by simp [Up, actRN]) (by simp [actRN])) ?_
  intro i hi
  refine awp_seq ?_
  refine awp_regc ⟨107, [(1, .I t), (5, vchs V), (6, ints G), (7, .rs 16 0 (actRN V G t i).length), (8, .I i), (19, .B (decide (i < V.length)))], [(16, some ⟨7, rowsV (actRN V G t i), 0⟩)], 128⟩ rfl ?_ ?_
  · simp
    exact Le.keep rfl (Nat.le_refl _) (by simp) (by simp)
  refine awp_cond _ rfl (fun h => awp_skip ?_) fun h => awp_exit (hit ?_)
  · simp only [decide_eq_true_eq] at h
    have hwi : IntKind.i64.wrap ((i : Int) + 1) = ((i + 1 : Nat) : Int) := by rw [w64 (by omega) (by omega)]; omega
    refine awp_cut (ι := Unit) (fun _ => ⟨107, [(1, .I t), (5, vchs V), (6, ints G), (7, .rs 16 0 (actRN V G t (i + 1)).length), (8, .I i)], [(16, some ⟨7, rowsV (actRN V G t (i + 1)), 0⟩)], 1000⟩) (fun _ => True) ?_ fun _ _ => ?_
    · have hg : V[i]? = some V[i] := List.getElem?_eq_getElem h
      have hRl := actRN_le V G t i
      have hstep : actRN V G t (i + 1) = actRN V G t i ++ if keepR V G t i V[i] then [V[i]] else [] := by rw [actRN, hg]
      have hkeep : keepR V G t i V[i] = (decide (HoldsR V[i] G t) && !nextB V t i V[i]) := rfl
      rw [hstep]
      generalize V[i] = v at *
      generalize actRN V G t i = R at *
      generalize keepR V G t i v = kb at *
      have hXf := rowsV_flat R
      obtain ⟨n, hnR⟩ : ∃ n, n = R.length := ⟨_, rfl⟩
      have hXl : (rowsV R).length = n := by rw [rowsV, List.length_map, hnR]
      rw [← hnR]
      refine awp_block ?_
      refine awp_regc ⟨107, [(1, .I t), (5, vchs V), (6, ints G), (7, .rs 16 0 n), (8, .I i), (9, .pv (vC v))], [(16, some ⟨7, rowsV R, 0⟩)], 176⟩ rfl ?_ ?_
      · generalize rowsV R = X at *
        simp [hg, splice]
        exact Le.Z1 hXf 16 16 [160] rfl rfl (by simp) (by simp) rfl (by simp)
      obtain ⟨nb, hnb⟩ : ∃ nb, nb = nextB V t i v := ⟨_, rfl⟩
      rw [← hnb] at hkeep
      obtain ⟨i1, hi1⟩ : ∃ i1, i1 = i + 1 := ⟨_, rfl⟩
      have hwi1 : IntKind.i64.wrap ((i : Int) + 1) = (i1 : Int) := by rw [w64 (by omega) (by omega)]; omega
      have hnb2 : nb = (V[i1]?).any fun w => decide (LaterP v t w) := by rw [hnb, hi1]; rfl
      refine awp_dregc ⟨107, [(1, .I t), (5, vchs V), (6, ints G), (7, .rs 16 0 n), (8, .I i), (9, .pv (vC v)), (10, .B nb)], [(16, some ⟨7, rowsV R, 0⟩)], 480⟩ rfl ?_ ?_
      · generalize rowsV R = X at *
        by_cases hlt : i1 < V.length
        · have hg1 : V[i1]? = some V[i1] := List.getElem?_eq_getElem hlt
          rw [hg1] at hnb2
          obtain ⟨w, hw⟩ : ∃ w, V[i1] = w := ⟨_, rfl⟩
          rw [hw] at hnb2
          have hnb3 : nb = decide (LaterP v t w) := hnb2
          by_cases c1 : w.fr = v.fr
          · have c1' : (w.fr == v.fr) = true := by simp [c1]
            by_cases c2 : w.to = v.to
            · have c2' : (w.to == v.to) = true := by simp [c2]
              have e : nb = decide (w.ti ≤ t) := by
                rw [hnb3, Bool.eq_iff_iff, decide_eq_true_eq, decide_eq_true_eq]
                exact ⟨fun hq => hq.2.2, fun hq => ⟨c1, c2, hq⟩⟩
              simp [hwi1, hlt, hw, c1', c2', e]
              exact ⟨rfl, Le.Z1 hXf 16 16 [] rfl rfl (by simp) (by simp) rfl (by simp)⟩
            · have c2' : (w.to == v.to) = false := by simp [c2]
              have e : nb = false := by rw [hnb3]; exact decide_eq_false fun hq => c2 hq.2.1
              simp [hwi1, hlt, hw, c1', c2', e]
              exact ⟨rfl, Le.Z1 hXf 16 16 [] rfl rfl (by simp) (by simp) rfl (by simp)⟩
          · have c1' : (w.fr == v.fr) = false := by simp [c1]
            have e : nb = false := by rw [hnb3]; exact decide_eq_false fun hq => c1 hq.1
            simp [hwi1, hlt, hw, c1', e]
            exact ⟨rfl, Le.Z1 hXf 16 16 [] rfl rfl (by simp) (by simp) rfl (by simp)⟩
        · have hg1 : V[i1]? = none := List.getElem?_eq_none (by omega)
          rw [hg1] at hnb2
          have e : nb = false := hnb2
          simp [hwi1, hlt, e]
          exact ⟨rfl, Le.Z1 hXf 16 16 [] rfl rfl (by simp) (by simp) rfl (by simp)⟩
      obtain ⟨b1, hb1⟩ : ∃ b, b = decide (v.fr ∈ G) := ⟨_, rfl⟩
      obtain ⟨b2, hb2⟩ : ∃ b, b = decide (v.to ∈ G) := ⟨_, rfl⟩
      have k1 := ref10_has_ok G v.fr (by omega)
      have k2 := ref10_has_ok G v.to (by omega)
      rw [← hb1] at k1
      rw [← hb2] at k2
      refine awp_regc ⟨107, [(1, .I t), (5, vchs V), (6, ints G), (7, .rs 16 0 n), (8, .I i), (9, .pv (vC v)), (101, .B kb)], [(16, some ⟨7, rowsV R, 0⟩)], 792⟩ rfl ?_ ?_
      · generalize rowsV R = X at *
        by_cases c1 : v.ti ≤ t
        · by_cases c2 : t < v.en
          · by_cases c3 : v.re = -1 ∨ t < v.re
            · have hre : kb = (!b1 && !b2 && !nb) := by
                rw [hkeep, hb1, hb2, Bool.eq_iff_iff]
                simp [HoldsR, c1, c2, c3]
              have fin : ∀ w : Bool, kb = w → True := fun _ _ => trivial
              rcases Classical.em (v.re = -1) with c4 | c4
              · have c4' : (v.re == -1) = true := by simp [c4]
                cases nb
                · simp [c1, c2, c4']
                  refine call0e k1 rfl ?_
                  cases b1
                  · simp
                    refine call0e k2 rfl ?_
                    simp
                    exact Le.Z1 hXf 16 16 [] rfl rfl (by simp) (by simp) rfl (by simp [hre])
                  · simp
                    exact Le.Z1 hXf 16 16 [] rfl rfl (by simp) (by simp) rfl (by simp [hre])
                · simp [c1, c2, c4']
                  exact Le.Z1 hXf 16 16 [] rfl rfl (by simp) (by simp) rfl (by simp [hre])
              · have c5 : t < v.re := c3.resolve_left c4
                have c4' : (v.re == -1) = false := by simp [c4]
                cases nb
                · simp [c1, c2, c4', c5]
                  refine call0e k1 rfl ?_
                  cases b1
                  · simp
                    refine call0e k2 rfl ?_
                    simp
                    exact Le.Z1 hXf 16 16 [] rfl rfl (by simp) (by simp) rfl (by simp [hre])
                  · simp
                    exact Le.Z1 hXf 16 16 [] rfl rfl (by simp) (by simp) rfl (by simp [hre])
                · simp [c1, c2, c4', c5]
                  exact Le.Z1 hXf 16 16 [] rfl rfl (by simp) (by simp) rfl (by simp [hre])
            · have e : kb = false := by
                rw [hkeep, decide_eq_false fun hq => c3 hq.2.2.1]
                rfl
              have c4 : ¬ v.re = -1 := fun h => c3 (.inl h)
              have c4' : (v.re == -1) = false := by simp [c4]
              have c5 : ¬ t < v.re := fun h => c3 (.inr h)
              simp [c1, c2, c4', c5, e]
              exact Le.Z1 hXf 16 16 [] rfl rfl (by simp) (by simp) rfl (by simp)
          · have e : kb = false := by
              rw [hkeep, decide_eq_false fun hq => c2 hq.2.1]
              rfl
            simp [c1, c2, e]
            exact Le.Z1 hXf 16 16 [] rfl rfl (by simp) (by simp) rfl (by simp)
        · have e : kb = false := by
            rw [hkeep, decide_eq_false fun hq => c1 hq.1]
            rfl
          simp [c1, e]
          exact Le.Z1 hXf 16 16 [] rfl rfl (by simp) (by simp) rfl (by simp)
      refine awp_cond _ rfl (fun h5 => ?_) fun h5 => awp_skip ?_
      · rw [if_pos h5]
        have hXe : rowsV (R ++ [v]) = rowsV R ++ [vC v] := by rw [rowsV, List.map_append]; rfl
        have hRl2 : (R ++ [v]).length = n + 1 := by rw [List.length_append, ← hnR]; rfl
        rw [hXe, hRl2]
        have hXf2 : ∀ ρ sn h m, (rowsV R ++ [vC v]).map (List.map (conv ρ sn h (m + 1))) = rowsV R ++ [vC v] := fun ρ sn h m => by rw [List.map_append, hXf]; simp
        generalize rowsV R = X at *
        have htk : List.take n X = X := List.take_of_length_le (by omega)
        refine awp_reg rfl ?_
        simp [hXl, htk]
        repeat' apply And.intro
        all_goals first | omega | exact Le.Z1 hXf2 816 16 [] rfl rfl (by simp) (by simp) (by simp [htk]) (by simp)
      · rw [if_neg (by simpa using h5), List.append_nil, ← hnR]
        exact ⟨(), trivial, Le.keep rfl (by simp) (by simp) (by simp)⟩
    have hXf := rowsV_flat (actRN V G t (i + 1))
    refine awp_reg rfl ?_
    simp [hwi]
    exact ⟨i + 1, by omega, by omega, Le.Z1 hXf 16 16 [] rfl rfl (by simp) (by simp) rfl (by simp)⟩
  simp only [decide_eq_false_iff_not] at h
  obtain rfl : i = V.length := by omega
  refine awp_seq ?_
  refine awp_run (s := ?s9) rfl ?o9 ?q9
  case o9 => simp; rfl
  refine awp_ret ?_
  exact ⟨.inr rfl, RetOk.out [16] [] rfl (by simp) (by simp) (by simp) (by simp [Function.comp_def])⟩

/-- The reference's active vouch between two. -/
def btwR (l : List Stm) (f to t : Int) : Option Vch := (actR l t).find? fun v => decide (btwP f to v)

set_option maxHeartbeats 2000000 in
set_option maxRecDepth 100000 in
theorem ref10_Between_ok (l : List Stm) (f to t : Int) (hl : l.length ≤ 100000) : ACalls Try.prog nref10_Between [sts l, .I f, .I to, .I t] [] (.tup [eV ((btwR l f to t).getD zV), .B (btwR l f to t).isSome]) [] := by
  refine sref10_Between.acalls (Nat.le_of_ble_eq_true rfl) (Nat.le_of_ble_eq_true rfl) (Nat.zero_le _) ?_
  show awp _ 0 _ _ ⟨42, [(0, sts l), (1, .I f), (2, .I to), (3, .I t)], [], 16⟩
  refine awp_regc ⟨42, [(0, sts l), (1, .I f), (2, .I to), (3, .I t), (8, .pt 16 0 0)], [(16, some ⟨7, [vC zV], 0⟩)], 32⟩ rfl ?_ ?_
  · simp
    exact Le.keep rfl (Nat.le_refl _) (by simp) (by simp [zV])
  have hac := ref10_Active_ok l t hl
  have hAl : (actR l t).length ≤ 100000 := by
    have := actRN_le (ofR l) (goneN l t 64) t (ofR l).length
    have h2 := ofR_len l
    have h3 := rawR_le l l
    unfold actR
    omega
  have hbt : btwR l f to t = (actR l t).find? fun v => decide (btwP f to v) := rfl
  rw [hbt]
  generalize actR l t = A at *
  have tkA : List.take A.length (rowsV A) = rowsV A := List.take_of_length_le (by simp)
  refine awp_regc ⟨42, [(1, .I f), (2, .I to), (8, .pt 16 0 0), (10, vchs A)], [(16, some ⟨7, [vC zV], 0⟩)], 64⟩ rfl ?_ ?_
  · simp
    refine callN1 hac rfl ?_
    simp [Function.comp_def]
    exact Le.ren1 16 16 [48] rfl rfl (by simp) (by simp) rfl (by simp) (by simp) (by simp [Function.comp_def]; exact wkE (congrArg _ tkA))
  refine awp_seq ?_
  refine awp_regc ⟨42, [(1, .I f), (2, .I to), (8, .pt 16 0 0), (10, vchs A), (11, .I (0 : Nat))], [(16, some ⟨7, [vC zV], 0⟩)], 72⟩ rfl ?_ ?_
  · simp
    exact Le.keep rfl (Nat.le_refl _) (by simp) (by simp)
  refine awp_block ?_
  refine awp_loop (ι := Nat) (fun i => ⟨42, [(1, .I f), (2, .I to), (8, .pt 16 0 0), (10, vchs A), (11, .I i)], [(16, some ⟨7, [vC zV], 0⟩)], 72⟩) (fun i => i ≤ A.length ∧ ∀ v ∈ A.take i, ¬ btwP f to v) (fun i => A.length - i) 0 ⟨Nat.zero_le _, by simp⟩ (Le.refl _ _) ?_
  rintro i ⟨hi, hp⟩
  refine awp_seq ?_
  refine awp_regc ⟨42, [(1, .I f), (2, .I to), (8, .pt 16 0 0), (10, vchs A), (11, .I i), (18, .B (decide (i < A.length)))], [(16, some ⟨7, [vC zV], 0⟩)], 104⟩ rfl ?_ ?_
  · simp
    exact Le.keep rfl (Nat.le_refl _) (by simp) (by simp)
  refine awp_cond _ rfl (fun h => awp_skip ?_) fun h => awp_exit (hit ?_)
  · simp only [decide_eq_true_eq] at h
    have hwi : IntKind.i64.wrap ((i : Int) + 1) = ((i + 1 : Nat) : Int) := by rw [w64 (by omega) (by omega)]; omega
    have hg : A[i]? = some A[i] := List.getElem?_eq_getElem h
    obtain ⟨v, hv⟩ : ∃ v, A[i] = v := ⟨_, rfl⟩
    rw [hv] at hg
    refine awp_cut (ι := Unit) (fun _ => ⟨42, [(1, .I f), (2, .I to), (8, .pt 16 0 0), (10, vchs A), (11, .I i)], [(16, some ⟨7, [vC zV], 0⟩)], 300⟩) (fun _ => ¬ btwP f to v) ?_ fun _ hnb => ?_
    · obtain ⟨r, hr⟩ : ∃ r, r = decide (btwP f to v) := ⟨_, rfl⟩
      refine awp_block ?_
      refine awp_regc ⟨42, [(1, .I f), (2, .I to), (8, .pt 16 0 0), (10, vchs A), (11, .I i), (36, .B r)], [(16, some ⟨7, [vC zV], 0⟩)], 232⟩ rfl ?_ ?_
      · by_cases c1 : v.fr = f
        · have c1' : (v.fr == f) = true := by simp [c1]
          have e : r = (v.to == to) := by
            rw [hr, Bool.eq_iff_iff, decide_eq_true_eq, beq_iff_eq]
            exact ⟨fun hq => hq.2, fun hq => ⟨c1, hq⟩⟩
          simp [hg, c1', e]
          exact Le.keep rfl (Nat.le_refl _) (by simp) (by simp)
        · have c1' : (v.fr == f) = false := by simp [c1]
          have e : r = false := by rw [hr]; exact decide_eq_false fun hq => c1 hq.1
          simp [hg, c1', e]
          exact Le.keep rfl (Nat.le_refl _) (by simp) (by simp)
      refine awp_cond _ rfl (fun h5 => ?_) fun h5 => awp_skip ?_
      · rw [h5] at hr
        have hq := of_decide_eq_true hr.symm
        have hfind : (A.find? fun v => decide (btwP f to v)) = some v := by
          rw [List.find?_eq_some_iff_getElem]
          refine ⟨by simp [hq], i, h, hv, fun j hj => ?_⟩
          have : A[j] ∈ A.take i := by
            rw [List.mem_take_iff_getElem]
            exact ⟨j, by omega, rfl⟩
          simp [hp _ this]
        rw [hfind]
        refine awp_seq ?_
        refine awp_run (s := ?t1) rfl ?o1 ?q1
        case o1 => simp [hg, splice]; rfl
        refine awp_ret ?_
        refine ⟨.inr rfl, ?_⟩
        show RetOk [(8, some (true, 7)), (9, none)] 0 _ _ _
        refine RetOk.out (vs := [eV v, .B true]) [] [] (by simp) (by simp) (by simp) ?_ (by simp)
        simp
      · rw [h5] at hr
        exact ⟨(), of_decide_eq_false hr.symm, Le.keep rfl (by simp) (by simp) (by simp)⟩
    refine awp_reg rfl ?_
    simp [hwi]
    refine ⟨i + 1, ⟨by omega, fun u hu => ?_⟩, by omega, Le.ren1 16 16 [] rfl rfl (by simp) (by simp) rfl (by simp) (by simp) (by simp)⟩
    rw [List.take_succ_eq_append_getElem h, List.mem_append] at hu
    rcases hu with hu | hu
    · exact hp u hu
    · rw [List.mem_singleton.1 hu, hv]
      exact hnb
  simp only [decide_eq_false_iff_not] at h
  obtain rfl : i = A.length := by omega
  rw [List.take_length] at hp
  have hfind : (A.find? fun v => decide (btwP f to v)) = none := by
    rw [List.find?_eq_none]
    intro u hu
    simp [hp u hu]
  rw [hfind]
  refine awp_seq ?_
  refine awp_run (s := ?t2) rfl ?o2 ?q2
  case o2 => simp [splice, zV]; rfl
  refine awp_ret ?_
  refine ⟨.inr rfl, ?_⟩
  show RetOk [(8, some (true, 7)), (9, none)] 0 _ _ _
  refine RetOk.out (vs := [eV zV, .B false]) [] [] (by simp [zV]) (by simp) (by simp) ?_ (by simp)
  simp

end Go.Proofs.Ytnphfkceoklkkaa

/- law10.agree: the same vouches, keys and answers are agreed on. -/
namespace Go.Proofs.Ytnphfkceoklkkaa
open Go

set_option maxHeartbeats 1000000 in
set_option maxRecDepth 100000 in
theorem ref10_Same_ok (V : List Vch) (hl : V.length ≤ 1000000) : ACalls Try.prog nref10_Same [vchs V, vchs V] [] (.B true) [] := by
  refine sref10_Same.acalls (Nat.le_of_ble_eq_true rfl) (Nat.le_of_ble_eq_true rfl) (Nat.le_refl _) ?_
  show awp _ 0 _ _ ⟨26, [(0, vchs V), (1, vchs V)], [], 16⟩
  refine awp_regc ⟨26, [(0, vchs V), (1, vchs V)], [], 24⟩ rfl (by simp; exact Le.snap [] rfl rfl (by simp)) ?_
  refine awp_seq ?_
  refine awp_regc ⟨26, [(0, vchs V), (1, vchs V), (10, .B false)], [], 64⟩ rfl (by simp; exact Le.snap [] rfl rfl (by simp)) ?_
  refine awp_cond _ rfl (fun h => by cases h) fun _ => awp_skip ?_
  refine awp_seq ?_
  refine awp_regc ⟨26, [(0, vchs V), (1, vchs V), (5, .I (0 : Nat))], [], 72⟩ rfl (by simp; exact Le.snap [] rfl rfl (by simp)) ?_
  refine awp_block ?_
  refine awp_loop (ι := Nat) (fun i => ⟨26, [(0, vchs V), (1, vchs V), (5, .I i)], [], 72⟩) (fun i => i ≤ V.length) (fun i => V.length - i) 0 (Nat.zero_le _) (Le.refl _ _) ?_
  intro i hi
  refine awp_seq ?_
  refine awp_regc ⟨26, [(0, vchs V), (1, vchs V), (5, .I i), (14, .B (decide (i < V.length)))], [], 104⟩ rfl (by simp; exact Le.snap [] rfl rfl (by simp)) ?_
  refine awp_cond _ rfl (fun h => awp_skip ?_) fun h => awp_exit (hit ?_)
  · simp only [decide_eq_true_eq] at h
    have hwi : IntKind.i64.wrap ((i : Int) + 1) = ((i + 1 : Nat) : Int) := by rw [w64 (by omega) (by omega)]; omega
    have hg : V[i]? = some V[i] := List.getElem?_eq_getElem h
    generalize V[i] = v at *
    refine awp_cut (ι := Unit) (fun _ => ⟨26, [(0, vchs V), (1, vchs V), (5, .I i)], [], 300⟩) (fun _ => True) ?_ fun _ _ => ?_
    · refine awp_block ?_
      refine awp_dregc ⟨26, [(0, vchs V), (1, vchs V), (5, .I i), (25, .B false)], [], 176⟩ rfl ?_ ?_
      · simp [hg, splice]
        exact ⟨rfl, Le.snap [] rfl rfl (by simp)⟩
      refine awp_cond _ rfl (fun h => by cases h) fun _ => awp_skip ?_
      exact ⟨(), trivial, Le.snap [] rfl rfl (by simp)⟩
    refine awp_reg rfl ?_
    simp [hwi]
    exact ⟨i + 1, by omega, by omega, Le.snap [] rfl rfl (by simp)⟩
  refine awp_seq ?_
  refine awp_run (s := ?s9) rfl ?o9 ?q9
  case o9 => simp; rfl
  refine awp_ret ?_
  exact ⟨.inr rfl, RetOk.one (by simp)⟩

/-- What must be so for the program and the reference to say the same. -/
structure AgreeH (l : List Stm) (t : Int) : Prop where
  len : l.length ≤ 100000
  raw : (rawV l l).length < 20
  asc : (goneR l t).Pairwise (· < ·)
  eof : ofV l = ofR l
  ego : goneR l t = goneN l t 64
  eac : actV l t = actR l t

set_option maxHeartbeats 4000000 in
set_option maxRecDepth 100000 in
theorem law10_agree_ok (l : List Stm) (f to t : Int) (H : AgreeH l t) : ACalls Try.prog nlaw10_agree [sts l, .I f, .I to, .I t] [] (.B true) [] := by
  refine slaw10_agree.acalls (Nat.le_of_ble_eq_true rfl) (Nat.le_of_ble_eq_true rfl) (Nat.le_refl _) ?_
  show awp _ 0 _ _ ⟨62, [(0, sts l), (1, .I f), (2, .I to), (3, .I t)], [], 16⟩
  refine awp_regc ⟨62, [(0, sts l), (1, .I f), (2, .I to), (3, .I t)], [], 24⟩ rfl (by simp; exact Le.snap [] rfl rfl (by simp)) ?_
  have hb1 := vouch_Between_ok l f to t H.len H.raw H.asc
  have hb2 := ref10_Between_ok l f to t H.len
  have ho1 := vouch_Of_ok l H.len H.raw
  have ho2 := ref10_Of_ok l H.len
  have hg1 := vouch_Gone_ok l t H.len H.asc
  have hg2 := ref10_Gone_ok l t (Nat.le_trans H.len (by decide))
  have ha1 := vouch_Active_ok l t H.len H.raw H.asc
  have ha2 := ref10_Active_ok l t H.len
  have hbe : btwR l f to t = btwV l f to t := by unfold btwR btwV; rw [H.eac]
  rw [hbe] at hb2
  rw [← H.eof] at ho2
  rw [← H.ego] at hg2
  rw [← H.eac] at ha2
  have hVl : (ofV l).length ≤ 20 := by
    have := H.raw
    unfold ofV isortV
    rw [List.length_reverse, isortRevV_len]
    omega
  have hAl : (actV l t).length ≤ 20 := by
    have := actN_le (ofV l) (goneR l t) t (ofV l).length
    unfold actV
    omega
  have hGl : (goneR l t).length ≤ 100000 := Nat.le_trans (goneR_le l t) H.len
  obtain ⟨x, hx⟩ : ∃ x, x = (btwV l f to t).getD zV := ⟨_, rfl⟩
  obtain ⟨ok, hok⟩ : ∃ ok, ok = (btwV l f to t).isSome := ⟨_, rfl⟩
  rw [← hx, ← hok] at hb1 hb2
  clear hx hok hbe H
  generalize ofV l = V at *
  generalize goneR l t = G at *
  generalize actV l t = A at *
  have hs1 := ref10_Same_ok V (by omega)
  have hs2 := ref10_Same_ok A (by omega)
  have hs3 := SameInts_ok G G (by omega)
  rw [decide_eq_true rfl] at hs3
  refine awp_regc ⟨62, [(0, sts l), (1, .I f), (2, .I to), (3, .I t), (9, .pv (vC x)), (10, .B ok)], [], 112⟩ rfl ?_ ?_
  · simp
    refine call0e hb1 (by simp) ?_
    simp [splice]
    exact Le.snap [88] rfl rfl (by simp)
  refine awp_regc ⟨62, [(0, sts l), (1, .I f), (2, .I to), (3, .I t), (9, .pv (vC x)), (10, .B ok), (11, .pv (vC x)), (12, .B ok)], [], 200⟩ rfl ?_ ?_
  · simp
    refine call0e hb2 (by simp) ?_
    simp [splice]
    exact Le.snap [176] rfl rfl (by simp)
  have tkV : List.take V.length (rowsV V) = rowsV V := List.take_of_length_le (by simp)
  have tkA : List.take A.length (rowsV A) = rowsV A := List.take_of_length_le (by simp)
  have tkG : List.take G.length (rwI G) = rwI G := List.take_of_length_le (by simp)
  have hVf := rowsV_flat V
  have hAf := rowsV_flat A
  have hGf := rwI_flat G
  refine awp_regc ⟨62, [(8, .B true)], [], 472⟩ rfl ?_ ?_
  · simp
    refine callN1 ho1 rfl ?_
    simp [Function.comp_def]
    refine callN1 ho2 rfl ?_
    simp [Function.comp_def]
    refine call0s [208, 224] hs1 (by simp [Function.comp_def, tkV]) (.sc _) ?_
    simp
    refine callN1 hg1 rfl ?_
    simp [Function.comp_def]
    refine callN1 hg2 rfl ?_
    simp [Function.comp_def]
    refine call0s [264, 288] hs3 (by simp [Function.comp_def, tkG]) (.sc _) ?_
    simp
    refine callN1 ha1 rfl ?_
    simp [Function.comp_def]
    refine callN1 ha2 rfl ?_
    simp [Function.comp_def]
    refine call0s [336, 360] hs2 (by simp [Function.comp_def, tkA]) (.sc _) ?_
    simp
    exact Le.snap [] rfl rfl (by simp)
  refine awp_ret ?_
  exact ⟨.inr rfl, RetOk.one (by simp)⟩

end Go.Proofs.Ytnphfkceoklkkaa

/- Vouches: the program and the reference say the same (plain law). -/
namespace Go.Proofs.Ytnphfkceoklkkaa
open Go

/-- The order of statements that are counted. -/
def OrdS (x y : Stm) : Prop := x.au < y.au ∨ (x.au = y.au ∧ x.nu < y.nu ∧ x.ti ≤ y.ti ∧ x.ki ≠ 3)
structure GoodL (l : List Stm) : Prop where
  ord : l.Pairwise OrdS
  rng : ∀ s ∈ l, 0 ≤ s.au ∧ s.au < 64 ∧ 0 ≤ s.ti ∧ 0 ≤ s.nu

theorem rv_no {v x : Stm} {p : Int × Int} (h : ¬ RevP v x p) : revStep v p x = p := if_neg h
theorem rev_keep (v : Stm) (p : Int × Int) (h0 : 0 ≤ p.2) : ∀ l : List Stm, (∀ s ∈ l, s.au = v.au → p.2 < s.nu) → l.foldl (revStep v) p = p
  | [], _ => rfl
  | s :: l, h => by
    have hn : ¬ RevP v s p := fun hq => by
      have h1 := h s (List.mem_cons_self ..) hq.1
      rcases hq.2.2.2.2 with h2 | h2 <;> omega
    rw [List.foldl_cons, rv_no hn]
    exact rev_keep v p h0 l fun s hs => h s (List.mem_cons_of_mem _ hs)
theorem rev_first (v : Stm) : ∀ l : List Stm, l.Pairwise OrdS → (∀ s ∈ l, 0 ≤ s.nu) → (l.foldl (revStep v) (-1, -1)).1 = refRev l v
  | [], _, _ => rfl
  | s :: l, ho, hr => by
    rw [List.pairwise_cons] at ho
    rw [List.foldl_cons]
    by_cases hm : RevM v s
    · have hp : RevP v s (-1, -1) := ⟨hm.1, hm.2.2.1, hm.2.2.2, hm.2.1, .inl (by decide)⟩
      have hst : revStep v (-1, -1) s = (s.ti, s.nu) := if_pos hp
      rw [hst, rev_keep v (s.ti, s.nu) (hr s (List.mem_cons_self ..)) l fun x hx hxa => by
        rcases ho.1 x hx with h1 | h1
        · have := hm.1; omega
        · exact h1.2.1]
      unfold refRev
      rw [List.find?_cons_of_pos (by simpa using hm)]
    · have hst : revStep v (-1, -1) s = (-1, -1) := rv_no fun hq => hm ⟨hq.1, hq.2.2.2.1, hq.2.1, hq.2.2.1⟩
      rw [hst, rev_first v l ho.2 fun x hx => hr x (List.mem_cons_of_mem _ hx)]
      unfold refRev
      rw [List.find?_cons_of_neg (by simpa using hm)]
theorem GoodL.rev {l : List Stm} (h : GoodL l) (v : Stm) : revF l v = refRev l v := rev_first v l h.ord fun s hs => (h.rng s hs).2.2.2
theorem GoodL.raw {l : List Stm} (h : GoodL l) : rawV l l = rawR l l := by
  unfold rawV rawR
  refine congrArg (fun f => List.map f _) ?_
  funext s
  unfold vOf vOfR
  rw [h.rev]
theorem GoodL.of {l : List Stm} (h : GoodL l) : ofV l = ofR l := by unfold ofV ofR; rw [h.raw]

theorem GoodL.asc {l : List Stm} (h : GoodL l) (t : Int) : (goneR l t).Pairwise (· < ·) := by
  unfold goneR
  rw [List.pairwise_map]
  refine List.Pairwise.imp_of_mem ?_ (h.ord.filter _)
  intro a b ha hb hab
  have h1 : GoneP t a := by simpa using (List.mem_filter.1 ha).2
  rcases hab with h2 | h2
  · exact h2
  · exact absurd h1.1 h2.2.2.2

theorem asc_ext : ∀ {a b : List Int}, a.Pairwise (· < ·) → b.Pairwise (· < ·) → (∀ x, x ∈ a ↔ x ∈ b) → a = b
  | [], [], _, _, _ => rfl
  | [], y :: b, _, _, h => by have := (h y).2 (List.mem_cons_self ..); simp at this
  | x :: a, [], _, _, h => by have := (h x).1 (List.mem_cons_self ..); simp at this
  | x :: a, y :: b, ha, hb, h => by
    rw [List.pairwise_cons] at ha hb
    have hxy : x = y := by
      rcases List.mem_cons.1 ((h x).1 (List.mem_cons_self ..)) with h1 | h1
      · exact h1
      · rcases List.mem_cons.1 ((h y).2 (List.mem_cons_self ..)) with h2 | h2
        · exact h2.symm
        · have h3 := hb.1 x h1
          have h4 := ha.1 y h2
          omega
    subst hxy
    refine congrArg _ (asc_ext ha.2 hb.2 fun z => ⟨fun hz => ?_, fun hz => ?_⟩)
    · rcases List.mem_cons.1 ((h z).1 (List.mem_cons_of_mem _ hz)) with h1 | h1
      · have := ha.1 z hz; omega
      · exact h1
    · rcases List.mem_cons.1 ((h z).2 (List.mem_cons_of_mem _ hz)) with h1 | h1
      · have := hb.1 z hz; omega
      · exact h1

theorem mem_goneN (l : List Stm) (t x : Int) : ∀ n : Nat, x ∈ goneN l t n ↔ 0 ≤ x ∧ x < n ∧ goneB l t x = true
  | 0 => by simp [goneN]; omega
  | n + 1 => by
    unfold goneN
    rw [List.mem_append, mem_goneN l t x n]
    constructor
    · rintro (h | h)
      · exact ⟨h.1, by omega, h.2.2⟩
      · split at h
        · rename_i hb
          rw [List.mem_singleton] at h
          subst h
          exact ⟨by omega, by omega, hb⟩
        · simp at h
    · rintro ⟨h1, h2, h3⟩
      by_cases h4 : x < n
      · exact .inl ⟨h1, h4, h3⟩
      · have h5 : x = (n : Int) := by omega
        subst h5
        rw [if_pos h3]
        exact .inr (List.mem_singleton.2 rfl)
theorem goneN_asc (l : List Stm) (t : Int) : ∀ n : Nat, (goneN l t n).Pairwise (· < ·)
  | 0 => List.Pairwise.nil
  | n + 1 => by
    unfold goneN
    rw [List.pairwise_append]
    refine ⟨goneN_asc l t n, by split <;> simp, fun a ha b hb => ?_⟩
    have h1 := (mem_goneN l t a n).1 ha
    split at hb
    · rw [List.mem_singleton] at hb
      omega
    · simp at hb
theorem GoodL.gone {l : List Stm} (h : GoodL l) (t : Int) : goneR l t = goneN l t 64 := by
  refine asc_ext (h.asc t) (goneN_asc l t 64) fun x => ?_
  rw [mem_goneN]
  unfold goneR goneB
  rw [List.mem_map, List.any_eq_true]
  constructor
  · rintro ⟨s, hs, rfl⟩
    have hs2 := List.mem_filter.1 hs
    have hr := h.rng s hs2.1
    exact ⟨hr.1, hr.2.1, s, hs2.1, by simpa [GoneK] using hs2.2⟩
  · rintro ⟨_, _, s, hs, hg⟩
    have hg2 : GoneK t x s := by simpa using hg
    exact ⟨s, List.mem_filter.2 ⟨hs, by simpa using hg2.2⟩, hg2.1⟩

/-- The order of vouches. -/
def ltV (a b : Vch) : Prop := a.fr < b.fr ∨ (a.fr = b.fr ∧ (a.to < b.to ∨ (a.to = b.to ∧ a.nu < b.nu)))
theorem cmpV_lt (a b : Vch) : cmpV a b < 0 ↔ ltV a b := by
  unfold ltV
  by_cases h1 : a.fr = b.fr
  · by_cases h2 : a.to = b.to
    · rw [cmpV_3 h1 h2, cmpI_lt]; omega
    · rw [cmpV_2 h1 h2, cmpI_lt]; omega
  · rw [cmpV_1 h1, cmpI_lt]; omega
theorem ltV_asym {a b : Vch} (h : ltV a b) : ¬ ltV b a := by unfold ltV at *; omega
theorem ltV_neg {a b c : Vch} (h1 : ¬ ltV a b) (h2 : ¬ ltV b c) : ¬ ltV a c := by unfold ltV at *; omega
theorem insV_sorted : ∀ (R : List Vch) (x : Vch), R.Pairwise (fun a b => ¬ ltV a b) → (insRevV cmpV R x).Pairwise (fun a b => ¬ ltV a b)
  | [], x, _ => by simp [insRevV]
  | y :: R, x, h => by
    rw [List.pairwise_cons] at h
    unfold insRevV
    split
    · rename_i hc
      rw [cmpV_lt] at hc
      rw [List.pairwise_cons]
      refine ⟨fun z hz => ?_, insV_sorted R x h.2⟩
      rcases List.mem_cons.1 ((insRevV_perm cmpV R x).mem_iff.1 hz) with h1 | h1
      · subst h1
        exact ltV_asym hc
      · exact h.1 z h1
    · rename_i hc
      rw [cmpV_lt] at hc
      rw [List.pairwise_cons, List.pairwise_cons]
      refine ⟨fun z hz => ?_, h⟩
      rcases List.mem_cons.1 hz with h1 | h1
      · rw [h1]; exact hc
      · exact ltV_neg hc (h.1 z h1)
theorem isortRevV_sorted (M : List Vch) : ∀ R : List Vch, R.Pairwise (fun a b => ¬ ltV a b) → (M.foldl (insRevV cmpV) R).Pairwise (fun a b => ¬ ltV a b) := by
  induction M with
  | nil => exact fun R h => h
  | cons x M ih => exact fun R h => ih _ (insV_sorted R x h)
theorem isortV_sorted (M : List Vch) : (isortV cmpV M).Pairwise (fun a b => ¬ ltV b a) := by
  unfold isortV
  rw [List.pairwise_reverse]
  exact isortRevV_sorted M [] List.Pairwise.nil
theorem mem_isortV {M : List Vch} {v : Vch} : v ∈ isortV cmpV M ↔ v ∈ M := by
  unfold isortV
  rw [List.mem_reverse, (isortRevV_perm cmpV M).mem_iff]

theorem keep_eq {V : List Vch} {g : List Int} {t : Int} {i : Nat} {v : Vch} (hv : V[i]? = some v) (hs : V.Pairwise fun a b => ¬ ltV b a)
    (ht : ∀ a ∈ V, ∀ b ∈ V, a.fr = b.fr → a.nu ≤ b.nu → a.ti ≤ b.ti) (hre : v.re = -1 ∨ 0 ≤ v.re) : keepB V g t i v = keepR V g t i v := by
  have hh : HoldsP v g t ↔ HoldsR v g t := by
    have e : (v.re < 0 ∨ t < v.re) ↔ (v.re = -1 ∨ t < v.re) := by omega
    unfold HoldsP HoldsR
    rw [e]
  unfold keepB keepR
  rw [decide_eq_decide.2 hh]
  congr 1
  obtain ⟨hi, hvi⟩ := List.getElem?_eq_some_iff.1 hv
  by_cases h : i + 1 < V.length
  · have hw : V[i + 1]? = some V[i + 1] := List.getElem?_eq_getElem h
    unfold nextB
    rw [hw, List.drop_eq_getElem_cons h, List.all_cons, Option.any_some]
    by_cases hl : LaterP v t V[i + 1]
    · rw [decide_eq_true hl]
      rfl
    · rw [decide_eq_false hl]
      show (true && _) = true
      rw [Bool.true_and, List.all_eq_true]
      intro z hz
      simp only [Bool.not_eq_true', decide_eq_false_iff_not]
      intro hzl
      obtain ⟨k, hk, rfl⟩ := List.mem_iff_getElem.1 hz
      rw [List.getElem_drop] at hzl
      rw [List.length_drop] at hk
      have hp := List.pairwise_iff_getElem.1 hs
      have h1 := hp i (i + 1) hi h (by omega)
      have h2 := hp (i + 1) (i + 1 + 1 + k) h (by omega) (by omega)
      have h3 := ht _ (List.getElem_mem h) _ (List.getElem_mem (show i + 1 + 1 + k < V.length by omega))
      rw [hvi] at h1
      generalize V[i + 1] = w at *
      generalize V[i + 1 + 1 + k] = z at *
      unfold LaterP at *
      unfold ltV at h1 h2
      have h4 : w.fr = v.fr := by omega
      have h5 : w.to = v.to := by omega
      have h6 := h3 (by omega) (by omega)
      exact hl ⟨h4, h5, by omega⟩
  · unfold nextB
    rw [List.getElem?_eq_none (by omega), List.drop_eq_nil_of_le (by omega)]
    rfl

theorem act_eq {V : List Vch} {g : List Int} {t : Int} (hs : V.Pairwise fun a b => ¬ ltV b a) (ht : ∀ a ∈ V, ∀ b ∈ V, a.fr = b.fr → a.nu ≤ b.nu → a.ti ≤ b.ti) (hre : ∀ v ∈ V, v.re = -1 ∨ 0 ≤ v.re) : ∀ n, actN V g t n = actRN V g t n
  | 0 => rfl
  | n + 1 => by
    unfold actN actRN
    rw [act_eq hs ht hre n]
    cases hv : V[n]? with
    | none => rfl
    | some v => 
      simp only
      rw [keep_eq hv hs ht (hre v (List.mem_of_getElem? hv))]

theorem GoodL.two {l : List Stm} (h : GoodL l) {x y : Stm} (hx : x ∈ l) (hy : y ∈ l) (ha : x.au = y.au) (hn : x.nu ≤ y.nu) : x.ti ≤ y.ti := by
  obtain ⟨i, hi, rfl⟩ := List.mem_iff_getElem.1 hx
  obtain ⟨j, hj, rfl⟩ := List.mem_iff_getElem.1 hy
  have hp := List.pairwise_iff_getElem.1 h.ord
  rcases Nat.lt_trichotomy i j with h1 | h1 | h1
  · rcases hp i j hi hj h1 with h2 | h2
    · omega
    · exact h2.2.2.1
  · subst h1
    exact Int.le_refl _
  · rcases hp j i hj hi h1 with h2 | h2
    · omega
    · omega
theorem mem_rawV {l : List Stm} {v : Vch} (h : v ∈ rawV l l) : ∃ s ∈ l, s.ki = 1 ∧ v = vOf l s := by
  unfold rawV at h
  obtain ⟨s, hs, rfl⟩ := List.mem_map.1 h
  have hs2 := List.mem_filter.1 hs
  exact ⟨s, hs2.1, by simpa using hs2.2, rfl⟩
theorem GoodL.act {l : List Stm} (h : GoodL l) (t : Int) : actV l t = actR l t := by
  unfold actV actR
  rw [← h.of, ← h.gone]
  refine act_eq (isortV_sorted _) ?_ ?_ _
  · intro a ha b hb h1 h2
    obtain ⟨x, hx, _, rfl⟩ := mem_rawV (mem_isortV.1 ha)
    obtain ⟨y, hy, _, rfl⟩ := mem_rawV (mem_isortV.1 hb)
    exact h.two hx hy h1 h2
  · intro v hv
    obtain ⟨x, hx, _, rfl⟩ := mem_rawV (mem_isortV.1 hv)
    show revF l x = -1 ∨ 0 ≤ revF l x
    rw [h.rev]
    unfold refRev
    split
    · rename_i s hs
      exact .inr (h.rng s (List.mem_of_find?_eq_some hs)).2.2.1
    · exact .inl rfl
/-- What is counted is agreed on. -/
theorem GoodL.agree {l : List Stm} (h : GoodL l) (hl : l.length ≤ 100000) (hr : (rawV l l).length < 20) (t : Int) : AgreeH l t := ⟨hl, hr, h.asc t, h.of, h.gone t, h.act t⟩

theorem Chain.good {a : Int} {c : List Stm} (hc : Chain a c) : GoodL c := by
  have hi : ∀ i (h : i < c.length), c[i].au = a ∧ c[i].nu = i ∧ 0 ≤ c[i].au ∧ c[i].au < 64 ∧ 0 ≤ c[i].ti := fun i h => by
    have := hc.1 i h
    exact ⟨this.au_, this.nu_, this.ok.1.1, this.ok.1.2, this.ok.2.2.1.1⟩
  have hstep : ∀ i k (hj : i + k + 1 < c.length), c[i].ti ≤ c[i + k + 1].ti ∧ c[i].ki ≠ 3 := by
    intro i k
    induction k with
    | zero =>
      intro hj
      have := hc.2 i hj
      exact ⟨this.ti_, this.ki_⟩
    | succ k ih =>
      intro hj
      have h1 := ih (by omega)
      have h2 := (hc.2 (i + k + 1) hj).ti_
      exact ⟨Int.le_trans h1.1 h2, h1.2⟩
  constructor
  · rw [List.pairwise_iff_getElem]
    intro i j h1 h2 hij
    have h3 := hi i h1
    have h4 := hi j h2
    obtain ⟨k, rfl⟩ : ∃ k, j = i + k + 1 := ⟨j - i - 1, by omega⟩
    have h5 := hstep i k h2
    exact .inr ⟨by omega, by omega, h5.1, h5.2⟩
  · intro s hs
    obtain ⟨i, h, rfl⟩ := List.mem_iff_getElem.1 hs
    have h3 := hi i h
    exact ⟨h3.2.2.1, h3.2.2.2.1, h3.2.2.2.2, by omega⟩
/-- Two lists, one after the other. -/
theorem GoodL.append {a b : List Stm} (ha : GoodL a) (hb : GoodL b) (h : ∀ x ∈ a, ∀ y ∈ b, x.au < y.au) : GoodL (a ++ b) where
  ord := by
    rw [List.pairwise_append]
    exact ⟨ha.ord, hb.ord, fun x hx y hy => .inl (h x hx y hy)⟩
  rng := fun s hs => (List.mem_append.1 hs).elim (ha.rng s) (hb.rng s)

end Go.Proofs.Ytnphfkceoklkkaa

/- VouchFaces: the program's contract. -/
namespace Go.Proofs.Ytnphfkceoklkkaa
open Go

theorem ofD_in (L : List Int) (a : Nat) {l : List Int} (h : 0 < l.length) : ofD L a l ∈ l := by
  have := nextD_lt (L := L) (a := a) (n := l.length) (by omega)
  obtain ⟨q, hq⟩ : ∃ q : Nat, (nextD L a l.length).1 = q := ⟨(nextD L a l.length).1.toNat, by omega⟩
  have hql : q < l.length := by omega
  unfold ofD
  rw [hq]
  simp [hql]

/-- Next, whatever is asked of it: a longer chain, or an error. -/
theorem next_any (au : Int) (l : List Stm) (s : Stm) (hc : Chain au l) (hl : l.length ≤ 1000) (hs : StB s) :
    ∃ (e : Int) (x : Stm), ACalls Try.prog nref04_Next [.I au, sts l, eS s] [] (.tup [eS x, .I e]) [] ∧ (e = 0 → Chain au (l ++ [x])) := by
  have hb3 := hs.2.2.1
  have hb4 := hs.2.2.2.1
  obtain ⟨eC, he, hchk⟩ := ref03_Check_ok (nx au l s) (by show s.li.length ≤ _; omega) (by show s.pi.length ≤ _; omega)
  by_cases hT : BadT l s
  · exact ⟨9, zS, next_ok au l s hc hl hs eC 9 zS hchk (fun _ => ⟨rfl, rfl⟩) (fun h => absurd hT h) (fun h => absurd hT h), fun h => by omega⟩
  · by_cases hK : BadK l
    · exact ⟨5, zS, next_ok au l s hc hl hs eC 5 zS hchk (fun h => absurd h hT) (fun _ _ => ⟨rfl, rfl⟩) (fun _ h => absurd hK h), fun h => by omega⟩
    · by_cases h0 : eC = 0
      · exact ⟨eC, nx au l s, next_ok au l s hc hl hs eC eC _ hchk (fun h => absurd h hT) (fun _ h => absurd h hK) (fun _ _ => ⟨rfl, fun _ => rfl, fun h => absurd h0 h⟩), fun _ => chain_nx hc hs hT hK (he.1 h0)⟩
      · exact ⟨eC, zS, next_ok au l s hc hl hs eC eC _ hchk (fun h => absurd h hT) (fun _ h => absurd h hK) (fun _ _ => ⟨rfl, fun h => absurd h h0, fun _ => rfl⟩), fun h => absurd h h0⟩

abbrev stY (ti ki a b c : Int) : List AV := [.I 0, .I 0, .sc (.string noB), .I ti, .I ki, .I a, .I b, .I c, .sc (.slice none 0 0), .sc (.slice none 0 0), .sc (.string noB), .I 0, .sc (.string noB)]

/-- Dice and two lists, under their numbers. -/
theorem Le.q3 {st st' : St} {L : List Int} {a : Nat} {X Y : List (List AV)} (hX : ∀ ρ sn h m, X.map (List.map (conv ρ sn h (m + 1))) = X) (hY : ∀ ρ sn h m, Y.map (List.map (conv ρ sn h (m + 1))) = Y) (i j ro ro' : Nat) (sn : List Nat) (hsz : st'.sz = st.sz)
    (hh : st'.h = [(56, some (dice L a)), (16, some ⟨13, X, 0⟩), (24, some ⟨13, Y, ro'⟩)]) (hn : 56 < st'.n) (hd : [56, i, j].Nodup) (hs : ∀ k ∈ sn, k ∉ [56, i, j]) (hro : ro ≤ ro') (hro' : ro' ≤ Y.length)
    (h1 : st.hp 56 = some (dice L a)) (h2 : st.hp i = some ⟨13, X, 0⟩) (h3 : st.hp j = some ⟨13, Y, ro⟩)
    (ht : ∀ p ∈ st'.t, Wk (conv [(56, 56), (i, 16), (j, 24)] sn st.hp 4 (st.get p.1)) p.2) : Le 0 st st' := by
  refine Le.ents [(56, 56), (i, 16), (j, 24)] sn hsz (by simpa using hd) (by simp) (by simp; omega) (fun k hk => ⟨Nat.zero_le _, by simpa using hs k hk⟩) (Nat.zero_le _) ht fun p hp => ?_
  rw [hh] at hp
  simp only [List.mem_cons, List.not_mem_nil, or_false] at hp
  rcases hp with rfl | rfl | rfl
  · exact ⟨56, _, _, rfl, by simp, h1, EntUp.eq (by simp [Function.comp_def]) (by simp)⟩
  · exact ⟨i, _, _, rfl, by simp, h2, EntUp.eq (by simp only [convE, hX]) (by simp)⟩
  · exact ⟨j, _, _, rfl, by simp, h3, ⟨rfl, by simpa [convE] using hro, hro', .inl (by simp only [convE, hY])⟩⟩

/-- Dice alone; lists become values. -/
theorem Le.q1 {st st' : St} {L : List Int} {a : Nat} (sn : List Nat) (hsz : st'.sz = st.sz) (hh : st'.h = [(56, some (dice L a))]) (hn : 56 < st'.n) (hs : ∀ k ∈ sn, k ≠ 56) (h1 : st.hp 56 = some (dice L a))
    (ht : ∀ p ∈ st'.t, Wk (conv [(56, 56)] sn st.hp 4 (st.get p.1)) p.2) : Le 0 st st' := by
  refine Le.ents [(56, 56)] sn hsz (by simp) (by simp) (by simp; omega) (fun k hk => ⟨Nat.zero_le _, by simpa using hs k hk⟩) (Nat.zero_le _) ht fun p hp => ?_
  rw [hh] at hp
  simp only [List.mem_cons, List.not_mem_nil, or_false] at hp
  subst hp
  exact ⟨56, _, _, rfl, by simp, h1, EntUp.eq (by simp [Function.comp_def]) (by simp)⟩

/-- Dice and a list. -/
theorem Le.q2 {st st' : St} {L : List Int} {a : Nat} {X : List (List AV)} (hX : ∀ ρ sn h m, X.map (List.map (conv ρ sn h (m + 1))) = X) (i : Nat) (hsz : st'.sz = st.sz)
    (hh : st'.h = [(56, some (dice L a)), (16, some ⟨13, X, 0⟩)]) (hn : 56 < st'.n) (hd : [56, i].Nodup)
    (h1 : st.hp 56 = some (dice L a)) (h2 : st.hp i = some ⟨13, X, 0⟩)
    (ht : ∀ p ∈ st'.t, Wk (conv [(56, 56), (i, 16)] [] st.hp 4 (st.get p.1)) p.2) : Le 0 st st' := by
  refine Le.ents [(56, 56), (i, 16)] [] hsz (by simpa using hd) (by simp) (by simp; omega) (by simp) (Nat.zero_le _) ht fun p hp => ?_
  rw [hh] at hp
  simp only [List.mem_cons, List.not_mem_nil, or_false] at hp
  rcases hp with rfl | rfl
  · exact ⟨56, _, _, rfl, by simp, h1, EntUp.eq (by simp [Function.comp_def]) (by simp)⟩
  · exact ⟨i, _, _, rfl, by simp, h2, EntUp.eq (by simp only [convE, hX]) (by simp)⟩

/-- What holds between two authors. -/
structure FO (L : List Int) (l : List Stm) (p a : Nat) : Prop where
  good : GoodL l
  au : ∀ s ∈ l, s.au < a
  len : l.length ≤ 9 * a
  pl : p ≤ L.length
  a2 : a ≤ 2
/-- What holds between two statements of one. -/
structure FI (L : List Int) (c : List Stm) (p a : Nat) (tm : Int) (N : Nat) : Prop where
  ch : Chain a c
  len : c.length + N ≤ 9
  pl : p ≤ L.length
  t0 : 0 ≤ tm
  t4 : tm + 4 * N ≤ 36

set_option maxHeartbeats 16000000 in
set_option maxRecDepth 100000 in
theorem law10_VouchFaces_ok (L : List Int) : ACalls Try.prog nlaw10_VouchFaces [ints L] [] (.B true) [] := by
  refine slaw10_VouchFaces.acalls (Nat.le_of_ble_eq_true rfl) (Nat.le_of_ble_eq_true rfl) (Nat.le_refl _) ?_
  show awp _ 0 _ _ ⟨105, [(0, ints L)], [], 16⟩
  refine awp_regc ⟨105, [(0, ints L)], [], 24⟩ rfl (by simp; exact Le.snap [] rfl rfl (by simp)) ?_
  refine awp_seq ?_
  refine awp_regc ⟨105, [(0, ints L), (15, .B (decide (¬ L.length ≤ 400)))], [], 48⟩ rfl ?_ ?_
  · simp
    refine call0e (Light_ok L) rfl ?_
    simp
    exact Le.snap [] rfl rfl (by simp <;> exact wkB (by rw [Bool.eq_iff_iff]; simp))
  refine awp_cond _ rfl (fun h => ?_) fun h => awp_skip ?_
  · refine awp_seq ?_
    refine awp_run (s := ?s2) rfl ?o2 ?q2
    case o2 => simp; refine call0e law10_awake_ok rfl ?_; simp; rfl
    refine awp_ret ?_
    exact ⟨.inr rfl, RetOk.one (by simp)⟩
  have hl : L.length ≤ 400 := by simpa using h
  refine awp_regc ⟨105, [(3, .pt 56 0 0)], [(56, some (dice L 0))], 72⟩ rfl ?_ ?_
  · simp
    refine callN1 (Roll_ok L) rfl ?_
    simp [Function.comp_def]
    exact Le.keep rfl (Nat.le_refl _) (by simp) (by simp)
  refine awp_regc ⟨105, [(3, .pt 56 0 0), (4, .sc (.slice none 0 0))], [(56, some (dice L 0))], 80⟩ rfl ?_ ?_
  · simp
    exact Le.keep rfl (Nat.le_refl _) (by simp) (by simp)
  refine awp_seq ?_
  refine awp_regc ⟨105, [(3, .pt 56 0 0), (4, .sc (.slice none 0 0)), (5, .I (0 : Nat))], [(56, some (dice L 0))], 88⟩ rfl ?_ ?_
  · simp
    exact Le.keep rfl (Nat.le_refl _) (by simp) (by simp)
  refine awp_block ?_
  let C : List Stm × Nat × Nat → St := fun q => ⟨105, [(3, .pt 56 0 0), (4, .rs 16 0 q.1.length), (5, .I q.2.2)], [(56, some (dice L q.2.1)), (16, some ⟨13, q.1.map sC, 0⟩)], 88⟩
  refine awp_loop C (fun q => FO L q.1 q.2.1 q.2.2) (fun q => 2 - q.2.2) ([], 0, 0) ⟨⟨List.Pairwise.nil, by simp⟩, by simp, by simp, Nat.zero_le _, Nat.zero_le _⟩ ?_ ?_
  · refine Le.lst [(56, 56)] [] [(16, 13)] rfl (by simp) (by simp) (by simp [C]) (by simp [C]) (by simp) (Nat.zero_le _) (by simp) (by simp [C, Up]) fun p hp e' he' => ?_
    simp [C] at hp
    rcases hp with rfl | rfl
    · cases he'
      exact .inl ⟨(56, 56), by simp, rfl, _, rfl, EntUp.eq (by simp [Function.comp_def]) (by simp)⟩
    · cases he'
      exact .inr ⟨by simp, by simp, rfl⟩
  rintro ⟨l, p, a⟩ hO
  simp only at hO
  have hC : C (l, p, a) = ⟨105, [(3, .pt 56 0 0), (4, .rs 16 0 l.length), (5, .I a)], [(56, some (dice L p)), (16, some ⟨13, l.map sC, 0⟩)], 88⟩ := rfl
  rw [hC]
  refine awp_seq ?_
  refine awp_regc ⟨105, [(3, .pt 56 0 0), (4, .rs 16 0 l.length), (5, .I a), (20, .B (decide (a < 2)))], [(56, some (dice L p)), (16, some ⟨13, l.map sC, 0⟩)], 104⟩ rfl ?_ ?_
  · simp
    exact Le.keep rfl (Nat.le_refl _) (by simp <;> omega) (by simp)
  refine awp_cond _ rfl (fun h => awp_skip ?_) fun h => awp_exit (hit ?_)
  · simp only [decide_eq_true_eq] at h
    have hpl := hO.pl
    have hwa : IntKind.i64.wrap ((a : Int) + 1) = ((a + 1 : Nat) : Int) := by rw [w64 (by omega) (by omega)]; omega
    refine awp_cut (ι := List Stm × Nat) (fun q => ⟨105, [(3, .pt 56 0 0), (4, .rs 16 0 q.1.length), (5, .I a)], [(56, some (dice L q.2)), (16, some ⟨13, q.1.map sC, 0⟩)], 900⟩) (fun q => FO L q.1 q.2 (a + 1)) ?_ ?_
    · obtain ⟨m, hm⟩ : ∃ m, m = l.length := ⟨_, rfl⟩
      have hm20 : m ≤ 100 := by have := hO.len; omega
      have hXf := sts_flat l
      have hXl : (l.map sC).length = m := by rw [List.length_map, hm]
      rw [← hm]
      refine awp_block ?_
      refine awp_regc ⟨105, [(3, .pt 56 0 0), (4, .rs 16 0 m), (5, .I a), (6, .sc (.slice none 0 0))], [(56, some (dice L p)), (16, some ⟨13, l.map sC, 0⟩)], 112⟩ rfl ?_ ?_
      · simp
        exact Le.keep rfl (Nat.le_refl _) (by simp) (by simp)
      refine awp_regc ⟨105, [(3, .pt 56 0 0), (4, .rs 16 0 m), (5, .I a), (6, .sc (.slice none 0 0)), (7, .I 0)], [(56, some (dice L p)), (16, some ⟨13, l.map sC, 0⟩)], 120⟩ rfl ?_ ?_
      · simp
        exact Le.keep rfl (Nat.le_refl _) (by simp) (by simp)
      obtain ⟨N0, hN0, hN9⟩ : ∃ N0 : Nat, (nextD L p 9).1 = N0 ∧ N0 ≤ 9 := by
        have := nextD_lt (L := L) (a := p) (n := 9) (by omega)
        exact ⟨((nextD L p 9).1).toNat, by omega, by omega⟩
      obtain ⟨p0, hp0⟩ : ∃ a, a = (nextD L p 9).2 := ⟨_, rfl⟩
      have hp0l : p0 ≤ L.length := by rw [hp0]; exact nextD_le hpl
      have hnx0 := Next1_ok L p 9 hl hpl (by omega)
      rw [← hp0, hN0] at hnx0
      refine awp_seq ?_
      refine awp_regc ⟨105, [(3, .pt 56 0 0), (4, .rs 16 0 m), (5, .I a), (6, .sc (.slice none 0 0)), (7, .I 0), (8, .I N0)], [(56, some (dice L p0)), (16, some ⟨13, l.map sC, 0⟩)], 144⟩ rfl ?_ ?_
      · simp
        refine callM1 (i := 56) rfl (e' := dice L p) (by simp [Function.comp_def]) hnx0 (by simp) (by simp) ?_
        simp [Function.comp_def]
        exact Le.keep rfl (Nat.le_refl _) (by simp) (by simp)
      refine awp_block ?_
      let D : List Stm × Nat × Int × Nat → St := fun q => ⟨105, [(3, .pt 56 0 0), (4, .rs 16 0 m), (5, .I a), (6, .rs 24 0 q.1.length), (7, .I q.2.2.1), (8, .I q.2.2.2)], [(56, some (dice L q.2.1)), (16, some ⟨13, l.map sC, 0⟩), (24, some ⟨13, q.1.map sC, q.1.length⟩)], 144⟩
      refine awp_loop D (fun q => FI L q.1 q.2.1 a q.2.2.1 q.2.2.2) (fun q => q.2.2.2) ([], p0, 0, N0) ⟨chain_nil a, by simp; omega, hp0l, Int.le_refl _, by show (0 : Int) + 4 * (N0 : Int) ≤ 36; omega⟩ ?_ ?_
      · refine Le.lst [(56, 56), (16, 16)] [] [(24, 13)] rfl (by simp) (by simp) (by simp [D]) (by simp [D]) (by simp) (Nat.zero_le _) (by simp) (by simp [D, Up]) fun p hp e' he' => ?_
        simp [D] at hp
        rcases hp with rfl | rfl | rfl
        · cases he'
          exact .inl ⟨(56, 56), by simp, rfl, _, rfl, EntUp.eq (by simp [Function.comp_def]) (by simp)⟩
        · cases he'
          exact .inl ⟨(16, 16), by simp, rfl, _, rfl, EntUp.eq (by simp only [convE, hXf]) (by simp)⟩
        · cases he'
          exact .inr ⟨by simp, by simp, rfl⟩
      rintro ⟨c, p1, tm, N⟩ hI
      simp only at hI
      have hD : D (c, p1, tm, N) = ⟨105, [(3, .pt 56 0 0), (4, .rs 16 0 m), (5, .I a), (6, .rs 24 0 c.length), (7, .I tm), (8, .I N)], [(56, some (dice L p1)), (16, some ⟨13, l.map sC, 0⟩), (24, some ⟨13, c.map sC, c.length⟩)], 144⟩ := rfl
      rw [hD]
      refine awp_seq ?_
      refine awp_regc ⟨105, [(3, .pt 56 0 0), (4, .rs 16 0 m), (5, .I a), (6, .rs 24 0 c.length), (7, .I tm), (8, .I N), (26, .B (decide (0 < N)))], [(56, some (dice L p1)), (16, some ⟨13, l.map sC, 0⟩), (24, some ⟨13, c.map sC, c.length⟩)], 160⟩ rfl ?_ ?_
      · simp
        exact Le.keep rfl (Nat.le_refl _) (by simp) (by simp)
      refine awp_cond _ rfl (fun h2 => awp_skip ?_) fun h2 => awp_exit (hit ?_)
      · simp only [decide_eq_true_eq] at h2
        refine awp_cut (ι := List Stm × Nat × Int) (fun q => ⟨105, [(3, .pt 56 0 0), (4, .rs 16 0 m), (5, .I a), (6, .rs 24 0 q.1.length), (7, .I q.2.2), (8, .I N)], [(56, some (dice L q.2.1)), (16, some ⟨13, l.map sC, 0⟩), (24, some ⟨13, q.1.map sC, q.1.length⟩)], 700⟩) (fun q => FI L q.1 q.2.1 a q.2.2 (N - 1)) ?_ ?_
        · obtain ⟨hch, hlen, hp1, ht0, ht4⟩ := hI
          obtain ⟨n, hn⟩ : ∃ n, n = c.length := ⟨_, rfl⟩
          have hYl : (c.map sC).length = n := by rw [List.length_map, hn]
          have hYf := sts_flat c
          rw [← hn]
          have ha1 : a ≤ 1 := by omega
          generalize l.map sC = X at *
          obtain ⟨Y, hYe⟩ : ∃ Y, Y = c.map sC := ⟨_, rfl⟩
          rw [← hYe] at hYl hYf ⊢
          have htY : List.take n Y = Y := List.take_of_length_le (by omega)
          -- the time
          have hof1 := Of_ok L p1 [1, 0, 4] (by omega) hp1 (by simp) (by simp)
          have hofm1 := ofD_in L p1 (l := [1, 0, 4]) (by simp)
          obtain ⟨p2, hp2⟩ : ∃ b, b = (nextD L p1 ([1, 0, 4] : List Int).length).2 := ⟨_, rfl⟩
          have hp2l : p2 ≤ L.length := by rw [hp2]; exact nextD_le hp1
          rw [← hp2] at hof1
          generalize ofD L p1 [1, 0, 4] = d1 at *
          have hd1 : 0 ≤ d1 ∧ d1 ≤ 4 := by simp at hofm1; omega
          obtain ⟨tm', htm⟩ : ∃ t, t = tm + d1 := ⟨_, rfl⟩
          have hw1 : IntKind.i64.wrap (tm + d1) = tm' := by rw [htm]; exact w64 (by omega) (by omega)
          refine awp_block ?_
          refine awp_regc ⟨105, [(3, .pt 56 0 0), (4, .rs 16 0 m), (5, .I a), (6, .rs 24 0 n), (7, .I tm'), (8, .I N)], [(56, some (dice L p2)), (16, some ⟨13, X, 0⟩), (24, some ⟨13, Y, n⟩)], 208⟩ rfl ?_ ?_
          · simp
            refine callM1s (i := 56) (j := 176) (by decide) (Nat.zero_le _) rfl rfl (e' := dice L p1) (by simp [Function.comp_def]) hof1 (by simp) (by simp) ?_
            simp [Function.comp_def, hw1]
            exact Le.keep rfl (Nat.le_refl _) (by simp) (by simp)
          have htm2 : 0 ≤ tm' ∧ tm' ≤ tm + 4 ∧ tm' ≤ 36 := by omega
          clear hw1 hof1 hofm1 htm
          -- the kind
          have hof2 := Of_ok L p2 [1, 1, 2, 1, 2, 10] (by omega) hp2l (by simp) (by simp)
          obtain ⟨p3, hp3⟩ : ∃ b, b = (nextD L p2 ([1, 1, 2, 1, 2, 10] : List Int).length).2 := ⟨_, rfl⟩
          have hp3l : p3 ≤ L.length := by rw [hp3]; exact nextD_le hp2l
          rw [← hp3] at hof2
          generalize ofD L p2 [1, 1, 2, 1, 2, 10] = k0 at *
          refine awp_regc ⟨105, [(3, .pt 56 0 0), (4, .rs 16 0 m), (5, .I a), (6, .rs 24 0 n), (7, .I tm'), (8, .I N), (9, .pt 248 0 0)], [(56, some (dice L p3)), (16, some ⟨13, X, 0⟩), (24, some ⟨13, Y, n⟩), (248, some ⟨13, [stY tm' k0 0 0 0], 0⟩)], 264⟩ rfl ?_ ?_
          · simp
            refine callM1s (i := 56) (j := 224) (by decide) (Nat.zero_le _) rfl rfl (e' := dice L p2) (by simp [Function.comp_def]) hof2 (by simp) (by simp) ?_
            simp [Function.comp_def, splice]
            exact Le.keep rfl (Nat.le_refl _) (by simp) (by simp)
          clear hof2
          refine awp_cut (ι := (Int × Int × Int) × Nat) (fun q => ⟨105, [(3, .pt 56 0 0), (4, .rs 16 0 m), (5, .I a), (6, .rs 24 0 n), (7, .I tm'), (8, .I N), (9, .pt 248 0 0)], [(56, some (dice L q.2)), (16, some ⟨13, X, 0⟩), (24, some ⟨13, Y, n⟩), (248, some ⟨13, [stY tm' k0 q.1.1 q.1.2.1 q.1.2.2], 0⟩)], 460⟩) (fun q => q.2 ≤ L.length) ?_ ?_
          · refine awp_regc ⟨105, [(3, .pt 56 0 0), (4, .rs 16 0 m), (5, .I a), (6, .rs 24 0 n), (7, .I tm'), (8, .I N), (9, .pt 248 0 0), (40, .I k0)], [(56, some (dice L p3)), (16, some ⟨13, X, 0⟩), (24, some ⟨13, Y, n⟩), (248, some ⟨13, [stY tm' k0 0 0 0], 0⟩)], 280⟩ rfl ?_ ?_
            · simp
              exact Le.keep rfl (Nat.le_refl _) (by simp) (by simp)
            refine awp_block ?_
            refine awp_regc ⟨105, [(3, .pt 56 0 0), (4, .rs 16 0 m), (5, .I a), (6, .rs 24 0 n), (7, .I tm'), (8, .I N), (9, .pt 248 0 0), (40, .I k0), (41, .B (decide (k0 = 1)))], [(56, some (dice L p3)), (16, some ⟨13, X, 0⟩), (24, some ⟨13, Y, n⟩), (248, some ⟨13, [stY tm' k0 0 0 0], 0⟩)], 296⟩ rfl ?_ ?_
            · simp
              exact Le.keep rfl (Nat.le_refl _) (by simp <;> rw [Bool.eq_iff_iff] <;> simp) (by simp)
            refine awp_cond _ rfl (fun h5 => ?_) fun h5 => ?_
            · have hdx := nextD_lt (L := L) (a := p3) (n := 2) (by omega)
              have hx1 := Next1_ok L p3 2 hl hp3l (by omega)
              obtain ⟨p4, hp4⟩ : ∃ b, b = (nextD L p3 2).2 := ⟨_, rfl⟩
              have hp4l : p4 ≤ L.length := by rw [hp4]; exact nextD_le hp3l
              rw [← hp4] at hx1
              generalize (nextD L p3 2).1 = y1 at *
              have hdy := nextD_lt (L := L) (a := p4) (n := 3) (by omega)
              have hx2 := Next1_ok L p4 3 hl hp4l (by omega)
              obtain ⟨p5, hp5⟩ : ∃ b, b = (nextD L p4 3).2 := ⟨_, rfl⟩
              have hp5l : p5 ≤ L.length := by rw [hp5]; exact nextD_le hp4l
              rw [← hp5] at hx2
              generalize (nextD L p4 3).1 = y2 at *
              have hof3 := Of_ok L p5 [20, 3, 0] (by omega) hp5l (by simp) (by simp)
              obtain ⟨p6, hp6⟩ : ∃ b, b = (nextD L p5 ([20, 3, 0] : List Int).length).2 := ⟨_, rfl⟩
              have hp6l : p6 ≤ L.length := by rw [hp6]; exact nextD_le hp5l
              rw [← hp6] at hof3
              generalize ofD L p5 [20, 3, 0] = y3 at *
              refine awp_reg rfl ?_
              simp
              refine callM1 (i := 56) rfl (e' := dice L p3) (by simp [Function.comp_def]) hx1 (by simp) (by simp) ?_
              simp [Function.comp_def]
              refine callM1 (i := 56) rfl (e' := dice L p4) (by simp [Function.comp_def]) hx2 (by simp) (by simp) ?_
              simp [Function.comp_def]
              refine callM1s (i := 56) (j := 384) (by decide) (Nat.zero_le _) rfl rfl (e' := dice L p5) (by simp [Function.comp_def]) hof3 (by simp) (by simp) ?_
              simp [Function.comp_def, splice]
              exact ⟨_, _, _, p6, hp6l, Le.keep rfl (by simp) (by simp) (by simp; exact ⟨rfl, rfl, rfl⟩)⟩
            · refine awp_regc ⟨105, [(3, .pt 56 0 0), (4, .rs 16 0 m), (5, .I a), (6, .rs 24 0 n), (7, .I tm'), (8, .I N), (9, .pt 248 0 0), (60, .B (decide (k0 = 2)))], [(56, some (dice L p3)), (16, some ⟨13, X, 0⟩), (24, some ⟨13, Y, n⟩), (248, some ⟨13, [stY tm' k0 0 0 0], 0⟩)], 312⟩ rfl ?_ ?_
              · simp
                exact Le.keep rfl (Nat.le_refl _) (by simp <;> rw [Bool.eq_iff_iff] <;> simp) (by simp)
              refine awp_cond _ rfl (fun h6 => ?_) fun h6 => awp_skip ?_
              · have hx1 := Next1_ok L p3 6 hl hp3l (by omega)
                obtain ⟨p4, hp4⟩ : ∃ b, b = (nextD L p3 6).2 := ⟨_, rfl⟩
                have hp4l : p4 ≤ L.length := by rw [hp4]; exact nextD_le hp3l
                rw [← hp4] at hx1
                generalize (nextD L p3 6).1 = y1 at *
                refine awp_reg rfl ?_
                simp
                refine callM1 (i := 56) rfl (e' := dice L p3) (by simp [Function.comp_def]) hx1 (by simp) (by simp) ?_
                simp [Function.comp_def, splice]
                exact ⟨_, _, _, p4, hp4l, Le.keep rfl (by simp) (by simp) (by simp; exact ⟨rfl, rfl, rfl⟩)⟩
              · exact ⟨((0, 0, 0), p3), hp3l, Le.keep rfl (by simp) (by simp) (by simp)⟩
          rintro ⟨⟨sa, sb, sc⟩, p7⟩ hp7l
          simp only at hp7l
          -- does it leave?
          refine awp_cut (ι := (Int × Int × Int × Int) × Nat) (fun q => ⟨105, [(3, .pt 56 0 0), (4, .rs 16 0 m), (5, .I a), (6, .rs 24 0 n), (7, .I tm'), (8, .I N), (9, .pt 248 0 0)], [(56, some (dice L q.2)), (16, some ⟨13, X, 0⟩), (24, some ⟨13, Y, n⟩), (248, some ⟨13, [stY tm' q.1.1 q.1.2.1 q.1.2.2.1 q.1.2.2.2], 0⟩)], 540⟩) (fun q => q.2 ≤ L.length) ?_ ?_
          · have hone := One_ok L p7 4 (by omega) hp7l (by omega) (by omega)
            obtain ⟨ob, hob⟩ : ∃ b, b = decide ((nextD L p7 4).1 = 4 - 1) := ⟨_, rfl⟩
            rw [← hob] at hone
            obtain ⟨p8, hp8⟩ : ∃ b, b = if N = 1 then (nextD L p7 4).2 else p7 := ⟨_, rfl⟩
            have hp8l : p8 ≤ L.length := by
              rw [hp8]
              split
              · exact nextD_le hp7l
              · exact hp7l
            refine awp_regc ⟨105, [(3, .pt 56 0 0), (4, .rs 16 0 m), (5, .I a), (6, .rs 24 0 n), (7, .I tm'), (8, .I N), (9, .pt 248 0 0), (70, .B (decide (N = 1) && ob))], [(56, some (dice L p8)), (16, some ⟨13, X, 0⟩), (24, some ⟨13, Y, n⟩), (248, some ⟨13, [stY tm' k0 sa sb sc], 0⟩)], 508⟩ rfl ?_ ?_
            · by_cases h0 : N = 1
              · have h0' : ((N : Int) == 1) = true := by simp [h0]
                rw [if_pos h0] at hp8
                rw [← hp8] at hone
                simp [h0']
                refine callM1 (i := 56) rfl (e' := dice L p7) (by simp [Function.comp_def]) hone (by simp) (by simp) ?_
                simp [Function.comp_def]
                exact Le.keep rfl (Nat.le_refl _) (by simp [h0]) (by simp)
              · have h0' : ((N : Int) == 1) = false := by simp; omega
                rw [if_neg h0] at hp8
                simp [h0']
                exact Le.keep rfl (Nat.le_refl _) (by simp [h0]) (by simp [hp8])
            refine awp_cond _ rfl (fun h5 => ?_) fun h5 => awp_skip ?_
            · refine awp_reg rfl ?_
              simp [splice]
              exact ⟨_, _, _, _, p8, hp8l, Le.keep rfl (by simp) (by simp) (by simp; exact ⟨rfl, rfl, rfl, rfl⟩)⟩
            · exact ⟨((k0, sa, sb, sc), p8), hp8l, Le.keep rfl (by simp) (by simp) (by simp)⟩
          rintro ⟨⟨ki, sa, sb, sc⟩, p8⟩ hp8l
          simp only at hp8l
          obtain ⟨e, x, hnext, hchx⟩ := next_any a c (stN tm' ki sa sb sc) hch (by omega) (stN_b ..)
          have hsts : sts c = .vs 13 false Y := by rw [hYe]
          rw [hsts] at hnext
          refine awp_regc ⟨105, [(3, .pt 56 0 0), (4, .rs 16 0 m), (5, .I a), (6, .rs 24 0 n), (7, .I tm'), (8, .I N), (10, .pt 596 0 0), (11, .I e)], [(56, some (dice L p8)), (16, some ⟨13, X, 0⟩), (24, some ⟨13, Y, n⟩), (596, some ⟨13, [sC x], 0⟩)], 620⟩ rfl ?_ ?_
          · simp
            refine call0r [24] hnext (by simp [hYl, hYf, htY]; exact stWk ..) (by simp) ?_
            simp [splice, hYl]
            exact Le.keep rfl (Nat.le_refl _) (by simp) (by simp)
          refine awp_regc ⟨105, [(3, .pt 56 0 0), (4, .rs 16 0 m), (5, .I a), (6, .rs 24 0 n), (7, .I tm'), (8, .I N), (10, .pt 596 0 0), (81, .B (decide (e = 0)))], [(56, some (dice L p8)), (16, some ⟨13, X, 0⟩), (24, some ⟨13, Y, n⟩), (596, some ⟨13, [sC x], 0⟩)], 636⟩ rfl ?_ ?_
          · simp
            exact Le.keep rfl (Nat.le_refl _) (by simp <;> rw [Bool.eq_iff_iff] <;> simp) (by simp)
          refine awp_cond _ rfl (fun h5 => ?_) fun h5 => awp_skip ?_
          · simp only [decide_eq_true_eq] at h5
            have hch2 := hchx h5
            have hfi : FI L (c ++ [x]) p8 a tm' (N - 1) := ⟨hch2, by rw [List.length_append, List.length_singleton]; omega, hp8l, htm2.1, by omega⟩
            have hY2 : (c ++ [x]).map sC = Y ++ [sC x] := by rw [List.map_append, hYe]; rfl
            have hYf2 := sts_flat (c ++ [x])
            have hY2l : ((c ++ [x]).map sC).length = n + 1 := by rw [List.length_map, List.length_append, ← hn]; rfl
            have hl2 : (c ++ [x]).length = n + 1 := by rw [List.length_append, ← hn]; rfl
            rw [hY2] at hYf2 hY2l
            refine awp_reg rfl ?_
            simp [hYl, htY]
            refine ⟨by omega, by omega, c ++ [x], p8, tm', hfi, ?_⟩
            rw [hl2, hY2]
            exact Le.q3 hXf hYf2 16 660 n (n + 1) [] rfl rfl (by simp) (by simp) (by simp) (by omega) (by rw [hY2l]; exact Nat.le_refl _) rfl rfl (by simp [htY]) (by simp)
          · have hfi : FI L c p8 a tm' (N - 1) := ⟨hch, by omega, hp8l, htm2.1, by omega⟩
            refine ⟨(c, p8, tm'), hfi, ?_⟩
            simp only
            rw [← hn, ← hYe]
            exact Le.keep rfl (by simp) (by simp) (by simp)
        · rintro ⟨c', p', tm'⟩ hI'
          simp only at hI'
          obtain ⟨N', hN'⟩ : ∃ N', N = N' + 1 := ⟨N - 1, by omega⟩
          have hwn : IntKind.i64.wrap ((N : Int) - 1) = (N' : Int) := by have := hI.len; rw [w64 (by omega) (by omega)]; omega
          have e1 : N - 1 = N' := by omega
          rw [e1] at hI'
          refine awp_reg rfl ?_
          simp [hwn]
          refine ⟨c', p', tm', N', hI', by omega, ?_⟩
          exact Le.q3 hXf (sts_flat c') 16 24 c'.length c'.length [] rfl rfl (by simp [D]) (by simp) (by simp) (Nat.le_refl _) (by simp) rfl rfl rfl (by simp [D])
      obtain ⟨k, hk⟩ : ∃ k, k = c.length := ⟨_, rfl⟩
      have hYf := sts_flat c
      have hYl : (c.map sC).length = k := by rw [List.length_map, hk]
      have hk9 : k ≤ 9 := by have := hI.len; omega
      have hlc : (l ++ c).length = m + k := by rw [List.length_append, hm, hk]
      have hmc : (l ++ c).map sC = l.map sC ++ c.map sC := List.map_append
      have hfo : FO L (l ++ c) p1 (a + 1) := ⟨hO.good.append hI.ch.good fun x hx y hy => by
          have h1 := hO.au x hx
          obtain ⟨i, hi, rfl⟩ := List.mem_iff_getElem.1 hy
          rw [(hI.ch.1 i hi).au_]
          exact h1, fun s hs => by
          rcases List.mem_append.1 hs with h1 | h1
          · have := hO.au s h1; omega
          · obtain ⟨i, hi, rfl⟩ := List.mem_iff_getElem.1 h1
            rw [(hI.ch.1 i hi).au_]
            omega, by have := hO.len; omega, hI.pl, by omega⟩
      have hZf := sts_flat (l ++ c)
      rw [hmc] at hZf
      rw [← hk]
      generalize l.map sC = X at *
      generalize c.map sC = Y at *
      have tX : List.take m X = X := List.take_of_length_le (by omega)
      have tY : List.take k Y = Y := List.take_of_length_le (by omega)
      refine awp_reg rfl ?_
      simp [hXl, hYl, tX, tY]
      refine ⟨by omega, by omega, l ++ c, p1, hfo, ?_⟩
      rw [hlc, hmc]
      exact Le.q2 hZf 176 rfl rfl (by simp) (by simp) rfl rfl (by simp)
    · rintro ⟨l', p'⟩ hO'
      simp only at hO'
      refine awp_reg rfl ?_
      simp [hwa]
      exact ⟨l', p', a + 1, hO', by omega, Le.q2 (sts_flat l') 16 rfl rfl (by simp [C]) (by simp) rfl rfl (by simp [C])⟩
  simp only [decide_eq_false_iff_not] at h
  have ha2 : a = 2 := by have := hO.a2; omega
  subst ha2
  have hgood := hO.good
  have hl18 : l.length ≤ 18 := hO.len
  have hagr : ∀ t, AgreeH l t := fun t => hgood.agree (by omega) (Nat.lt_of_le_of_lt (rawV_le l l) (by omega)) t
  have hpl := hO.pl
  clear hO hgood hC
  have hXf := sts_flat l
  have tX : List.take l.length (l.map sC) = l.map sC := List.take_of_length_le (by simp)
  refine awp_seq ?_
  refine awp_regc ⟨105, [(3, .pt 56 0 0), (4, sts l), (12, .I (0 : Nat))], [(56, some (dice L p))], 112⟩ rfl ?_ ?_
  · simp
    exact Le.q1 [16] rfl rfl (by simp) (by simp) rfl (by simp [Function.comp_def]; exact wkE (congrArg _ tX))
  refine awp_block ?_
  refine awp_loop (ι := Nat × Nat) (fun q => ⟨105, [(3, .pt 56 0 0), (4, sts l), (12, .I q.1)], [(56, some (dice L q.2))], 112⟩) (fun q => q.1 ≤ 100 ∧ q.2 ≤ L.length) (fun q => 100 - q.1) (0, p) ⟨by simp, hpl⟩ (Le.refl _ _) ?_
  rintro ⟨t, p1⟩ ⟨ht, hp1⟩
  simp only at ht hp1
  refine awp_seq ?_
  refine awp_regc ⟨105, [(3, .pt 56 0 0), (4, sts l), (12, .I t), (90, .B (decide (t < 30)))], [(56, some (dice L p1))], 128⟩ rfl ?_ ?_
  · simp
    exact Le.keep rfl (Nat.le_refl _) (by simp <;> omega) (by simp)
  refine awp_cond _ rfl (fun h2 => awp_skip ?_) fun h2 => awp_exit (hit ?_)
  · simp only [decide_eq_true_eq] at h2
    refine awp_cut (ι := Nat) (fun q => ⟨105, [(3, .pt 56 0 0), (4, sts l), (12, .I t)], [(56, some (dice L q))], 192⟩) (fun q => q ≤ L.length) ?_ ?_
    · have hn1 := Next1_ok L p1 2 hl hp1 (by omega)
      obtain ⟨p2, hp2⟩ : ∃ b, b = (nextD L p1 2).2 := ⟨_, rfl⟩
      have hp2l : p2 ≤ L.length := by rw [hp2]; exact nextD_le hp1
      rw [← hp2] at hn1
      generalize (nextD L p1 2).1 = f at *
      have hn2 := Next1_ok L p2 4 hl hp2l (by omega)
      obtain ⟨p3, hp3⟩ : ∃ b, b = (nextD L p2 4).2 := ⟨_, rfl⟩
      have hp3l : p3 ≤ L.length := by rw [hp3]; exact nextD_le hp2l
      rw [← hp3] at hn2
      generalize (nextD L p2 4).1 = to at *
      have hag := law10_agree_ok l f to t (hagr t)
      refine awp_block ?_
      refine awp_regc ⟨105, [(3, .pt 56 0 0), (4, sts l), (12, .I t), (103, .B false)], [(56, some (dice L p3))], 192⟩ rfl ?_ ?_
      · simp
        refine callM1 (i := 56) rfl (e' := dice L p1) (by simp [Function.comp_def]) hn1 (by simp) (by simp) ?_
        simp [Function.comp_def]
        refine callM1 (i := 56) rfl (e' := dice L p2) (by simp [Function.comp_def]) hn2 (by simp) (by simp) ?_
        simp [Function.comp_def]
        refine call0e hag (by simp) ?_
        simp
        exact Le.keep rfl (Nat.le_refl _) (by simp) (by simp)
      refine awp_cond _ rfl (fun h => by cases h) fun _ => awp_skip ?_
      exact ⟨p3, hp3l, Le.keep rfl (by simp) (by simp) (by simp)⟩
    · intro p4 hp4
      have hd := nextD_lt (L := L) (a := p4) (n := 4) (by omega)
      have hn1 := Next1_ok L p4 4 hl hp4 (by omega)
      obtain ⟨p5, hp5⟩ : ∃ b, b = (nextD L p4 4).2 := ⟨_, rfl⟩
      have hp5l : p5 ≤ L.length := by rw [hp5]; exact nextD_le hp4
      rw [← hp5] at hn1
      obtain ⟨d, hdd⟩ : ∃ d : Nat, (nextD L p4 4).1 = d := ⟨((nextD L p4 4).1).toNat, by omega⟩
      rw [hdd] at hn1 hd
      have hw1 : IntKind.i64.wrap (1 + (d : Int)) = ((1 + d : Nat) : Int) := by rw [w64 (by omega) (by omega)]; omega
      have hw2 : IntKind.i64.wrap ((t : Int) + ((1 + d : Nat) : Int)) = ((t + (1 + d) : Nat) : Int) := by rw [w64 (by omega) (by omega)]; omega
      generalize hd1 : 1 + d = d1 at *
      refine awp_reg rfl ?_
      simp
      refine callM1 (i := 56) rfl (e' := dice L p4) (by simp [Function.comp_def]) hn1 (by simp) (by simp) ?_
      simp [Function.comp_def, hw1, hw2]
      exact ⟨t + d1, p5, ⟨by omega, hp5l⟩, by omega, Le.q1 [] rfl rfl (by simp) (by simp) rfl (by simp)⟩
  refine awp_seq ?_
  refine awp_run (s := ?s9) rfl ?o9 ?q9
  case o9 => simp; refine call0e law10_awake_ok rfl ?_; simp; rfl
  refine awp_ret ?_
  exact ⟨.inr rfl, RetOk.one (by simp)⟩

end Go.Proofs.Ytnphfkceoklkkaa
