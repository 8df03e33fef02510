/- Texts of this claim, merged. -/
import Derived.Test.YtnlanlpbgcalcaaGreatGg9
import Derived.Test.YtnlanlpbgcalcaaGreatGg7
set_option linter.unusedSimpArgs false
set_option linter.unusedVariables false
set_option linter.unusedSectionVars false
namespace Go.Proofs.YtnlanlpbgcalcaaGreat
open Go
def LaterP (v : Vch) (t : Int) (w : Vch) : Prop := w.fr = v.fr ∧ w.to = v.to ∧ w.ti ≤ t
instance (v : Vch) (t : Int) (w : Vch) : Decidable (LaterP v t w) := by unfold LaterP; infer_instance
def keepB (V : List Vch) (g : List Int) (t : Int) (i : Nat) (v : Vch) : Bool := decide (HoldsP v g t) && (V.drop (i + 1)).all fun w => !decide (LaterP v t w)
def actN (V : List Vch) (g : List Int) (t : Int) : Nat → List Vch
  | 0 => []
  | i + 1 => actN V g t i ++ match V[i]? with | some v => if keepB V g t i v then [v] else [] | none => []
def actV (l : List Stm) (t : Int) : List Vch := actN (ofV l) (goneR l t) t (ofV l).length
theorem actN_le (V : List Vch) (g : List Int) (t : Int) : ∀ i, (actN V g t i).length ≤ i
  | 0 => Nat.le_refl _
  | i + 1 => by
    have := actN_le V g t i
    unfold actN
    rw [List.length_append]
    split
    · split <;> simp <;> omega
    · simp; omega
set_option maxHeartbeats 4000000 in
set_option maxRecDepth 100000 in
theorem vouch_Active_ok (l : List Stm) (t : Int) (hl : l.length ≤ 100000) (hn : SortH l) (hz : (goneR l t).Pairwise (· < ·)) : ACalls Tryz.prog nvouch_Active [sts l, .I t] [] (.rs 0 0 (actV l t).length) [some ⟨7, rowsV (actV l t), 0⟩] := by
  refine svouch_Active.acalls (Nat.le_of_ble_eq_true rfl) (Nat.le_of_ble_eq_true rfl) (Nat.zero_le _) ?_
  show awp _ 0 _ _ ⟨63, [(0, sts l), (1, .I t)], [], 16⟩
  refine awp_regc ⟨63, [(0, sts l), (1, .I t)], [], 24⟩ rfl (by simp; exact Le.snap [] rfl rfl (by simp)) ?_
  have hof := vouch_Of_ok l hl hn
  have hgo := vouch_Gone_ok l t hl hz
  have hVl : (ofV l).length ≤ 100000 := by have := rawV_le l l; unfold ofV isortV; rw [List.length_reverse, isortRevV_len]; omega
  have hGl := goneR_le l t
  have hact : actV l t = actN (ofV l) (goneR l t) t (ofV l).length := rfl
  rw [hact]
  generalize ofV l = V at *
  generalize goneR l t = G at *
  have tkV : List.take V.length (rowsV V) = rowsV V := List.take_of_length_le (by simp)
  have tkG : List.take G.length (rwI G) = rwI G := List.take_of_length_le (by simp)
  refine awp_regc ⟨63, [(1, .I t), (5, vchs V), (6, ints G)], [], 80⟩ rfl ?_ ?_
  · simp
    refine callN1 hof rfl ?_
    simp [Function.comp_def]
    refine callN1 hgo rfl ?_
    simp [Function.comp_def]
    exact Le.snap [32, 56] rfl rfl (by
      simp [Function.comp_def]
      exact ⟨wkE (congrArg _ tkV), wkE (congrArg _ tkG)⟩)
  refine awp_regc ⟨63, [(1, .I t), (5, vchs V), (6, ints G), (7, .sc (.slice none 0 0))], [], 88⟩ rfl (by simp; exact Le.snap [] rfl rfl (by simp)) ?_
  refine awp_seq ?_
  refine awp_skip ?_
  refine awp_seq ?_
  refine awp_regc ⟨63, [(1, .I t), (5, vchs V), (6, ints G), (7, .sc (.slice none 0 0)), (17, vchs V), (18, .I V.length), (19, .I (0 : Nat))], [], 112⟩ rfl (by simp; exact Le.snap [] rfl rfl (by simp)) ?_
  refine awp_block ?_
  refine awp_loop (ι := Nat) (fun i => ⟨63, [(1, .I t), (5, vchs V), (6, ints G), (7, .rs 16 0 (actN V G t i).length), (17, vchs V), (18, .I V.length), (19, .I i)], [(16, some ⟨7, rowsV (actN V G t i), 0⟩)], 112⟩) (fun i => i ≤ V.length) (fun i => V.length - i) 0 (Nat.zero_le _) (Le.lst [] [] [(16, 7)] rfl (by simp) (by simp) (by simp) (by simp) (by simp) (by simp) (by simp) (by simp [Up, actN]) (by simp [actN])) ?_
  intro i hi
  refine awp_regc ⟨63, [(1, .I t), (5, vchs V), (6, ints G), (7, .rs 16 0 (actN V G t i).length), (17, vchs V), (18, .I V.length), (19, .I i), (20, .B (decide (i < V.length)))], [(16, some ⟨7, rowsV (actN V G t i), 0⟩)], 120⟩ rfl ?_ ?_
  · simp
    exact Le.keep rfl (Nat.le_refl _) (by simp) (by simp)
  refine awp_seq ?_
  refine awp_cond _ rfl (fun h => awp_skip ?_) fun h => awp_exit (hit ?_)
  · simp only [decide_eq_true_eq] at h
    have hwi : IntKind.i64.wrap ((i : Int) + 1) = ((i + 1 : Nat) : Int) := by rw [w64 (by omega) (by omega)]; omega
    refine awp_cut (ι := Unit) (fun _ => ⟨63, [(1, .I t), (5, vchs V), (6, ints G), (7, .rs 16 0 (actN V G t (i + 1)).length), (17, vchs V), (18, .I V.length), (19, .I i)], [(16, some ⟨7, rowsV (actN V G t (i + 1)), 0⟩)], 1000⟩) (fun _ => True) ?_ fun _ _ => ?_
    · have hg : V[i]? = some V[i] := List.getElem?_eq_getElem h
      have hRl := actN_le V G t i
      have hstep : actN V G t (i + 1) = actN V G t i ++ if keepB V G t i V[i] then [V[i]] else [] := by rw [actN, hg]
      have hkeep : keepB V G t i V[i] = (decide (HoldsP V[i] G t) && (V.drop (i + 1)).all fun w => !decide (LaterP V[i] t w)) := rfl
      rw [hstep]
      generalize V[i] = v at *
      have hho := vouch_holds_ok v G t (by omega)
      obtain ⟨hb, hhb⟩ : ∃ b, b = decide (HoldsP v G t) := ⟨_, rfl⟩
      rw [← hhb] at hho hkeep
      generalize actN V G t i = R at *
      have hXf := rowsV_flat R
      obtain ⟨W, hW⟩ : ∃ W, W = V.drop (i + 1) := ⟨_, rfl⟩
      have hWl : W.length ≤ 100000 := by rw [hW, List.length_drop]; omega
      rw [← hW] at hkeep
      have hWr : List.drop (i + 1) (rowsV V) = rowsV W := by rw [hW]; exact List.map_drop.symm
      refine awp_block ?_
      refine awp_regc ⟨63, [(1, .I t), (5, vchs V), (6, ints G), (7, .rs 16 0 R.length), (17, vchs V), (18, .I V.length), (19, .I i), (8, .I i), (9, .pv (vC v))], [(16, some ⟨7, rowsV R, 0⟩)], 168⟩ rfl ?_ ?_
      · simp [hg, splice]
        exact Le.Z1 hXf 16 16 [144] rfl rfl (by simp) (by simp) rfl (by simp)
      refine awp_seq ?_
      refine awp_regc ⟨63, [(1, .I t), (5, vchs V), (6, ints G), (7, .rs 16 0 R.length), (17, vchs V), (18, .I V.length), (19, .I i), (8, .I i), (9, .pv (vC v)), (28, .B (!hb))], [(16, some ⟨7, rowsV R, 0⟩)], 208⟩ rfl ?_ ?_
      · simp
        refine call0e hho (by simp) ?_
        simp
        exact Le.keep rfl (Nat.le_refl _) (by simp) (by simp)
      refine awp_cond _ rfl (fun h5 => awp_exit (hit ?_)) fun h5 => awp_skip ?_
      · have hf : hb = false := by simpa using h5
        rw [hf, Bool.false_and] at hkeep
        rw [hkeep, if_neg (by decide), List.append_nil]
        exact ⟨(), trivial, Le.keep rfl (by simp) (by simp) (by simp)⟩
      have hht : hb = true := by simpa using h5
      rw [hht, Bool.true_and] at hkeep
      obtain ⟨i1, hi1⟩ : ∃ i1, i1 = i + 1 := ⟨_, rfl⟩
      have hwi1 : IntKind.i64.wrap ((i : Int) + 1) = (i1 : Int) := by rw [w64 (by omega) (by omega)]; omega
      rw [← hi1] at hWr
      have hno : ∀ j, j ≤ W.length → (∀ k (h : k < W.length), k < j → ¬ LaterP v t W[k]) → j = W.length → (W.all fun w => !decide (LaterP v t w)) = true := fun j _ hq hj => by
        rw [List.all_eq_true]
        intro w hw
        obtain ⟨k, hk, rfl⟩ := List.mem_iff_getElem.1 hw
        simp [hq k hk (by omega)]
      refine awp_cut (ι := Unit) (fun _ => ⟨63, [(1, .I t), (5, vchs V), (6, ints G), (7, .rs 16 0 R.length), (17, vchs V), (18, .I V.length), (19, .I i), (9, .pv (vC v))], [(16, some ⟨7, rowsV R, 0⟩)], 300⟩) (fun _ => (W.all fun w => !decide (LaterP v t w)) = true) ?_ fun _ hall => ?_
      · refine awp_regc ⟨63, [(1, .I t), (5, vchs V), (6, ints G), (7, .rs 16 0 R.length), (17, vchs V), (18, .I V.length), (19, .I i), (9, .pv (vC v)), (32, vchs W), (33, .I W.length), (34, .I (0 : Nat))], [(16, some ⟨7, rowsV R, 0⟩)], 256⟩ rfl ?_ ?_
        · have hWl2 : (List.drop i1 (rowsV V)).length = W.length := by rw [hWr, rowsV, List.length_map]
          have hle : i1 ≤ V.length := by omega
          simp [hwi1, hle]
          exact Le.Z1 hXf 16 16 [] rfl rfl (by simp) (by simp) rfl (by
            simp
            exact ⟨wkE (congrArg _ hWr), wkI (by rw [hW, List.length_drop, ← hi1])⟩)
        refine awp_block ?_
        refine awp_loop (ι := Nat) (fun j => ⟨63, [(1, .I t), (5, vchs V), (6, ints G), (7, .rs 16 0 R.length), (17, vchs V), (18, .I V.length), (19, .I i), (9, .pv (vC v)), (32, vchs W), (33, .I W.length), (34, .I j)], [(16, some ⟨7, rowsV R, 0⟩)], 256⟩) (fun j => j ≤ W.length ∧ ∀ k (h : k < W.length), k < j → ¬ LaterP v t W[k]) (fun j => W.length - j) 0 ⟨Nat.zero_le _, fun k _ hk => absurd hk (by omega)⟩ (Le.refl _ _) ?_
        rintro j ⟨hj, hjn⟩
        refine awp_regc ⟨63, [(1, .I t), (5, vchs V), (6, ints G), (7, .rs 16 0 R.length), (17, vchs V), (18, .I V.length), (19, .I i), (9, .pv (vC v)), (32, vchs W), (33, .I W.length), (34, .I j), (35, .B (decide (j < W.length)))], [(16, some ⟨7, rowsV R, 0⟩)], 264⟩ rfl ?_ ?_
        · simp
          exact Le.keep rfl (Nat.le_refl _) (by simp) (by simp)
        refine awp_seq ?_
        refine awp_cond _ rfl (fun h6 => awp_skip ?_) fun h6 => awp_exit (hit ?_)
        · simp only [decide_eq_true_eq] at h6
          have hwj : IntKind.i64.wrap ((j : Int) + 1) = ((j + 1 : Nat) : Int) := by rw [w64 (by omega) (by omega)]; omega
          refine awp_cut (ι := Unit) (fun _ => ⟨63, [(1, .I t), (5, vchs V), (6, ints G), (7, .rs 16 0 R.length), (17, vchs V), (18, .I V.length), (19, .I i), (9, .pv (vC v)), (32, vchs W), (33, .I W.length), (34, .I j)], [(16, some ⟨7, rowsV R, 0⟩)], 440⟩) (fun _ => ¬ LaterP v t W[j]) ?_ fun _ hlt => ?_
          · have hgw : W[j]? = some W[j] := List.getElem?_eq_getElem h6
            have hex : LaterP v t W[j] → (W.all fun w => !decide (LaterP v t w)) = false := fun hq => by
              rw [List.all_eq_false]
              exact ⟨W[j], List.getElem_mem h6, by simp [hq]⟩
            generalize W[j] = w at *
            obtain ⟨r, hr⟩ : ∃ r, r = decide (LaterP v t w) := ⟨_, rfl⟩
            refine awp_block ?_
            refine awp_regc ⟨63, [(1, .I t), (5, vchs V), (6, ints G), (7, .rs 16 0 R.length), (17, vchs V), (18, .I V.length), (19, .I i), (9, .pv (vC v)), (32, vchs W), (33, .I W.length), (34, .I j), (11, .pv (vC w))], [(16, some ⟨7, rowsV R, 0⟩)], 296⟩ rfl ?_ ?_
            · simp [hgw, splice]
              exact Le.Z1 hXf 16 16 [280] rfl rfl (by simp) (by simp) rfl (by simp)
            refine awp_regc ⟨63, [(1, .I t), (5, vchs V), (6, ints G), (7, .rs 16 0 R.length), (17, vchs V), (18, .I V.length), (19, .I i), (9, .pv (vC v)), (32, vchs W), (33, .I W.length), (34, .I j), (55, .B r)], [(16, some ⟨7, rowsV R, 0⟩)], 440⟩ rfl ?_ ?_
            · by_cases c1 : w.fr = v.fr
              · have c1' : (w.fr == v.fr) = true := by simp [c1]
                by_cases c2 : w.to = v.to
                · have c2' : (w.to == v.to) = true := by simp [c2]
                  have e : r = decide (w.ti ≤ t) := by
                    rw [hr, Bool.eq_iff_iff, decide_eq_true_eq, decide_eq_true_eq]
                    exact ⟨fun hq => hq.2.2, fun hq => ⟨c1, c2, hq⟩⟩
                  simp [c1', c2', e]
                  exact Le.keep rfl (Nat.le_refl _) (by simp) (by simp)
                · have c2' : (w.to == v.to) = false := by simp [c2]
                  have e : r = false := by rw [hr]; exact decide_eq_false fun hq => c2 hq.2.1
                  simp [c1', c2', e]
                  exact Le.keep rfl (Nat.le_refl _) (by simp) (by simp)
              · have c1' : (w.fr == v.fr) = false := by simp [c1]
                have e : r = false := by rw [hr]; exact decide_eq_false fun hq => c1 hq.1
                simp [c1', e]
                exact Le.keep rfl (Nat.le_refl _) (by simp) (by simp)
            refine awp_cond _ rfl (fun h7 => awp_exit (miss (by decide) (miss (by decide) (hit ?_)))) fun h7 => awp_skip ?_
            · rw [h7] at hr
              have hl := of_decide_eq_true hr.symm
              rw [hex hl] at hkeep
              rw [hkeep, if_neg (by decide), List.append_nil]
              exact ⟨(), trivial, Le.keep rfl (by simp) (by simp) (by simp)⟩
            · rw [h7] at hr
              exact ⟨(), of_decide_eq_false hr.symm, Le.keep rfl (by simp) (by simp) (by simp)⟩
          refine awp_reg rfl ?_
          simp [hwj]
          refine ⟨j + 1, ⟨by omega, fun k hk hkj => ?_⟩, by omega, Le.Z1 hXf 16 16 [] rfl rfl (by simp) (by simp) rfl (by simp)⟩
          rcases Nat.lt_succ_iff_lt_or_eq.1 hkj with hq | rfl
          · exact hjn k hk hq
          · exact hlt
        simp only [decide_eq_false_iff_not] at h6
        exact ⟨(), hno j hj hjn (by omega), Le.keep rfl (by simp) (by simp) (by simp)⟩
      rw [hall] at hkeep
      rw [hkeep, if_pos rfl]
      obtain ⟨n, hnR⟩ : ∃ n, n = R.length := ⟨_, rfl⟩
      have hXe : rowsV (R ++ [v]) = rowsV R ++ [vC v] := by rw [rowsV, List.map_append]; rfl
      have hRl2 : (R ++ [v]).length = n + 1 := by rw [List.length_append, ← hnR]; rfl
      have hXl : (rowsV R).length = n := by rw [rowsV, List.length_map, hnR]
      rw [hXe, hRl2, ← hnR]
      have hXf2 : ∀ ρ sn h m, (rowsV R ++ [vC v]).map (List.map (conv ρ sn h (m + 1))) = rowsV R ++ [vC v] := fun ρ sn h m => by rw [List.map_append, hXf]; simp
      generalize rowsV R = X at *
      have htk : List.take n X = X := List.take_of_length_le (by omega)
      refine awp_reg rfl ?_
      simp [hXl, htk]
      repeat' apply And.intro
      all_goals first | omega | exact Le.Z1 hXf2 324 16 [] rfl rfl (by simp) (by simp) (by simp [htk]) (by simp)
    have hXf := rowsV_flat (actN V G t (i + 1))
    refine awp_reg rfl ?_
    simp [hwi]
    exact ⟨i + 1, by omega, by omega, Le.Z1 hXf 16 16 [] rfl rfl (by simp) (by simp) rfl (by simp)⟩
  simp only [decide_eq_false_iff_not] at h
  obtain rfl : i = V.length := by omega
  refine awp_seq ?_
  refine awp_run (s := ?s9) rfl ?o9 ?q9
  case o9 => simp; rfl
  refine awp_ret ?_
  exact ⟨.inr rfl, RetOk.out [16] [] rfl (by simp) (by simp) (by simp) (by simp [Function.comp_def])⟩
end Go.Proofs.YtnlanlpbgcalcaaGreat
namespace Go.Proofs.YtnlanlpbgcalcaaGreat
open Go
section
variable {P : Program} {np id : Nat} {h : Nat → Option Ent} {K : AV → List Nat → List (Nat × Option Ent) → Prop} {f : FuncId} {first capt args args' : List AV} {res : AV}
theorem call0r (sn : List Nat) (hc : ACalls P f args' [] res []) (hw : WkL ((first ++ args ++ capt).map (conv [] sn h 4)) args') (hnp : ∀ i ∈ sn, np ≤ i)
    (hk : K (conv (((List.range 8).map (id + ·)).zipIdx.map fun (a, b) => (b, a)) [] (fun _ => none) 4 res) sn (sn.filterMap fun i => (h i).map fun e => (i, some { e with ro := e.rows.length }))) : aK P np id .call (.fn (.func f) first capt :: args) h K :=
  ⟨[], sn, true, args', [], res, [], by simp, by simp, fun _ => hnp, by rw [List.zipIdx_nil]; exact hw, rfl, hc, by simp, .inl rfl, by simpa using hk⟩
end
end Go.Proofs.YtnlanlpbgcalcaaGreat
namespace Go.Proofs.YtnlanlpbgcalcaaGreat
open Go
end Go.Proofs.YtnlanlpbgcalcaaGreat
namespace Go.Proofs.YtnlanlpbgcalcaaGreat
open Go
theorem cmpI_lt {x y : Int} : cmpI x y < 0 ↔ x < y := by
  unfold cmpI
  split
  · simp; assumption
  · split
    · simp; omega
    · simp; omega
theorem cmpI_ne {x y : Int} (h : x ≠ y) : cmpI x y ≠ 0 := by
  unfold cmpI
  split
  · decide
  · split
    · decide
    · omega
theorem cmpI_self (x : Int) : cmpI x x = 0 := by simp [cmpI]
theorem cmpI_b {x y : Int} (h : x ≠ y) : (cmpI x y != 0) = true := by simp [cmpI_ne h]
theorem cmpI_b0 (x : Int) : (cmpI x x != 0) = false := by simp [cmpI_self]
theorem cmpV_1 {a b : Vch} (h : a.fr ≠ b.fr) : cmpV a b = cmpI a.fr b.fr := by
  unfold cmpV
  simp [List.find?_cons, cmpI_b h]
theorem cmpV_2 {a b : Vch} (h : a.fr = b.fr) (h2 : a.to ≠ b.to) : cmpV a b = cmpI a.to b.to := by
  unfold cmpV
  rw [h]
  simp [List.find?_cons, cmpI_b0, cmpI_b h2]
theorem cmpV_3 {a b : Vch} (h : a.fr = b.fr) (h2 : a.to = b.to) : cmpV a b = cmpI a.nu b.nu := by
  unfold cmpV
  rw [h, h2]
  by_cases h3 : a.nu = b.nu
  · rw [h3, cmpI_self]
    simp [List.find?_cons, cmpI_b0, cmpI_self]
  · simp [List.find?_cons, cmpI_b0, cmpI_b h3]
end Go.Proofs.YtnlanlpbgcalcaaGreat
namespace Go.Proofs.YtnlanlpbgcalcaaGreat
open Go
def GoneK (t : Int) (k : Int) (s : Stm) : Prop := s.au = k ∧ GoneP t s
instance (t k : Int) (s : Stm) : Decidable (GoneK t k s) := by unfold GoneK; infer_instance
def goneB (l : List Stm) (t : Int) (k : Int) : Bool := l.any fun s => decide (GoneK t k s)
def goneN (l : List Stm) (t : Int) : Nat → List Int
  | 0 => []
  | n + 1 => goneN l t n ++ if goneB l t n then [(n : Int)] else []
end Go.Proofs.YtnlanlpbgcalcaaGreat
namespace Go.Proofs.YtnlanlpbgcalcaaGreat
open Go
end Go.Proofs.YtnlanlpbgcalcaaGreat
namespace Go.Proofs.YtnlanlpbgcalcaaGreat
open Go
end Go.Proofs.YtnlanlpbgcalcaaGreat
namespace Go.Proofs.YtnlanlpbgcalcaaGreat
open Go
def OrdS (x y : Stm) : Prop := x.au < y.au ∨ (x.au = y.au ∧ x.nu < y.nu ∧ x.ti ≤ y.ti ∧ x.ki ≠ 3)
structure GoodL (l : List Stm) : Prop where
  ord : l.Pairwise OrdS
  rng : ∀ s ∈ l, 0 ≤ s.au ∧ s.au < 64 ∧ 0 ≤ s.ti ∧ 0 ≤ s.nu
theorem GoodL.asc {l : List Stm} (h : GoodL l) (t : Int) : (goneR l t).Pairwise (· < ·) := by
  unfold goneR
  rw [List.pairwise_map]
  refine List.Pairwise.imp_of_mem ?_ (h.ord.filter _)
  intro a b ha hb hab
  have h1 : GoneP t a := by simpa using (List.mem_filter.1 ha).2
  rcases hab with h2 | h2
  · exact h2
  · exact absurd h1.1 h2.2.2.2
theorem asc_ext : ∀ {a b : List Int}, a.Pairwise (· < ·) → b.Pairwise (· < ·) → (∀ x, x ∈ a ↔ x ∈ b) → a = b
  | [], [], _, _, _ => rfl
  | [], y :: b, _, _, h => by have := (h y).2 (List.mem_cons_self ..); simp at this
  | x :: a, [], _, _, h => by have := (h x).1 (List.mem_cons_self ..); simp at this
  | x :: a, y :: b, ha, hb, h => by
    rw [List.pairwise_cons] at ha hb
    have hxy : x = y := by
      rcases List.mem_cons.1 ((h x).1 (List.mem_cons_self ..)) with h1 | h1
      · exact h1
      · rcases List.mem_cons.1 ((h y).2 (List.mem_cons_self ..)) with h2 | h2
        · exact h2.symm
        · have h3 := hb.1 x h1
          have h4 := ha.1 y h2
          omega
    subst hxy
    refine congrArg _ (asc_ext ha.2 hb.2 fun z => ⟨fun hz => ?_, fun hz => ?_⟩)
    · rcases List.mem_cons.1 ((h z).1 (List.mem_cons_of_mem _ hz)) with h1 | h1
      · have := ha.1 z hz; omega
      · exact h1
    · rcases List.mem_cons.1 ((h z).2 (List.mem_cons_of_mem _ hz)) with h1 | h1
      · have := hb.1 z hz; omega
      · exact h1
theorem mem_goneN (l : List Stm) (t x : Int) : ∀ n : Nat, x ∈ goneN l t n ↔ 0 ≤ x ∧ x < n ∧ goneB l t x = true
  | 0 => by simp [goneN]; omega
  | n + 1 => by
    unfold goneN
    rw [List.mem_append, mem_goneN l t x n]
    constructor
    · rintro (h | h)
      · exact ⟨h.1, by omega, h.2.2⟩
      · split at h
        · rename_i hb
          rw [List.mem_singleton] at h
          subst h
          exact ⟨by omega, by omega, hb⟩
        · simp at h
    · rintro ⟨h1, h2, h3⟩
      by_cases h4 : x < n
      · exact .inl ⟨h1, h4, h3⟩
      · have h5 : x = (n : Int) := by omega
        subst h5
        rw [if_pos h3]
        exact .inr (List.mem_singleton.2 rfl)
theorem goneN_asc (l : List Stm) (t : Int) : ∀ n : Nat, (goneN l t n).Pairwise (· < ·)
  | 0 => List.Pairwise.nil
  | n + 1 => by
    unfold goneN
    rw [List.pairwise_append]
    refine ⟨goneN_asc l t n, by split <;> simp, fun a ha b hb => ?_⟩
    have h1 := (mem_goneN l t a n).1 ha
    split at hb
    · rw [List.mem_singleton] at hb
      omega
    · simp at hb
theorem GoodL.gone {l : List Stm} (h : GoodL l) (t : Int) : goneR l t = goneN l t 64 := by
  refine asc_ext (h.asc t) (goneN_asc l t 64) fun x => ?_
  rw [mem_goneN]
  unfold goneR goneB
  rw [List.mem_map, List.any_eq_true]
  constructor
  · rintro ⟨s, hs, rfl⟩
    have hs2 := List.mem_filter.1 hs
    have hr := h.rng s hs2.1
    exact ⟨hr.1, hr.2.1, s, hs2.1, by simpa [GoneK] using hs2.2⟩
  · rintro ⟨_, _, s, hs, hg⟩
    have hg2 : GoneK t x s := by simpa using hg
    exact ⟨s, List.mem_filter.2 ⟨hs, by simpa using hg2.2⟩, hg2.1⟩
def ltV (a b : Vch) : Prop := a.fr < b.fr ∨ (a.fr = b.fr ∧ (a.to < b.to ∨ (a.to = b.to ∧ a.nu < b.nu)))
theorem cmpV_lt (a b : Vch) : cmpV a b < 0 ↔ ltV a b := by
  unfold ltV
  by_cases h1 : a.fr = b.fr
  · by_cases h2 : a.to = b.to
    · rw [cmpV_3 h1 h2, cmpI_lt]; omega
    · rw [cmpV_2 h1 h2, cmpI_lt]; omega
  · rw [cmpV_1 h1, cmpI_lt]; omega
theorem ltV_asym {a b : Vch} (h : ltV a b) : ¬ ltV b a := by unfold ltV at *; omega
theorem ltV_neg {a b c : Vch} (h1 : ¬ ltV a b) (h2 : ¬ ltV b c) : ¬ ltV a c := by unfold ltV at *; omega
theorem insV_sorted : ∀ (R : List Vch) (x : Vch), R.Pairwise (fun a b => ¬ ltV a b) → (insRevV cmpV R x).Pairwise (fun a b => ¬ ltV a b)
  | [], x, _ => by simp [insRevV]
  | y :: R, x, h => by
    rw [List.pairwise_cons] at h
    unfold insRevV
    split
    · rename_i hc
      rw [cmpV_lt] at hc
      rw [List.pairwise_cons]
      refine ⟨fun z hz => ?_, insV_sorted R x h.2⟩
      rcases List.mem_cons.1 ((insRevV_perm cmpV R x).mem_iff.1 hz) with h1 | h1
      · subst h1
        exact ltV_asym hc
      · exact h.1 z h1
    · rename_i hc
      rw [cmpV_lt] at hc
      rw [List.pairwise_cons, List.pairwise_cons]
      refine ⟨fun z hz => ?_, h⟩
      rcases List.mem_cons.1 hz with h1 | h1
      · rw [h1]; exact hc
      · exact ltV_neg hc (h.1 z h1)
theorem isortRevV_sorted (M : List Vch) : ∀ R : List Vch, R.Pairwise (fun a b => ¬ ltV a b) → (M.foldl (insRevV cmpV) R).Pairwise (fun a b => ¬ ltV a b) := by
  induction M with
  | nil => exact fun R h => h
  | cons x M ih => exact fun R h => ih _ (insV_sorted R x h)
theorem isortV_sorted (M : List Vch) : (isortV cmpV M).Pairwise (fun a b => ¬ ltV b a) := by
  unfold isortV
  rw [List.pairwise_reverse]
  exact isortRevV_sorted M [] List.Pairwise.nil
theorem mem_isortV {M : List Vch} {v : Vch} : v ∈ isortV cmpV M ↔ v ∈ M := by
  unfold isortV
  rw [List.mem_reverse, (isortRevV_perm cmpV M).mem_iff]
theorem GoodL.two {l : List Stm} (h : GoodL l) {x y : Stm} (hx : x ∈ l) (hy : y ∈ l) (ha : x.au = y.au) (hn : x.nu ≤ y.nu) : x.ti ≤ y.ti := by
  obtain ⟨i, hi, rfl⟩ := List.mem_iff_getElem.1 hx
  obtain ⟨j, hj, rfl⟩ := List.mem_iff_getElem.1 hy
  have hp := List.pairwise_iff_getElem.1 h.ord
  rcases Nat.lt_trichotomy i j with h1 | h1 | h1
  · rcases hp i j hi hj h1 with h2 | h2
    · omega
    · exact h2.2.2.1
  · subst h1
    exact Int.le_refl _
  · rcases hp j i hj hi h1 with h2 | h2
    · omega
    · omega
theorem mem_rawV {l : List Stm} {v : Vch} (h : v ∈ rawV l l) : ∃ s ∈ l, s.ki = 1 ∧ v = vOf l s := by
  unfold rawV at h
  obtain ⟨s, hs, rfl⟩ := List.mem_map.1 h
  have hs2 := List.mem_filter.1 hs
  exact ⟨s, hs2.1, by simpa using hs2.2, rfl⟩
theorem Chain.good {a : Int} {c : List Stm} (hc : Chain a c) : GoodL c := by
  have hi : ∀ i (h : i < c.length), c[i].au = a ∧ c[i].nu = i ∧ 0 ≤ c[i].au ∧ c[i].au < 64 ∧ 0 ≤ c[i].ti := fun i h => by
    have := hc.1 i h
    exact ⟨this.au_, this.nu_, this.ok.1.1, this.ok.1.2, this.ok.2.2.1.1⟩
  have hstep : ∀ i k (hj : i + k + 1 < c.length), c[i].ti ≤ c[i + k + 1].ti ∧ c[i].ki ≠ 3 := by
    intro i k
    induction k with
    | zero =>
      intro hj
      have := hc.2 i hj
      exact ⟨this.ti_, this.ki_⟩
    | succ k ih =>
      intro hj
      have h1 := ih (by omega)
      have h2 := (hc.2 (i + k + 1) hj).ti_
      exact ⟨Int.le_trans h1.1 h2, h1.2⟩
  constructor
  · rw [List.pairwise_iff_getElem]
    intro i j h1 h2 hij
    have h3 := hi i h1
    have h4 := hi j h2
    obtain ⟨k, rfl⟩ : ∃ k, j = i + k + 1 := ⟨j - i - 1, by omega⟩
    have h5 := hstep i k h2
    exact .inr ⟨by omega, by omega, h5.1, h5.2⟩
  · intro s hs
    obtain ⟨i, h, rfl⟩ := List.mem_iff_getElem.1 hs
    have h3 := hi i h
    exact ⟨h3.2.2.1, h3.2.2.2.1, h3.2.2.2.2, by omega⟩
theorem GoodL.append {a b : List Stm} (ha : GoodL a) (hb : GoodL b) (h : ∀ x ∈ a, ∀ y ∈ b, x.au < y.au) : GoodL (a ++ b) where
  ord := by
    rw [List.pairwise_append]
    exact ⟨ha.ord, hb.ord, fun x hx y hy => .inl (h x hx y hy)⟩
  rng := fun s hs => (List.mem_append.1 hs).elim (ha.rng s) (hb.rng s)
end Go.Proofs.YtnlanlpbgcalcaaGreat
namespace Go.Proofs.YtnlanlpbgcalcaaGreat
open Go
theorem outV {st : St} {X : List (List AV)} (hflat : ∀ ρ sn h m, X.map (List.map (conv ρ sn h (m + 1))) = X) (he : st.hp 0 = some ⟨7, X, 0⟩) : RetOk [] 1 st (.tup []) [some ⟨7, X, 0⟩] :=
  ⟨[], rfl, [], [], by simp [List.range, List.range.loop], by simp, by simp, by simp, by simp [List.range, List.range.loop, he, convE, hflat]⟩
theorem swap2_get {H G T : List Vch} {x y : Vch} {p q : Nat} (hp : H.length = p) (hq : p + 1 + G.length = q) : (rowsV (H ++ x :: (G ++ y :: T)))[p]? = some (vC x) ∧ (rowsV (H ++ x :: (G ++ y :: T)))[q]? = some (vC y) := by
  subst hp hq
  constructor
  · rw [List.getElem?_map, List.getElem?_append_right (by omega)]
    simp
  · rw [List.getElem?_map, List.getElem?_append_right (by omega)]
    have e : H.length + 1 + G.length - H.length = G.length + 1 := by omega
    rw [e, List.getElem?_cons_succ, List.getElem?_append_right (by omega)]
    simp
theorem swap2_set {H G T : List Vch} {x y : Vch} {p q : Nat} (hp : H.length = p) (hq : p + 1 + G.length = q) : ((rowsV (H ++ x :: (G ++ y :: T))).set p (vC y)).set q (vC x) = rowsV (H ++ y :: (G ++ x :: T)) := by
  subst hp hq
  have e1 : (rowsV (H ++ x :: (G ++ y :: T))).set H.length (vC y) = rowsV (H ++ y :: (G ++ y :: T)) := by simp [rowsV, List.set_append]
  rw [e1, rowsV, List.map_append, List.set_append_right _ _ (by simp; omega)]
  have e : H.length + 1 + G.length - (H.map vC).length = G.length + 1 := by simp; omega
  rw [e, List.map_cons, List.set_cons_succ, List.map_append, List.set_append_right _ _ (by simp)]
  simp
set_option maxHeartbeats 4000000 in
set_option maxRecDepth 100000 in
theorem swapRangeV_ok (f : FuncId) (capt : List AV) (hs : StillV capt) (P X Q Y R : List Vch) (n a b t : Nat) (hn : (P ++ (X ++ (Q ++ (Y ++ R)))).length = n) (ha : P.length = a) (hX : X.length = t) (hY : Y.length = t) (hb : a + t + Q.length = b) (hl : n ≤ 1000000) :
    ACalls Tryz.prog nslices_swapRangeCmpFunc_api_Vouch [.rs 0 0 n, .I a, .I b, .I t, .fn (.func f) [] capt] [⟨7, rowsV (P ++ (X ++ (Q ++ (Y ++ R)))), 0⟩] (.tup []) [some ⟨7, rowsV (P ++ (Y ++ (Q ++ (X ++ R)))), 0⟩] := by
  have hs2 : ∀ ρ sn h, capt.map (conv ρ sn h 2) = capt := fun _ _ _ => hs _ _ _ 1
  have hs3 : ∀ ρ sn h, capt.map (conv ρ sn h 3) = capt := fun _ _ _ => hs _ _ _ 2
  have hs4 : ∀ ρ sn h, capt.map (conv ρ sn h 4) = capt := fun _ _ _ => hs _ _ _ 3
  refine sslices_swapRangeCmpFunc_api_Vouch.acalls (Nat.le_of_ble_eq_true rfl) (Nat.le_of_ble_eq_true rfl) (Nat.le_of_ble_eq_true rfl) ?_
  show awp _ 1 _ _ ⟨38, [(0, .rs 0 0 n), (1, .I a), (2, .I b), (3, .I t), (4, .fn (.func f) [] capt)], [(0, some ⟨7, rowsV (P ++ (X ++ (Q ++ (Y ++ R)))), 0⟩)], 16⟩
  have hab : a + t ≤ b := by omega
  have hbn : b + t + R.length = n := by simp only [List.length_append] at hn; omega
  refine awp_regc ⟨38, [(0, .rs 0 0 n), (1, .I a), (2, .I b), (3, .I t), (10, .I (0 : Nat))], [(0, some ⟨7, rowsV (P ++ (X ++ (Q ++ (Y ++ R)))), 0⟩)], 24⟩ rfl ?_ ?_
  · simp
    exact Le.keep rfl (Nat.le_refl _) (by simp) (by simp)
  refine awp_block ?_
  obtain ⟨F, hF⟩ : ∃ F, F = P ++ (Y ++ (Q ++ (X ++ R))) := ⟨_, rfl⟩
  rw [← hF]
  refine awp_loop (ι := (List Vch × List Vch × List Vch × List Vch) × Nat) (fun q => ⟨38, [(0, .rs 0 0 n), (1, .I a), (2, .I b), (3, .I t), (10, .I q.2)], [(0, some ⟨7, rowsV (q.1.1 ++ (q.1.2.1 ++ (q.1.2.2.1 ++ (q.1.2.2.2 ++ R)))), 0⟩)], 24⟩)
    (fun q => q.1.1.length = a + q.2 ∧ q.1.2.1.length + q.2 = t ∧ q.1.2.2.2.length + q.2 = t ∧ a + t + q.1.2.2.1.length = b + q.2 ∧ F = q.1.1 ++ (q.1.2.2.2 ++ (q.1.2.2.1 ++ (q.1.2.1 ++ R)))) (fun q => t - q.2) ((P, X, Q, Y), 0) ⟨ha, hX, hY, hb, hF⟩ (Le.refl _ _) ?_
  rintro ⟨⟨P, X, Q, Y⟩, i⟩ ⟨h1, h2, h3, h4, h5⟩
  simp only at h1 h2 h3 h4 h5
  refine awp_seq ?_
  refine awp_regc ⟨38, [(0, .rs 0 0 n), (1, .I a), (2, .I b), (3, .I t), (10, .I i), (13, .B (decide (i < t)))], [(0, some ⟨7, rowsV (P ++ (X ++ (Q ++ (Y ++ R)))), 0⟩)], 48⟩ rfl ?_ ?_
  · generalize rowsV (P ++ (X ++ (Q ++ (Y ++ R)))) = Z at *
    simp
    exact Le.keep rfl (Nat.le_refl _) (by simp) (by simp)
  refine awp_cond _ rfl (fun h => awp_skip ?_) fun h => awp_exit (hit ?_)
  · simp only [decide_eq_true_eq] at h
    obtain ⟨x, X, rfl⟩ : ∃ x X', X = x :: X' := by cases X with | nil => simp at h2; omega | cons x X => exact ⟨x, X, rfl⟩
    obtain ⟨y, Y, rfl⟩ : ∃ x X', Y = x :: X' := by cases Y with | nil => simp at h3; omega | cons x X => exact ⟨x, X, rfl⟩
    simp only [List.length_cons] at h2 h3
    have hwi : IntKind.i64.wrap ((i : Int) + 1) = ((i + 1 : Nat) : Int) := by rw [w64 (by omega) (by omega)]; omega
    have hw1 : IntKind.i64.wrap ((a : Int) + (i : Int)) = ((a + i : Nat) : Int) := by rw [w64 (by omega) (by omega)]; omega
    have hw2 : IntKind.i64.wrap ((b : Int) + (i : Int)) = ((b + i : Nat) : Int) := by rw [w64 (by omega) (by omega)]; omega
    have e1 : P ++ (x :: X ++ (Q ++ (y :: Y ++ R))) = P ++ x :: ((X ++ Q) ++ y :: (Y ++ R)) := by simp
    have e2 : P ++ y :: ((X ++ Q) ++ x :: (Y ++ R)) = (P ++ [y]) ++ (X ++ ((Q ++ [x]) ++ (Y ++ R))) := by simp
    have hg := swap2_get (H := P) (G := X ++ Q) (T := Y ++ R) (x := x) (y := y) (p := a + i) (q := b + i) h1 (by rw [List.length_append]; omega)
    have hset := swap2_set (H := P) (G := X ++ Q) (T := Y ++ R) (x := x) (y := y) (p := a + i) (q := b + i) h1 (by rw [List.length_append]; omega)
    obtain ⟨g1, g2⟩ := hg
    rw [e2] at hset
    rw [e1]
    have hai : a + i < n := by omega
    have hbi : b + i < n := by omega
    have hpq : a + i ≠ b + i := by omega
    refine awp_cut (ι := Unit) (fun _ => ⟨38, [(0, .rs 0 0 n), (1, .I a), (2, .I b), (3, .I t), (10, .I i)], [(0, some ⟨7, rowsV ((P ++ [y]) ++ (X ++ ((Q ++ [x]) ++ (Y ++ R)))), 0⟩)], 400⟩) (fun _ => True) ?_ fun _ _ => ?_
    · generalize rowsV ((P ++ [y]) ++ (X ++ ((Q ++ [x]) ++ (Y ++ R)))) = Z2 at *
      generalize rowsV (P ++ x :: ((X ++ Q) ++ y :: (Y ++ R))) = Z at *
      generalize a + i = p at *
      generalize b + i = q at *
      have g3 : (Z.set p (vC y))[q]? = some (vC y) := by
        rw [List.getElem?_set, if_neg hpq]
        exact g2
      refine awp_block ?_
      refine awp_drw rfl ?_
      simp [hw1, hw2, hai, hbi, g1, g2, g3, splice]
      exact ⟨rfl, Le.keep rfl (by simp) (by simp) (by simp; exact hset)⟩
    refine awp_reg rfl ?_
    have hf2 := rowsV_flat ((P ++ [y]) ++ (X ++ ((Q ++ [x]) ++ (Y ++ R))))
    have hne : ∃ Z, Z = rowsV ((P ++ [y]) ++ (X ++ ((Q ++ [x]) ++ (Y ++ R)))) := ⟨_, rfl⟩
    obtain ⟨Z, hZ⟩ := hne
    rw [← hZ] at hf2 ⊢
    simp [hwi]
    refine ⟨P ++ [y], X, Q ++ [x], Y, i + 1, ⟨by simp; omega, by omega, by omega, by simp; omega, by rw [h5]; simp⟩, by omega, ?_⟩
    exact Le.N1 hf2 rfl (by simp) (by simp [hZ]) rfl (by simp)
  simp only [decide_eq_false_iff_not] at h
  have hx0 : X = [] := List.eq_nil_of_length_eq_zero (by omega)
  have hy0 : Y = [] := List.eq_nil_of_length_eq_zero (by omega)
  have hfin : P ++ (X ++ (Q ++ (Y ++ R))) = F := by rw [h5, hx0, hy0]
  rw [hfin]
  exact ⟨.inl rfl, outV (rowsV_flat F) rfl⟩
end Go.Proofs.YtnlanlpbgcalcaaGreat
namespace Go.Proofs.YtnlanlpbgcalcaaGreat
open Go
set_option maxHeartbeats 4000000 in
set_option maxRecDepth 100000 in
theorem rotateV_ok (f : FuncId) (capt : List AV) (hs : StillV capt) (A X Y B : List Vch) (n a m b : Nat) (hn : (A ++ (X ++ (Y ++ B))).length = n) (ha : A.length = a) (hm : a + X.length = m) (hb : m + Y.length = b) (hX : 0 < X.length) (hY : 0 < Y.length) (hl : n ≤ 1000000) :
    ACalls Tryz.prog nslices_rotateCmpFunc_api_Vouch [.rs 0 0 n, .I a, .I m, .I b, .fn (.func f) [] capt] [⟨7, rowsV (A ++ (X ++ (Y ++ B))), 0⟩] (.tup []) [some ⟨7, rowsV (A ++ (Y ++ (X ++ B))), 0⟩] := by
  have hs2 : ∀ ρ sn h, capt.map (conv ρ sn h 2) = capt := fun _ _ _ => hs _ _ _ 1
  have hs3 : ∀ ρ sn h, capt.map (conv ρ sn h 3) = capt := fun _ _ _ => hs _ _ _ 2
  have hs4 : ∀ ρ sn h, capt.map (conv ρ sn h 4) = capt := fun _ _ _ => hs _ _ _ 3
  refine sslices_rotateCmpFunc_api_Vouch.acalls (Nat.le_of_ble_eq_true rfl) (Nat.le_of_ble_eq_true rfl) (Nat.le_of_ble_eq_true rfl) ?_
  show awp _ 1 _ _ ⟨58, [(0, .rs 0 0 n), (1, .I a), (2, .I m), (3, .I b), (4, .fn (.func f) [] capt)], [(0, some ⟨7, rowsV (A ++ (X ++ (Y ++ B))), 0⟩)], 16⟩
  have hbn : b + B.length = n := by simp only [List.length_append] at hn; omega
  obtain ⟨F, hF⟩ : ∃ F, F = A ++ (Y ++ (X ++ B)) := ⟨_, rfl⟩
  rw [← hF]
  obtain ⟨i, hi⟩ : ∃ i, i = X.length := ⟨_, rfl⟩
  obtain ⟨j, hj⟩ : ∃ i, i = Y.length := ⟨_, rfl⟩
  have hw1 : IntKind.i64.wrap ((m : Int) - (a : Int)) = (i : Int) := by rw [w64 (by omega) (by omega)]; omega
  have hw2 : IntKind.i64.wrap ((b : Int) - (m : Int)) = (j : Int) := by rw [w64 (by omega) (by omega)]; omega
  refine awp_regc ⟨58, [(0, .rs 0 0 n), (2, .I m), (3, .I b), (4, .fn (.func f) [] capt), (10, .I i)], [(0, some ⟨7, rowsV (A ++ (X ++ (Y ++ B))), 0⟩)], 48⟩ rfl ?_ ?_
  · generalize rowsV (A ++ (X ++ (Y ++ B))) = Z at *
    simp [hw1]
    exact Le.keep rfl (Nat.le_refl _) (by simp) (by simp)
  refine awp_regc ⟨58, [(0, .rs 0 0 n), (2, .I m), (4, .fn (.func f) [] capt), (10, .I i), (11, .I j)], [(0, some ⟨7, rowsV (A ++ (X ++ (Y ++ B))), 0⟩)], 80⟩ rfl ?_ ?_
  · generalize rowsV (A ++ (X ++ (Y ++ B))) = Z at *
    simp [hw2]
    exact Le.keep rfl (Nat.le_refl _) (by simp) (by simp)
  refine awp_seq ?_
  refine awp_block ?_
  refine awp_loop (ι := (List Vch × List Vch × List Vch × List Vch) × Nat × Nat) (fun q => ⟨58, [(0, .rs 0 0 n), (2, .I m), (4, .fn (.func f) [] capt), (10, .I q.2.1), (11, .I q.2.2)], [(0, some ⟨7, rowsV (q.1.1 ++ (q.1.2.1 ++ (q.1.2.2.1 ++ q.1.2.2.2))), 0⟩)], 80⟩)
    (fun q => q.1.1.length + q.2.1 = m ∧ q.1.2.1.length = q.2.1 ∧ q.1.2.2.1.length = q.2.2 ∧ 0 < q.2.1 ∧ 0 < q.2.2 ∧ m + q.2.2 + q.1.2.2.2.length = n ∧ F = q.1.1 ++ (q.1.2.2.1 ++ (q.1.2.1 ++ q.1.2.2.2))) (fun q => q.2.1 + q.2.2) ((A, X, Y, B), i, j) ⟨by show A.length + i = m; omega, hi.symm, hj.symm, by show 0 < i; omega, by show 0 < j; omega, by show m + j + B.length = n; omega, hF⟩ (Le.refl _ _) ?_
  rintro ⟨⟨A, X, Y, B⟩, i, j⟩ ⟨h1, h2, h3, h4, h5, h6, h7⟩
  simp only at h1 h2 h3 h4 h5 h6 h7
  refine awp_seq ?_
  refine awp_regc ⟨58, [(0, .rs 0 0 n), (2, .I m), (4, .fn (.func f) [] capt), (10, .I i), (11, .I j), (20, .B (decide (i ≠ j)))], [(0, some ⟨7, rowsV (A ++ (X ++ (Y ++ B))), 0⟩)], 104⟩ rfl ?_ ?_
  · generalize rowsV (A ++ (X ++ (Y ++ B))) = Z at *
    simp
    exact Le.keep rfl (Nat.le_refl _) (by simp <;> rw [Bool.eq_iff_iff] <;> simp <;> omega) (by simp)
  have hwi : IntKind.i64.wrap ((m : Int) - (i : Int)) = ((m - i : Nat) : Int) := by rw [w64 (by omega) (by omega)]; omega
  refine awp_cond _ rfl (fun h => awp_skip ?_) fun h => awp_exit (hit ?_)
  · simp only [decide_eq_true_eq] at h
    refine awp_block ?_
    refine awp_regc ⟨58, [(0, .rs 0 0 n), (2, .I m), (4, .fn (.func f) [] capt), (10, .I i), (11, .I j), (23, .B (decide (j < i)))], [(0, some ⟨7, rowsV (A ++ (X ++ (Y ++ B))), 0⟩)], 128⟩ rfl ?_ ?_
    · generalize rowsV (A ++ (X ++ (Y ++ B))) = Z at *
      simp
      exact Le.keep rfl (Nat.le_refl _) (by simp) (by simp)
    refine awp_cond _ rfl (fun h8 => ?_) fun h8 => ?_
    · simp only [decide_eq_true_eq] at h8
      obtain ⟨X1, X2, rfl, hX1⟩ : ∃ X1 X2, X = X1 ++ X2 ∧ X1.length = j := ⟨X.take j, X.drop j, (List.take_append_drop j X).symm, by rw [List.length_take]; omega⟩
      rw [List.length_append] at h2
      have hsw := swapRangeV_ok f capt hs A X1 X2 Y B n (m - i) m j (by simp only [List.length_append]; omega) (by omega) hX1 h3 (by omega) hl
      have e1 : A ++ (X1 ++ X2 ++ (Y ++ B)) = A ++ (X1 ++ (X2 ++ (Y ++ B))) := by simp
      have e2 : A ++ (Y ++ (X2 ++ (X1 ++ B))) = (A ++ Y) ++ (X2 ++ (X1 ++ B)) := by simp
      rw [e2] at hsw
      rw [e1]
      have hf1 := rowsV_flat (A ++ (X1 ++ (X2 ++ (Y ++ B))))
      refine awp_regc ⟨58, [(0, .rs 0 0 n), (2, .I m), (4, .fn (.func f) [] capt), (10, .I i), (11, .I j)], [(0, some ⟨7, rowsV ((A ++ Y) ++ (X2 ++ (X1 ++ B))), 0⟩)], 192⟩ rfl ?_ ?_
      · have hf2 := rowsV_flat ((A ++ Y) ++ (X2 ++ (X1 ++ B)))
        generalize rowsV ((A ++ Y) ++ (X2 ++ (X1 ++ B))) = Z2 at *
        generalize rowsV (A ++ (X1 ++ (X2 ++ (Y ++ B)))) = Z at *
        simp [hwi]
        refine callM1 (i := 0) rfl (e' := ⟨7, Z, 0⟩) (by simp [convE, hf1]) hsw (by simp) ?_ ?_
        · simp [hs2, hs3, hs4]
        simp [hf2]
        exact Le.keep rfl (Nat.le_refl _) (by simp) (by simp)
      have hwj : IntKind.i64.wrap ((i : Int) - (j : Int)) = ((i - j : Nat) : Int) := by rw [w64 (by omega) (by omega)]; omega
      have hf2 := rowsV_flat ((A ++ Y) ++ (X2 ++ (X1 ++ B)))
      obtain ⟨Z, hZ⟩ : ∃ Z, Z = rowsV ((A ++ Y) ++ (X2 ++ (X1 ++ B))) := ⟨_, rfl⟩
      rw [← hZ] at hf2 ⊢
      refine awp_reg rfl ?_
      simp [hwj]
      refine ⟨A ++ Y, X2, X1, B, i - j, j, ⟨by rw [List.length_append]; omega, by omega, hX1, by omega, h5, by omega, by rw [h7]; simp⟩, by omega, ?_⟩
      exact Le.N1 hf2 rfl (by simp) (by simp [hZ]) rfl (by simp [hs2, hs3, hs4])
    · simp only [decide_eq_false_iff_not] at h8
      obtain ⟨Y1, Y2, rfl, hY1⟩ : ∃ X1 X2, Y = X1 ++ X2 ∧ X1.length = j - i := ⟨Y.take (j - i), Y.drop (j - i), (List.take_append_drop _ Y).symm, by rw [List.length_take]; omega⟩
      rw [List.length_append] at h3
      have hsw := swapRangeV_ok f capt hs A X Y1 Y2 B n (m - i) (m + j - i) i (by simp only [List.length_append]; omega) (by omega) h2 (by omega) (by omega) hl
      have e1 : A ++ (X ++ (Y1 ++ Y2 ++ B)) = A ++ (X ++ (Y1 ++ (Y2 ++ B))) := by simp
      rw [e1]
      have hf1 := rowsV_flat (A ++ (X ++ (Y1 ++ (Y2 ++ B))))
      have hwk : IntKind.i64.wrap ((m : Int) + (j : Int)) = ((m + j : Nat) : Int) := by rw [w64 (by omega) (by omega)]; omega
      have hwk2 : IntKind.i64.wrap (((m + j : Nat) : Int) - (i : Int)) = ((m + j - i : Nat) : Int) := by rw [w64 (by omega) (by omega)]; omega
      refine awp_regc ⟨58, [(0, .rs 0 0 n), (2, .I m), (4, .fn (.func f) [] capt), (10, .I i), (11, .I j)], [(0, some ⟨7, rowsV (A ++ (Y2 ++ (Y1 ++ (X ++ B)))), 0⟩)], 224⟩ rfl ?_ ?_
      · have hf2 := rowsV_flat (A ++ (Y2 ++ (Y1 ++ (X ++ B))))
        generalize rowsV (A ++ (Y2 ++ (Y1 ++ (X ++ B)))) = Z2 at *
        generalize rowsV (A ++ (X ++ (Y1 ++ (Y2 ++ B)))) = Z at *
        generalize m + j = mj at *
        generalize mj - i = mji at *
        generalize m - i = mi at *
        simp [hwi, hwk, hwk2]
        refine callM1 (i := 0) rfl (e' := ⟨7, Z, 0⟩) (by simp [convE, hf1]) hsw (by simp) ?_ ?_
        · simp [hs2, hs3, hs4]
        simp [hf2]
        exact Le.keep rfl (Nat.le_refl _) (by simp) (by simp)
      have hwj : IntKind.i64.wrap ((j : Int) - (i : Int)) = ((j - i : Nat) : Int) := by rw [w64 (by omega) (by omega)]; omega
      have hf2 := rowsV_flat (A ++ (Y2 ++ (Y1 ++ (X ++ B))))
      obtain ⟨Z, hZ⟩ : ∃ Z, Z = rowsV (A ++ (Y2 ++ (Y1 ++ (X ++ B)))) := ⟨_, rfl⟩
      rw [← hZ] at hf2 ⊢
      refine awp_reg rfl ?_
      simp [hwj]
      refine ⟨A, Y2, Y1, X ++ B, i, j - i, ⟨h1, by omega, hY1, h4, by omega, by rw [List.length_append]; omega, by rw [h7]; simp⟩, by omega, ?_⟩
      exact Le.N1 hf2 rfl (by simp) (by simp [hZ]) rfl (by simp [hs2, hs3, hs4])
  have hij : i = j := by simpa using h
  subst hij
  have hsw := swapRangeV_ok f capt hs A X [] Y B n (m - i) m i (by simp only [List.length_append, List.length_nil]; omega) (by omega) h2 h3 (by simp; omega) hl
  simp only [List.nil_append] at hsw
  rw [← h7] at hsw
  have hf1 := rowsV_flat (A ++ (X ++ (Y ++ B)))
  have hf2 := rowsV_flat F
  generalize rowsV F = Z2 at *
  generalize rowsV (A ++ (X ++ (Y ++ B))) = Z at *
  refine awp_run (s := ?s9) rfl ?o9 ?q9
  case o9 =>
    simp [hwi]
    refine callM1 (i := 0) rfl (e' := ⟨7, Z, 0⟩) (by simp [convE, hf1]) hsw (by simp) ?_ ?_
    · simp [hs2, hs3, hs4]
    simp [hf2]
    rfl
  exact ⟨.inl rfl, outV hf2 rfl⟩
end Go.Proofs.YtnlanlpbgcalcaaGreat
namespace Go.Proofs.YtnlanlpbgcalcaaGreat
open Go
def srtV (l : List Vch) : Prop := l.Pairwise fun a b => ¬ ltV b a
instance (a b : Vch) : Decidable (ltV a b) := by unfold ltV; infer_instance
theorem cut_ex (P : Nat → Prop) [DecidablePred P] (lo : Nat) : ∀ d, (∀ i j, lo ≤ i → i < j → j < lo + d → P j → P i) → ∃ q, lo ≤ q ∧ q ≤ lo + d ∧ (∀ k, lo ≤ k → k < q → P k) ∧ ∀ k, q ≤ k → k < lo + d → ¬ P k
  | 0, _ => ⟨lo, Nat.le_refl _, by omega, fun k h1 h2 => by omega, fun k h1 h2 => by omega⟩
  | d + 1, h => by
    by_cases hp : P (lo + d)
    · exact ⟨lo + (d + 1), by omega, Nat.le_refl _, fun k h1 h2 => by
        by_cases he : k = lo + d
        · rw [he]; exact hp
        · exact h k (lo + d) h1 (by omega) (by omega) hp, fun k h1 h2 => by omega⟩
    · obtain ⟨q, h1, h2, h3, h4⟩ := cut_ex P lo d fun i j a b c e => h i j a b (by omega) e
      exact ⟨q, h1, by omega, h3, fun k h5 h6 => by
        by_cases he : k = lo + d
        · rw [he]; exact hp
        · exact h4 k h5 (by omega)⟩
theorem at1 {A S R : List Vch} {k p : Nat} (h : k < S.length) (hp : A.length + k = p) : (rowsV (A ++ (S ++ R)))[p]? = some (vC S[k]) := by
  subst hp
  rw [List.getElem?_map, List.getElem?_append_right (by omega)]
  have e : A.length + k - A.length = k := by omega
  rw [e, List.getElem?_append_left h, List.getElem?_eq_getElem h]
  rfl
theorem at2 {A S T R : List Vch} {k p : Nat} (h : k < T.length) (hp : A.length + S.length + k = p) : (rowsV (A ++ (S ++ (T ++ R))))[p]? = some (vC T[k]) := by
  rw [← List.append_assoc]
  exact at1 h (by rw [List.length_append]; omega)
theorem srtV_at {l : List Vch} (h : srtV l) {i j : Nat} (hi : i < l.length) (hj : j < l.length) (hij : i ≤ j) : ¬ ltV l[j] l[i] := by
  rcases Nat.lt_or_eq_of_le hij with h1 | h1
  · exact List.pairwise_iff_getElem.1 h i j hi hj h1
  · subst h1
    unfold ltV
    omega
theorem ltV_le_lt {a b c : Vch} (h1 : ¬ ltV b a) (h2 : ltV b c) : ltV a c := by unfold ltV at *; omega
theorem ltV_lt_le {a b c : Vch} (h1 : ltV a b) (h2 : ¬ ltV c b) : ltV a c := by unfold ltV at *; omega
theorem srtV_append {a b : List Vch} (ha : srtV a) (hb : srtV b) (h : ∀ x ∈ a, ∀ y ∈ b, ¬ ltV y x) : srtV (a ++ b) := by
  unfold srtV
  rw [List.pairwise_append]
  exact ⟨ha, hb, h⟩
theorem srtV_parts {a b : List Vch} (h : srtV (a ++ b)) : srtV a ∧ srtV b ∧ ∀ x ∈ a, ∀ y ∈ b, ¬ ltV y x := by
  unfold srtV at h
  rw [List.pairwise_append] at h
  exact h
theorem one_left {T : List Vch} {x : Vch} (hT : srtV T) : ∃ q, q ≤ T.length ∧ (∀ k (h : k < T.length), ltV T[k] x ↔ k < q) ∧ srtV (T.take q ++ x :: T.drop q) := by
  obtain ⟨q, _, h2, h3, h4⟩ := cut_ex (fun k => ∃ h : k < T.length, ltV T[k] x) 0 T.length fun i j _ hij hj hp => by
    obtain ⟨hj2, hp⟩ := hp
    exact ⟨by omega, ltV_le_lt (srtV_at hT (by omega) hj2 (by omega)) hp⟩
  rw [Nat.zero_add] at h2 h4
  have key : ∀ k (h : k < T.length), ltV T[k] x ↔ k < q := fun k h => ⟨fun hl => by
    rcases Nat.lt_or_ge k q with h5 | h5
    · exact h5
    · exact absurd ⟨h, hl⟩ (h4 k h5 h), fun hk => (h3 k (Nat.zero_le _) hk).2⟩
  refine ⟨q, h2, key, ?_⟩
  obtain ⟨s1, s2, s3⟩ := srtV_parts (a := T.take q) (b := T.drop q) (by rw [List.take_append_drop]; exact hT)
  have h5 : ∀ y ∈ T.take q, ltV y x := fun y hy => by
    obtain ⟨k, hk, rfl⟩ := List.mem_iff_getElem.1 hy
    rw [List.length_take] at hk
    rw [List.getElem_take]
    exact (key k (by omega)).2 (by omega)
  have h6 : ∀ y ∈ T.drop q, ¬ ltV y x := fun y hy => by
    obtain ⟨k, hk, rfl⟩ := List.mem_iff_getElem.1 hy
    rw [List.length_drop] at hk
    rw [List.getElem_drop]
    exact fun hl => by have := (key (q + k) (by omega)).1 hl; omega
  refine srtV_append s1 ?_ fun y hy z hz => ?_
  · unfold srtV
    rw [List.pairwise_cons]
    exact ⟨h6, s2⟩
  · rcases List.mem_cons.1 hz with rfl | hz
    · exact ltV_asym (h5 y hy)
    · exact s3 y hy z hz
theorem one_right {S : List Vch} {x : Vch} (hS : srtV S) : ∃ q, q ≤ S.length ∧ (∀ k (h : k < S.length), ¬ ltV x S[k] ↔ k < q) ∧ srtV (S.take q ++ x :: S.drop q) := by
  obtain ⟨q, _, h2, h3, h4⟩ := cut_ex (fun k => ∃ h : k < S.length, ¬ ltV x S[k]) 0 S.length fun i j _ hij hj hp => by
    obtain ⟨hj2, hp⟩ := hp
    exact ⟨by omega, fun hl => hp (ltV_lt_le hl (srtV_at hS (by omega) hj2 (by omega)))⟩
  rw [Nat.zero_add] at h2 h4
  have key : ∀ k (h : k < S.length), ¬ ltV x S[k] ↔ k < q := fun k h => ⟨fun hl => by
    rcases Nat.lt_or_ge k q with h5 | h5
    · exact h5
    · exact absurd ⟨h, hl⟩ (h4 k h5 h), fun hk => (h3 k (Nat.zero_le _) hk).2⟩
  refine ⟨q, h2, key, ?_⟩
  obtain ⟨s1, s2, s3⟩ := srtV_parts (a := S.take q) (b := S.drop q) (by rw [List.take_append_drop]; exact hS)
  have h5 : ∀ y ∈ S.take q, ¬ ltV x y := fun y hy => by
    obtain ⟨k, hk, rfl⟩ := List.mem_iff_getElem.1 hy
    rw [List.length_take] at hk
    rw [List.getElem_take]
    exact (key k (by omega)).2 (by omega)
  have h6 : ∀ y ∈ S.drop q, ¬ ltV y x := fun y hy => by
    obtain ⟨k, hk, rfl⟩ := List.mem_iff_getElem.1 hy
    rw [List.length_drop] at hk
    rw [List.getElem_drop]
    refine ltV_asym (Classical.not_not.1 fun hl => ?_)
    have := (key (q + k) (by omega)).1 hl
    omega
  refine srtV_append s1 ?_ fun y hy z hz => ?_
  · unfold srtV
    rw [List.pairwise_cons]
    exact ⟨h6, s2⟩
  · rcases List.mem_cons.1 hz with rfl | hz
    · exact h5 y hy
    · exact s3 y hy z hz
structure CutV (S T : List Vch) (a m b mid lo hi q : Nat) : Prop where
  q1 : lo ≤ q
  q2 : q ≤ hi
  key : ∀ c (h1 : c - a < S.length) (h2 : mid + m - 1 - c - m < T.length), lo ≤ c → c < hi → (¬ ltV T[mid + m - 1 - c - m] S[c - a] ↔ c < q)
  am : a ≤ q
  qm : q ≤ m
  qd : q ≤ mid
  eb : mid + m - q ≤ b
  below : ∀ s ∈ S.drop (q - a), ∀ t ∈ T.take (mid - q), ltV t s
  above : ∀ s ∈ S.take (q - a), ∀ t ∈ T.drop (mid - q), ¬ ltV t s
theorem cutV_ex {S T : List Vch} {a m b mid lo hi : Nat} (hS : srtV S) (hT : srtV T) (h1 : a + S.length = m) (h2 : m + T.length = b) (h3 : 0 < S.length) (h4 : 0 < T.length) (hmid : mid = (a + b) / 2)
    (hlo : (mid < m ∧ lo = mid + m - b ∧ hi = mid) ∨ (m ≤ mid ∧ lo = a ∧ hi = m)) : ∃ q, CutV S T a m b mid lo hi q := by
  have hb : ∀ c, lo ≤ c → c < hi → a ≤ c ∧ c < m ∧ c < mid ∧ mid + m - 1 - c < b := fun c h5 h6 => by omega
  obtain ⟨q, hq1, hq2, hq3, hq4⟩ := cut_ex (fun c => ∃ (h1 : c - a < S.length) (h2 : mid + m - 1 - c - m < T.length), ¬ ltV T[mid + m - 1 - c - m] S[c - a]) lo (hi - lo) fun i j hi1 hij hj hp => by
    have b1 := hb i hi1 (by omega)
    have b2 := hb j (by omega) (by omega)
    obtain ⟨x1, x2, hp⟩ := hp
    refine ⟨by omega, by omega, fun hl => hp ?_⟩
    have s1 := srtV_at hS (i := i - a) (j := j - a) (by omega) (by omega) (by omega)
    have s2 := srtV_at hT (i := mid + m - 1 - j - m) (j := mid + m - 1 - i - m) (by omega) (by omega) (by omega)
    exact ltV_le_lt s2 (ltV_lt_le hl s1)
  have hkey : ∀ c (h1 : c - a < S.length) (h2 : mid + m - 1 - c - m < T.length), lo ≤ c → c < hi → (¬ ltV T[mid + m - 1 - c - m] S[c - a] ↔ c < q) := fun c y1 y2 h5 h6 => ⟨fun hl => by
    rcases Nat.lt_or_ge c q with h7 | h7
    · exact h7
    · exact absurd ⟨y1, y2, hl⟩ (hq4 c h7 (by omega)), fun h7 => (hq3 c h5 h7).2.2⟩
  refine ⟨q, hq1, by omega, hkey, by omega, by omega, by omega, by omega, ?_, ?_⟩
  · intro s hs t ht
    obtain ⟨i, hi', rfl⟩ := List.mem_iff_getElem.1 hs
    obtain ⟨j, hj', rfl⟩ := List.mem_iff_getElem.1 ht
    rw [List.length_drop] at hi'
    rw [List.length_take] at hj'
    rw [List.getElem_drop, List.getElem_take]
    have hqh : q < hi := by omega
    have b1 := hb q hq1 hqh
    have hk := hkey q (by omega) (by omega) hq1 hqh
    have hl : ltV T[mid + m - 1 - q - m] S[q - a] := Classical.not_not.1 fun hn => by have := hk.1 hn; omega
    have s1 := srtV_at hS (i := q - a) (j := q - a + i) (by omega) (by omega) (by omega)
    have s2 := srtV_at hT (i := j) (j := mid + m - 1 - q - m) (by omega) (by omega) (by omega)
    exact ltV_le_lt s2 (ltV_lt_le hl s1)
  · intro s hs t ht hl
    obtain ⟨i, hi', rfl⟩ := List.mem_iff_getElem.1 hs
    obtain ⟨j, hj', rfl⟩ := List.mem_iff_getElem.1 ht
    rw [List.length_take] at hi'
    rw [List.length_drop] at hj'
    rw [List.getElem_drop, List.getElem_take] at hl
    have hql : lo < q := by omega
    have b1 := hb (q - 1) (by omega) (by omega)
    have hk := (hkey (q - 1) (by omega) (by omega) (by omega) (by omega)).2 (by omega)
    have s1 := srtV_at hS (i := i) (j := q - 1 - a) (by omega) (by omega) (by omega)
    have s2 := srtV_at hT (i := mid + m - 1 - (q - 1) - m) (j := mid - q + j) (by omega) (by omega) (by omega)
    exact hk (ltV_le_lt s2 (ltV_lt_le hl s1))
end Go.Proofs.YtnlanlpbgcalcaaGreat
namespace Go.Proofs.YtnlanlpbgcalcaaGreat
open Go
theorem half_v {i j : Nat} (h : i + j ≤ 4000000) : IntKind.i64.wrap ((i : Int) + (j : Int)) = (i : Int) + (j : Int) ∧ IntKind.u64.wrap ((i : Int) + (j : Int)) = (i : Int) + (j : Int) ∧ Int.fdiv ((i : Int) + (j : Int)) 2 = (((i + j) / 2 : Nat) : Int) ∧ IntKind.i64.wrap (((i + j) / 2 : Nat) : Int) = (((i + j) / 2 : Nat) : Int) := by
  refine ⟨w64 (by omega) (by omega), by rw [IntKind.wrap_u64]; omega, ?_, w64 (by omega) (by omega)⟩
  rw [Int.fdiv_eq_ediv_of_nonneg _ (by decide)]
  omega
set_option maxHeartbeats 4000000 in
set_option maxRecDepth 100000 in
theorem symMergeV_one (f : FuncId) (capt : List AV) (hs : StillV capt) (hc : ∀ x y, ACalls Tryz.prog f (eV x :: eV y :: capt) [] (.I (cmpV x y)) []) (A T B : List Vch) (x : Vch) (n a m b q : Nat) (hn : (A ++ (x :: (T ++ B))).length = n) (ha : A.length = a) (hm : a + 1 = m) (hb : m + T.length = b) (hT : 0 < T.length) (hl : n ≤ 1000000)
    (hq : q ≤ T.length) (hqk : ∀ k (h : k < T.length), ltV T[k] x ↔ k < q) :
    ACalls Tryz.prog nslices_symMergeCmpFunc_api_Vouch [.rs 0 0 n, .I a, .I m, .I b, .fn (.func f) [] capt] [⟨7, rowsV (A ++ (x :: (T ++ B))), 0⟩] (.tup []) [some ⟨7, rowsV (A ++ (T.take q ++ x :: T.drop q ++ B)), 0⟩] := by
  have hs2 : ∀ ρ sn h, capt.map (conv ρ sn h 2) = capt := fun _ _ _ => hs _ _ _ 1
  have hs3 : ∀ ρ sn h, capt.map (conv ρ sn h 3) = capt := fun _ _ _ => hs _ _ _ 2
  have hs4 : ∀ ρ sn h, capt.map (conv ρ sn h 4) = capt := fun _ _ _ => hs _ _ _ 3
  refine sslices_symMergeCmpFunc_api_Vouch.acalls (Nat.le_of_ble_eq_true rfl) (Nat.le_of_ble_eq_true rfl) (Nat.le_of_ble_eq_true rfl) ?_
  have hbn : b + B.length = n := by simp only [List.length_append, List.length_cons] at hn; omega
  have hga : (rowsV (A ++ (x :: (T ++ B))))[a]? = some (vC x) := at1 (A := A) (S := [x]) (R := T ++ B) (k := 0) (by simp) (by omega)
  have hgt : ∀ h, (h1 : m ≤ h) → (h2 : h < b) → (rowsV (A ++ (x :: (T ++ B))))[h]? = some (vC (T[h - m]'(by omega))) := fun h h1 h2 => at2 (A := A) (S := [x]) (T := T) (R := B) (k := h - m) (by omega) (by simp; omega)
  have hflat := rowsV_flat (A ++ (x :: (T ++ B)))
  obtain ⟨Z, hZ⟩ : ∃ Z, Z = rowsV (A ++ (x :: (T ++ B))) := ⟨_, rfl⟩
  rw [← hZ] at hga hgt hflat ⊢
  show awp _ 1 _ _ ⟨220, [(0, .rs 0 0 n), (1, .I a), (2, .I m), (3, .I b), (4, .fn (.func f) [] capt)], [(0, some ⟨7, Z, 0⟩)], 16⟩
  have hw1 : IntKind.i64.wrap ((m : Int) - a) = (m : Int) - a := w64 (by omega) (by omega)
  refine awp_seq ?_
  refine awp_regc ⟨220, [(0, .rs 0 0 n), (1, .I a), (2, .I m), (3, .I b), (4, .fn (.func f) [] capt), (28, .B true)], [(0, some ⟨7, Z, 0⟩)], 48⟩ rfl ?_ ?_
  · simp [hw1]
    exact Le.keep rfl (Nat.le_refl _) (by simp; omega) (by simp)
  refine awp_cond _ rfl (fun _ => ?_) fun h => by cases h
  refine awp_regc ⟨220, [(0, .rs 0 0 n), (1, .I a), (2, .I m), (3, .I b), (4, .fn (.func f) [] capt), (10, .I m)], [(0, some ⟨7, Z, 0⟩)], 64⟩ rfl (by simp; exact Le.keep rfl (Nat.le_refl _) (by simp) (by simp)) ?_
  refine awp_regc ⟨220, [(0, .rs 0 0 n), (1, .I a), (2, .I m), (3, .I b), (4, .fn (.func f) [] capt), (10, .I m), (11, .I b)], [(0, some ⟨7, Z, 0⟩)], 80⟩ rfl (by simp; exact Le.keep rfl (Nat.le_refl _) (by simp) (by simp)) ?_
  refine awp_seq ?_
  refine awp_block ?_
  refine awp_loop (ι := Nat × Nat) (fun p => ⟨220, [(0, .rs 0 0 n), (1, .I a), (2, .I m), (3, .I b), (4, .fn (.func f) [] capt), (10, .I p.1), (11, .I p.2)], [(0, some ⟨7, Z, 0⟩)], 80⟩) (fun p => m ≤ p.1 ∧ p.1 ≤ m + q ∧ m + q ≤ p.2 ∧ p.2 ≤ b) (fun p => p.2 - p.1) (m, b) ⟨by simp, by simp, by simp; omega, by simp⟩ (Le.refl _ _) ?_
  rintro ⟨i, j⟩ ⟨hj1, hj2, hj3, hj4⟩
  simp only at hj1 hj2 hj3 hj4
  refine awp_seq ?_
  refine awp_regc ⟨220, [(0, .rs 0 0 n), (1, .I a), (2, .I m), (3, .I b), (4, .fn (.func f) [] capt), (10, .I i), (11, .I j), (33, .B (decide (i < j)))], [(0, some ⟨7, Z, 0⟩)], 104⟩ rfl (by simp; exact Le.keep rfl (Nat.le_refl _) (by simp) (by simp)) ?_
  refine awp_cond _ rfl (fun h4 => awp_skip ?_) fun h4 => awp_exit (hit ?_)
  · simp only [decide_eq_true_eq] at h4
    obtain ⟨hw, hu, hd, hw3⟩ := half_v (i := i) (j := j) (by omega)
    refine awp_block ?_
    refine awp_regc ⟨220, [(0, .rs 0 0 n), (1, .I a), (2, .I m), (3, .I b), (4, .fn (.func f) [] capt), (10, .I i), (11, .I j), (12, .I ((i + j) / 2 : Nat))], [(0, some ⟨7, Z, 0⟩)], 160⟩ rfl ?_ ?_
    · simp [hw, hu, hd, hw3, IntKind.bits, -Int.natCast_ediv, -Int.natCast_add]
      exact Le.keep rfl (Nat.le_refl _) (by simp [hw, hu, hd, hw3]) (by simp)
    obtain ⟨h, hh⟩ : ∃ h, h = (i + j) / 2 := ⟨_, rfl⟩
    rw [← hh]
    have hhn : h < n := by omega
    have han : a < n := by omega
    have hg1 := hgt h (by omega) (by omega)
    have hk := hqk (h - m) (by omega)
    have hcc := hc (T[h - m]'(by omega)) x
    have hb2 : decide (cmpV (T[h - m]'(by omega)) x < 0) = decide (h < m + q) := by rw [decide_eq_decide, cmpV_lt, hk]; omega
    generalize T[h - m]'(by omega) = y at *
    have hwq : IntKind.i64.wrap ((h : Int) + 1) = ((h + 1 : Nat) : Int) := by rw [w64 (by omega) (by omega)]; omega
    refine awp_dregc ⟨220, [(0, .rs 0 0 n), (1, .I a), (2, .I m), (3, .I b), (4, .fn (.func f) [] capt), (10, .I i), (11, .I j), (12, .I h), (50, .B (decide (h < m + q)))], [(0, some ⟨7, Z, 0⟩)], 248⟩ rfl ?_ ?_
    · rw [← hb2]
      simp [hg1, hga, hhn, han]
      refine call0e hcc ?_ ?_
      · simp [hs2, hs3, hs4]
      simp
      exact ⟨rfl, Le.keep rfl (Nat.le_refl _) (by simp) (by simp)⟩
    refine awp_cond _ rfl (fun h5 => ?_) fun h5 => ?_
    · simp only [decide_eq_true_eq] at h5
      refine awp_reg rfl ?_
      simp [hwq]
      exact ⟨h + 1, j, ⟨by omega, by omega, by omega, by omega⟩, by omega, Le.N1 hflat rfl (by simp) rfl rfl (by simp [hs2, hs3, hs4])⟩
    · simp only [decide_eq_false_iff_not] at h5
      refine awp_reg rfl ?_
      simp
      exact ⟨i, h, ⟨by omega, by omega, by omega, by omega⟩, by omega, Le.N1 hflat rfl (by simp) rfl rfl (by simp [hs2, hs3, hs4])⟩
  simp only [decide_eq_false_iff_not] at h4
  obtain rfl : i = m + q := by omega
  refine awp_seq ?_
  refine awp_regc ⟨220, [(0, .rs 0 0 n), (1, .I a), (2, .I m), (3, .I b), (4, .fn (.func f) [] capt), (10, .I (m + q : Nat)), (13, .I a)], [(0, some ⟨7, Z, 0⟩)], 120⟩ rfl (by simp; exact Le.keep rfl (Nat.le_refl _) (by simp) (by simp)) ?_
  have hw5 : IntKind.i64.wrap (((m + q : Nat) : Int) - 1) = ((a + q : Nat) : Int) := by rw [w64 (by omega) (by omega)]; omega
  obtain ⟨F, hF⟩ : ∃ F, F = A ++ (T.take q ++ x :: T.drop q ++ B) := ⟨_, rfl⟩
  have hTq : (T.take q).length = q := by rw [List.length_take]; omega
  have hZ2 : A ++ (x :: (T ++ B)) = (A ++ []) ++ x :: (T.take q ++ (T.drop q ++ B)) := by rw [← List.append_assoc (T.take q), List.take_append_drop]; simp
  obtain ⟨D, hD⟩ : ∃ D, D = T.drop q ++ B := ⟨_, rfl⟩
  have hF2 : F = (A ++ []) ++ (T.take q ++ x :: D) := by rw [hF, hD]; simp
  have hDl : a + 1 + q + D.length = n := by rw [hD, List.length_append, List.length_drop]; omega
  rw [← hD] at hZ2
  rw [← hF]
  rw [hZ2] at hZ
  generalize T.take q = T1 at *
  refine awp_block ?_
  obtain ⟨mq, hmq⟩ : ∃ mq, mq = m + q := ⟨_, rfl⟩
  rw [← hmq] at hw5 ⊢
  refine awp_loop (ι := (List Vch × List Vch) × Nat) (fun p => ⟨220, [(0, .rs 0 0 n), (1, .I a), (2, .I m), (3, .I b), (4, .fn (.func f) [] capt), (10, .I mq), (13, .I p.2)], [(0, some ⟨7, rowsV ((A ++ p.1.1) ++ x :: (p.1.2 ++ D)), 0⟩)], 120⟩) (fun p => p.1.1.length + a = p.2 ∧ p.1.1.length + p.1.2.length = q ∧ F = (A ++ p.1.1) ++ (p.1.2 ++ x :: D)) (fun p => p.1.2.length) (([], T1), a) ⟨by simp, by simpa using hTq, hF2⟩ (by rw [hZ]; exact Le.refl _ _) ?_
  rintro ⟨⟨U, V⟩, k⟩ ⟨hk1, hk2, hk3⟩
  simp only at hk1 hk2 hk3
  refine awp_seq ?_
  refine awp_regc ⟨220, [(0, .rs 0 0 n), (1, .I a), (2, .I m), (3, .I b), (4, .fn (.func f) [] capt), (10, .I mq), (13, .I k), (58, .B (decide (k < a + q)))], [(0, some ⟨7, rowsV ((A ++ U) ++ x :: (V ++ D)), 0⟩)], 152⟩ rfl ?_ ?_
  · generalize rowsV ((A ++ U) ++ x :: (V ++ D)) = Z at *
    simp [hw5]
    exact Le.keep rfl (Nat.le_refl _) (by simp <;> omega) (by simp)
  refine awp_cond _ rfl (fun h => awp_skip ?_) fun h => awp_exit (hit ?_)
  · simp only [decide_eq_true_eq] at h
    obtain ⟨y, V, rfl⟩ : ∃ y V', V = y :: V' := by cases V with | nil => simp at hk2; omega | cons y V => exact ⟨y, V, rfl⟩
    simp only [List.length_cons] at hk2
    obtain ⟨k1, hk4⟩ : ∃ k1, k1 = k + 1 := ⟨_, rfl⟩
    have hwk : IntKind.i64.wrap ((k : Int) + 1) = (k1 : Int) := by rw [w64 (by omega) (by omega)]; omega
    have hUl : (A ++ U).length = k := by rw [List.length_append]; omega
    have hg := swap2_get (H := A ++ U) (G := []) (T := V ++ D) (x := x) (y := y) (p := k) (q := k1) hUl (by simp; omega)
    have hset := swap2_set (H := A ++ U) (G := []) (T := V ++ D) (x := x) (y := y) (p := k) (q := k1) hUl (by simp; omega)
    obtain ⟨g1, g2⟩ := hg
    simp only [List.nil_append] at g1 g2 hset
    have e2 : (A ++ U) ++ y :: x :: (V ++ D) = (A ++ (U ++ [y])) ++ x :: (V ++ D) := by simp
    rw [e2] at hset
    have e1 : (A ++ U) ++ x :: (y :: V ++ D) = (A ++ U) ++ x :: y :: (V ++ D) := rfl
    rw [e1]
    have hkn : k < n := by omega
    have hkn1 : k1 < n := by omega
    refine awp_cut (ι := Unit) (fun _ => ⟨220, [(0, .rs 0 0 n), (1, .I a), (2, .I m), (3, .I b), (4, .fn (.func f) [] capt), (10, .I mq), (13, .I k)], [(0, some ⟨7, rowsV ((A ++ (U ++ [y])) ++ x :: (V ++ D)), 0⟩)], 400⟩) (fun _ => True) ?_ fun _ _ => ?_
    · generalize rowsV ((A ++ (U ++ [y])) ++ x :: (V ++ D)) = Z2 at *
      generalize rowsV ((A ++ U) ++ x :: y :: (V ++ D)) = Z at *
      have g3 : (Z.set k (vC y))[k1]? = some (vC x) ∨ (Z.set k (vC y))[k1]? = some (vC y) := .inr (by
        rw [List.getElem?_set, if_neg (by omega)]
        exact g2)
      have g4 : (Z.set k (vC y))[k1]? = some (vC y) := by
        rw [List.getElem?_set, if_neg (by omega)]
        exact g2
      refine awp_block ?_
      refine awp_drw rfl ?_
      simp [hwk, hkn, hkn1, g1, g2, g4, splice]
      exact ⟨rfl, Le.keep rfl (by simp) (by simp) (by simp; exact hset)⟩
    have hf2 := rowsV_flat ((A ++ (U ++ [y])) ++ x :: (V ++ D))
    obtain ⟨Z, hZ⟩ : ∃ Z, Z = rowsV ((A ++ (U ++ [y])) ++ x :: (V ++ D)) := ⟨_, rfl⟩
    rw [← hZ] at hf2 ⊢
    refine awp_reg rfl ?_
    simp [hwk]
    refine ⟨U ++ [y], V, k1, ⟨by simp; omega, by simp; omega, by rw [hk3]; simp⟩, by omega, ?_⟩
    exact Le.N1 hf2 rfl (by simp) (by simp [hZ]) rfl (by simp [hs2, hs3, hs4])
  simp only [decide_eq_false_iff_not] at h
  have hV0 : V = [] := List.eq_nil_of_length_eq_zero (by omega)
  have hfin : (A ++ U) ++ x :: (V ++ D) = F := by rw [hk3, hV0]; rfl
  rw [hfin]
  refine awp_ret ?_
  exact ⟨.inr rfl, outV (rowsV_flat F) rfl⟩
set_option maxHeartbeats 4000000 in
set_option maxRecDepth 100000 in
theorem symMergeV_two (f : FuncId) (capt : List AV) (hs : StillV capt) (hc : ∀ x y, ACalls Tryz.prog f (eV x :: eV y :: capt) [] (.I (cmpV x y)) []) (A S B : List Vch) (x : Vch) (n a m b q : Nat) (hn : (A ++ (S ++ x :: B)).length = n) (ha : A.length = a) (hm : a + S.length = m) (hb : m + 1 = b) (hS : 1 < S.length) (hl : n ≤ 1000000)
    (hq : q ≤ S.length) (hqk : ∀ k (h : k < S.length), ¬ ltV x S[k] ↔ k < q) :
    ACalls Tryz.prog nslices_symMergeCmpFunc_api_Vouch [.rs 0 0 n, .I a, .I m, .I b, .fn (.func f) [] capt] [⟨7, rowsV (A ++ (S ++ x :: B)), 0⟩] (.tup []) [some ⟨7, rowsV (A ++ (S.take q ++ x :: S.drop q ++ B)), 0⟩] := by
  have hs2 : ∀ ρ sn h, capt.map (conv ρ sn h 2) = capt := fun _ _ _ => hs _ _ _ 1
  have hs3 : ∀ ρ sn h, capt.map (conv ρ sn h 3) = capt := fun _ _ _ => hs _ _ _ 2
  have hs4 : ∀ ρ sn h, capt.map (conv ρ sn h 4) = capt := fun _ _ _ => hs _ _ _ 3
  refine sslices_symMergeCmpFunc_api_Vouch.acalls (Nat.le_of_ble_eq_true rfl) (Nat.le_of_ble_eq_true rfl) (Nat.le_of_ble_eq_true rfl) ?_
  have hbn : b + B.length = n := by simp only [List.length_append, List.length_cons] at hn; omega
  have hga : (rowsV (A ++ (S ++ x :: B)))[m]? = some (vC x) := at2 (A := A) (S := S) (T := [x]) (R := B) (k := 0) (by simp) (by omega)
  have hgt : ∀ h, (h1 : a ≤ h) → (h2 : h < m) → (rowsV (A ++ (S ++ x :: B)))[h]? = some (vC (S[h - a]'(by omega))) := fun h h1 h2 => at1 (A := A) (S := S) (R := x :: B) (k := h - a) (by omega) (by omega)
  have hflat := rowsV_flat (A ++ (S ++ x :: B))
  obtain ⟨Z, hZ⟩ : ∃ Z, Z = rowsV (A ++ (S ++ x :: B)) := ⟨_, rfl⟩
  rw [← hZ] at hga hgt hflat ⊢
  show awp _ 1 _ _ ⟨220, [(0, .rs 0 0 n), (1, .I a), (2, .I m), (3, .I b), (4, .fn (.func f) [] capt)], [(0, some ⟨7, Z, 0⟩)], 16⟩
  have hw1 : IntKind.i64.wrap ((m : Int) - a) = (m : Int) - a := w64 (by omega) (by omega)
  have hw2 : IntKind.i64.wrap ((b : Int) - m) = (b : Int) - m := w64 (by omega) (by omega)
  refine awp_seq ?_
  refine awp_regc ⟨220, [(0, .rs 0 0 n), (1, .I a), (2, .I m), (3, .I b), (4, .fn (.func f) [] capt), (28, .B false)], [(0, some ⟨7, Z, 0⟩)], 48⟩ rfl ?_ ?_
  · simp [hw1]
    exact Le.keep rfl (Nat.le_refl _) (by simp; omega) (by simp)
  refine awp_cond _ rfl (fun h => by cases h) fun _ => awp_skip ?_
  refine awp_seq ?_
  refine awp_regc ⟨220, [(0, .rs 0 0 n), (1, .I a), (2, .I m), (3, .I b), (4, .fn (.func f) [] capt), (80, .B true)], [(0, some ⟨7, Z, 0⟩)], 80⟩ rfl ?_ ?_
  · simp [hw2]
    exact Le.keep rfl (Nat.le_refl _) (by simp; omega) (by simp)
  refine awp_cond _ rfl (fun _ => ?_) fun h => by cases h
  refine awp_regc ⟨220, [(0, .rs 0 0 n), (1, .I a), (2, .I m), (3, .I b), (4, .fn (.func f) [] capt), (14, .I a)], [(0, some ⟨7, Z, 0⟩)], 96⟩ rfl (by simp; exact Le.keep rfl (Nat.le_refl _) (by simp) (by simp)) ?_
  refine awp_regc ⟨220, [(0, .rs 0 0 n), (1, .I a), (2, .I m), (3, .I b), (4, .fn (.func f) [] capt), (14, .I a), (15, .I m)], [(0, some ⟨7, Z, 0⟩)], 112⟩ rfl (by simp; exact Le.keep rfl (Nat.le_refl _) (by simp) (by simp)) ?_
  refine awp_seq ?_
  refine awp_block ?_
  refine awp_loop (ι := Nat × Nat) (fun p => ⟨220, [(0, .rs 0 0 n), (1, .I a), (2, .I m), (3, .I b), (4, .fn (.func f) [] capt), (14, .I p.1), (15, .I p.2)], [(0, some ⟨7, Z, 0⟩)], 112⟩) (fun p => a ≤ p.1 ∧ p.1 ≤ a + q ∧ a + q ≤ p.2 ∧ p.2 ≤ m) (fun p => p.2 - p.1) (a, m) ⟨by simp, by simp, by simp; omega, by simp⟩ (Le.refl _ _) ?_
  rintro ⟨i, j⟩ ⟨hj1, hj2, hj3, hj4⟩
  simp only at hj1 hj2 hj3 hj4
  refine awp_seq ?_
  refine awp_regc ⟨220, [(0, .rs 0 0 n), (1, .I a), (2, .I m), (3, .I b), (4, .fn (.func f) [] capt), (14, .I i), (15, .I j), (85, .B (decide (i < j)))], [(0, some ⟨7, Z, 0⟩)], 136⟩ rfl (by simp; exact Le.keep rfl (Nat.le_refl _) (by simp) (by simp)) ?_
  refine awp_cond _ rfl (fun h4 => awp_skip ?_) fun h4 => awp_exit (hit ?_)
  · simp only [decide_eq_true_eq] at h4
    obtain ⟨hw, hu, hd, hw3⟩ := half_v (i := i) (j := j) (by omega)
    refine awp_block ?_
    refine awp_regc ⟨220, [(0, .rs 0 0 n), (1, .I a), (2, .I m), (3, .I b), (4, .fn (.func f) [] capt), (14, .I i), (15, .I j), (16, .I ((i + j) / 2 : Nat))], [(0, some ⟨7, Z, 0⟩)], 192⟩ rfl ?_ ?_
    · simp [hw, hu, hd, hw3, IntKind.bits, -Int.natCast_ediv, -Int.natCast_add]
      exact Le.keep rfl (Nat.le_refl _) (by simp [hw, hu, hd, hw3]) (by simp)
    obtain ⟨h, hh⟩ : ∃ h, h = (i + j) / 2 := ⟨_, rfl⟩
    rw [← hh]
    have hhn : h < n := by omega
    have hmn : m < n := by omega
    have hg1 := hgt h (by omega) (by omega)
    have hk := hqk (h - a) (by omega)
    have hcc := hc x (S[h - a]'(by omega))
    have hb2 : (!decide (cmpV x (S[h - a]'(by omega)) < 0)) = decide (h < a + q) := by
      rw [← decide_not, decide_eq_decide, cmpV_lt, hk]; omega
    generalize S[h - a]'(by omega) = y at *
    have hwq : IntKind.i64.wrap ((h : Int) + 1) = ((h + 1 : Nat) : Int) := by rw [w64 (by omega) (by omega)]; omega
    refine awp_dregc ⟨220, [(0, .rs 0 0 n), (1, .I a), (2, .I m), (3, .I b), (4, .fn (.func f) [] capt), (14, .I i), (15, .I j), (16, .I h), (103, .B (decide (h < a + q)))], [(0, some ⟨7, Z, 0⟩)], 288⟩ rfl ?_ ?_
    · rw [← hb2]
      simp [hg1, hga, hhn, hmn]
      refine call0e hcc ?_ ?_
      · simp [hs2, hs3, hs4]
      simp
      exact ⟨rfl, Le.keep rfl (Nat.le_refl _) (by simp) (by simp)⟩
    refine awp_cond _ rfl (fun h5 => ?_) fun h5 => ?_
    · simp only [decide_eq_true_eq] at h5
      refine awp_reg rfl ?_
      simp [hwq]
      exact ⟨h + 1, j, ⟨by omega, by omega, by omega, by omega⟩, by omega, Le.N1 hflat rfl (by simp) rfl rfl (by simp [hs2, hs3, hs4])⟩
    · simp only [decide_eq_false_iff_not] at h5
      refine awp_reg rfl ?_
      simp
      exact ⟨i, h, ⟨by omega, by omega, by omega, by omega⟩, by omega, Le.N1 hflat rfl (by simp) rfl rfl (by simp [hs2, hs3, hs4])⟩
  simp only [decide_eq_false_iff_not] at h4
  obtain rfl : i = a + q := by omega
  refine awp_seq ?_
  refine awp_regc ⟨220, [(0, .rs 0 0 n), (1, .I a), (2, .I m), (3, .I b), (4, .fn (.func f) [] capt), (14, .I (a + q : Nat)), (17, .I m)], [(0, some ⟨7, Z, 0⟩)], 152⟩ rfl (by simp; exact Le.keep rfl (Nat.le_refl _) (by simp) (by simp)) ?_
  obtain ⟨F, hF⟩ : ∃ F, F = A ++ (S.take q ++ x :: S.drop q ++ B) := ⟨_, rfl⟩
  have hSq : (S.take q).length = q := by rw [List.length_take]; omega
  have hSd : (S.drop q).length + q = S.length := by rw [List.length_drop]; omega
  have hZ2 : A ++ (S ++ x :: B) = (A ++ S.take q) ++ ((S.drop q).reverse.reverse ++ x :: ([] ++ B)) := by
    rw [List.reverse_reverse, List.append_assoc A, ← List.append_assoc (S.take q), List.take_append_drop]
    rfl
  obtain ⟨H, hH⟩ : ∃ H, H = A ++ S.take q := ⟨_, rfl⟩
  have hF2 : F = H ++ (x :: ((S.drop q).reverse.reverse ++ ([] ++ B))) := by rw [hF, hH, List.reverse_reverse]; simp
  have hHl : H.length = a + q := by rw [hH, List.length_append]; omega
  rw [← hH] at hZ2
  rw [← hF]
  rw [hZ2] at hZ
  have hWl : (S.drop q).reverse.length + q = S.length := by rw [List.length_reverse]; exact hSd
  generalize (S.drop q).reverse = W at *
  refine awp_block ?_
  obtain ⟨aq, haq⟩ : ∃ aq, aq = a + q := ⟨_, rfl⟩
  rw [← haq] at hHl ⊢
  refine awp_loop (ι := (List Vch × List Vch) × Nat) (fun p => ⟨220, [(0, .rs 0 0 n), (1, .I a), (2, .I m), (3, .I b), (4, .fn (.func f) [] capt), (14, .I aq), (17, .I p.2)], [(0, some ⟨7, rowsV (H ++ (p.1.1.reverse ++ x :: (p.1.2 ++ B))), 0⟩)], 152⟩) (fun p => aq + p.1.1.length = p.2 ∧ p.2 + p.1.2.length = m ∧ F = H ++ (x :: (p.1.1.reverse ++ (p.1.2 ++ B)))) (fun p => p.1.1.length) ((W, []), m) ⟨by show aq + W.length = m; omega, by simp, hF2⟩ (by rw [hZ]; exact Le.refl _ _) ?_
  rintro ⟨⟨W, V⟩, k⟩ ⟨hk1, hk2, hk3⟩
  simp only at hk1 hk2 hk3
  refine awp_seq ?_
  refine awp_regc ⟨220, [(0, .rs 0 0 n), (1, .I a), (2, .I m), (3, .I b), (4, .fn (.func f) [] capt), (14, .I aq), (17, .I k), (110, .B (decide (aq < k)))], [(0, some ⟨7, rowsV (H ++ (W.reverse ++ x :: (V ++ B))), 0⟩)], 176⟩ rfl ?_ ?_
  · generalize rowsV (H ++ (W.reverse ++ x :: (V ++ B))) = Z at *
    simp
    exact Le.keep rfl (Nat.le_refl _) (by simp) (by simp)
  refine awp_cond _ rfl (fun h => awp_skip ?_) fun h => awp_exit (hit ?_)
  · simp only [decide_eq_true_eq] at h
    obtain ⟨y, W, rfl⟩ : ∃ y V', W = y :: V' := by cases W with | nil => simp at hk1; omega | cons y V => exact ⟨y, V, rfl⟩
    simp only [List.length_cons] at hk1
    obtain ⟨j, hj⟩ : ∃ j, j + 1 = k := ⟨k - 1, by omega⟩
    have hwk : IntKind.i64.wrap ((k : Int) - 1) = (j : Int) := by rw [w64 (by omega) (by omega)]; omega
    have hUl : (H ++ W.reverse).length = j := by rw [List.length_append, List.length_reverse]; omega
    have e1 : H ++ ((y :: W).reverse ++ x :: (V ++ B)) = (H ++ W.reverse) ++ y :: x :: (V ++ B) := by simp
    have e2 : (H ++ W.reverse) ++ x :: y :: (V ++ B) = H ++ (W.reverse ++ x :: ((y :: V) ++ B)) := by simp
    have g1 := (mid_getV (H := H ++ W.reverse) (T := V ++ B) (y := y) (x := x) hUl).1
    have g2 := (mid_getV (H := H ++ W.reverse) (T := V ++ B) (y := y) (x := x) hUl).2
    have hset := mid_setV (H := H ++ W.reverse) (T := V ++ B) (y := y) (x := x) hUl
    rw [hj] at g2 hset
    rw [e2] at hset
    rw [e1]
    have hkn : k < n := by omega
    have hjn : j < n := by omega
    refine awp_cut (ι := Unit) (fun _ => ⟨220, [(0, .rs 0 0 n), (1, .I a), (2, .I m), (3, .I b), (4, .fn (.func f) [] capt), (14, .I aq), (17, .I k)], [(0, some ⟨7, rowsV (H ++ (W.reverse ++ x :: ((y :: V) ++ B))), 0⟩)], 400⟩) (fun _ => True) ?_ fun _ _ => ?_
    · generalize rowsV (H ++ (W.reverse ++ x :: ((y :: V) ++ B))) = Z2 at *
      generalize rowsV ((H ++ W.reverse) ++ y :: x :: (V ++ B)) = Z at *
      have g4 : (Z.set k (vC y))[j]? = some (vC y) := by
        rw [List.getElem?_set, if_neg (by omega)]
        exact g1
      refine awp_block ?_
      refine awp_drw rfl ?_
      simp [hwk, hkn, hjn, g1, g2, g4, splice]
      exact ⟨rfl, Le.keep rfl (by simp) (by simp) (by simp; exact hset)⟩
    have hf2 := rowsV_flat (H ++ (W.reverse ++ x :: ((y :: V) ++ B)))
    obtain ⟨Z, hZ⟩ : ∃ Z, Z = rowsV (H ++ (W.reverse ++ x :: ((y :: V) ++ B))) := ⟨_, rfl⟩
    rw [← hZ] at hf2 ⊢
    refine awp_reg rfl ?_
    simp [hwk]
    refine ⟨W, y :: V, j, ⟨by omega, by simp; omega, by rw [hk3]; simp⟩, by omega, ?_⟩
    exact Le.N1 hf2 rfl (by simp) (by simp [hZ]) rfl (by simp [hs2, hs3, hs4])
  simp only [decide_eq_false_iff_not] at h
  have hV0 : W = [] := List.eq_nil_of_length_eq_zero (by omega)
  have hfin : H ++ (W.reverse ++ x :: (V ++ B)) = F := by rw [hk3, hV0]; rfl
  rw [hfin]
  refine awp_ret ?_
  exact ⟨.inr rfl, outV (rowsV_flat F) rfl⟩
end Go.Proofs.YtnlanlpbgcalcaaGreat
namespace Go.Proofs.YtnlanlpbgcalcaaGreat
open Go
theorem awpOps_ex {P : Program} {np : Nat} {α : Type} : ∀ (ops : List AOper) (n i : Nat) (st : St) (tr : List (List Nat × List Nat)) (K : α → St → List (List Nat × List Nat) → Prop), awpOps P np n i ops st tr (fun s t => ∃ x, K x s t) → ∃ x, awpOps P np n i ops st tr (K x) := by
  intro ops
  induction ops with
  | nil => intro n i st tr K h; exact h
  | cons o os ih =>
    intro n i st tr K h
    have hgo : ∀ (op : AOp) (xs : List AV) (h : Nat → Option Ent) (F : AV → List Nat → List (Nat × Option Ent) → (St → List (List Nat × List Nat) → Prop) → Prop),
        (∀ v rd up, F v rd up (fun s t => ∃ x, K x s t) → ∃ x, F v rd up (K x)) → aK P np (n + 8 * i) op xs h (fun v rd up => F v rd up (fun s t => ∃ x, K x s t)) → ∃ x, aK P np (n + 8 * i) op xs h (fun v rd up => F v rd up (K x)) := by
      intro op xs h F hF hk
      obtain ⟨v, rd, up, h1, h2⟩ := aK_pick hk
      obtain ⟨x, hx⟩ := hF v rd up h1
      refine ⟨x, aK_mono (fun a b c e => ?_) h2⟩
      obtain ⟨rfl, rfl, rfl⟩ := e
      exact hx
    unfold awpOps at h ⊢
    cases hg : o.guard with
    | none =>
      simp only [hg] at h ⊢
      exact hgo _ _ _ (fun v rd up K' => awpOps P np n (i + 1) os ((st.put o.dst v).upd up) (tr ++ [(rd, up.map (·.1))]) K') (fun v rd up => ih _ _ _ _ _) h
    | some gw =>
      obtain ⟨g, want⟩ := gw
      simp only [hg] at h ⊢
      obtain ⟨b, hb, h⟩ := h
      by_cases hbw : b = some want
      · rw [if_pos hbw] at h
        obtain ⟨x, hx⟩ := hgo _ _ _ (fun v rd up K' => awpOps P np n (i + 1) os ((st.put o.dst v).upd up) (tr ++ [(rd, up.map (·.1))]) K') (fun v rd up => ih _ _ _ _ _) h
        exact ⟨x, b, hb, by rw [if_pos hbw]; exact hx⟩
      · rw [if_neg hbw] at h
        obtain ⟨x, hx⟩ := ih _ _ _ _ _ h
        exact ⟨x, b, hb, by rw [if_neg hbw]; exact hx⟩
theorem Le.trans' {np : Nat} {a b c : St} (h1 : Le np a b) (h2 : Le np b c) : Le np a c := by
  intro T0 M0 w0 T M ac w ok hn
  obtain ⟨T', M', ok', hn'⟩ := h1 T0 M0 w0 T M ac w ok hn
  exact h2 T0 M0 w0 T' M' ac w ok' hn'
theorem awp_ex {P : Program} {np : Nat} : ∀ {c : ACode} {α : Type} {Q : α → AExit → St → Prop} {st : St}, awp P np c (fun e s => ∃ x, Q x e s) st → ∃ x, awp P np c (Q x) st := by
  intro c
  induction c with
  | skip => intro α Q st h; exact h
  | reg draw ops after =>
    intro α Q st hw
    obtain ⟨x, hx⟩ := awpOps_ex ops st.n 0 st [] (fun x st' tr => (draw = true → orderly ops after tr = true) ∧ Q x .normal { st' with n := st.n + 8 * ops.length })
      (awpOps_mono _ _ _ _ _ _ _ (fun s t h => by obtain ⟨h1, x, h2⟩ := h; exact ⟨x, h1, h2⟩) hw.2)
    exact ⟨x, hw.1, hx⟩
  | seq a b iha ihb =>
    intro α Q st hw
    refine iha (awp_mono (fun e s hs => ?_) hw)
    cases e with
    | normal =>
      obtain ⟨st2, hle, h2⟩ := hs
      obtain ⟨x, hx⟩ := ihb h2
      exact ⟨x, st2, hle, hx⟩
    | exit id => exact hs
    | ret => exact hs
  | cond c a b iha ihb =>
    intro α Q st hw
    obtain ⟨t, ht, hw⟩ := hw
    cases t
    · obtain ⟨x, hx⟩ := ihb hw
      exact ⟨x, false, ht, hx⟩
    · obtain ⟨x, hx⟩ := iha hw
      exact ⟨x, true, ht, hx⟩
  | block id a iha =>
    intro α Q st hw
    refine iha (awp_mono (fun e s hs => ?_) hw)
    cases e with
    | normal => exact hs
    | exit id' =>
      simp only at hs ⊢
      by_cases hi : id' = id
      · simp only [if_pos hi] at hs ⊢; exact hs
      · simp only [if_neg hi] at hs ⊢; exact hs
    | ret => exact hs
  | loop a iha =>
    intro α Q st hw
    obtain ⟨I, ⟨st0, k0, hle, hI⟩, hb⟩ := hw
    have key : ∀ k s, I k s → ∃ x, awp P np (.loop a) (Q x) s := by
      intro k
      induction k using Nat.strongRecOn with
      | ind k ihk =>
        intro s hs
        have hpre : awp P np a (fun e s' => ∃ y : { y : α × Nat × (Nat → St → Prop) // ∀ k' s', y.2.2 k' s' → awp P np a (fun e st' => match e with | .normal => ∃ st2 k2, Le np st' st2 ∧ y.2.2 k2 st2 ∧ k2 < k' | e => Q y.1 e st') s' },
            match e with | .normal => ∃ st2, Le np s' st2 ∧ y.1.2.2 y.1.2.1 st2 | e => Q y.1.1 e s') s := by
          refine awp_mono (fun e s' h => ?_) (hb k s hs)
          cases e with
          | normal =>
            obtain ⟨st2, k2, h1, h2, h3⟩ := h
            obtain ⟨x, J, ⟨st3, k3, h4, h5⟩, h6⟩ := ihk k2 h3 st2 h2
            exact ⟨⟨(x, k3, J), h6⟩, st3, Le.trans' h1 h4, h5⟩
          | exit id => obtain ⟨x, h⟩ := h; exact ⟨⟨(x, 0, fun _ _ => False), fun _ _ h => h.elim⟩, h⟩
          | ret => obtain ⟨x, h⟩ := h; exact ⟨⟨(x, 0, fun _ _ => False), fun _ _ h => h.elim⟩, h⟩
        obtain ⟨⟨⟨x, q, J⟩, hJ⟩, hy⟩ := iha hpre
        simp only at hJ hy
        refine ⟨x, fun k' s' => J k' s' ∨ (k' = q + 1 ∧ s' = s), ⟨s, q + 1, Le.refl _ _, .inr ⟨rfl, rfl⟩⟩, ?_⟩
        rintro k' s' (h | ⟨rfl, rfl⟩)
        · refine awp_mono (fun e s2 h2 => ?_) (hJ k' s' h)
          cases e with
          | normal => obtain ⟨st2, k2, h1, h2, h3⟩ := h2; exact ⟨st2, k2, h1, .inl h2, h3⟩
          | exit id => exact h2
          | ret => exact h2
        · refine awp_mono (fun e s2 h2 => ?_) hy
          cases e with
          | normal => obtain ⟨st2, h1, h2⟩ := h2; exact ⟨st2, q, h1, .inl h2, Nat.lt_succ_self q⟩
          | exit id => exact h2
          | ret => exact h2
    obtain ⟨x, hx⟩ := key k0 st0 hI
    obtain ⟨J, ⟨s3, k3, h4, h5⟩, h6⟩ := hx
    exact ⟨x, J, ⟨s3, k3, Le.trans' hle h4, h5⟩, h6⟩
  | exit id => intro α Q st h; exact h
  | ret => intro α Q st h; exact h
  | bad => intro α Q st h; exact h.elim
def PostX {α : Type} (rs : List (Nat × Option (Bool × Nat))) (np : Nat) (F : α → AV) (H : α → List (Option Ent)) (R : α → Prop) (e : AExit) (st : St) : Prop := (e = .normal ∨ e = .ret) ∧ ∃ x, R x ∧ RetOk rs np st (F x) (H x)
theorem PostX.mk {α : Type} {rs : List (Nat × Option (Bool × Nat))} {np : Nat} {F : α → AV} {H : α → List (Option Ent)} {R : α → Prop} {e : AExit} {st : St} (he : e = .normal ∨ e = .ret) (x : α) (hx : R x) (h : RetOk rs np st (F x) (H x)) : PostX rs np F H R e st := ⟨he, x, hx, h⟩
theorem Src.acallsX {P : Program} {f : FuncId} {af : AFun} (s : Src P f af) {α : Type} (F : α → AV) (H : α → List (Option Ent)) (R : α → Prop) {args : List AV} {hs : List Ent}
    (hnt : args.length ≤ af.nt) (hn16 : hs.length ≤ 16) (hlen : ∀ x, hs.length ≤ (H x).length)
    (h : awp P hs.length af.code (PostX af.res hs.length F H R) (initSt af args hs)) : ∃ x, R x ∧ ACalls P f args hs (F x) (H x) := by
  obtain ⟨⟨x, hx⟩, hw⟩ := awp_ex (α := { x : α // R x }) (Q := fun x e st => (e = .normal ∨ e = .ret) ∧ RetOk af.res hs.length st (F x.1) (H x.1)) (awp_mono (fun e st h => by
    obtain ⟨h1, x, h2, h3⟩ := h
    exact ⟨⟨x, h2⟩, h1, h3⟩) h)
  exact ⟨x, hx, s.acalls hnt hn16 (hlen x) hw⟩
end Go.Proofs.YtnlanlpbgcalcaaGreat
namespace Go.Proofs.YtnlanlpbgcalcaaGreat
open Go
def idm (l : List Nat) : List (Nat × Nat) := l.map fun i => (i, i)
def cutS (live keep sn : List Nat) (n : Nat) (st : St) : St :=
  ⟨st.sz, live.map (fun i => (i, conv (idm keep) sn st.hp 4 (st.get i))), keep.map (fun i => (i, (st.hp i).map (convE (idm keep) sn st.hp 4))), n⟩
def roOk (keep : List Nat) (st : St) : Prop := ∀ i ∈ keep, ∀ e, st.hp i = some e → e.ro ≤ e.rows.length
def sideB (np n : Nat) (ρ : List (Nat × Nat)) (sn : List Nat) : Bool :=
  decide (ρ.map (·.1)).Nodup && decide (ρ.map (·.2)).Nodup && ρ.all (fun p => decide (p.2 < n) && (decide (np ≤ p.2) || p.1 == p.2)) && sn.all (fun i => decide (np ≤ i) && !(ρ.map (·.1)).contains i) && decide (np ≤ n)
theorem Le.go {np : Nat} {st st' : St} (ρ : List (Nat × Nat)) (sn : List Nat) (hsz : st'.sz = st.sz) (hside : sideB np st'.n ρ sn = true)
    (ht : ∀ p ∈ st'.t, Wk (conv ρ sn st.hp 4 (st.get p.1)) p.2) (hh : ∀ p ∈ st'.h, ∃ q ∈ ρ, q.2 = p.1 ∧ (st.hp q.1).map (convE ρ sn st.hp 4) = p.2 ∧ ∀ e, p.2 = some e → e.ro ≤ e.rows.length) : Le np st st' := by
  simp only [sideB, Bool.and_eq_true, List.all_eq_true, decide_eq_true_eq, Bool.or_eq_true, beq_iff_eq, Bool.not_eq_true', List.contains_eq_mem, decide_eq_false_iff_not] at hside
  obtain ⟨⟨⟨⟨h1, h2⟩, h3⟩, h4⟩, h5⟩ := hside
  refine Le.lst ρ sn [] hsz h1 h2 (fun p hp => ⟨(h3 p hp).1, fun hlt => ?_⟩) (by simp) (fun i hi => h4 i hi) h5 (by simp) (fun p hp => .inl (ht p hp)) fun p hp e' he' => ?_
  · rcases (h3 p hp).2 with h | h
    · omega
    · exact h
  · obtain ⟨q, hq, hq2, hm, hr⟩ := hh p hp
    rw [he'] at hm
    cases hs : st.hp q.1 with
    | none => rw [hs] at hm; cases hm
    | some e =>
      rw [hs] at hm
      have hm' : convE ρ sn st.hp 4 e = e' := by simpa using hm
      exact .inl ⟨q, hq, hq2, e, hs, by rw [hm']; exact EntUp.rfl' (hr e' he')⟩
theorem Le.cut {np : Nat} {st : St} (live keep sn : List Nat) (n : Nat) (hside : sideB np n (idm keep) sn = true) (hr : roOk keep st) : Le np st (cutS live keep sn n st) := by
  refine Le.go (idm keep) sn rfl hside (fun p hp => ?_) fun p hp => ?_
  · obtain ⟨i, _, rfl⟩ := List.mem_map.1 hp
    exact .refl _
  · obtain ⟨i, hi, rfl⟩ := List.mem_map.1 hp
    refine ⟨(i, i), List.mem_map.2 ⟨i, hi, rfl⟩, rfl, rfl, fun e he => ?_⟩
    simp only at he
    cases hs : st.hp i with
    | none => rw [hs] at he; cases he
    | some e0 =>
      rw [hs] at he
      have he' : convE (idm keep) sn st.hp 4 e0 = e := by simpa using he
      subst he'
      have := hr i hi e0 hs
      simpa [convE] using this
theorem rx {P : Program} {np : Nat} {ops : List AOper} {Q : AExit → St → Prop} {sz n : Nat} {t : List (Nat × AV)} {h : List (Nat × Option Ent)} {af : List (List Nat)} {b : ACode} {s : St} (live keep sn : List Nat)
    (hd : ((ops.all fun o => o.dst.all (· < sz)) && sideB np (n + 8 * ops.length) (idm keep) sn) = true) (ho : awpOps P np n 0 ops ⟨sz, t, h, n⟩ [] fun st' _ => roOk keep st' ∧ cutS live keep sn (n + 8 * ops.length) st' = s) (hq : awp P np b Q s) : awp P np (.seq (.reg false ops af) b) Q ⟨sz, t, h, n⟩ := by
  rw [Bool.and_eq_true] at hd
  refine awp_regc s hd.1 (awpOps_mono _ _ _ _ _ _ _ (fun st' _ hc => ?_) ho) hq
  obtain ⟨h1, rfl⟩ := hc
  exact Le.cut (st := ⟨st'.sz, st'.t, st'.h, n + 8 * ops.length⟩) live keep sn _ hd.2 h1
theorem rxd {P : Program} {np : Nat} {ops : List AOper} {Q : AExit → St → Prop} {sz n : Nat} {t : List (Nat × AV)} {h : List (Nat × Option Ent)} {af : List (List Nat)} {b : ACode} {s : St} (live keep sn : List Nat)
    (hd : ((ops.all fun o => o.dst.all (· < sz)) && sideB np (n + 8 * ops.length) (idm keep) sn) = true) (ho : awpOps P np n 0 ops ⟨sz, t, h, n⟩ [] fun st' tr => Ord ops af tr ∧ roOk keep st' ∧ cutS live keep sn (n + 8 * ops.length) st' = s) (hq : awp P np b Q s) : awp P np (.seq (.reg true ops af) b) Q ⟨sz, t, h, n⟩ := by
  rw [Bool.and_eq_true] at hd
  refine awp_dregc s hd.1 (awpOps_mono _ _ _ _ _ _ _ (fun st' _ hc => ?_) ho) hq
  obtain ⟨h0, h1, rfl⟩ := hc
  exact ⟨h0, Le.cut (st := ⟨st'.sz, st'.t, st'.h, n + 8 * ops.length⟩) live keep sn _ hd.2 h1⟩
def cutK (live keep : List Nat) (n : Nat) (st : St) : St := ⟨st.sz, live.map (fun i => (i, st.get i)), keep.map (fun i => (i, st.hp i)), n⟩
theorem Le.cutk {np : Nat} {st : St} (live keep : List Nat) (n : Nat) (hn : st.n ≤ n) : Le np st (cutK live keep n st) :=
  Le.keep rfl hn (fun p hp => by obtain ⟨i, _, rfl⟩ := List.mem_map.1 hp; rfl) fun p hp e he => by
    obtain ⟨i, _, rfl⟩ := List.mem_map.1 hp
    exact he
theorem rk {P : Program} {np : Nat} {ops : List AOper} {Q : AExit → St → Prop} {sz n : Nat} {t : List (Nat × AV)} {h : List (Nat × Option Ent)} {af : List (List Nat)} {b : ACode} {s : St} (live keep : List Nat)
    (hd : (ops.all fun o => o.dst.all (· < sz)) = true) (ho : awpOps P np n 0 ops ⟨sz, t, h, n⟩ [] fun st' _ => cutK live keep (n + 8 * ops.length) st' = s) (hq : awp P np b Q s) : awp P np (.seq (.reg false ops af) b) Q ⟨sz, t, h, n⟩ := by
  refine awp_regc s hd (awpOps_mono _ _ _ _ _ _ _ (fun st' _ hc => ?_) ho) hq
  subst hc
  exact Le.cutk (st := ⟨st'.sz, st'.t, st'.h, n + 8 * ops.length⟩) live keep _ (Nat.le_refl _)
@[simp] theorem idm_nil : idm [] = [] := (rfl)
@[simp] theorem idm_cons {i : Nat} {l : List Nat} : idm (i :: l) = (i, i) :: idm l := (rfl)
@[simp] theorem roOk_nil {st : St} : roOk [] st = True := by simp [roOk]
@[simp] theorem roOk_cons {i : Nat} {l : List Nat} {st : St} : roOk (i :: l) st = ((∀ e, st.hp i = some e → e.ro ≤ e.rows.length) ∧ roOk l st) := by simp [roOk]
@[simp] theorem cutS_def {live keep sn : List Nat} {n sz m : Nat} {t : List (Nat × AV)} {h : List (Nat × Option Ent)} : cutS live keep sn n ⟨sz, t, h, m⟩ = ⟨sz, live.map (fun i => (i, conv (idm keep) sn (St.mk sz t h m).hp 4 ((St.mk sz t h m).get i))), keep.map (fun i => (i, ((St.mk sz t h m).hp i).map (convE (idm keep) sn (St.mk sz t h m).hp 4))), n⟩ := (rfl)
@[simp] theorem cutK_def {live keep : List Nat} {n sz m : Nat} {t : List (Nat × AV)} {h : List (Nat × Option Ent)} : cutK live keep n ⟨sz, t, h, m⟩ = ⟨sz, live.map (fun i => (i, (St.mk sz t h m).get i)), keep.map (fun i => (i, (St.mk sz t h m).hp i)), n⟩ := (rfl)
end Go.Proofs.YtnlanlpbgcalcaaGreat
namespace Go.Proofs.YtnlanlpbgcalcaaGreat
open Go
theorem srtV_one {a b : List Vch} (ha : srtV a) (hb : srtV b) (h : a = [] ∨ b = []) : srtV (a ++ b) := by
  rcases h with rfl | rfl
  · exact hb
  · rw [List.append_nil]; exact ha
theorem srtV_perm {a b c d : List Vch} (h1 : a.Perm b) (h2 : c.Perm d) (hp : ∀ x ∈ b, ∀ y ∈ d, ¬ ltV y x) (ha : srtV a) (hc : srtV c) : srtV (a ++ c) :=
  srtV_append ha hc fun x hx y hy => hp x (h1.mem_iff.1 hx) y (h2.mem_iff.1 hy)
set_option maxHeartbeats 4000000 in
set_option maxRecDepth 100000 in
theorem symMerge_walk (f : FuncId) (capt : List AV) (hs : StillV capt) (hc : ∀ x y, ACalls Tryz.prog f (eV x :: eV y :: capt) [] (.I (cmpV x y)) []) (n a m b mid mm lo hi q e : Nat) (Z Z1 Z2 Z3 : List (List AV))
    (hf0 : ∀ ρ sn h m, Z.map (List.map (conv ρ sn h (m + 1))) = Z) (hf1 : ∀ ρ sn h m, Z1.map (List.map (conv ρ sn h (m + 1))) = Z1) (hf2 : ∀ ρ sn h m, Z2.map (List.map (conv ρ sn h (m + 1))) = Z2) (hf3 : ∀ ρ sn h m, Z3.map (List.map (conv ρ sn h (m + 1))) = Z3)
    (ham : a + 1 < m) (hmb : m + 1 < b) (hbn : b ≤ n) (hl : n ≤ 1000000) (hmid : mid = (a + b) / 2) (hmm : mm = mid + m) (hA : mid < m → lo + b = mm ∧ hi = mid) (hB : m ≤ mid → lo = a ∧ hi = m) (hq1 : lo ≤ q) (hq2 : q ≤ hi) (he : e + q = mm) (hal : a ≤ lo) (him : hi ≤ m) (himd : hi ≤ mid)
    (hkey : ∀ c d, lo ≤ c → c < hi → c + d + 1 = mm → d < n ∧ ∃ x y, Z[c]? = some (vC x) ∧ Z[d]? = some (vC y) ∧ (¬ cmpV y x < 0 ↔ c < q))
    (hrot : q < m → m < e → ACalls Tryz.prog nslices_rotateCmpFunc_api_Vouch [.rs 0 0 n, .I q, .I m, .I e, .fn (.func f) [] capt] [⟨7, Z, 0⟩] (.tup []) [some ⟨7, Z1, 0⟩]) (hrot' : ¬ (q < m ∧ m < e) → Z = Z1)
    (hm1 : a < q → q < mid → ACalls Tryz.prog nslices_symMergeCmpFunc_api_Vouch [.rs 0 0 n, .I a, .I q, .I mid, .fn (.func f) [] capt] [⟨7, Z1, 0⟩] (.tup []) [some ⟨7, Z2, 0⟩]) (hm1' : ¬ (a < q ∧ q < mid) → Z1 = Z2)
    (hm2 : mid < e → e < b → ACalls Tryz.prog nslices_symMergeCmpFunc_api_Vouch [.rs 0 0 n, .I mid, .I e, .I b, .fn (.func f) [] capt] [⟨7, Z2, 0⟩] (.tup []) [some ⟨7, Z3, 0⟩]) (hm2' : ¬ (mid < e ∧ e < b) → Z2 = Z3) :
    ACalls Tryz.prog nslices_symMergeCmpFunc_api_Vouch [.rs 0 0 n, .I a, .I m, .I b, .fn (.func f) [] capt] [⟨7, Z, 0⟩] (.tup []) [some ⟨7, Z3, 0⟩] := by
  have hs2 : ∀ ρ sn h, capt.map (conv ρ sn h 2) = capt := fun _ _ _ => hs _ _ _ 1
  have hs3 : ∀ ρ sn h, capt.map (conv ρ sn h 3) = capt := fun _ _ _ => hs _ _ _ 2
  have hs4 : ∀ ρ sn h, capt.map (conv ρ sn h 4) = capt := fun _ _ _ => hs _ _ _ 3
  have hw1 : IntKind.i64.wrap ((m : Int) - a) = (m : Int) - a := w64 (by omega) (by omega)
  have hw2 : IntKind.i64.wrap ((b : Int) - m) = (b : Int) - m := w64 (by omega) (by omega)
  have hne1 : ¬ ((m : Int) - a = 1) := by omega
  have hne2 : ¬ ((b : Int) - m = 1) := by omega
  obtain ⟨p, hp⟩ : ∃ p, p + 1 = mm := ⟨mm - 1, by omega⟩
  have hw4 : IntKind.i64.wrap ((mid : Int) + (m : Int)) = (mm : Int) := by rw [w64 (by omega) (by omega)]; omega
  have hw5 : mid < m → IntKind.i64.wrap ((mm : Int) - (b : Int)) = (lo : Int) := fun h => by have := hA h; rw [w64 (by omega) (by omega)]; omega
  have hw6 : IntKind.i64.wrap ((mm : Int) - 1) = (p : Int) := by rw [w64 (by omega) (by omega)]; omega
  have hw7 : IntKind.i64.wrap ((mm : Int) - (q : Int)) = (e : Int) := by rw [w64 (by omega) (by omega)]; omega
  obtain ⟨hwA, hwB, hwC, hwD⟩ := half_v (i := a) (j := b) (by omega)
  rw [← hmid] at hwC hwD
  refine sslices_symMergeCmpFunc_api_Vouch.acalls (Nat.le_of_ble_eq_true rfl) (Nat.le_of_ble_eq_true rfl) (Nat.le_of_ble_eq_true rfl) ?_
  show awp _ 1 _ _ ⟨220, [(0, .rs 0 0 n), (1, .I a), (2, .I m), (3, .I b), (4, .fn (.func f) [] capt)], [(0, some ⟨7, Z, 0⟩)], 16⟩
  refine awp_seq ?_
  refine rk (s := ?s01) [0, 1, 2, 3, 4, 28] [0] rfl ?o01 ?q01
  case o01 => simp [hw1, hne1]; rfl
  refine awp_cond _ rfl (fun h => by simp [hne1] at h) fun _ => awp_skip ?_
  refine awp_seq ?_
  refine rk (s := ?s02) [0, 1, 2, 3, 4, 80] [0] rfl ?o02 ?q02
  case o02 => simp [hw2, hne2]; rfl
  refine awp_cond _ rfl (fun h => by simp [hne2] at h) fun _ => awp_skip ?_
  refine rk (s := ?s1) [0, 1, 2, 3, 4, 18] [0] rfl ?o1 ?q1
  case o1 => simp [hwA, hwB, hwC, hwD, IntKind.bits, -Int.natCast_ediv, -Int.natCast_add]; rfl
  refine rk (s := ?s2) [0, 1, 2, 3, 4, 18, 19] [0] rfl ?o2 ?q2
  case o2 => simp [hw4]; rfl
  refine rk (s := ?s3) [0, 1, 2, 3, 4, 18, 19, 20, 21] [0] rfl ?o3 ?q3
  case o3 => simp; rfl
  clear hwA hwB hwC hwD
  refine awp_cut (ι := Unit) (fun _ => ⟨220, [(0, .rs 0 0 n), (1, .I a), (2, .I m), (3, .I b), (4, .fn (.func f) [] capt), (18, .I mid), (19, .I mm), (20, .I lo), (21, .I hi)], [(0, some ⟨7, Z, 0⟩)], 300⟩) (fun _ => True) ?_ fun _ _ => ?_
  · refine rk (s := ?s4) [0, 1, 2, 3, 4, 18, 19, 20, 21, 140] [0] rfl ?o4 ?q4
    case o4 => simp; rfl
    refine awp_cond _ rfl (fun h5 => ?_) fun h5 => ?_
    · simp only [decide_eq_true_eq, Int.ofNat_lt] at h5
      refine rk (s := ?s5) [0, 1, 2, 3, 4, 18, 19, 20] [0] rfl ?o5 ?q5
      case o5 => simp [hw5 h5]; rfl
      refine awp_reg rfl ?_
      simp
      exact Le.keep rfl (by simp) (by simp [(hA h5).2]) (by simp)
    · simp only [decide_eq_false_iff_not, Int.ofNat_lt] at h5
      have hB' := hB (by omega)
      refine rk (s := ?s6) [0, 1, 2, 3, 4, 18, 19, 20] [0] rfl ?o6 ?q6
      case o6 => simp; rfl
      refine awp_reg rfl ?_
      simp
      exact Le.keep rfl (by simp) (by simp [hB'.1, hB'.2]) (by simp)
  refine rk (s := ?s7) [0, 1, 2, 3, 4, 18, 19, 20, 21, 22] [0] rfl ?o7 ?q7
  case o7 => simp [hw6]; rfl
  refine awp_seq ?_
  refine awp_block ?_
  refine awp_loop (ι := Nat × Nat) (fun p' => ⟨220, [(0, .rs 0 0 n), (1, .I a), (2, .I m), (3, .I b), (4, .fn (.func f) [] capt), (18, .I mid), (19, .I mm), (20, .I p'.1), (21, .I p'.2), (22, .I p)], [(0, some ⟨7, Z, 0⟩)], 400⟩) (fun p => lo ≤ p.1 ∧ p.1 ≤ q ∧ q ≤ p.2 ∧ p.2 ≤ hi) (fun p => p.2 - p.1) (lo, hi) ⟨by simp, by simpa using hq1, by simpa using hq2, by simp⟩ (Le.keep rfl (by simp) (by simp) (by simp)) ?_
  rintro ⟨i, j⟩ ⟨hj1, hj2, hj3, hj4⟩
  simp only at hj1 hj2 hj3 hj4
  refine awp_seq ?_
  refine rk (s := ?s8) [0, 1, 2, 3, 4, 18, 19, 20, 21, 22, 151] [0] rfl ?o8 ?q8
  case o8 => simp; rfl
  refine awp_cond _ rfl (fun h4 => awp_skip ?_) fun h4 => awp_exit (hit ?_)
  · simp only [decide_eq_true_eq, Int.ofNat_lt] at h4
    obtain ⟨hw, hu, hd, hw3⟩ := half_v (i := i) (j := j) (by omega)
    refine awp_block ?_
    obtain ⟨c, hcc⟩ : ∃ c, c = (i + j) / 2 := ⟨_, rfl⟩
    rw [← hcc] at hd hw3
    refine rk (s := ?s9) [0, 1, 2, 3, 4, 18, 19, 20, 21, 22, 23] [0] rfl ?o9 ?q9
    case o9 => simp [hw, hu, hd, hw3, IntKind.bits, -Int.natCast_ediv, -Int.natCast_add]; rfl
    obtain ⟨d, hd2⟩ : ∃ d, c + d + 1 = mm := ⟨p - c, by omega⟩
    obtain ⟨hdn, x, y, hg1, hg2, hk2⟩ := hkey c d (by omega) (by omega) hd2
    have hcmp := hc y x
    have hb2 : (!decide (cmpV y x < 0)) = decide (c < q) := by rw [← decide_not, decide_eq_decide]; exact hk2
    have hwd : IntKind.i64.wrap ((p : Int) - (c : Int)) = (d : Int) := by rw [w64 (by omega) (by omega)]; omega
    have hcn : c < n := by omega
    have hwq : IntKind.i64.wrap ((c : Int) + 1) = ((c + 1 : Nat) : Int) := by rw [w64 (by omega) (by omega)]; omega
    refine awp_dregc ⟨220, [(0, .rs 0 0 n), (1, .I a), (2, .I m), (3, .I b), (4, .fn (.func f) [] capt), (18, .I mid), (19, .I mm), (20, .I i), (21, .I j), (22, .I p), (23, .I c), (171, .B (decide (c < q)))], [(0, some ⟨7, Z, 0⟩)], 600⟩ rfl ?_ ?_
    · rw [← hb2]
      simp [hg1, hg2, hwd, hdn, hcn]
      refine call0e hcmp ?_ ?_
      · simp [hs2, hs3, hs4]
      simp
      exact ⟨rfl, Le.keep rfl (by simp) (by simp) (by simp)⟩
    refine awp_cond _ rfl (fun h5 => ?_) fun h5 => ?_
    · simp only [decide_eq_true_eq] at h5
      refine awp_reg rfl ?_
      simp [hwq]
      exact ⟨c + 1, j, ⟨by omega, by omega, by omega, by omega⟩, by omega, Le.N1 hf0 rfl (by simp) rfl rfl (by simp [hs2, hs3, hs4])⟩
    · simp only [decide_eq_false_iff_not] at h5
      refine awp_reg rfl ?_
      simp
      exact ⟨i, c, ⟨by omega, by omega, by omega, by omega⟩, by omega, Le.N1 hf0 rfl (by simp) rfl rfl (by simp [hs2, hs3, hs4])⟩
  simp only [decide_eq_false_iff_not, Int.ofNat_lt] at h4
  obtain rfl : i = q := by omega
  refine rk (s := ?s10) [0, 1, 2, 3, 4, 18, 20, 24] [0] rfl ?o10 ?q10
  case o10 => simp [hw7]; rfl
  refine awp_cut (ι := Unit) (fun _ => ⟨220, [(0, .rs 0 0 n), (1, .I a), (2, .I m), (3, .I b), (4, .fn (.func f) [] capt), (18, .I mid), (20, .I i), (24, .I e)], [(0, some ⟨7, Z1, 0⟩)], 1000⟩) (fun _ => True) ?_ fun _ _ => ?_
  · refine awp_regc ⟨220, [(0, .rs 0 0 n), (1, .I a), (2, .I m), (3, .I b), (4, .fn (.func f) [] capt), (18, .I mid), (20, .I i), (24, .I e), (185, .B (decide (i < m ∧ m < e)))], [(0, some ⟨7, Z, 0⟩)], 700⟩ rfl ?_ ?_
    · by_cases c1 : i < m
      · simp [c1]
        exact Le.keep rfl (by simp) (by simp) (by simp)
      · simp [c1]
        exact Le.keep rfl (by simp) (by simp) (by simp)
    refine awp_cond _ rfl (fun h5 => ?_) fun h5 => awp_skip ?_
    · simp only [decide_eq_true_eq] at h5
      refine awp_reg rfl ?_
      simp
      refine callM1 (i := 0) rfl (e' := ⟨7, Z, 0⟩) (by simp [hf0]) (hrot h5.1 h5.2) (by simp) (by simp [hs2, hs3, hs4]) ?_
      simp [hf1]
      exact Le.keep rfl (by simp) (by simp) (by simp)
    · simp only [decide_eq_false_iff_not] at h5
      exact ⟨(), trivial, Le.keep rfl (by simp) (by simp) (by simp [hrot' h5])⟩
  refine awp_cut (ι := Unit) (fun _ => ⟨220, [(0, .rs 0 0 n), (1, .I a), (2, .I m), (3, .I b), (4, .fn (.func f) [] capt), (18, .I mid), (20, .I i), (24, .I e)], [(0, some ⟨7, Z2, 0⟩)], 2000⟩) (fun _ => True) ?_ fun _ _ => ?_
  · refine awp_regc ⟨220, [(0, .rs 0 0 n), (1, .I a), (2, .I m), (3, .I b), (4, .fn (.func f) [] capt), (18, .I mid), (20, .I i), (24, .I e), (199, .B (decide (a < i ∧ i < mid)))], [(0, some ⟨7, Z1, 0⟩)], 1500⟩ rfl ?_ ?_
    · by_cases c1 : a < i
      · simp [c1]
        exact Le.keep rfl (by simp) (by simp) (by simp)
      · simp [c1]
        exact Le.keep rfl (by simp) (by simp) (by simp)
    refine awp_cond _ rfl (fun h5 => ?_) fun h5 => awp_skip ?_
    · simp only [decide_eq_true_eq] at h5
      refine awp_reg rfl ?_
      simp
      refine callM1 (i := 0) rfl (e' := ⟨7, Z1, 0⟩) (by simp [hf1]) (hm1 h5.1 h5.2) (by simp) (by simp [hs2, hs3, hs4]) ?_
      simp [hf2]
      exact Le.keep rfl (by simp) (by simp) (by simp)
    · simp only [decide_eq_false_iff_not] at h5
      exact ⟨(), trivial, Le.keep rfl (by simp) (by simp) (by simp [hm1' h5])⟩
  refine awp_regc ⟨220, [(0, .rs 0 0 n), (3, .I b), (4, .fn (.func f) [] capt), (18, .I mid), (24, .I e), (213, .B (decide (mid < e ∧ e < b)))], [(0, some ⟨7, Z2, 0⟩)], 2500⟩ rfl ?_ ?_
  · by_cases c1 : mid < e
    · simp [c1]
      exact Le.keep rfl (by simp) (by simp) (by simp)
    · simp [c1]
      exact Le.keep rfl (by simp) (by simp) (by simp)
  refine awp_cond _ rfl (fun h5 => ?_) fun h5 => awp_skip ?_
  · simp only [decide_eq_true_eq] at h5
    refine awp_reg rfl ?_
    simp
    refine callM1 (i := 0) rfl (e' := ⟨7, Z2, 0⟩) (by simp [hf2]) (hm2 h5.1 h5.2) (by simp) (by simp [hs2, hs3, hs4]) ?_
    simp [hf3]
    exact outV hf3 rfl
  · simp only [decide_eq_false_iff_not] at h5
    rw [hm2' h5]
    exact ⟨.inl rfl, outV hf3 rfl⟩
set_option maxHeartbeats 4000000 in
set_option maxRecDepth 100000 in
theorem symMergeV_ok (f : FuncId) (capt : List AV) (hs : StillV capt) (hc : ∀ x y, ACalls Tryz.prog f (eV x :: eV y :: capt) [] (.I (cmpV x y)) []) : ∀ (k : Nat) (A S T B : List Vch) (n a m b : Nat), S.length + T.length = k → (A ++ (S ++ (T ++ B))).length = n → A.length = a → a + S.length = m → m + T.length = b →
    0 < S.length → 0 < T.length → n ≤ 1000000 → srtV S → srtV T → ∃ R : List Vch, R.Perm (S ++ T) ∧ srtV R ∧
    ACalls Tryz.prog nslices_symMergeCmpFunc_api_Vouch [.rs 0 0 n, .I a, .I m, .I b, .fn (.func f) [] capt] [⟨7, rowsV (A ++ (S ++ (T ++ B))), 0⟩] (.tup []) [some ⟨7, rowsV (A ++ (R ++ B)), 0⟩] := by
  intro k
  induction k using Nat.strongRecOn with
  | ind k ih =>
  intro A S T B n a m b hk hn ha hm hb hS0 hT0 hl hSs hTs
  by_cases hS1 : S.length = 1
  · obtain ⟨x, rfl⟩ := List.length_eq_one_iff.1 hS1
    obtain ⟨q, hq, hqk, hsr⟩ := one_left (x := x) hTs
    refine ⟨T.take q ++ x :: T.drop q, ?_, hsr, ?_⟩
    · refine (List.perm_middle).trans ?_
      rw [List.take_append_drop]
      exact List.Perm.refl _
    · exact symMergeV_one f capt hs hc A T B x n a m b q hn ha (by simpa using hm) hb hT0 hl hq hqk
  by_cases hT1 : T.length = 1
  · obtain ⟨x, rfl⟩ := List.length_eq_one_iff.1 hT1
    obtain ⟨q, hq, hqk, hsr⟩ := one_right (x := x) hSs
    refine ⟨S.take q ++ x :: S.drop q, ?_, hsr, ?_⟩
    · refine (List.perm_middle).trans ?_
      rw [List.take_append_drop]
      exact (List.perm_append_singleton x S).symm
    · exact symMergeV_two f capt hs hc A S B x n a m b q hn ha hm (by simpa using hb) (by omega) hl hq hqk
  obtain ⟨mid, hmid⟩ : ∃ mid, mid = (a + b) / 2 := ⟨_, rfl⟩
  obtain ⟨lo, hlo⟩ : ∃ lo, lo = if mid < m then mid + m - b else a := ⟨_, rfl⟩
  obtain ⟨hi, hhi⟩ : ∃ hi, hi = if mid < m then mid else m := ⟨_, rfl⟩
  obtain ⟨q, hq⟩ := cutV_ex (lo := lo) (hi := hi) hSs hTs hm hb hS0 hT0 hmid (by
    by_cases h : mid < m
    · rw [if_pos h] at hlo hhi; exact .inl ⟨h, hlo, hhi⟩
    · rw [if_neg h] at hlo hhi; exact .inr ⟨by omega, hlo, hhi⟩)
  have hbn : b + B.length = n := by simp only [List.length_append] at hn; omega
  have hlo2 : a ≤ lo ∧ lo ≤ hi ∧ hi ≤ m ∧ hi ≤ mid ∧ mid + m ≤ b + lo := by
    by_cases h : mid < m
    · rw [if_pos h] at hlo hhi; omega
    · rw [if_neg h] at hlo hhi; omega
  obtain ⟨q1, q2, key, am, qm, qd, eb, below, above⟩ := hq
  obtain ⟨e, he⟩ : ∃ e, e = mid + m - q := ⟨_, rfl⟩
  have hbelow : ∀ s ∈ S.drop (q - a), ∀ t ∈ T.take (mid - q), ¬ ltV s t := fun s h1 t h2 => ltV_asym (below s h1 t h2)
  obtain ⟨sS1, sS2, sS3⟩ := srtV_parts (a := S.take (q - a)) (b := S.drop (q - a)) (by rw [List.take_append_drop]; exact hSs)
  obtain ⟨sT1, sT2, sT3⟩ := srtV_parts (a := T.take (mid - q)) (b := T.drop (mid - q)) (by rw [List.take_append_drop]; exact hTs)
  have lS1 : a + (S.take (q - a)).length = q := by rw [List.length_take]; omega
  have lT1 : q + (T.take (mid - q)).length = mid := by rw [List.length_take]; omega
  have lS2 : mid + (S.drop (q - a)).length = e := by rw [List.length_drop]; omega
  have lT2 : e + (T.drop (mid - q)).length = b := by rw [List.length_drop]; omega
  have hST : S ++ T = S.take (q - a) ++ S.drop (q - a) ++ (T.take (mid - q) ++ T.drop (mid - q)) := by rw [List.take_append_drop, List.take_append_drop]
  have hZ1 : A ++ (S ++ (T ++ B)) = A ++ S.take (q - a) ++ (S.drop (q - a) ++ (T.take (mid - q) ++ (T.drop (mid - q) ++ B))) := by
    rw [List.append_assoc A, ← List.append_assoc (S.take (q - a)), List.take_append_drop, ← List.append_assoc (T.take (mid - q)), List.take_append_drop]
  have hab : a < mid ∧ mid < b := by omega
  have hrot := rotateV_ok f capt hs (A ++ S.take (q - a)) (S.drop (q - a)) (T.take (mid - q)) (T.drop (mid - q) ++ B) n q m e (by rw [← hZ1]; exact hn) (by rw [List.length_append]; omega) (by rw [List.length_drop]; omega) (by omega)
  generalize hgS1 : S.take (q - a) = S1 at *
  generalize hgS2 : S.drop (q - a) = S2 at *
  generalize hgT1 : T.take (mid - q) = T1 at *
  generalize hgT2 : T.drop (mid - q) = T2 at *
  have hga : ∀ c, (h1 : a ≤ c) → (h2 : c < m) → (rowsV (A ++ (S ++ (T ++ B))))[c]? = some (vC (S[c - a]'(by omega))) := fun c h1 h2 => at1 (A := A) (S := S) (R := T ++ B) (k := c - a) (by omega) (by omega)
  have hgt : ∀ c, (h1 : m ≤ c) → (h2 : c < b) → (rowsV (A ++ (S ++ (T ++ B))))[c]? = some (vC (T[c - m]'(by omega))) := fun c h1 h2 => at2 (A := A) (S := S) (T := T) (R := B) (k := c - m) (by omega) (by omega)
  obtain ⟨R1, hp1, hs1, hc1, hn1⟩ : ∃ R1 : List Vch, R1.Perm (S1 ++ T1) ∧ srtV R1 ∧ (a < q ∧ q < mid → ACalls Tryz.prog nslices_symMergeCmpFunc_api_Vouch [.rs 0 0 n, .I a, .I q, .I mid, .fn (.func f) [] capt] [⟨7, rowsV (A ++ (S1 ++ (T1 ++ (S2 ++ (T2 ++ B))))), 0⟩] (.tup []) [some ⟨7, rowsV (A ++ (R1 ++ (S2 ++ (T2 ++ B)))), 0⟩]) ∧ (¬ (a < q ∧ q < mid) → R1 = S1 ++ T1) := by
    by_cases h : a < q ∧ q < mid
    · obtain ⟨R, h1, h2, h3⟩ := ih (S1.length + T1.length) (by omega) A S1 T1 (S2 ++ (T2 ++ B)) n a q mid rfl (by simp only [List.length_append]; omega) ha lS1 lT1 (by omega) (by omega) hl sS1 sT1
      exact ⟨R, h1, h2, fun _ => h3, fun hh => absurd h hh⟩
    · refine ⟨S1 ++ T1, List.Perm.refl _, srtV_one sS1 sT1 ?_, fun hh => absurd hh h, fun _ => rfl⟩
      by_cases h2 : a < q
      · exact .inr (List.eq_nil_of_length_eq_zero (by omega))
      · exact .inl (List.eq_nil_of_length_eq_zero (by omega))
  have lR1 : R1.length + a = mid := by rw [hp1.length_eq, List.length_append]; omega
  obtain ⟨R2, hp2, hs2, hc2, hn2⟩ : ∃ R2 : List Vch, R2.Perm (S2 ++ T2) ∧ srtV R2 ∧ (mid < e ∧ e < b → ACalls Tryz.prog nslices_symMergeCmpFunc_api_Vouch [.rs 0 0 n, .I mid, .I e, .I b, .fn (.func f) [] capt] [⟨7, rowsV (A ++ (R1 ++ (S2 ++ (T2 ++ B)))), 0⟩] (.tup []) [some ⟨7, rowsV (A ++ (R1 ++ R2 ++ B)), 0⟩]) ∧ (¬ (mid < e ∧ e < b) → R2 = S2 ++ T2) := by
    by_cases h : mid < e ∧ e < b
    · obtain ⟨R, h1, h2, h3⟩ := ih (S2.length + T2.length) (by omega) (A ++ R1) S2 T2 B n mid e b rfl (by simp only [List.length_append]; omega) (by rw [List.length_append]; omega) lS2 lT2 (by omega) (by omega) hl sS2 sT2
      refine ⟨R, h1, h2, fun _ => ?_, fun hh => absurd h hh⟩
      rw [List.append_assoc A, List.append_assoc A] at h3
      rw [List.append_assoc R1]
      exact h3
    · refine ⟨S2 ++ T2, List.Perm.refl _, srtV_one sS2 sT2 ?_, fun hh => absurd hh h, fun _ => rfl⟩
      by_cases h2 : mid < e
      · exact .inr (List.eq_nil_of_length_eq_zero (by omega))
      · exact .inl (List.eq_nil_of_length_eq_zero (by omega))
  refine ⟨R1 ++ R2, ?_, srtV_perm hp1 hp2 (fun x hx y hy => ?_) hs1 hs2, ?_⟩
  · rw [hST]
    refine (hp1.append hp2).trans ?_
    simp only [List.append_assoc]
    refine List.Perm.append_left _ ?_
    rw [← List.append_assoc, ← List.append_assoc]
    exact List.Perm.append_right _ List.perm_append_comm
  · rcases List.mem_append.1 hx with h | h <;> rcases List.mem_append.1 hy with h' | h'
    · exact sS3 x h y h'
    · exact above x h y h'
    · exact hbelow y h' x h
    · exact sT3 x h y h'
  refine symMerge_walk f capt hs hc n a m b mid (mid + m) lo hi q e _ (rowsV (A ++ (S1 ++ (T1 ++ (S2 ++ (T2 ++ B)))))) (rowsV (A ++ (R1 ++ (S2 ++ (T2 ++ B))))) _ (rowsV_flat _) (rowsV_flat _) (rowsV_flat _) (rowsV_flat _)
    (by omega) (by omega) (by omega) hl hmid rfl (fun h => by rw [if_pos h] at hlo hhi; omega) (fun h => by rw [if_neg (by omega)] at hlo hhi; omega) q1 q2 (by omega) hlo2.1 hlo2.2.2.1 hlo2.2.2.2.1 (fun c d h1 h2 h3 => ?_) (fun h1 h2 => ?_) (fun h => ?_) (fun h1 h2 => hc1 ⟨h1, h2⟩) (fun h => by rw [hn1 h, List.append_assoc]) (fun h1 h2 => hc2 ⟨h1, h2⟩) (fun h => by rw [hn2 h, List.append_assoc R1, List.append_assoc S2])
  · have hd : mid + m - 1 - c = d := by omega
    refine ⟨by omega, S[c - a]'(by omega), T[d - m]'(by omega), hga c (by omega) (by omega), hgt d (by omega) (by omega), ?_⟩
    rw [cmpV_lt]
    have hk2 := key c (by omega) (by omega) h1 h2
    simp only [hd] at hk2
    exact hk2
  · have hr := hrot (by omega) (by omega) hl
    rw [← hZ1, List.append_assoc A S1] at hr
    exact hr
  · rw [hZ1, List.append_assoc A S1]
    by_cases h6 : q < m
    · have : T1 = [] := List.eq_nil_of_length_eq_zero (by omega)
      rw [this]
      rfl
    · have : S2 = [] := List.eq_nil_of_length_eq_zero (by omega)
      rw [this]
      rfl
end Go.Proofs.YtnlanlpbgcalcaaGreat
