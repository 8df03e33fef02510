/- Texts of this claim, merged. -/
import Derived.Test.YtlhjelookgjmpaaGreatRd14
import Derived.Test.YtlhjelookgjmpaaGreatRd9
import Derived.Test.YtlhjelookgjmpaaGreatRd12
set_option linter.unusedSimpArgs false
set_option linter.unusedVariables false
set_option linter.unusedSectionVars false
namespace Go.Proofs.YtlhjelookgjmpaaGreat
open Go
def natL (l : List Nat) : List Int := l.map fun i : Nat => (i : Int)
theorem natL_len (l : List Nat) : (natL l).length = l.length := by simp [natL]
theorem WayA.mem {A : List Ed} : ∀ {l : List Nat} {u w : Int}, WayA A u l w → ∀ j ∈ l, j < A.length
  | i :: l, u, w, hw, j, hj => by
    rcases List.mem_cons.1 hj with rfl | hj
    · exact hw.1
    · exact WayA.mem hw.2.2 j hj
theorem LeftA.few {N : Nat} {A : List Ed} {f g : List Int} {l : List Nat} {w : Int} (hn : NetOk N A) (h : LeftA A f g l w) : l.length + 1 ≤ N := by
  have := nodup_sub_len (b := (List.range N).map fun i : Nat => (i : Int)) h.met fun x hx => by
    rcases List.mem_cons.1 hx with rfl | hx
    · have := hn.two
      exact List.mem_map.2 ⟨0, List.mem_range.2 (by omega), rfl⟩
    · obtain ⟨j, hj, rfl⟩ := List.mem_map.1 hx
      have ha := hn.arc _ (arcD_mem (h.way.mem j hj))
      exact List.mem_map.2 ⟨(arcD A j).t.toNat, List.mem_range.2 (by omega), by omega⟩
  simpa [metA] using this
structure WSt where
  l : List Nat
  w : Int
  g : List Int
  V : List Int
  Z : List Int
structure WInv (A : List Ed) (f : List Int) (s : WSt) : Prop where
  left : LeftA A f s.g s.l s.w
  v : s.V.take s.l.length = natL s.l
  vl : s.l.length ≤ s.V.length
  z : s.Z.take (s.l.length + 1) = 0 :: metA A s.l
  zl : s.l.length + 1 ≤ s.Z.length
set_option maxRecDepth 100000 in
set_option maxHeartbeats 4000000 in
theorem walk_a (N : Nat) (A : List Ed) (f : List Int) (hn : NetVal ⟨N, A⟩) (hf : BalF N A f) (hfb : ∀ i, f.getD i 0 ≤ 1048576) :
    ∃ x : List Nat × List Int, ((x.1 = [] ∧ exF A f 0 ≤ 0) ∨ LeftA A f x.2 x.1 1) ∧ ACalls Tryz.prog nref43_walk [eN ⟨N, A⟩, .rs 0 0 A.length] [⟨1, rowsI f, 0⟩] (ints (natL x.1)) [some ⟨1, rowsI x.2, 0⟩] := by
  refine sref43_walk.acallsX (args := [eN ⟨N, A⟩, .rs 0 0 A.length]) (hs := [⟨1, rowsI f, 0⟩]) (fun x => ints (natL x.1)) (fun x => [some ⟨1, rowsI x.2, 0⟩]) (fun x : List Nat × List Int => (x.1 = [] ∧ exF A f 0 ≤ 0) ∨ LeftA A f x.2 x.1 1) (Nat.le_of_ble_eq_true rfl) (Nat.le_of_ble_eq_true rfl) (fun _ => Nat.le_refl _) ?_
  show awp _ 1 _ _ ⟨73, [(0, eN ⟨N, A⟩), (1, .rs 0 0 A.length)], [(0, some ⟨1, rowsI f, 0⟩)], 16⟩
  have hno := netOk_of hn
  obtain ⟨hn0, hn1, hal, hav⟩ := hn
  simp only at hn0 hn1 hal hav
  refine awp_regc ⟨73, [(1, .rs 0 0 A.length), (2, .pv (nC ⟨N, A⟩))], [(0, some ⟨1, rowsI f, 0⟩)], 100⟩ rfl ?_ ?_
  · simp
    exact Le.go [(0, 0)] [16] rfl rfl (by simp) (by simp [Function.comp_def])
  refine awp_regc ⟨73, [(1, .rs 0 0 A.length), (2, .pv (nC ⟨N, A⟩)), (5, .nilS)], [(0, some ⟨1, rowsI f, 0⟩)], 200⟩ rfl ?_ ?_
  · simp
    exact Le.go [(0, 0)] [] rfl rfl (by simp) (by simp [Function.comp_def])
  refine awp_regc ⟨73, [(1, .rs 0 0 A.length), (2, .pv (nC ⟨N, A⟩)), (5, .nilS), (6, .rs 18 0 1)], [(0, some ⟨1, rowsI f, 0⟩), (18, some ⟨1, rowsI [0], 0⟩)], 300⟩ rfl ?_ ?_
  · simp
    exact Le.go [(0, 0), (200, 18)] [] rfl rfl (by simp) (by simp [Function.comp_def])
  refine awp_seq ?_
  refine awp_block ?_
  refine awp_loop (ι := WSt) (fun s => ⟨73, [(1, .rs 0 0 A.length), (2, .pv (nC ⟨N, A⟩)), (5, .rs 17 0 s.l.length), (6, .rs 18 0 (s.l.length + 1))], [(0, some ⟨1, rowsI s.g, 0⟩), (17, some ⟨1, rowsI s.V, 0⟩), (18, some ⟨1, rowsI s.Z, 0⟩)], 300⟩)
    (fun s => WInv A f s) (fun s => totN s.g) ⟨[], 0, f, [], [0]⟩ ⟨LeftA.start hf.len hf.nonneg, rfl, Nat.le_refl _, rfl, Nat.le_refl _⟩
    (Le.lst [(0, 0), (18, 18)] [] [(17, 1)] rfl (by simp) (by simp) (by simp) (by simp) (by simp) (by simp) (by simp) (by simp [Up]) (by simp [Function.comp_def]; exact ⟨EntUp.rfl' (by simp), EntUp.rfl' (by simp)⟩)) ?_
  rintro ⟨l, w, g, V, Z⟩ ⟨hL, hV, hVl, hZ, hZl⟩
  simp only at hL hV hVl hZ hZl
  have hfew := hL.few hno
  have hgl := hL.len
  have hZw : Z[l.length]? = some w := by
    have h1 := hL.way.last
    rw [← hZ, List.getElem?_take_of_lt (by omega)] at h1
    exact h1
  have hlt1 : (l.length : Int) < (l.length : Int) + 1 := by omega
  have hww : IntKind.i64.wrap (l.length : Int) = (l.length : Int) := w64 (by omega) (by omega)
  refine awp_seq ?_
  refine awp_regc ⟨73, [(1, .rs 0 0 A.length), (2, .pv (nC ⟨N, A⟩)), (5, .rs 17 0 l.length), (6, .rs 18 0 (l.length + 1)), (16, .B (!decide (w = 1)))], [(0, some ⟨1, rowsI g, 0⟩), (17, some ⟨1, rowsI V, 0⟩), (18, some ⟨1, rowsI Z, 0⟩)], 400⟩ rfl ?_ ?_
  · simp [hww, hZw, hlt1]
    exact Le.go [(0, 0), (17, 17), (18, 18)] [] rfl rfl (by simp <;> exact wkB (by rw [Bool.eq_iff_iff]; simp)) (by simp [Function.comp_def])
  refine awp_cond _ rfl (fun h11 => ?_) fun h11 => ?_
  · simp at h11
    obtain ⟨k, hk, hcall⟩ := next_a N A g w hgl hal
    refine awp_skip ?_
    refine awp_block ?_
    refine awp_dregc ⟨73, [(1, .rs 0 0 A.length), (2, .pv (nC ⟨N, A⟩)), (5, .rs 17 0 l.length), (6, .rs 18 0 (l.length + 1)), (7, .I k)], [(0, some ⟨1, rowsI g, 0⟩), (17, some ⟨1, rowsI V, 0⟩), (18, some ⟨1, rowsI Z, 0⟩)], 600⟩ rfl ?_ ?_
    · simp [hww, hZw, hlt1]
      have htg : ∀ h : Int → List AV, List.take A.length (List.map h g) = List.map h g := fun h => List.take_of_length_le (by simp; omega)
      refine call0s [0] hcall (by simp [Function.comp_def, htg, hgl]) (.sc _) ?_
      simp
      exact ⟨rfl, Le.go [(0, 0), (17, 17), (18, 18)] [] rfl rfl (by simp) (by simp [Function.comp_def])⟩
    refine awp_seq ?_
    refine awp_regc ⟨73, [(1, .rs 0 0 A.length), (2, .pv (nC ⟨N, A⟩)), (5, .rs 17 0 l.length), (6, .rs 18 0 (l.length + 1)), (7, .I k), (27, .B (decide (k < 0)))], [(0, some ⟨1, rowsI g, 0⟩), (17, some ⟨1, rowsI V, 0⟩), (18, some ⟨1, rowsI Z, 0⟩)], 700⟩ rfl ?_ ?_
    · simp
      exact Le.go [(0, 0), (17, 17), (18, 18)] [] rfl rfl (by simp) (by simp [Function.comp_def])
    refine awp_cond _ rfl (fun h12 => ?_) fun h12 => ?_
    · simp at h12
      refine awp_regc ⟨73, [(4, .nilS)], [(0, some ⟨1, rowsI g, 0⟩)], 800⟩ rfl ?_ ?_
      · simp
        exact Le.go [(0, 0)] [] rfl rfl (by simp) (by simp [Function.comp_def])
      refine awp_ret ?_
      rcases hk with ⟨_, hk⟩ | ⟨i, rfl, _⟩
      · refine PostX.mk (.inr rfl) ([], g) (.inl ⟨rfl, ?_⟩) (RetOk.k1 rfl (by simp [natL]; exact .nil _ _) (by simp [Function.comp_def]))
        refine Int.not_lt.1 fun hpos => ?_
        obtain ⟨i, h1, h2, h3⟩ := hL.go_on hno hf h11 fun _ => hpos
        exact hk i h1 ⟨h2, h3⟩
      · omega
    simp at h12
    rcases hk with ⟨rfl, _⟩ | ⟨i, rfl, hi, hif, hig⟩
    · omega
    have hig' : i < g.length := by omega
    obtain ⟨x, hx⟩ : ∃ x, x = g.getD i 0 := ⟨_, rfl⟩
    have hgi : g[i] = x := by rw [hx, getD_get hig']
    have hus := hL.used i
    have hfi := hfb i
    obtain ⟨g2, hg2⟩ : ∃ g2, g2 = g.set i (x - 1) := ⟨_, rfl⟩
    have hmore := hL.more hi hif hig
    have htot := totN_set hig' hig
    rw [← hx] at hig hus hmore htot
    rw [← hg2] at hmore htot
    obtain ⟨t, ht⟩ : ∃ t, t = (arcD A i).t := ⟨_, rfl⟩
    rw [← ht] at hmore
    have hAt : A[i].t = t := by rw [ht, arcD_get hi]
    have hwx : IntKind.i64.wrap (x - 1) = x - 1 := w64 (by omega) (by omega)
    have hi0 : (0 : Int) ≤ i ∧ (i : Int) < A.length := by omega
    refine awp_skip ?_
    refine awp_regc ⟨73, [(1, .rs 0 0 A.length), (2, .pv (nC ⟨N, A⟩)), (5, .rs 17 0 l.length), (6, .rs 18 0 (l.length + 1)), (7, .I i)], [(0, some ⟨1, rowsI g2, 0⟩), (17, some ⟨1, rowsI V, 0⟩), (18, some ⟨1, rowsI Z, 0⟩)], 800⟩ rfl ?_ ?_
    · simp [hi0, hi, hgi, hig', hwx, splice]
      exact Le.go [(0, 0), (17, 17), (18, 18)] [] rfl rfl (by simp) (by simp [Function.comp_def, hg2])
    have htV : ∀ h : Int → List AV, List.take l.length (List.map h V) = List.map h (natL l) := fun h => by rw [← List.map_take, hV]
    have htZ : ∀ h : Int → List AV, List.take (l.length + 1) (List.map h Z) = List.map h (0 :: metA A l) := fun h => by rw [← List.map_take, hZ]
    obtain ⟨M, hM⟩ : ∃ M, M = (0 : Int) :: metA A l := ⟨_, rfl⟩
    have hMl : M.length = l.length + 1 := by rw [hM]; simp [metA]
    rw [← hM] at htZ hmore
    refine awp_dregc ⟨73, [(1, .rs 0 0 A.length), (2, .pv (nC ⟨N, A⟩)), (5, .rs 17 0 (l.length + 1)), (6, .rs 18 0 (l.length + 2)), (7, .I i)], [(0, some ⟨1, rowsI g2, 0⟩), (17, some ⟨1, rowsI (natL l ++ [(i : Int)]), 0⟩), (18, some ⟨1, rowsI (M ++ [t]), 0⟩)], 1000⟩ rfl ?_ ?_
    · simp [hi0, hi, htV, htZ, hAt]
      refine ⟨by omega, by omega, by omega, by omega, by omega, by omega, rfl, Le.go [(0, 0), (824, 17), (896, 18)] [] rfl rfl (by simp) (by simp [Function.comp_def])⟩
    refine awp_regc ⟨73, [(1, .rs 0 0 A.length), (2, .pv (nC ⟨N, A⟩)), (5, .rs 17 0 (l.length + 1)), (6, .rs 18 0 (l.length + 2)), (7, .I i), (8, .I 0)], [(0, some ⟨1, rowsI g2, 0⟩), (17, some ⟨1, rowsI (natL l ++ [(i : Int)]), 0⟩), (18, some ⟨1, rowsI (M ++ [t]), 0⟩)], 1100⟩ rfl ?_ ?_
    · simp
      exact Le.go [(0, 0), (17, 17), (18, 18)] [] rfl rfl (by simp) (by simp [Function.comp_def])
    refine awp_block ?_
    refine awp_loop (ι := Nat) (fun j => ⟨73, [(1, .rs 0 0 A.length), (2, .pv (nC ⟨N, A⟩)), (5, .rs 17 0 (l.length + 1)), (6, .rs 18 0 (l.length + 2)), (7, .I i), (8, .I j)], [(0, some ⟨1, rowsI g2, 0⟩), (17, some ⟨1, rowsI (natL l ++ [(i : Int)]), 0⟩), (18, some ⟨1, rowsI (M ++ [t]), 0⟩)], 1100⟩)
      (fun j => j ≤ l.length + 1 ∧ ∀ (q : Nat) (h : q < M.length), q < j → M[q] ≠ t) (fun j => l.length + 1 - j) 0 ⟨Nat.zero_le _, fun q _ h => by omega⟩ (Le.go [(0, 0), (17, 17), (18, 18)] [] rfl rfl (by simp) (by simp [Function.comp_def])) ?_
    rintro j ⟨hj, hjp⟩
    have hw2 : IntKind.i64.wrap (((l.length + 2 : Nat) : Int) - 1) = ((l.length + 1 : Nat) : Int) := by rw [w64 (by omega) (by omega)]; omega
    refine awp_seq ?_
    refine awp_regc ⟨73, [(1, .rs 0 0 A.length), (2, .pv (nC ⟨N, A⟩)), (5, .rs 17 0 (l.length + 1)), (6, .rs 18 0 (l.length + 2)), (7, .I i), (8, .I j), (51, .B (decide (j < l.length + 1)))], [(0, some ⟨1, rowsI g2, 0⟩), (17, some ⟨1, rowsI (natL l ++ [(i : Int)]), 0⟩), (18, some ⟨1, rowsI (M ++ [t]), 0⟩)], 1200⟩ rfl ?_ ?_
    · rw [show l.length + 2 = (l.length + 2 : Nat) from rfl]
      obtain ⟨L2, hL2⟩ : ∃ L2, L2 = l.length + 2 := ⟨_, rfl⟩
      rw [← hL2] at hw2 ⊢
      simp [hw2]
      exact Le.go [(0, 0), (17, 17), (18, 18)] [] rfl rfl (by simp <;> exact wkB (by rw [Bool.eq_iff_iff]; simp; omega)) (by simp [Function.comp_def])
    refine awp_cond _ rfl (fun h13 => ?_) fun h13 => ?_
    · simp at h13
      have hjM : j < M.length := by omega
      have hMj : (M ++ [t])[j]? = some M[j] := by rw [List.getElem?_append_left hjM, List.getElem?_eq_getElem hjM]
      have hj0 : (j : Int) < ((l.length + 2 : Nat) : Int) := by omega
      have hwj : IntKind.i64.wrap ((j : Int) + 1) = ((j + 1 : Nat) : Int) := by rw [w64 (by omega) (by omega)]; omega
      refine awp_skip ?_
      refine awp_seq ?_
      refine awp_block ?_
      refine awp_dregc ⟨73, [(1, .rs 0 0 A.length), (2, .pv (nC ⟨N, A⟩)), (5, .rs 17 0 (l.length + 1)), (6, .rs 18 0 (l.length + 2)), (7, .I i), (8, .I j), (64, .B (decide (M[j] = t)))], [(0, some ⟨1, rowsI g2, 0⟩), (17, some ⟨1, rowsI (natL l ++ [(i : Int)]), 0⟩), (18, some ⟨1, rowsI (M ++ [t]), 0⟩)], 1300⟩ rfl ?_ ?_
      · obtain ⟨L2, hL2⟩ : ∃ L2, L2 = l.length + 2 := ⟨_, rfl⟩
        rw [← hL2] at hj0 ⊢
        obtain ⟨Z2, hZ2⟩ : ∃ Z2, Z2 = M ++ [t] := ⟨_, rfl⟩
        rw [← hZ2] at hMj ⊢
        simp [hMj, hj0, hi0, hi, hAt]
        exact ⟨rfl, Le.go [(0, 0), (17, 17), (18, 18)] [] rfl rfl (by simp <;> exact wkB (by rw [Bool.eq_iff_iff]; simp)) (by simp [Function.comp_def])⟩
      refine awp_cond _ rfl (fun h14 => ?_) fun h14 => ?_
      · rw [decide_eq_true_eq] at h14
        have hl2 := hmore.2 j (by rw [List.getElem?_eq_getElem hjM, h14])
        obtain ⟨V2, hV2⟩ : ∃ V2, V2 = natL l ++ [(i : Int)] := ⟨_, rfl⟩
        obtain ⟨Z2, hZ2⟩ : ∃ Z2, Z2 = M ++ [t] := ⟨_, rfl⟩
        have hV2l : V2.length = l.length + 1 := by rw [hV2]; simp [natL]
        have hZ2l : Z2.length = l.length + 2 := by rw [hZ2]; simp [hMl]
        have hlj : (l.take j).length = j := by rw [List.length_take]; omega
        have hfin : WInv A f ⟨l.take j, t, g2, V2, Z2⟩ := by
          refine ⟨hl2, ?_, by simp only; omega, ?_, by simp only; omega⟩
          · simp only [hlj]
            rw [hV2, List.take_append_of_le_length (by rw [natL_len]; omega)]
            unfold natL
            rw [List.map_take]
          · simp only [hlj]
            rw [hZ2, List.take_append_of_le_length (by omega), hM, List.take_succ_cons]
            unfold metA
            rw [List.map_take]
        rw [← hV2, ← hZ2]
        obtain ⟨L2, hL2⟩ : ∃ L2, L2 = l.length + 2 := ⟨_, rfl⟩
        obtain ⟨L1, hL1⟩ : ∃ L1, L1 = l.length + 1 := ⟨_, rfl⟩
        rw [← hL2, ← hL1]
        refine awp_dregc ⟨73, [(1, .rs 0 0 A.length), (2, .pv (nC ⟨N, A⟩)), (5, .rs 17 0 j), (6, .rs 18 0 (j + 1))], [(0, some ⟨1, rowsI g2, 0⟩), (17, some ⟨1, rowsI V2, 0⟩), (18, some ⟨1, rowsI Z2, 0⟩)], 1500⟩ rfl ?_ ?_
        · simp
          refine ⟨by omega, ?_⟩
          rw [hwj]
          refine k_slh (j + 1) (i := 18) rfl rfl (by omega) ?_
          simp
          exact ⟨rfl, Le.go [(0, 0), (17, 17), (18, 18)] [] rfl rfl (by simp) (by simp [Function.comp_def])⟩
        refine awp_exit ?_
        refine miss (by decide) ?_
        refine hit ?_
        exact ⟨⟨l.take j, t, g2, V2, Z2⟩, hfin, htot, Le.go [(0, 0), (17, 17), (18, 18)] [] rfl rfl (by simp [hlj]) (by simp [Function.comp_def])⟩
      rw [decide_eq_false_iff_not] at h14
      refine awp_skip ?_
      refine awp_run (s := ?s40) rfl ?o40 ?q40
      case o40 => simp; rfl
      refine ⟨j + 1, ⟨by omega, fun q hq hlt => ?_⟩, by omega, Le.go [(0, 0), (17, 17), (18, 18)] [] rfl rfl (by simp [hwj]) (by simp [Function.comp_def])⟩
      rcases Nat.lt_succ_iff_lt_or_eq.1 hlt with h | rfl
      · exact hjp q hq h
      · exact h14
    simp at h13
    refine awp_exit ?_
    refine hit ?_
    have htn : t ∉ M := fun hm => by
      obtain ⟨q, hq, he⟩ := List.mem_iff_getElem.1 hm
      exact hjp q hq (by omega) he
    have hl2 := hmore.1 htn
    have hll : (l ++ [i]).length = l.length + 1 := by simp
    refine ⟨⟨l ++ [i], t, g2, natL l ++ [(i : Int)], M ++ [t]⟩, ⟨hl2, ?_, ?_, ?_, ?_⟩, htot, Le.go [(0, 0), (17, 17), (18, 18)] [] rfl rfl (by simp) (by simp [Function.comp_def])⟩
    · simp only
      rw [List.take_of_length_le (by simp [natL])]
      simp [natL]
    · simp [natL]
    · simp only
      rw [List.take_of_length_le (by simp [hMl]), metA_snoc, hM, ht]
      rfl
    · simp [hMl]
  simp at h11
  subst h11
  refine awp_exit ?_
  refine hit ?_
  refine awp_regc ⟨73, [(4, ints (natL l))], [(0, some ⟨1, rowsI g, 0⟩)], 500⟩ rfl ?_ ?_
  · simp
    have htk : ∀ h : Int → List AV, List.take l.length (List.map h V) = List.map h (natL l) := fun h => by rw [← List.map_take, hV]
    exact Le.go [(0, 0)] [17] rfl rfl (by simp [Function.comp_def, htk, hVl]) (by simp [Function.comp_def])
  refine awp_ret ?_
  exact PostX.mk (.inr rfl) (l, g) (.inr hL) (RetOk.k1 rfl (by simp) (by simp [Function.comp_def]))
end Go.Proofs.YtlhjelookgjmpaaGreat
namespace Go.Proofs.YtlhjelookgjmpaaGreat
open Go
theorem entry_ok (n t : Int) (hn0 : 0 ≤ n) (hn : n ≤ 64) (ht : 2 ≤ t) (ht2 : t < 2 + 2 * n) : ACalls Tryz.prog nref43_entry [.I n, .I t] [] (.I (if t % 2 = 0 then (t - 2) / 2 else -1)) [] := by
  refine sref43_entry.acalls (Nat.le_of_ble_eq_true rfl) (Nat.le_of_ble_eq_true rfl) (Nat.le_refl _) ?_
  show awp _ 0 _ _ ⟨22, [(0, .I n), (1, .I t)], [], 16⟩
  have hw1 : IntKind.i64.wrap (2 * n) = 2 * n := w64 (by omega) (by omega)
  have hw2 : IntKind.i64.wrap (2 + 2 * n) = 2 + 2 * n := w64 (by omega) (by omega)
  have hw3 : IntKind.i64.wrap (t - 2) = t - 2 := w64 (by omega) (by omega)
  have hd : Int.tdiv (t - 2) 2 = (t - 2) / 2 := Int.tdiv_eq_ediv_of_nonneg (by omega)
  have hw4 : IntKind.i64.wrap ((t - 2) / 2) = (t - 2) / 2 := w64 (by omega) (by omega)
  have hm : Int.tmod t 2 = t % 2 := Int.tmod_eq_emod_of_nonneg (by omega)
  have hw5 : IntKind.i64.wrap (t % 2) = t % 2 := w64 (by omega) (by omega)
  refine awp_regc ⟨22, [(0, .I n), (1, .I t)], [], 100⟩ rfl ?_ ?_
  · simp
    exact Le.go [] [] rfl rfl (by simp) (by simp)
  refine awp_seq ?_
  refine awp_regc ⟨22, [(1, .I t), (18, .B (decide (t % 2 = 0)))], [], 300⟩ rfl ?_ ?_
  · simp [ht, hm, hw5]
    refine gcase (fun hb => ?_) (fun hb => ?_) <;> (try rw [hb]) <;> (try simp at hb) <;> simp [hb, hw1, hw2, ht2]
    · exact Le.go [] [] rfl rfl (by simp) (by simp)
    · exact Le.go [] [] rfl rfl (by simp [hb]) (by simp)
  refine awp_cond _ rfl (fun h => ?_) fun h => ?_
  · rw [decide_eq_true_eq] at h
    rw [if_pos h]
    refine awp_regc ⟨22, [(4, .I ((t - 2) / 2))], [], 400⟩ rfl ?_ ?_
    · simp [hw3, hd, hw4]
      exact Le.go [] [] rfl rfl (by simp) (by simp)
    refine awp_ret ?_
    exact ⟨.inr rfl, RetOk.one (by simp)⟩
  rw [decide_eq_false_iff_not] at h
  rw [if_neg h]
  refine awp_skip ?_
  refine awp_regc ⟨22, [(4, .I (-1))], [], 400⟩ rfl ?_ ?_
  · simp
    exact Le.go [] [] rfl rfl (by simp) (by simp)
  refine awp_ret ?_
  exact ⟨.inr rfl, RetOk.one (by simp)⟩
theorem wayA_at {A : List Ed} : ∀ {l : List Nat} {u w : Int}, WayA A u l w → ∀ i (h : i < l.length), (arcD A l[i]).f = (u :: metA A l).getD i 0
  | i :: l, u, w, hw, 0, _ => hw.2.1
  | i :: l, u, w, hw, j + 1, h => by
    have := wayA_at hw.2.2 j (by simpa using h)
    simpa [metA] using this
theorem metA_at {A : List Ed} {u : Int} {l : List Nat} {i : Nat} (h : i < l.length) : (u :: metA A l).getD (i + 1) 0 = (arcD A l[i]).t := by
  rw [List.getD_cons_succ, List.getD_eq_getElem?_getD]
  unfold metA
  rw [List.getElem?_map, List.getElem?_eq_getElem h]
  rfl
theorem keysA_succ {A : List Ed} {l : List Nat} {i : Nat} (h : i < l.length) : keysA A (l.take (i + 1)) = keysA A (l.take i) ++ (keyT (arcD A l[i]).t).toList := by
  unfold keysA metA
  rw [List.take_succ_eq_append_getElem h, List.map_append, List.filterMap_append]
  simp only [List.map_cons, List.map_nil, List.filterMap_cons, List.filterMap_nil]
  cases keyT (arcD A l[i]).t <;> rfl
theorem keysA_len (A : List Ed) (l : List Nat) : (keysA A l).length ≤ l.length := by
  unfold keysA
  exact Nat.le_trans (List.length_filterMap_le ..) (by simp [metA])
set_option maxRecDepth 100000 in
set_option maxHeartbeats 4000000 in
theorem keys_ok (n : Int) (A : List Ed) (l : List Nat) (hn0 : 0 ≤ n) (hn : n ≤ 64) (hA : NetOk (2 + 2 * n).toNat A) (hal : A.length ≤ 1200) (hw : WayA A 0 l 1) (hll : l.length ≤ 130) : ACalls Tryz.prog nref43_Keys [.I n, eEs A, ints (natL l)] [] (.tup [ints (keysA A l), .I 0]) [] := by
  refine sref43_Keys.acalls (Nat.le_of_ble_eq_true rfl) (Nat.le_of_ble_eq_true rfl) (Nat.le_refl _) ?_
  show awp _ 0 _ _ ⟨87, [(0, .I n), (1, eEs A), (2, ints (natL l))], [], 16⟩
  have hl0 : 0 < l.length := by
    cases l with
    | nil => have : (0 : Int) = 1 := hw; omega
    | cons => simp
  have hnl := natL_len l
  have hlne : ¬ l = [] := fun e => by rw [e] at hl0; exact absurd hl0 (Nat.lt_irrefl _)
  refine awp_regc ⟨87, [(0, .I n), (1, eEs A), (2, ints (natL l))], [], 100⟩ rfl ?_ ?_
  · simp
    exact Le.go [] [] rfl rfl (by simp) (by simp)
  refine awp_seq ?_
  refine awp_regc ⟨87, [(0, .I n), (1, eEs A), (2, ints (natL l)), (17, .B false)], [], 200⟩ rfl ?_ ?_
  · have h1 : ¬ n < 0 := by omega
    have h2 : ¬ 64 < n := by omega
    simp [h1, h2]
    exact Le.go [] [] rfl rfl (by simp [h2]) (by simp)
  refine awp_cond _ rfl (fun h => by cases h) fun _ => ?_
  refine awp_skip ?_
  refine awp_seq ?_
  refine awp_regc ⟨87, [(0, .I n), (1, eEs A), (2, ints (natL l)), (20, .B false)], [], 300⟩ rfl ?_ ?_
  · simp
    exact Le.go [] [] rfl rfl (by simp <;> exact wkB (by simp [hnl, hlne])) (by simp)
  refine awp_cond _ rfl (fun h => by cases h) fun _ => ?_
  refine awp_skip ?_
  refine awp_regc ⟨87, [(0, .I n), (1, eEs A), (2, ints (natL l)), (8, .nilS)], [], 400⟩ rfl ?_ ?_
  · simp
    exact Le.go [] [] rfl rfl (by simp) (by simp)
  refine awp_regc ⟨87, [(0, .I n), (1, eEs A), (2, ints (natL l)), (8, .nilS), (9, .I 0)], [], 500⟩ rfl ?_ ?_
  · simp
    exact Le.go [] [] rfl rfl (by simp) (by simp)
  refine awp_seq ?_
  refine awp_regc ⟨87, [(0, .I n), (1, eEs A), (2, ints (natL l)), (8, .nilS), (9, .I 0), (10, .I 0)], [], 600⟩ rfl ?_ ?_
  · simp
    exact Le.go [] [] rfl rfl (by simp) (by simp)
  refine awp_block ?_
  refine awp_loop (ι := Nat) (fun i => ⟨87, [(0, .I n), (1, eEs A), (2, ints (natL l)), (8, .rs 17 0 (keysA A (l.take i)).length), (9, .I (((0 : Int) :: metA A l).getD i 0)), (10, .I i)], [(17, some ⟨1, rowsI (keysA A (l.take i)), 0⟩)], 600⟩)
    (fun i => i < l.length) (fun i => l.length - i) 0 hl0 (Le.lst [] [] [(17, 1)] rfl (by simp) (by simp) (by simp) (by simp) (by simp) (by simp) (by simp) (by simp [Up, keysA, metA]) (by simp [keysA, metA])) ?_
  intro i hi
  have hfr := wayA_at hw i hi
  have hmt := metA_at (A := A) (u := 0) hi
  have hks := keysA_succ (A := A) hi
  have hkl := keysA_len A (l.take i)
  have hkl2 := List.length_take_le' i l
  have hla := hw.mem _ (List.getElem_mem hi)
  obtain ⟨a, ha⟩ : ∃ a, a = l[i] := ⟨_, rfl⟩
  rw [← ha] at hfr hmt hks hla
  have harc := hA.arc _ (arcD_mem hla)
  rw [arcD_get hla] at hfr hmt hks harc
  obtain ⟨nd, hnd⟩ : ∃ nd, nd = ((0 : Int) :: metA A l).getD i 0 := ⟨_, rfl⟩
  rw [← hnd] at hfr ⊢
  obtain ⟨t, ht⟩ : ∃ t, t = A[a].t := ⟨_, rfl⟩
  rw [← ht] at hmt hks harc
  have hli : (natL l)[i]? = some (a : Int) := by unfold natL; rw [List.getElem?_map, List.getElem?_eq_getElem hi, ha]; rfl
  have ha0 : ¬ (a : Int) < 0 := by omega
  have ha1 : ¬ (A.length : Int) ≤ a := by omega
  obtain ⟨K, hK⟩ : ∃ K, K = keysA A (l.take i) := ⟨_, rfl⟩
  rw [← hK] at hks hkl ⊢
  have hwi : IntKind.i64.wrap ((i : Int) + 1) = ((i + 1 : Nat) : Int) := by rw [w64 (by omega) (by omega)]; omega
  have hwl : IntKind.i64.wrap ((l.length : Int) - 1) = ((l.length - 1 : Nat) : Int) := by rw [w64 (by omega) (by omega)]; omega
  refine awp_seq ?_
  refine awp_regc ⟨87, [(0, .I n), (1, eEs A), (2, ints (natL l)), (8, .rs 17 0 K.length), (9, .I nd), (10, .I i), (24, .B true)], [(17, some ⟨1, rowsI K, 0⟩)], 700⟩ rfl ?_ ?_
  · simp
    exact Le.go [(17, 17)] [] rfl rfl (by simp [hnl, hi]) (by simp [Function.comp_def])
  refine awp_cond _ rfl (fun _ => ?_) fun h => by cases h
  refine awp_skip ?_
  refine awp_seq ?_
  refine awp_block ?_
  refine awp_seq ?_
  refine awp_regc ⟨87, [(0, .I n), (1, eEs A), (2, ints (natL l)), (8, .rs 17 0 K.length), (9, .I nd), (10, .I i), (52, .B false)], [(17, some ⟨1, rowsI K, 0⟩)], 1000⟩ rfl ?_ ?_
  · simp [hli, ha0, ha1, hla, hfr]
    exact Le.go [(17, 17)] [] rfl rfl (by simp [ha1, hfr]) (by simp [Function.comp_def])
  refine awp_cond _ rfl (fun h => by cases h) fun _ => ?_
  refine awp_skip ?_
  refine awp_regc ⟨87, [(0, .I n), (1, eEs A), (2, ints (natL l)), (8, .rs 17 0 K.length), (9, .I t), (10, .I i)], [(17, some ⟨1, rowsI K, 0⟩)], 1200⟩ rfl ?_ ?_
  · simp [hli, hla, ← ht]
    exact Le.go [(17, 17)] [] rfl rfl (by simp) (by simp [Function.comp_def])
  refine awp_seq ?_
  refine awp_regc ⟨87, [(0, .I n), (1, eEs A), (2, ints (natL l)), (8, .rs 17 0 K.length), (9, .I t), (10, .I i), (65, .B (decide (i = l.length - 1)))], [(17, some ⟨1, rowsI K, 0⟩)], 1300⟩ rfl ?_ ?_
  · simp [hnl, hwl]
    exact Le.go [(17, 17)] [] rfl rfl (by simp <;> exact wkB (by rw [Bool.eq_iff_iff]; simp; omega)) (by simp [Function.comp_def])
  refine awp_cond _ rfl (fun h6 => ?_) fun h6 => ?_
  · rw [decide_eq_true_eq] at h6
    have h1 : t = 1 := by
      have h2 := hw.last
      have h3 : ((0 : Int) :: metA A l).getD (i + 1) 0 = 1 := by rw [List.getD_eq_getElem?_getD, show i + 1 = l.length by omega, h2]; rfl
      rw [← hmt, h3]
    subst h1
    have hend : keysA A l = K := by
      have h2 : l.take (i + 1) = l := List.take_of_length_le (by omega)
      rw [h2] at hks
      rw [hks]
      simp [keyT]
    rw [hend]
    refine awp_exit ?_
    refine miss (by decide) ?_
    refine hit ?_
    refine awp_seq ?_
    refine awp_regc ⟨87, [(8, .rs 17 0 K.length), (85, .B false)], [(17, some ⟨1, rowsI K, 0⟩)], 1400⟩ rfl ?_ ?_
    · simp
      exact Le.go [(17, 17)] [] rfl rfl (by simp) (by simp [Function.comp_def])
    refine awp_cond _ rfl (fun h => by cases h) fun _ => ?_
    refine awp_skip ?_
    refine awp_regc ⟨87, [(6, ints K), (7, .I 0)], [], 1500⟩ rfl ?_ ?_
    · simp
      exact Le.go [] [17] rfl rfl (by simp [take_map_len, Function.comp_def]) (by simp)
    refine awp_ret ?_
    exact ⟨.inr rfl, RetOk.out [] [] rfl (by simp) (by simp) (by simp) (by simp)⟩
  rw [decide_eq_false_iff_not] at h6
  have hi2 : i + 1 < l.length := by omega
  have hfr2 := wayA_at hw (i + 1) hi2
  rw [hmt] at hfr2
  have harc2 := hA.arc _ (arcD_mem (hw.mem _ (List.getElem_mem hi2)))
  rw [hfr2] at harc2
  have ht2 : 2 ≤ t ∧ t < 2 + 2 * n := by omega
  have hent := entry_ok n t hn0 hn ht2.1 ht2.2
  obtain ⟨e, he⟩ : ∃ e, e = if t % 2 = 0 then (t - 2) / 2 else -1 := ⟨_, rfl⟩
  rw [← he] at hent
  have hwa : IntKind.i64.wrap (2 * n) = 2 * n := w64 (by omega) (by omega)
  have hwb : IntKind.i64.wrap (2 + 2 * n) = 2 + 2 * n := w64 (by omega) (by omega)
  refine awp_skip ?_
  refine awp_seq ?_
  refine awp_regc ⟨87, [(0, .I n), (1, eEs A), (2, ints (natL l)), (8, .rs 17 0 K.length), (9, .I t), (10, .I i), (74, .B false)], [(17, some ⟨1, rowsI K, 0⟩)], 1500⟩ rfl ?_ ?_
  · have h1 : ¬ t < 2 := by omega
    have h2 : ¬ 2 + 2 * n ≤ t := by omega
    simp [h1, hwa, hwb]
    exact Le.go [(17, 17)] [] rfl rfl (by simp [h2]) (by simp [Function.comp_def])
  refine awp_cond _ rfl (fun h => by cases h) fun _ => ?_
  refine awp_skip ?_
  refine awp_regc ⟨87, [(0, .I n), (1, eEs A), (2, ints (natL l)), (8, .rs 17 0 K.length), (9, .I t), (10, .I i), (11, .I e)], [(17, some ⟨1, rowsI K, 0⟩)], 1600⟩ rfl ?_ ?_
  · simp
    refine call0e hent (by simp) ?_
    simp
    exact Le.go [(17, 17)] [] rfl rfl (by simp) (by simp [Function.comp_def])
  refine awp_regc ⟨87, [(0, .I n), (1, eEs A), (2, ints (natL l)), (8, .rs 17 0 K.length), (9, .I t), (10, .I i), (11, .I e), (79, .B (decide (0 ≤ e)))], [(17, some ⟨1, rowsI K, 0⟩)], 1700⟩ rfl ?_ ?_
  · simp
    exact Le.go [(17, 17)] [] rfl rfl (by simp) (by simp [Function.comp_def])
  refine awp_cond _ rfl (fun h7 => ?_) fun h7 => ?_
  · rw [decide_eq_true_eq] at h7
    have hev : t % 2 = 0 := Decidable.byContradiction fun h => by rw [if_neg h] at he; omega
    rw [if_pos hev] at he
    have hkt : keyT t = some e := by unfold keyT; rw [if_pos ⟨ht2.1, hev⟩, he]
    rw [hkt] at hks
    simp only [Option.toList] at hks
    refine awp_run (s := ?s40) rfl ?o40 ?q40
    case o40 => simp [take_map_len]; refine ⟨by omega, by omega, ?_⟩; rfl
    refine awp_run (s := ?s41) rfl ?o41 ?q41
    case o41 => simp; rfl
    exact ⟨i + 1, hi2, by omega, Le.go [(1724, 17)] [] rfl rfl (by simp [hks, hwi, ← hmt]) (by simp [hks, Function.comp_def])⟩
  · rw [decide_eq_false_iff_not] at h7
    have hod : ¬ t % 2 = 0 := fun h => by rw [if_pos h] at he; omega
    have hkt : keyT t = none := by unfold keyT; rw [if_neg fun h => hod h.2]
    rw [hkt] at hks
    simp only [Option.toList, List.append_nil] at hks
    refine awp_skip ?_
    refine awp_run (s := ?s42) rfl ?o42 ?q42
    case o42 => simp; rfl
    exact ⟨i + 1, hi2, by omega, Le.go [(17, 17)] [] rfl rfl (by simp [hks, hwi, ← hmt]) (by simp [hks, Function.comp_def])⟩
end Go.Proofs.YtlhjelookgjmpaaGreat
namespace Go.Proofs.YtlhjelookgjmpaaGreat
open Go
theorem capS_sum (S : Int → Bool) : ∀ A : List Ed, capS S A = (A.map fun e => if S e.f = true ∧ S e.t = false then e.v else 0).sum
  | [] => rfl
  | e :: A => by
    have ih := capS_sum S A
    unfold capS at ih ⊢
    simp only [List.map_cons, sumF, List.sum_cons]
    rw [ih]
theorem sum_zero {α : Type} {h : α → Int} : ∀ {l : List α}, (∀ x ∈ l, h x = 0) → (l.map h).sum = 0
  | [], _ => rfl
  | x :: l, hx => by
    rw [List.map_cons, List.sum_cons, hx x (List.mem_cons_self ..), sum_zero fun y hy => hx y (List.mem_cons_of_mem _ hy)]
    rfl
theorem sum_one {α : Type} {h : α → Int} : ∀ {l : List α}, (∀ x ∈ l, h x ≤ 1) → (l.map h).sum ≤ l.length
  | [], _ => Int.le_refl _
  | x :: l, hx => by
    have ih := sum_one (l := l) fun y hy => hx y (List.mem_cons_of_mem _ hy)
    have h1 := hx x (List.mem_cons_self ..)
    rw [List.map_cons, List.sum_cons, List.length_cons]
    omega
theorem maxF_few {g : Gr} {p : Pol} {ks : List Int} (hg : GrOk g) (hp : PolOk g.size p) (hk : ∀ x ∈ ks, 0 ≤ x ∧ x < g.size) : maxF (netN g) (netA g p ks) ≤ ks.length := by
  have hno := netA_ok hg hp hk
  obtain ⟨f, hf, hv⟩ := maxF_has hno
  rw [← hv]
  refine Int.le_trans (val_le_cut (S := fun x => decide (x ≠ 1)) hno hf (by simp) (by simp)) ?_
  rw [capS_sum]
  simp only [netA, netArcs, List.map_append, List.sum_append, List.map_map]
  have hle := level_ends hg p.lv
  rw [sum_zero, sum_zero, sum_zero (l := (levelG g p.lv).edges.filter _)]
  · have h1 := sum_one (h := (fun e : Ed => if (decide (e.f ≠ 1)) = true ∧ (decide (e.t ≠ 1)) = false then e.v else 0) ∘ fun x : Int => (⟨2 + 2 * x, 1, 1⟩ : Ed)) (l := ks.filter fun x => decide (0 < (capsL g p).getD x.toNat 0)) fun x _ => by
      simp only [Function.comp]
      split <;> omega
    have h2 := List.length_filter_le (fun x => decide (0 < (capsL g p).getD x.toNat 0)) ks
    omega
  · intro e he
    have := hle.2 e (List.mem_filter.1 he).1
    simp only [Function.comp]
    rw [if_neg]
    simp
    omega
  · intro i _
    simp only [Function.comp]
    rw [if_neg]
    simp
    omega
  · intro x _
    simp only [Function.comp]
    rw [if_neg]
    simp
    omega
theorem exF_val {N : Nat} {A : List Ed} {f : List Int} (hn : NetOk N A) : exF A f 0 = valF A f := by
  unfold exF valF
  rw [in_source hn]
  omega
end Go.Proofs.YtlhjelookgjmpaaGreat
namespace Go.Proofs.YtlhjelookgjmpaaGreat
open Go
section
variable {P : Program} {np id : Nat} {h : Nat → Option Ent} {K : AV → List Nat → List (Nat × Option Ent) → Prop} {f : FuncId} {first capt args args' : List AV} {res : AV}
theorem call0sZ {j : Nat} {ej : Ent} (hnp : np ≤ j) (hj : h j = some ej) (hc : ACalls P f args' [] res []) (he : (first ++ args ++ capt).map (conv [] [j] h 4) = args')
    (hk : K (conv (swp [] id) [] (fun _ => none) 4 res) [j] [(j, some { ej with ro := ej.rows.length })]) : aK P np id .call (.fn (.func f) first capt :: args) h K :=
  ⟨[], [j], true, args', [], res, [], by simp, by simp, by simpa using hnp, by rw [List.zipIdx_nil, he]; exact wkL_refl _, rfl, hc, by simp, .inl rfl, by simpa [swp, hj] using hk⟩
end
def PathsW (g : Gr) (p : Pol) (ks : List Int) (W : List (List Nat)) : Prop :=
  ∃ f g', GreatF g p (joinL ks) f ∧ TakenW (netN g) (netA g p (joinL ks)) f g' W ∧ (W.length : Int) = maxF (netN g) (netA g p (joinL ks)) ∧ ∀ w ∈ W, w.length ≤ 130
structure PSt where
  W : List (List Nat)
  g : List Int
set_option maxRecDepth 100000 in
set_option maxHeartbeats 4000000 in
theorem Paths43_a (g : Gr) (p : Pol) (ks : List Int) (hg : GrOk g) (hp : PolOk g.size p) (hs : p.seeds.length ≤ 64) (hk : ∀ x ∈ ks, 0 ≤ x ∧ x < g.size) (hkl : ks.length ≤ 1000) :
    ∃ W, PathsW g p ks W ∧ ACalls Tryz.prog nref43_Paths [eG g, eP p, ints ks] [] (pathsV (W.map (keysA (netA g p (joinL ks))))) [] := by
  refine sref43_Paths.acallsX (args := [eG g, eP p, ints ks]) (hs := []) (fun W => pathsV (W.map (keysA (netA g p (joinL ks))))) (fun _ => []) (fun W => PathsW g p ks W) (Nat.le_of_ble_eq_true rfl) (Nat.le_of_ble_eq_true rfl) (fun _ => Nat.le_refl _) ?_
  show awp _ 0 _ _ ⟨55, [(0, eG g), (1, eP p), (2, ints ks)], [], 16⟩
  have hJl := joinL_len ks
  have hJr := rise_join hk
  have hJk := rise_in hJr
  have hjn := join24_ok ks [] (by omega) (by simp)
  rw [List.append_nil] at hjn
  have hnet := ref14_Network_ok g p (joinL ks) hg hp hJr hs hJl
  rw [← netN_int hg] at hnet
  have hnv := netA_val hg hp hJk hs hJl
  have hno := netA_ok hg hp hJk
  have hmx := maxF_few hg hp hJk
  obtain ⟨f, ⟨hf1, hf2⟩, hmax⟩ := Max_a _ _ hnv
  have hgf : GreatF g p (joinL ks) f := ⟨hf1, hf2, (maxF_of hf1 hf2).symm⟩
  have hfl := hf1.fit.len
  have hsz := hg.1.1
  have hsz2 := hg.1.2.1
  have hR : ∀ W g', TakenW (netN g) (netA g p (joinL ks)) f g' W → (W.length : Int) = maxF (netN g) (netA g p (joinL ks)) → (∀ w ∈ W, w.length ≤ 130) → PathsW g p ks W := fun W g' h1 h2 h3 => ⟨f, g', hgf, h1, h2, h3⟩
  have hval := hgf.val
  rw [← exF_val hno] at hval
  have hN2 := netN_int hg
  have hNr : (2 + 2 * g.size).toNat = netN g := rfl
  obtain ⟨A, hA⟩ : ∃ A, A = netA g p (joinL ks) := ⟨_, rfl⟩
  obtain ⟨N, hN⟩ : ∃ N, N = netN g := ⟨_, rfl⟩
  obtain ⟨J, hJ⟩ : ∃ J, J = joinL ks := ⟨_, rfl⟩
  rw [show netArcs g p (capsL g p) (joinL ks) = A from hA.symm, ← hN, ← hJ] at hnet
  rw [← hA, ← hN] at hmax hno hnv hf1 hmx hR hval
  rw [← hA] at hfl ⊢
  rw [← hJ] at hjn hJl hmx
  rw [← hN] at hNr
  have hal := hnv.2.2.1
  simp only at hal
  have hfit := fit2_iff.1 hf1.fit
  have hkeys := fun l h1 h2 => keys_ok g.size A l hsz hsz2 (by rw [hNr]; exact hno) hal h1 h2
  have hfb : ∀ i, f.getD i 0 ≤ 1048576 := fun i => by
    by_cases hi : i < A.length
    · have h1 := hfit.2 i hi
      have h2 : (arcD A i).v ≤ 1048576 := (hnv.2.2.2 _ (arcD_mem hi)).2.2.2.2.2.2.2.2
      omega
    · rw [List.getD_eq_getElem?_getD, List.getElem?_eq_none (by omega)]
      simp
  have htf : ∀ h : Int → List AV, List.take A.length (List.map h f) = List.map h f := fun h => List.take_of_length_le (by simp; omega)
  refine awp_regc ⟨55, [(2, ints ks), (3, .pv (gC g)), (4, .pv (pC p))], [], 100⟩ rfl ?_ ?_
  · simp
    exact Le.go [] [16, 24] rfl rfl (by simp) (by simp)
  refine awp_dregc ⟨55, [(3, .pv (gC g)), (7, .pv (nC ⟨N, A⟩)), (8, .I 0)], [], 300⟩ rfl ?_ ?_
  · simp
    refine callN1w2 hjn (by simp [Wk.refl, ints, Wk.nil]) ?_
    simp
    refine call0sZ (j := 124) (by decide) rfl hnet (by simp [take_map_len, Function.comp_def]) ?_
    simp
    exact ⟨rfl, Le.go [] [164] rfl rfl (by simp) (by simp)⟩
  refine awp_seq ?_
  refine awp_regc ⟨55, [(3, .pv (gC g)), (7, .pv (nC ⟨N, A⟩)), (24, .B false)], [], 400⟩ rfl ?_ ?_
  · simp
    exact Le.go [] [] rfl rfl (by simp) (by simp)
  refine awp_cond _ rfl (fun h => by cases h) fun _ => ?_
  refine awp_skip ?_
  refine awp_regc ⟨55, [(3, .pv (gC g)), (7, .pv (nC ⟨N, A⟩)), (8, .I 0), (9, .rs 33 0 A.length)], [(33, some ⟨1, rowsI f, 0⟩)], 500⟩ rfl ?_ ?_
  · simp
    refine callN1 hmax (by simp) ?_
    simp
    exact Le.go [(408, 33)] [] rfl rfl (by simp) (by simp [Function.comp_def])
  refine awp_seq ?_
  refine awp_regc ⟨55, [(3, .pv (gC g)), (7, .pv (nC ⟨N, A⟩)), (9, .rs 33 0 A.length), (31, .B false)], [(33, some ⟨1, rowsI f, 0⟩)], 600⟩ rfl ?_ ?_
  · simp
    exact Le.go [(33, 33)] [] rfl rfl (by simp) (by simp [Function.comp_def])
  refine awp_cond _ rfl (fun h => by cases h) fun _ => ?_
  refine awp_skip ?_
  refine awp_regc ⟨55, [(3, .pv (gC g)), (7, .pv (nC ⟨N, A⟩)), (10, .rs 18 0 A.length)], [(18, some ⟨1, rowsI f, 0⟩)], 700⟩ rfl ?_ ?_
  · simp [hfl, htf]
    refine ⟨by omega, by omega, ?_⟩
    exact Le.go [(616, 18)] [] rfl rfl (by simp) (by simp [Function.comp_def])
  refine awp_regc ⟨55, [(3, .pv (gC g)), (7, .pv (nC ⟨N, A⟩)), (10, .rs 18 0 A.length), (11, .nilS)], [(18, some ⟨1, rowsI f, 0⟩)], 800⟩ rfl ?_ ?_
  · simp
    exact Le.go [(18, 18)] [] rfl rfl (by simp) (by simp [Function.comp_def])
  refine awp_block ?_
  refine awp_loop (ι := PSt) (fun s => ⟨55, [(3, .pv (gC g)), (7, .pv (nC ⟨N, A⟩)), (10, .rs 18 0 A.length), (11, .rs 17 0 s.W.length)], [(18, some ⟨1, rowsI s.g, 0⟩), (17, some ⟨1, s.W.map fun w => [ints (keysA A w)], 0⟩)], 800⟩)
    (fun s => TakenW N A f s.g s.W ∧ ∀ w ∈ s.W, w.length ≤ 130) (fun s => (exF A s.g 0).toNat) ⟨[], f⟩ ⟨TakenW.nil hf1.balF, by simp⟩
    (Le.lst [(18, 18)] [] [(17, 1)] rfl (by simp) (by simp) (by simp) (by simp) (by simp) (by simp) (by simp) (by simp [Up]) (by simp [Function.comp_def]; exact EntUp.rfl' (by simp))) ?_
  rintro ⟨W, g'⟩ ⟨hT, hWl⟩
  simp only at hT hWl
  have hgl := hT.bal.len
  have hgb : ∀ i, g'.getD i 0 ≤ 1048576 := fun i => by
    have h1 := hT.used i
    have h2 := hfb i
    omega
  obtain ⟨⟨l, g2⟩, hl, hcall⟩ := walk_a N A g' hnv hT.bal hgb
  simp only at hl hcall
  have he0 := ex0_nonneg hno hT.bal
  have hex := hT.ex
  have htg : ∀ h : Int → List AV, List.take A.length (List.map h g') = List.map h g' := fun h => List.take_of_length_le (by simp; omega)
  refine awp_block ?_
  refine awp_regc ⟨55, [(3, .pv (gC g)), (7, .pv (nC ⟨N, A⟩)), (10, .rs 18 0 A.length), (11, .rs 17 0 W.length), (12, ints (natL l))], [(18, some ⟨1, rowsI g2, 0⟩), (17, some ⟨1, W.map fun w => [ints (keysA A w)], 0⟩)], 900⟩ rfl ?_ ?_
  · simp
    refine callM1 (i := 18) rfl (e' := ⟨1, rowsI g', 0⟩) (by simp [Function.comp_def]) hcall (by simp) (by simp [htg, hgl]) ?_
    simp
    exact Le.go [(18, 18), (17, 17)] [] rfl rfl (by simp) (by simp [Function.comp_def])
  refine awp_seq ?_
  refine awp_regc ⟨55, [(3, .pv (gC g)), (7, .pv (nC ⟨N, A⟩)), (10, .rs 18 0 A.length), (11, .rs 17 0 W.length), (12, ints (natL l)), (40, .B (decide (l = [])))], [(18, some ⟨1, rowsI g2, 0⟩), (17, some ⟨1, W.map fun w => [ints (keysA A w)], 0⟩)], 1000⟩ rfl ?_ ?_
  · simp [natL_len]
    exact Le.go [(18, 18), (17, 17)] [] rfl rfl (by simp <;> exact wkB (by rw [Bool.eq_iff_iff]; simp [natL])) (by simp [Function.comp_def])
  refine awp_cond _ rfl (fun h5 => ?_) fun h5 => ?_
  · rw [decide_eq_true_eq] at h5
    subst h5
    have hz : exF A g' 0 ≤ 0 := by
      rcases hl with h | h
      · exact h.2
      · have : (0 : Int) = 1 := h.way
        omega
    refine awp_regc ⟨55, [(6, .vs 1 false (W.map fun w => [ints (keysA A w)]))], [], 1100⟩ rfl ?_ ?_
    · simp
      exact Le.go [] [17] rfl rfl (by simp [Function.comp_def, take_map_len]) (by simp)
    refine awp_ret ?_
    exact PostX.mk (.inr rfl) W (hR W g' hT (by omega) hWl) (RetOk.one (by rw [show pathsV (W.map (keysA A)) = .vs 1 false (W.map fun w => [ints (keysA A w)]) from by simp [Function.comp_def]]; simp))
  rw [decide_eq_false_iff_not] at h5
  have hla : LeftA A g' g2 l 1 := by
    rcases hl with h | h
    · exact absurd h.1 h5
    · exact h
  have hfew := hla.few hno
  have hn1 := hnv.2.1
  simp only at hn1
  have hky := hkeys l hla.way (by omega)
  have hmo := hT.more hla
  have hex2 := (hla.balF hT.bal).2
  have he2 := ex0_nonneg hno hmo.bal
  refine awp_skip ?_
  refine awp_regc ⟨55, [(3, .pv (gC g)), (7, .pv (nC ⟨N, A⟩)), (10, .rs 18 0 A.length), (11, .rs 17 0 W.length), (13, ints (keysA A l))], [(18, some ⟨1, rowsI g2, 0⟩), (17, some ⟨1, W.map fun w => [ints (keysA A w)], 0⟩)], 1200⟩ rfl ?_ ?_
  · simp
    refine call0e hky (by simp) ?_
    simp
    exact Le.go [(18, 18), (17, 17)] [] rfl rfl (by simp) (by simp [Function.comp_def])
  have htW : ∀ h : List Nat → List AV, List.take W.length (List.map h W) = List.map h W := fun h => List.take_of_length_le (by simp)
  refine awp_reg rfl ?_
  simp [htW]
  refine ⟨by omega, by omega, ⟨W ++ [l], g2⟩, ⟨hmo, fun w hw => ?_⟩, ?_, Le.go [(18, 18), (1224, 17)] [] rfl rfl (by simp) (by simp [Function.comp_def])⟩
  · rcases List.mem_append.1 hw with h | h
    · exact hWl w h
    · rw [List.mem_singleton] at h
      subst h
      omega
  · simp only
    omega
end Go.Proofs.YtlhjelookgjmpaaGreat
namespace Go.Proofs.YtlhjelookgjmpaaGreat
open Go
theorem Reached_ok (g : Gr) (p : Pol) (hg : GrOk g) (hs : p.seeds.length ≤ 1099511627776) :
    ACalls Tryz.prog nref43_Reached [eG g, eP p] [] (.rs 0 0 (ordL (levelG g p.lv) p.seeds).length) [some ⟨1, rowsI (ordL (levelG g p.lv) p.seeds), 0⟩] := by
  refine sref43_Reached.acalls (Nat.le_of_ble_eq_true rfl) (Nat.le_of_ble_eq_true rfl) (Nat.zero_le _) ?_
  show awp _ 0 _ _ ⟨12, [(0, eG g), (1, eP p)], [], 16⟩
  have hel := hg.edges_le
  have hgl := hg.gone_le
  have hord := ref12_Order_ok (g := levelG g p.lv) (S := p.seeds) (hg.level p.lv) hs
  refine rx (s := ?s1) [2, 3] [] [16, 24] rfl ?o1 ?q1
  case o1 => simp; rfl
  refine rkd (s := ?s2) [4] [88] rfl ?o2 ?q2
  case o2 =>
    simp
    refine call0e (ref11_Level_ok g p.lv (by omega) (by omega)) (by simp) ?_
    simp
    refine callN1 hord (by simp) ?_
    simp [Function.comp_def]
    refine ⟨rfl, ?_⟩
    rfl
  refine awp_ret ?_
  exact ⟨.inr rfl, RetOk.out [88] [] rfl (by simp) (by simp) (by simp) (by simp [Function.comp_def])⟩
def befL (o acc : List Int) (i : Nat) : List Int := (o.take i).filter fun k => decide (k ∈ acc)
theorem befL_succ {o acc : List Int} {i : Nat} (h : i < o.length) : befL o acc (i + 1) = befL o acc i ++ if o[i] ∈ acc then [o[i]] else [] := by
  unfold befL
  rw [List.take_succ_eq_append_getElem h, List.filter_append]
  simp only [List.filter_cons, List.filter_nil, decide_eq_true_eq]
theorem befL_len (o acc : List Int) (i : Nat) : (befL o acc i).length ≤ o.length := by
  unfold befL
  exact Nat.le_trans (List.length_filter_le ..) (List.length_take_le' ..)
theorem befL_mem {o acc : List Int} {i : Nat} {x : Int} (h : x ∈ befL o acc i) : x ∈ o := List.mem_of_mem_take (List.mem_filter.1 h).1
structure ForR (g : Gr) (p : Pol) (o : List Int) (key : Int) (x : Expl) : Prop where
  key_ : x.key = key
  bef : ∃ i, ∃ h : i < o.length, o[i] = key ∧ x.before = befL o (accR g p o) i
  yes : key ∈ accR g p o → x.acc = true ∧ x.side = [] ∧ ∃ W, PathsW g p (x.before ++ [key]) W ∧ x.paths = W.map (keysA (netA g p (joinL (x.before ++ [key]))))
  no : key ∉ accR g p o → x.acc = false ∧ x.paths = [] ∧ ∃ R, RefOk g p o R ∧ (key, x.side) ∈ R
theorem accR_pre {g : Gr} {p : Pol} : ∀ (b a : List Int), ∃ l, accR g p (a ++ b) = accR g p a ++ l
  | [], a => ⟨[], by simp⟩
  | x :: b, a => by
    obtain ⟨l, hl⟩ := accR_pre b (a ++ [x])
    rw [List.append_assoc] at hl
    have e : a ++ x :: b = a ++ ([x] ++ b) := rfl
    rw [e, hl]
    rcases accR_step (g := g) (p := p) a x with h | h
    · exact ⟨l, by rw [h]⟩
    · exact ⟨[x] ++ l, by rw [h, List.append_assoc]⟩
theorem accR_take {g : Gr} {p : Pol} {o : List Int} {n : Nat} {x : Int} (h : x ∈ accR g p (o.take n)) : x ∈ accR g p o := by
  obtain ⟨l, hl⟩ := accR_pre (g := g) (p := p) (o.drop n) (o.take n)
  rw [List.take_append_drop] at hl
  rw [hl]
  exact List.mem_append_left _ h
theorem wkX {k a b p s p' s' c : AV} (hp : Wk p p') (hs : Wk s s') : Wk (.tup [.agg [k, a, b, p, s], c]) (.tup [.agg [k, a, b, p', s'], c]) := by
  refine .tup _ _ rfl fun i => ?_
  match i with
  | 0 =>
    refine .agg _ _ rfl fun j => ?_
    match j with
    | 0 => exact .refl _
    | 1 => exact .refl _
    | 2 => exact .refl _
    | 3 => exact hp
    | 4 => exact hs
    | _ + 5 => exact .refl _
  | 1 => exact .refl _
  | _ + 2 => exact .refl _
structure FSt where
  j : Nat
  sd : List Int
set_option maxRecDepth 100000 in
set_option maxHeartbeats 4000000 in
theorem For_a (g : Gr) (p : Pol) (key : Int) (hg : GrOk g) (hp : PolOk g.size p) (hs : p.seeds.length ≤ 64) (hkey : key ∈ ordL (levelG g p.lv) p.seeds) :
    ∃ x, ForR g p (ordL (levelG g p.lv) p.seeds) key x ∧ ACalls Tryz.prog nref43_For [eG g, eP p, .I key] [] (.tup [eX x, .I 0]) [] := by
  refine sref43_For.acallsX (args := [eG g, eP p, .I key]) (hs := []) (fun x => .tup [eX x, .I 0]) (fun _ => []) (fun x : Expl => ForR g p (ordL (levelG g p.lv) p.seeds) key x) (Nat.le_of_ble_eq_true rfl) (Nat.le_of_ble_eq_true rfl) (fun _ => Nat.le_refl _) ?_
  show awp _ 0 _ _ ⟨114, [(0, eG g), (1, eP p), (2, .I key)], [], 16⟩
  have hsz := hg.1.1
  have hsz2 := hg.1.2.1
  have hel := hg.edges_le
  have hgl := hg.gone_le
  have hchk := ref13_Check_ok g p (by omega) (by omega) (by omega) (by have := hp.2.2.2.1; omega)
  rw [if_pos hg, if_pos hp] at hchk
  have hre := Reached_ok g p hg (by omega)
  obtain ⟨⟨R, fl⟩, ⟨hR, _⟩, hrun⟩ := Run_a g p hg hp hs
  simp only at hR hrun
  obtain ⟨o, ho⟩ : ∃ o, o = ordL (levelG g p.lv) p.seeds := ⟨_, rfl⟩
  have hor : ∀ k ∈ o, 0 ≤ k ∧ k < g.size := fun k hk => by rw [ho] at hk; have h := ordL_range hk; exact h
  have hol : o.length ≤ 64 := by
    have h1 := ordL_len (g := levelG g p.lv) (S := p.seeds) hsz
    have h2 : (levelG g p.lv).size = g.size := rfl
    rw [← ho] at h1
    omega
  rw [← ho] at hre hR hrun hkey ⊢
  obtain ⟨i0, hi0, hik⟩ := List.mem_iff_getElem.1 hkey
  have hRl := hR.len
  obtain ⟨acc, hacc⟩ : ∃ acc, acc = accR g p o := ⟨_, rfl⟩
  rw [← hacc] at hrun
  have hal : acc.length ≤ 64 := by rw [hacc]; exact Nat.le_trans (accR_len o) hol
  have hh1 := has24_ok o key (by omega)
  rw [decide_eq_true hkey] at hh1
  refine awp_regc ⟨114, [(2, .I key), (3, .pv (gC g)), (4, .pv (pC p)), (6, .pt 32 0 0)], [(32, some ⟨5, [[.I 0, .B false, .nilS, .nilS, .nilS]], 0⟩)], 100⟩ rfl ?_ ?_
  · simp
    exact Le.go [(32, 32)] [16, 24] rfl rfl (by simp) (by simp)
  refine awp_seq ?_
  refine awp_regc ⟨114, [(2, .I key), (3, .pv (gC g)), (4, .pv (pC p)), (6, .pt 32 0 0), (8, .I 0)], [(32, some ⟨5, [[.I 0, .B false, .nilS, .nilS, .nilS]], 0⟩)], 200⟩ rfl ?_ ?_
  · simp
    refine call0e hchk (by simp) ?_
    simp
    exact Le.go [(32, 32)] [] rfl rfl (by simp) (by simp)
  refine awp_regc ⟨114, [(2, .I key), (3, .pv (gC g)), (4, .pv (pC p)), (6, .pt 32 0 0), (19, .B false)], [(32, some ⟨5, [[.I 0, .B false, .nilS, .nilS, .nilS]], 0⟩)], 300⟩ rfl ?_ ?_
  · simp
    exact Le.go [(32, 32)] [] rfl rfl (by simp) (by simp)
  refine awp_cond _ rfl (fun h => by cases h) fun _ => ?_
  refine awp_skip ?_
  refine awp_regc ⟨114, [(2, .I key), (3, .pv (gC g)), (4, .pv (pC p)), (6, .pt 32 0 0), (9, ints o)], [(32, some ⟨5, [[.I 0, .B false, .nilS, .nilS, .nilS]], 0⟩)], 400⟩ rfl ?_ ?_
  · simp
    refine callN1 hre (by simp) ?_
    simp
    exact Le.go [(32, 32)] [316] rfl rfl (by simp [take_map_len, Function.comp_def]) (by simp)
  refine awp_seq ?_
  refine awp_regc ⟨114, [(2, .I key), (3, .pv (gC g)), (4, .pv (pC p)), (6, .pt 32 0 0), (9, ints o), (28, .B false)], [(32, some ⟨5, [[.I 0, .B false, .nilS, .nilS, .nilS]], 0⟩)], 500⟩ rfl ?_ ?_
  · simp
    refine call0e hh1 (by simp) ?_
    simp
    exact Le.go [(32, 32)] [] rfl rfl (by simp) (by simp)
  refine awp_cond _ rfl (fun h => by cases h) fun _ => ?_
  refine awp_skip ?_
  refine awp_regc ⟨114, [(2, .I key), (3, .pv (gC g)), (4, .pv (pC p)), (6, .pt 32 0 0), (9, ints o), (10, .pv [ints acc, ints fl, .vs 2 false (rowsR R)]), (11, .I 0)], [(32, some ⟨5, [[.I 0, .B false, .nilS, .nilS, .nilS]], 0⟩)], 600⟩ rfl ?_ ?_
  · simp
    refine call0e hrun (by simp) ?_
    simp
    exact Le.go [(32, 32)] [548] rfl rfl (by simp) (by simp)
  refine awp_seq ?_
  refine awp_regc ⟨114, [(2, .I key), (3, .pv (gC g)), (4, .pv (pC p)), (6, .pt 32 0 0), (9, ints o), (10, .pv [ints acc, ints fl, .vs 2 false (rowsR R)]), (37, .B false)], [(32, some ⟨5, [[.I 0, .B false, .nilS, .nilS, .nilS]], 0⟩)], 700⟩ rfl ?_ ?_
  · simp
    exact Le.go [(32, 32)] [] rfl rfl (by simp) (by simp)
  refine awp_cond _ rfl (fun h => by cases h) fun _ => ?_
  refine awp_skip ?_
  refine awp_regc ⟨114, [(2, .I key), (3, .pv (gC g)), (4, .pv (pC p)), (6, .pt 32 0 0), (9, ints o), (10, .pv [ints acc, ints fl, .vs 2 false (rowsR R)]), (12, .pt 50 0 0)], [(32, some ⟨5, [[.I 0, .B false, .nilS, .nilS, .nilS]], 0⟩), (50, some ⟨5, [[.I key, .B false, .nilS, .nilS, .nilS]], 0⟩)], 800⟩ rfl ?_ ?_
  · simp [splice]
    exact Le.go [(32, 32), (716, 50)] [] rfl rfl (by simp) (by simp)
  refine awp_seq ?_
  refine awp_regc ⟨114, [(2, .I key), (3, .pv (gC g)), (4, .pv (pC p)), (6, .pt 32 0 0), (9, ints o), (10, .pv [ints acc, ints fl, .vs 2 false (rowsR R)]), (12, .pt 50 0 0), (13, .I 0)], [(32, some ⟨5, [[.I 0, .B false, .nilS, .nilS, .nilS]], 0⟩), (50, some ⟨5, [[.I key, .B false, .nilS, .nilS, .nilS]], 0⟩)], 900⟩ rfl ?_ ?_
  · simp
    exact Le.go [(32, 32), (50, 50)] [] rfl rfl (by simp) (by simp)
  refine awp_block ?_
  refine awp_loop (ι := Nat) (fun i => ⟨114, [(2, .I key), (3, .pv (gC g)), (4, .pv (pC p)), (6, .pt 32 0 0), (9, ints o), (10, .pv [ints acc, ints fl, .vs 2 false (rowsR R)]), (12, .pt 50 0 0), (13, .I i)], [(32, some ⟨5, [[.I 0, .B false, .nilS, .nilS, .nilS]], 0⟩), (50, some ⟨5, [[.I key, .B false, .rs 51 0 (befL o acc i).length, .nilS, .nilS]], 0⟩), (51, some ⟨1, rowsI (befL o acc i), 0⟩)], 900⟩)
    (fun i => i < o.length ∧ ∀ q (h : q < o.length), q < i → o[q] ≠ key) (fun i => o.length - i) 0 ⟨by omega, fun q _ h => by omega⟩
    (Le.lst [(32, 32), (50, 50)] [] [(51, 1)] rfl (by simp) (by simp) (by simp) (by simp) (by simp) (by simp) (by simp) (by simp [Up]) (by simp [befL, EntUp, UpL, Up])) ?_
  rintro i ⟨hi, hip⟩
  have hbl := befL_len o acc i
  have hwi : IntKind.i64.wrap ((i : Int) + 1) = ((i + 1 : Nat) : Int) := by rw [w64 (by omega) (by omega)]; omega
  have hoi : o[i]? = some o[i] := List.getElem?_eq_getElem hi
  obtain ⟨k, hk⟩ : ∃ k, k = o[i] := ⟨_, rfl⟩
  rw [← hk] at hoi
  refine awp_seq ?_
  refine awp_regc ⟨114, [(2, .I key), (3, .pv (gC g)), (4, .pv (pC p)), (6, .pt 32 0 0), (9, ints o), (10, .pv [ints acc, ints fl, .vs 2 false (rowsR R)]), (12, .pt 50 0 0), (13, .I i), (53, .B (!decide (k = key)))], [(32, some ⟨5, [[.I 0, .B false, .nilS, .nilS, .nilS]], 0⟩), (50, some ⟨5, [[.I key, .B false, .rs 51 0 (befL o acc i).length, .nilS, .nilS]], 0⟩), (51, some ⟨1, rowsI (befL o acc i), 0⟩)], 1100⟩ rfl ?_ ?_
  · simp [hi, hoi, ← hk]
    exact Le.go [(32, 32), (50, 50), (51, 51)] [] rfl rfl (by simp <;> exact wkB (by rw [Bool.eq_iff_iff]; simp)) (by simp [Function.comp_def])
  refine awp_cond _ rfl (fun h17 => ?_) fun h17 => ?_
  · simp at h17
    have hi2 : i + 1 < o.length := by
      rcases Nat.lt_or_ge (i + 1) o.length with h | h
      · exact h
      · exfalso
        rcases Nat.lt_or_ge i0 i with h2 | h2
        · exact hip i0 hi0 h2 hik
        · obtain rfl : i0 = i := by omega
          exact h17 (hk.trans hik)
    have hsu := befL_succ (o := o) (acc := acc) hi
    rw [← hk] at hsu
    have hha := has24_ok acc k (by omega)
    refine awp_skip ?_
    refine awp_cut (ι := Unit) (fun _ => ⟨114, [(2, .I key), (3, .pv (gC g)), (4, .pv (pC p)), (6, .pt 32 0 0), (9, ints o), (10, .pv [ints acc, ints fl, .vs 2 false (rowsR R)]), (12, .pt 50 0 0), (13, .I i)], [(32, some ⟨5, [[.I 0, .B false, .nilS, .nilS, .nilS]], 0⟩), (50, some ⟨5, [[.I key, .B false, .rs 51 0 (befL o acc (i + 1)).length, .nilS, .nilS]], 0⟩), (51, some ⟨1, rowsI (befL o acc (i + 1)), 0⟩)], 2000⟩) (fun _ => True) ?_ fun _ _ => ?_
    · refine awp_block ?_
      refine awp_dregc ⟨114, [(2, .I key), (3, .pv (gC g)), (4, .pv (pC p)), (6, .pt 32 0 0), (9, ints o), (10, .pv [ints acc, ints fl, .vs 2 false (rowsR R)]), (12, .pt 50 0 0), (13, .I i), (62, .B (decide (k ∈ acc)))], [(32, some ⟨5, [[.I 0, .B false, .nilS, .nilS, .nilS]], 0⟩), (50, some ⟨5, [[.I key, .B false, .rs 51 0 (befL o acc i).length, .nilS, .nilS]], 0⟩), (51, some ⟨1, rowsI (befL o acc i), 0⟩)], 1200⟩ rfl ?_ ?_
      · simp [hi, hoi, ← hk]
        refine call0e hha (by simp) ?_
        simp
        exact ⟨rfl, Le.go [(32, 32), (50, 50), (51, 51)] [] rfl rfl (by simp) (by simp [Function.comp_def])⟩
      refine awp_cond _ rfl (fun h19 => ?_) fun h19 => ?_
      · rw [decide_eq_true_eq] at h19
        rw [if_pos h19] at hsu
        rw [hsu]
        obtain ⟨E, hE⟩ : ∃ E, E = befL o acc i := ⟨_, rfl⟩
        rw [← hE] at hbl ⊢
        refine awp_drw rfl ?_
        simp [hi, hoi, ← hk, take_map_len, splice]
        exact ⟨by omega, by omega, rfl, Le.go [(32, 32), (50, 50), (1256, 51)] [] rfl rfl (by simp) (by simp [Function.comp_def])⟩
      · rw [decide_eq_false_iff_not] at h19
        rw [if_neg h19, List.append_nil] at hsu
        rw [hsu]
        refine awp_skip ?_
        exact ⟨(), trivial, Le.go [(32, 32), (50, 50), (51, 51)] [] rfl rfl (by simp) (by simp [Function.comp_def])⟩
    refine awp_run (s := ?s20) rfl ?o20 ?q20
    case o20 => simp; rfl
    refine ⟨i + 1, ⟨hi2, fun q hq hlt => ?_⟩, by omega, Le.go [(32, 32), (50, 50), (51, 51)] [] rfl rfl (by simp [hwi]) (by simp [Function.comp_def])⟩
    rcases Nat.lt_succ_iff_lt_or_eq.1 hlt with h | rfl
    · exact hip q hq h
    · exact fun e => h17 (hk.trans e)
  simp at h17
  have hok : o[i] = key := hk.symm.trans h17
  clear hoi
  refine awp_exit ?_
  refine hit ?_
  obtain ⟨E, hE⟩ : ∃ E, E = befL o acc i := ⟨_, rfl⟩
  rw [← hE] at hbl ⊢
  have hha := has24_ok acc key (by omega)
  refine awp_seq ?_
  refine awp_regc ⟨114, [(2, .I key), (3, .pv (gC g)), (4, .pv (pC p)), (6, .pt 32 0 0), (10, .pv [ints acc, ints fl, .vs 2 false (rowsR R)]), (12, .pt 50 0 0), (75, .B (decide (key ∈ acc)))], [(32, some ⟨5, [[.I 0, .B false, .nilS, .nilS, .nilS]], 0⟩), (50, some ⟨5, [[.I key, .B false, .rs 51 0 E.length, .nilS, .nilS]], 0⟩), (51, some ⟨1, rowsI E, 0⟩)], 1200⟩ rfl ?_ ?_
  · simp
    refine call0e hha (by simp) ?_
    simp
    exact Le.go [(32, 32), (50, 50), (51, 51)] [] rfl rfl (by simp) (by simp [Function.comp_def])
  refine awp_cond _ rfl (fun h21 => ?_) fun h21 => ?_
  · rw [decide_eq_true_eq] at h21
    obtain ⟨W, hW, hpa⟩ := Paths43_a g p (E ++ [key]) hg hp hs (fun x hx => by
      rcases List.mem_append.1 hx with h | h
      · rw [hE] at h; exact hor x (befL_mem h)
      · rw [List.mem_singleton] at h; subst h; exact hor _ hkey) (by simp; omega)
    obtain ⟨Q, hQ⟩ : ∃ Q, Q = W.map (keysA (netA g p (joinL (E ++ [key])))) := ⟨_, rfl⟩
    rw [← hQ] at hpa
    refine awp_regc ⟨114, [(2, .I key), (3, .pv (gC g)), (4, .pv (pC p)), (6, .pt 32 0 0), (12, .pt 50 0 0)], [(32, some ⟨5, [[.I 0, .B false, .nilS, .nilS, .nilS]], 0⟩), (50, some ⟨5, [[.I key, .B true, .rs 51 0 E.length, .nilS, .nilS]], 0⟩), (51, some ⟨1, rowsI E, 0⟩)], 1300⟩ rfl ?_ ?_
    · simp [splice]
      exact Le.go [(32, 32), (50, 50), (51, 51)] [] rfl rfl (by simp) (by simp [Function.comp_def])
    refine awp_dregc ⟨114, [(6, .pt 32 0 0), (12, .pt 50 0 0)], [(32, some ⟨5, [[.I 0, .B false, .nilS, .nilS, .nilS]], 0⟩), (50, some ⟨5, [[.I key, .B true, ints E, pathsV Q, .nilS]], 0⟩)], 1600⟩ rfl ?_ ?_
    · have htE : ∀ h : Int → List AV, List.take (E.length + 1) (List.map h E) = List.map h E := fun h => List.take_of_length_le (by simp)
      simp [take_map_len]
      refine ⟨by omega, by omega, by omega, by omega, call0sZ (j := 1364) (by decide) rfl hpa (by simp [Function.comp_def, List.take_append, take_map_len, htE]) ?_⟩
      simp [splice]
      exact ⟨rfl, Le.go [(32, 32), (50, 50)] [51, 1364] rfl rfl (by simp) (by simp [Function.comp_def, take_map_len])⟩
    refine awp_regc ⟨114, [(6, .pt 32 0 0), (7, .I 0)], [(32, some ⟨5, [[.I key, .B true, ints E, pathsV Q, .nilS]], 0⟩)], 1700⟩ rfl ?_ ?_
    · simp [splice]
      exact Le.go [(32, 32)] [] rfl rfl (by simp) (by simp [Function.comp_def])
    refine awp_ret ?_
    rw [hacc] at h21
    refine PostX.mk (.inr rfl) ⟨key, true, E, Q, []⟩ ⟨rfl, ⟨i, hi, hok, by rw [← hacc]; exact hE⟩, fun _ => ⟨rfl, rfl, W, hW, hQ⟩, fun h => absurd h21 h⟩ (RetOk.out [] [] rfl (by simp) (by simp) (by simp; exact wkX (.refl _) (.nil _ _)) (by simp))
  rw [decide_eq_false_iff_not] at h21
  refine awp_skip ?_
  refine awp_seq ?_
  refine awp_regc ⟨114, [(2, .I key), (6, .pt 32 0 0), (10, .pv [ints acc, ints fl, .vs 2 false (rowsR R)]), (12, .pt 50 0 0), (14, .I 0)], [(32, some ⟨5, [[.I 0, .B false, .nilS, .nilS, .nilS]], 0⟩), (50, some ⟨5, [[.I key, .B false, ints E, .nilS, .nilS]], 0⟩)], 1300⟩ rfl ?_ ?_
  · simp
    exact Le.go [(32, 32), (50, 50)] [51] rfl rfl (by simp) (by simp [Function.comp_def, take_map_len])
  refine awp_block ?_
  refine awp_loop (ι := FSt) (fun s => ⟨114, [(2, .I key), (6, .pt 32 0 0), (10, .pv [ints acc, ints fl, .vs 2 false (rowsR R)]), (12, .pt 50 0 0), (14, .I s.j)], [(32, some ⟨5, [[.I 0, .B false, .nilS, .nilS, .nilS]], 0⟩), (50, some ⟨5, [[.I key, .B false, ints E, .nilS, ints s.sd]], 0⟩)], 1300⟩)
    (fun s => s.j ≤ R.length ∧ s.sd.length ≤ 130 ∧ ((key, s.sd) ∈ R ∨ ∀ q (h : q < R.length), q < s.j → R[q].1 ≠ key)) (fun s => R.length - s.j) ⟨0, []⟩ ⟨Nat.zero_le _, by simp, .inr fun q _ h => absurd h (Nat.not_lt_zero _)⟩
    (Le.lst [(32, 32), (50, 50)] [] [] rfl (by simp) (by simp) (by simp) (by simp) (by simp) (by simp) (by simp) (by simp [Up]) (by simp [EntUp, UpL, Up, Function.comp_def]; exact .nil _ _)) ?_
  rintro ⟨j, sd⟩ ⟨hj, hsl, hsd⟩
  simp only at hj hsl hsd
  refine awp_seq ?_
  refine awp_regc ⟨114, [(2, .I key), (6, .pt 32 0 0), (10, .pv [ints acc, ints fl, .vs 2 false (rowsR R)]), (12, .pt 50 0 0), (14, .I j), (93, .B (decide (j < R.length)))], [(32, some ⟨5, [[.I 0, .B false, .nilS, .nilS, .nilS]], 0⟩), (50, some ⟨5, [[.I key, .B false, ints E, .nilS, ints sd]], 0⟩)], 1500⟩ rfl ?_ ?_
  · simp
    exact Le.go [(32, 32), (50, 50)] [] rfl rfl (by simp) (by simp [Function.comp_def])
  refine awp_cond _ rfl (fun h27 => ?_) fun h27 => ?_
  · simp at h27
    have hwj : IntKind.i64.wrap ((j : Int) + 1) = ((j + 1 : Nat) : Int) := by rw [w64 (by omega) (by omega)]; omega
    obtain ⟨⟨k, side⟩, hks⟩ : ∃ r, r = R[j] := ⟨_, rfl⟩
    have hRj : R[j]? = some (k, side) := by rw [List.getElem?_eq_getElem h27, ← hks]
    have hkm : (k, side) ∈ R := by rw [hks]; exact List.getElem_mem h27
    obtain ⟨_, _, _, hnear⟩ := hR.right _ hkm
    have hsl2 := hnear.len
    simp only at hsl2
    refine awp_skip ?_
    refine awp_cut (ι := List Int) (fun sd => ⟨114, [(2, .I key), (6, .pt 32 0 0), (10, .pv [ints acc, ints fl, .vs 2 false (rowsR R)]), (12, .pt 50 0 0), (14, .I j)], [(32, some ⟨5, [[.I 0, .B false, .nilS, .nilS, .nilS]], 0⟩), (50, some ⟨5, [[.I key, .B false, ints E, .nilS, ints sd]], 0⟩)], 2500⟩)
      (fun sd => sd.length ≤ 130 ∧ ((key, sd) ∈ R ∨ ∀ q (h : q < R.length), q < j + 1 → R[q].1 ≠ key)) ?_ fun sd2 hsd2 => ?_
    · refine awp_block ?_
      refine awp_regc ⟨114, [(2, .I key), (6, .pt 32 0 0), (10, .pv [ints acc, ints fl, .vs 2 false (rowsR R)]), (12, .pt 50 0 0), (14, .I j), (103, .B (decide (k = key)))], [(32, some ⟨5, [[.I 0, .B false, .nilS, .nilS, .nilS]], 0⟩), (50, some ⟨5, [[.I key, .B false, ints E, .nilS, ints sd]], 0⟩)], 1700⟩ rfl ?_ ?_
      · simp [hRj]
        exact Le.go [(32, 32), (50, 50)] [] rfl rfl (by simp <;> exact wkB (by rw [Bool.eq_iff_iff]; simp)) (by simp [Function.comp_def])
      refine awp_cond _ rfl (fun h29 => ?_) fun h29 => ?_
      · rw [decide_eq_true_eq] at h29
        refine awp_reg rfl ?_
        simp [hRj, splice]
        exact ⟨by omega, by omega, side, ⟨hsl2, .inl (h29 ▸ hkm)⟩, Le.go [(32, 32), (50, 50)] [1756] rfl rfl (by simp) (by simp [Function.comp_def, take_map_len])⟩
      · rw [decide_eq_false_iff_not] at h29
        refine awp_skip ?_
        refine ⟨sd, ⟨hsl, ?_⟩, Le.go [(32, 32), (50, 50)] [] rfl rfl (by simp) (by simp [Function.comp_def])⟩
        rcases hsd with h | h
        · exact .inl h
        · refine .inr fun q hq hlt => ?_
          rcases Nat.lt_succ_iff_lt_or_eq.1 hlt with h2 | rfl
          · exact h q hq h2
          · rw [← hks]; exact h29
    refine awp_run (s := ?s30) rfl ?o30 ?q30
    case o30 => simp; rfl
    exact ⟨⟨j + 1, sd2⟩, ⟨h27, hsd2.1, hsd2.2⟩, Nat.sub_lt_sub_left h27 (Nat.lt_succ_self j), Le.go [(32, 32), (50, 50)] [] rfl rfl (by simp [hwj]) (by simp [Function.comp_def])⟩
  simp at h27
  have hin : (key, sd) ∈ R := by
    rcases hsd with h | h
    · exact h
    · rw [hacc] at h21
      obtain ⟨side, hs2⟩ := hR.all i hi (fun hm => h21 (by rw [← hok]; exact accR_take hm))
      rw [hok] at hs2
      obtain ⟨q, hq, he⟩ := List.mem_iff_getElem.1 hs2
      exact absurd (by rw [he]) (h q hq (by omega))
  refine awp_exit ?_
  refine hit ?_
  refine awp_regc ⟨114, [(6, .pt 32 0 0), (7, .I 0)], [(32, some ⟨5, [[.I key, .B false, ints E, .nilS, ints sd]], 0⟩)], 1700⟩ rfl ?_ ?_
  · simp [splice]
    exact Le.go [(32, 32)] [] rfl rfl (by simp) (by simp [Function.comp_def])
  refine awp_ret ?_
  rw [hacc] at h21
  refine PostX.mk (.inr rfl) ⟨key, false, E, [], sd⟩ ⟨rfl, ⟨i, hi, hok, by rw [← hacc]; exact hE⟩, fun h => absurd h h21, fun _ => ⟨rfl, rfl, R, hR, hin⟩⟩ (RetOk.out [] [] rfl (by simp) (by simp) (by simp; exact wkX (.nil _ _) (.refl _)) (by simp))
end Go.Proofs.YtlhjelookgjmpaaGreat
namespace Go.Proofs.YtlhjelookgjmpaaGreat
open Go
end Go.Proofs.YtlhjelookgjmpaaGreat
namespace Go.Proofs.YtlhjelookgjmpaaGreat
open Go
end Go.Proofs.YtlhjelookgjmpaaGreat
namespace Go.Proofs.YtlhjelookgjmpaaGreat
open Go
end Go.Proofs.YtlhjelookgjmpaaGreat
namespace Go.Proofs.YtlhjelookgjmpaaGreat
open Go
end Go.Proofs.YtlhjelookgjmpaaGreat
namespace Go.Proofs.YtlhjelookgjmpaaGreat
open Go
end Go.Proofs.YtlhjelookgjmpaaGreat
namespace Go.Proofs.YtlhjelookgjmpaaGreat
open Go
theorem wkX0 {k a b p s b' p' s' c : AV} (hb : Wk b b') (hp : Wk p p') (hs : Wk s s') : Wk (.tup [.agg [k, a, b, p, s], c]) (.tup [.agg [k, a, b', p', s'], c]) := by
  refine .tup _ _ rfl fun i => ?_
  match i with
  | 0 =>
    refine .agg _ _ rfl fun j => ?_
    match j with
    | 0 => exact .refl _
    | 1 => exact .refl _
    | 2 => exact hb
    | 3 => exact hp
    | 4 => exact hs
    | _ + 5 => exact .refl _
  | 1 => exact .refl _
  | _ + 2 => exact .refl _
set_option maxRecDepth 100000 in
set_option maxHeartbeats 4000000 in
theorem For_no (g : Gr) (p : Pol) (key : Int) (hg : GrOk g) (hp : PolOk g.size p) (hs : p.seeds.length ≤ 64) (hkey : key ∉ ordL (levelG g p.lv) p.seeds) :
    ACalls Tryz.prog nref43_For [eG g, eP p, .I key] [] (.tup [eX ⟨0, false, [], [], []⟩, .I 11]) [] := by
  refine sref43_For.acalls (Nat.le_of_ble_eq_true rfl) (Nat.le_of_ble_eq_true rfl) (Nat.le_refl _) ?_
  show awp _ 0 _ _ ⟨114, [(0, eG g), (1, eP p), (2, .I key)], [], 16⟩
  have hsz := hg.1.1
  have hsz2 := hg.1.2.1
  have hel := hg.edges_le
  have hgl := hg.gone_le
  have hchk := ref13_Check_ok g p (by omega) (by omega) (by omega) (by have := hp.2.2.2.1; omega)
  rw [if_pos hg, if_pos hp] at hchk
  have hre := Reached_ok g p hg (by omega)
  obtain ⟨o, ho⟩ : ∃ o, o = ordL (levelG g p.lv) p.seeds := ⟨_, rfl⟩
  have hor : ∀ k ∈ o, 0 ≤ k ∧ k < g.size := fun k hk => by rw [ho] at hk; have h := ordL_range hk; exact h
  have hol : o.length ≤ 64 := by
    have h1 := ordL_len (g := levelG g p.lv) (S := p.seeds) hsz
    have h2 : (levelG g p.lv).size = g.size := rfl
    rw [← ho] at h1
    omega
  rw [← ho] at hre hkey
  have hh1 := has24_ok o key (by omega)
  rw [decide_eq_false hkey] at hh1
  refine awp_regc ⟨114, [(2, .I key), (3, .pv (gC g)), (4, .pv (pC p)), (6, .pt 32 0 0)], [(32, some ⟨5, [[.I 0, .B false, .nilS, .nilS, .nilS]], 0⟩)], 100⟩ rfl ?_ ?_
  · simp
    exact Le.go [(32, 32)] [16, 24] rfl rfl (by simp) (by simp)
  refine awp_seq ?_
  refine awp_regc ⟨114, [(2, .I key), (3, .pv (gC g)), (4, .pv (pC p)), (6, .pt 32 0 0), (8, .I 0)], [(32, some ⟨5, [[.I 0, .B false, .nilS, .nilS, .nilS]], 0⟩)], 200⟩ rfl ?_ ?_
  · simp
    refine call0e hchk (by simp) ?_
    simp
    exact Le.go [(32, 32)] [] rfl rfl (by simp) (by simp)
  refine awp_regc ⟨114, [(2, .I key), (3, .pv (gC g)), (4, .pv (pC p)), (6, .pt 32 0 0), (19, .B false)], [(32, some ⟨5, [[.I 0, .B false, .nilS, .nilS, .nilS]], 0⟩)], 300⟩ rfl ?_ ?_
  · simp
    exact Le.go [(32, 32)] [] rfl rfl (by simp) (by simp)
  refine awp_cond _ rfl (fun h => by cases h) fun _ => ?_
  refine awp_skip ?_
  refine awp_regc ⟨114, [(2, .I key), (3, .pv (gC g)), (4, .pv (pC p)), (6, .pt 32 0 0), (9, ints o)], [(32, some ⟨5, [[.I 0, .B false, .nilS, .nilS, .nilS]], 0⟩)], 400⟩ rfl ?_ ?_
  · simp
    refine callN1 hre (by simp) ?_
    simp
    exact Le.go [(32, 32)] [316] rfl rfl (by simp [take_map_len, Function.comp_def]) (by simp)
  refine awp_seq ?_
  refine awp_regc ⟨114, [(2, .I key), (3, .pv (gC g)), (4, .pv (pC p)), (6, .pt 32 0 0), (9, ints o), (28, .B true)], [(32, some ⟨5, [[.I 0, .B false, .nilS, .nilS, .nilS]], 0⟩)], 500⟩ rfl ?_ ?_
  · simp
    refine call0e hh1 (by simp) ?_
    simp
    exact Le.go [(32, 32)] [] rfl rfl (by simp) (by simp)
  refine awp_cond _ rfl (fun _ => ?_) fun h => by cases h
  refine awp_regc ⟨114, [(6, .pt 32 0 0), (7, .I 11)], [(32, some ⟨5, [[.I 0, .B false, .nilS, .nilS, .nilS]], 0⟩)], 700⟩ rfl ?_ ?_
  · simp [splice]
    exact Le.go [(32, 32)] [] rfl rfl (by simp) (by simp)
  refine awp_ret ?_
  exact ⟨.inr rfl, RetOk.out [] [] rfl (by simp) (by simp) (by simp; exact wkX0 (.nil _ _) (.nil _ _) (.nil _ _)) (by simp)⟩
end Go.Proofs.YtlhjelookgjmpaaGreat
namespace Go.Proofs.YtlhjelookgjmpaaGreat
open Go
structure ExplB (x : Expl) (m : Nat) : Prop where
  b : x.before.length ≤ m
  p : x.paths.length ≤ m
  w : ∀ w ∈ x.paths, w.length ≤ m
  s : x.side.length ≤ m
end Go.Proofs.YtlhjelookgjmpaaGreat
namespace Go.Proofs.YtlhjelookgjmpaaGreat
open Go
variable {g : Gr} {p : Pol}
theorem accR_app : ∀ (b a : List Int), ∃ l, accR g p (a ++ b) = accR g p a ++ l ∧ ∀ x ∈ l, x ∈ b
  | [], a => ⟨[], by simp, by simp⟩
  | x :: b, a => by
    obtain ⟨l, hl, hm⟩ := accR_app b (a ++ [x])
    have e : a ++ x :: b = a ++ [x] ++ b := by simp
    rw [e, hl]
    rcases accR_step (g := g) (p := p) a x with h | h
    · exact ⟨l, by rw [h], fun y hy => List.mem_cons_of_mem _ (hm y hy)⟩
    · refine ⟨[x] ++ l, by rw [h, List.append_assoc], fun y hy => ?_⟩
      rcases List.mem_append.1 hy with h | h
      · rw [List.mem_singleton.1 h]; exact List.mem_cons_self
      · exact List.mem_cons_of_mem _ (hm y h)
theorem accR_iff {o : List Int} (hn : o.Nodup) {i : Nat} (h : i < o.length) : o[i] ∈ accR g p o ↔ CanServe g p (joinL (accR g p (o.take i) ++ [o[i]])) := by
  have hs : o.take (i + 1) = o.take i ++ [o[i]] := List.take_succ_eq_append_getElem h
  obtain ⟨l, hl, hm⟩ := accR_app (g := g) (p := p) (o.drop (i + 1)) (o.take (i + 1))
  rw [List.take_append_drop] at hl
  have hni : o[i] ∉ o.take i := fun hx => by
    obtain ⟨j, hj, e⟩ := List.mem_take_iff_getElem.1 hx
    have := (List.getElem_inj hn).1 e
    omega
  have hnd : o[i] ∉ o.drop (i + 1) := fun hx => by
    obtain ⟨j, hj, e⟩ := List.mem_drop_iff_getElem.1 hx
    have := (List.getElem_inj hn).1 e
    omega
  constructor
  · intro hx
    by_cases hc : CanServe g p (joinL (accR g p (o.take i) ++ [o[i]]))
    · exact hc
    · rw [hl, hs, accR_no hc] at hx
      rcases List.mem_append.1 hx with h1 | h1
      · exact absurd (accR_mem h1) hni
      · exact absurd (hm _ h1) hnd
  · intro hc
    rw [hl, hs, accR_yes hc]
    exact List.mem_append_left _ (List.mem_append_right _ (List.mem_singleton.2 rfl))
theorem befL_acc {o : List Int} (hn : o.Nodup) : ∀ i, i ≤ o.length → befL o (accR g p o) i = accR g p (o.take i)
  | 0, _ => by simp [befL, accR_nil]
  | i + 1, h => by
    have hi : i < o.length := h
    rw [befL_succ hi, befL_acc hn i (by omega), List.take_succ_eq_append_getElem hi]
    by_cases hc : CanServe g p (joinL (accR g p (o.take i) ++ [o[i]]))
    · rw [if_pos ((accR_iff hn hi).2 hc), accR_yes hc]
    · rw [if_neg (fun h => hc ((accR_iff hn hi).1 h)), accR_no hc, List.append_nil]
theorem pairwise_nodup {l : List Int} (h : l.Pairwise (· < ·)) : l.Nodup := h.imp fun h => by omega
theorem join_perm {a : List Int} (hn : a.Nodup) (hr : ∀ k ∈ a, 0 ≤ k ∧ k < 64) : a.Perm (joinL a) := by
  rw [← srt_join hn hr]
  exact (srt_perm a).symm
structure AtO (g : Gr) (p : Pol) (key : Int) (before : List Int) : Prop where
  mem : key ∈ ordL (levelG g p.lv) p.seeds
  bef : BeforeP (ordL (levelG g p.lv) p.seeds) before key
  nodup : (before ++ [key]).Nodup
  range : ∀ k ∈ before ++ [key], 0 ≤ k ∧ k < g.size
  serve : key ∈ accR g p (ordL (levelG g p.lv) p.seeds) ↔ CanServe g p (joinL (before ++ [key]))
theorem aheadO_take {o : List Int} (hn : o.Nodup) {i : Nat} (h : i < o.length) : aheadO o o[i] = o.take i := by
  unfold aheadO
  rw [List.takeWhile_eq_take_findIdx_not]
  congr 1
  rw [List.findIdx_eq h]
  refine ⟨by simp, fun j hj => ?_⟩
  have : o[j] ≠ o[i] := fun e => by have := (List.getElem_inj hn).1 e; omega
  simp [this]
theorem ForR.at_ {key : Int} {x : Expl} (h : ForR g p (ordL (levelG g p.lv) p.seeds) key x) (hg : GrOk g) : x.key = key ∧ AtO g p key x.before ∧ ∃ i, ∃ hi : i < (ordL (levelG g p.lv) p.seeds).length, (ordL (levelG g p.lv) p.seeds)[i] = key ∧ x.before = accR g p ((ordL (levelG g p.lv) p.seeds).take i) := by
  have hn := ordL_nodup (levelG g p.lv) p.seeds
  have hr : ∀ k ∈ ordL (levelG g p.lv) p.seeds, 0 ≤ k ∧ k < g.size := fun k hk => by have h := ordL_range hk; exact h
  obtain ⟨o, ho⟩ : ∃ o, o = ordL (levelG g p.lv) p.seeds := ⟨_, rfl⟩
  rw [← ho] at h hn hr ⊢
  obtain ⟨i, hi, hk, hb⟩ := h.bef
  rw [befL_acc hn i (by omega)] at hb
  refine ⟨h.key_, ?_, i, hi, hk, hb⟩
  have hsub : x.before.Sublist (aheadO o key) := by
    rw [hb, ← hk, aheadO_take hn hi]
    exact accR_sub _ _ rfl
  refine ⟨by rw [← ho, ← hk]; exact List.getElem_mem hi, by rw [← ho]; exact hsub, BeforeP.nodup (order := o) hsub hn, fun k hkm => ?_, ?_⟩
  · rcases List.mem_append.1 hkm with h1 | h1
    · refine hr k ?_
      rw [hb] at h1
      exact List.mem_of_mem_take (accR_mem h1)
    · rw [List.mem_singleton.1 h1, ← hk]; exact hr _ (List.getElem_mem hi)
  · rw [← ho, hb, ← hk]
    exact accR_iff hn hi
theorem AtO.joined {key : Int} {before : List Int} (h : AtO g p key before) (hg : GrOk g) : (joinL (before ++ [key])).Nodup ∧ (before ++ [key]).Perm (joinL (before ++ [key])) ∧ (∀ x ∈ joinL (before ++ [key]), 0 ≤ x ∧ x < g.size) := by
  have h64 := hg.1.2.1
  have hr : ∀ k ∈ before ++ [key], 0 ≤ k ∧ k < 64 := fun k hk => ⟨(h.range k hk).1, by have := (h.range k hk).2; omega⟩
  exact ⟨pairwise_nodup (joinL_lt _), join_perm h.nodup hr, fun x hx => h.range x (mem_joinL.1 hx).1⟩
theorem paths_serve {key : Int} {before : List Int} {W : List (List Nat)} (hg : GrOk g) (hp : PolOk g.size p) (ha : AtO g p key before) (hc : CanServe g p (joinL (before ++ [key]))) (hW : PathsW g p (before ++ [key]) W) :
    ServesR g p.lv p.seeds (ordL (levelG g p.lv) p.seeds) (capsL g p) (W.map (keysA (netA g p (joinL (before ++ [key]))))) (before ++ [key]) := by
  obtain ⟨f, g', hgf, ht, hl, _⟩ := hW
  obtain ⟨j1, j2, j3⟩ := ha.joined hg
  refine ways_checked hg hp j1 (fun x hx => (j3 x hx).1) j2 hgf.ok.fit ht.ways (fun i _ => ?_) ?_
  · have h1 := ht.used i
    have h2 := ht.bal.nonneg i
    omega
  · have : maxF (netN g) (netA g p (joinL (before ++ [key]))) = (joinL (before ++ [key])).length := hc
    omega
theorem ForR.yes_serves {key : Int} {x : Expl} (h : ForR g p (ordL (levelG g p.lv) p.seeds) key x) (hg : GrOk g) (hp : PolOk g.size p) (hk : key ∈ accR g p (ordL (levelG g p.lv) p.seeds)) :
    ServesR g p.lv p.seeds (ordL (levelG g p.lv) p.seeds) (capsL g p) x.paths (x.before ++ [key]) := by
  obtain ⟨_, ha, _⟩ := h.at_ hg
  obtain ⟨_, _, W, hW, hpa⟩ := h.yes hk
  rw [hpa]
  exact paths_serve hg hp ha (ha.serve.1 hk) hW
theorem ForR.no_proves {key : Int} {x : Expl} (h : ForR g p (ordL (levelG g p.lv) p.seeds) key x) (hg : GrOk g) (hp : PolOk g.size p) (hk : key ∉ accR g p (ordL (levelG g p.lv) p.seeds)) :
    ProvesP ⟨2 + 2 * g.size, netArcs g p (capsL g p) (joinL (x.before ++ [key]))⟩ x.side x.before.length := by
  obtain ⟨_, ha, i, hi, hik, hib⟩ := h.at_ hg
  obtain ⟨_, _, R, hR, hs⟩ := h.no hk
  obtain ⟨i', hi', hik', hn⟩ := hR.right _ hs
  simp only at hik' hn
  have hii : i' = i := (List.getElem_inj (ordL_nodup (levelG g p.lv) p.seeds)).1 (hik'.trans hik.symm)
  subst hii
  rw [← hib] at hn
  obtain ⟨j1, j2, j3⟩ := ha.joined hg
  have hfew := maxF_few hg hp j3
  have hno : maxF (netN g) (netA g p (joinL (x.before ++ [key]))) ≠ (joinL (x.before ++ [key])).length := hn.no
  have hlen := j2.length_eq
  rw [List.length_append, List.length_singleton] at hlen
  have hcut := hn.cut
  have hok := hn.ok
  rw [netN_int hg] at hok
  exact ⟨hok, by rw [hcut]; omega⟩
theorem ForR.checked {key : Int} {x : Expl} (h : ForR g p (ordL (levelG g p.lv) p.seeds) key x) (hg : GrOk g) (hp : PolOk g.size p) : checkC g p x = 0 := by
  rw [check_same hg.1.2.1]
  obtain ⟨hk, ha, _⟩ := h.at_ hg
  unfold checkR
  simp only
  rw [hk, if_neg (by simpa using ha.mem)]
  by_cases hacc : key ∈ accR g p (ordL (levelG g p.lv) p.seeds)
  · obtain ⟨h1, h2, _⟩ := h.yes hacc
    rw [if_neg (by rw [h1, h2]; simpa using ha.bef), if_pos h1, if_pos (h.yes_serves hg hp hacc)]
  · obtain ⟨h1, h2, _⟩ := h.no hacc
    rw [if_neg (by rw [h1, h2]; simpa using ha.bef), if_neg (by rw [h1]; simp), if_pos (h.no_proves hg hp hacc)]
theorem ForR.bounds {key : Int} {x : Expl} (h : ForR g p (ordL (levelG g p.lv) p.seeds) key x) (hg : GrOk g) (hp : PolOk g.size p) : ExplB x 200 := by
  have hol : (ordL (levelG g p.lv) p.seeds).length ≤ 64 := by
    have h1 := ordL_len (g := levelG g p.lv) (S := p.seeds) hg.1.1
    have h2 : (levelG g p.lv).size = g.size := rfl
    have h3 := hg.1.2.1
    omega
  obtain ⟨_, ha, i, hi, hik, hib⟩ := h.at_ hg
  obtain ⟨j1, j2, j3⟩ := ha.joined hg
  have hbl : x.before.length ≤ 64 := by
    rw [hib]
    refine Nat.le_trans (accR_len _) ?_
    rw [List.length_take]; omega
  by_cases hacc : key ∈ accR g p (ordL (levelG g p.lv) p.seeds)
  · obtain ⟨_, h2, W, ⟨f, g', _, _, hl, hw⟩, hpa⟩ := h.yes hacc
    have hfew := maxF_few hg hp j3
    have hjl := joinL_len (x.before ++ [key])
    refine ⟨by omega, by rw [hpa, List.length_map]; omega, fun w hw' => ?_, by rw [h2]; simp⟩
    rw [hpa] at hw'
    obtain ⟨v, hv, rfl⟩ := List.mem_map.1 hw'
    have := keysA_len (netA g p (joinL (x.before ++ [key]))) v
    have := hw v hv
    omega
  · obtain ⟨_, h2, R, hR, hs⟩ := h.no hacc
    obtain ⟨i', hi', hik', hn⟩ := hR.right _ hs
    have := hn.len
    simp only at this
    refine ⟨by omega, by rw [h2]; simp, fun w hw => ?_, by omega⟩
    rw [h2] at hw
    cases hw
end Go.Proofs.YtlhjelookgjmpaaGreat
namespace Go.Proofs.YtlhjelookgjmpaaGreat
open Go
def gW : Gr := ⟨3, [⟨0, 1, 1⟩, ⟨0, 2, 1⟩], []⟩
def pW : Pol := ⟨[0], [2], 1⟩
theorem gW_ok : GrOk gW := by
  refine ⟨⟨by decide +revert, by decide +revert, by decide +revert, fun i h => by simp [gW] at h⟩, fun i h => ?_⟩
  have : i = 0 ∨ i = 1 := by simp [gW] at h; omega
  rcases this with rfl | rfl
  · exact ⟨by unfold Fits; simp [gW], by decide +revert, by decide +revert, fun h => by cases h⟩
  · exact ⟨by unfold Fits; simp [gW], by decide +revert, by decide +revert, fun h => by decide +revert⟩
theorem pW_ok : PolOk gW.size pW := by
  refine ⟨by decide +revert, fun i h => ?_, by decide +revert, by decide +revert, by decide +revert, by decide +revert, fun i h => ?_⟩
  · obtain rfl : i = 0 := by simp [pW] at h; omega
    exact ⟨by decide +revert, by decide +revert, fun h => by cases h⟩
  · obtain rfl : i = 0 := by simp [pW] at h; omega
    exact ⟨by decide +revert, by decide +revert, fun h => by cases h⟩
theorem gW_order : ordL (levelG gW 1) [0] = [0, 1, 2] := by decide
theorem gW_caps : capsL gW pW = [2, 1, 1] := by decide
theorem paths_yes : PathsC gW pW [[0], [0, 1]] [0, 1] := by
  refine ⟨⟨gW_ok, pW_ok⟩, ⟨by decide +revert, by decide +revert⟩, ?_⟩
  unfold PathsE
  show ServesE (levelG gW 1) [0] (ordL (levelG gW 1) [0]) _ _ _
  rw [gW_caps, gW_order, servesE_iff]
  refine ⟨fun w hw => ?_, fun k h => ?_, rfl⟩
  · simp at hw
    rcases hw with rfl | rfl
    · exact ⟨⟨0, rfl, by decide +revert⟩, by decide +revert, by decide +revert, fun i h => by simp at h⟩
    · refine ⟨⟨0, rfl, by decide +revert⟩, by decide +revert, by decide +revert, fun i h => ?_⟩
      obtain rfl : i = 0 := by simp at h; omega
      exact ⟨⟨0, 1, 1⟩, by decide +revert, by decide +revert⟩
  · have : k = 0 ∨ k = 1 ∨ k = 2 := by simp at h; omega
    rcases this with rfl | rfl | rfl <;> decide +revert
theorem paths_no : ¬ PathsC gW pW [[0], [0, 1], [0, 2]] [0, 1, 2] := by
  intro h
  have h1 := h.2.2
  unfold PathsE at h1
  rw [gW_caps] at h1
  have h2 := (h1.2.1 0 (by decide +revert)).1
  revert h2
  decide
section
variable {P : Program} {np id : Nat} {h : Nat → Option Ent} {K : AV → List Nat → List (Nat × Option Ent) → Prop} {f : FuncId} {first capt args args' : List AV} {res : AV}
theorem call0w (sn : List Nat) (hc : ACalls P f args' [] res []) (hw : WkL ((first ++ args ++ capt).map (conv [] sn h 4)) args') (hp : Plain res)
    (hk : K (conv (((List.range 8).map (id + ·)).zipIdx.map fun (a, b) => (b, a)) [] (fun _ => none) 4 res) sn []) : aK P np id .call (.fn (.func f) first capt :: args) h K :=
  ⟨[], sn, false, args', [], res, [], by simp, by simp, by simp, by rw [List.zipIdx_nil]; exact hw, rfl, hc, by simp, .inr ⟨hp, by simp⟩, hk⟩
end
theorem wkG3 {a b c a' b' c' : AV} (h1 : Wk a a') (h2 : Wk b b') (h3 : Wk c c') : Wk (.agg [a, b, c]) (.agg [a', b', c']) :=
  .agg _ _ rfl fun i => match i with | 0 => h1 | 1 => h2 | 2 => h3 | _ + 3 => .refl _
set_option maxRecDepth 100000 in
open Classical in
theorem awake44_ok : ACalls Tryz.prog nlaw44_awake [] [] (.B true) [] := by
  refine slaw44_awake.acalls (Nat.le_of_ble_eq_true rfl) (Nat.le_of_ble_eq_true rfl) (Nat.le_refl _) ?_
  show awp _ 0 _ _ ⟨28, [], [], 16⟩
  have h1 := checker_Paths_ok gW pW [[0], [0, 1]] [0, 1] (by decide) (by decide) (by decide) (by decide) (by decide) (by decide) (by decide) (by decide)
  have h2 := checker_Paths_ok gW pW [[0], [0, 1], [0, 2]] [0, 1, 2] (by decide) (by decide) (by decide) (by decide) (by decide) (by decide) (by decide) (by decide)
  rw [decide_eq_true paths_yes] at h1
  rw [decide_eq_false paths_no] at h2
  refine rx (s := ?s1) [] [] [] rfl ?o1 ?q1
  case o1 => simp; rfl
  refine rk (s := ?s2) [1] [40, 56] rfl ?o2 ?q2
  case o2 => simp; rfl
  refine rk (s := ?s3) [1, 2] [40, 56, 72, 80, 96] rfl ?o3 ?q3
  case o3 => simp; rfl
  refine rx (s := ?s4) [0] [] [] rfl ?o4 ?q4
  case o4 =>
    simp
    refine call0w [40, 72, 80, 128, 136, 144, 152] h1 (by simp [gW, pW, Wk.refl]; exact ⟨wkG3 (.refl _) (.refl _) (.nil _ _), wkG3 (.refl _) (.refl _) (.refl _), .refl _, .refl _⟩) (.sc _) ?_
    simp
    refine call0w [40, 72, 80, 192, 200, 208, 216, 224] h2 (by simp [gW, pW, Wk.refl]; exact ⟨wkG3 (.refl _) (.refl _) (.nil _ _), wkG3 (.refl _) (.refl _) (.refl _), .refl _, .refl _⟩) (.sc _) ?_
    simp
    rfl
  refine awp_ret ?_
  exact ⟨.inr rfl, RetOk.one (by simp)⟩
end Go.Proofs.YtlhjelookgjmpaaGreat
namespace Go.Proofs.YtlhjelookgjmpaaGreat
open Go
theorem roll_a (L : List Int) (hl : L.length ≤ 400) : ∃ (g : Gr) (b : Nat), (GrOk g ∧ 2 ≤ g.size ∧ g.size ≤ 9 ∧ b ≤ L.length) ∧ ACalls Tryz.prog nmade_Dice_Graph [.pt 0 0 0] [dice L 0] (eG g) [some (dice L b)] :=
  have h := graphD_made L 0 (Nat.zero_le _)
  ⟨_, _, ⟨h.ok, h.lo, h.hi, h.at_⟩, Graph_ok L 0 hl (Nat.zero_le _)⟩
end Go.Proofs.YtlhjelookgjmpaaGreat
namespace Go.Proofs.YtlhjelookgjmpaaGreat
open Go
variable {g : Gr} {p : Pol}
theorem for_any (g : Gr) (p : Pol) (key : Int) (hg : GrOk g) (hp : PolOk g.size p) (hs : p.seeds.length ≤ 64) :
    ∃ x : Expl, ∃ e : Int, (e = 0 ∧ ForR g p (ordL (levelG g p.lv) p.seeds) key x ∨ e = 11 ∧ x = ⟨0, false, [], [], []⟩) ∧ ACalls Tryz.prog nref43_For [eG g, eP p, .I key] [] (.tup [eX x, .I e]) [] := by
  by_cases hk : key ∈ ordL (levelG g p.lv) p.seeds
  · obtain ⟨x, h1, h2⟩ := For_a g p key hg hp hs hk
    exact ⟨x, 0, .inl ⟨rfl, h1⟩, h2⟩
  · exact ⟨_, 11, .inr ⟨rfl, rfl⟩, For_no g p key hg hp hs hk⟩
theorem ForR.acc_iff {key : Int} {x : Expl} (h : ForR g p (ordL (levelG g p.lv) p.seeds) key x) : x.acc = true ↔ key ∈ accR g p (ordL (levelG g p.lv) p.seeds) := by
  by_cases hk : key ∈ accR g p (ordL (levelG g p.lv) p.seeds)
  · simp [hk, (h.yes hk).1]
  · simp [hk, (h.no hk).1]
end Go.Proofs.YtlhjelookgjmpaaGreat
namespace Go.Proofs.YtlhjelookgjmpaaGreat
open Go
theorem ForR.other {g : Gr} {p : Pol} {key : Int} {x : Expl} (h : ForR g p (ordL (levelG g p.lv) p.seeds) key x) (hg : GrOk g) (hp : PolOk g.size p) {y : Expl} (hk : y.key = x.key) (ha : y.acc = !x.acc) (hb : y.before = x.before)
    (hy : y.acc = true → y.side = []) (hn : y.acc = false → y.paths = []) : checkC g p y = 52 := by
  rw [check_same hg.1.2.1]
  obtain ⟨hkey, hat, _⟩ := h.at_ hg
  obtain ⟨j1, j2, j3⟩ := hat.joined hg
  have hlen := j2.length_eq
  rw [List.length_append, List.length_singleton] at hlen
  have hord : BeforeP (ordL (levelG g p.lv) p.seeds) y.before key := by rw [hb]; exact hat.bef
  unfold checkR
  simp only
  rw [hk, hkey, if_neg (by simpa using hat.mem), if_neg (by
    rintro (h1 | ⟨h1, h2⟩ | ⟨h1, h2⟩)
    · exact h1 hord
    · exact h2 (hy h1)
    · exact h2 (hn h1)), hb]
  by_cases hacc : key ∈ accR g p (ordL (levelG g p.lv) p.seeds)
  · have hx := h.acc_iff.2 hacc
    have hy0 : y.acc = false := by rw [ha, hx]; rfl
    rw [if_neg (by rw [hy0]; simp), if_neg]
    intro hpr
    have := not_both hg hp j1 j3 j2 (h.yes_serves hg hp hacc) hpr
    omega
  · have hx : x.acc = false := by
      cases hxa : x.acc with
      | false => rfl
      | true => exact absurd (h.acc_iff.1 hxa) hacc
    have hy1 : y.acc = true := by rw [ha, hx]; rfl
    rw [if_pos hy1, if_neg]
    intro hs
    have := not_both hg hp j1 j3 j2 hs (h.no_proves hg hp hacc)
    omega
theorem wkX5 {k a b p s p' s' : AV} (hp : Wk p p') (hs : Wk s s') : Wk (.agg [k, a, b, p, s]) (.agg [k, a, b, p', s']) :=
  .agg _ _ rfl fun j => match j with
    | 0 => .refl _
    | 1 => .refl _
    | 2 => .refl _
    | 3 => hp
    | 4 => hs
    | _ + 5 => .refl _
set_option maxRecDepth 100000 in
set_option maxHeartbeats 4000000 in
open Classical in
theorem law44_CheckerOne_ok (L : List Int) (key : Int) (sd : List Int) :
    ACalls Tryz.prog nlaw44_CheckerOne [ints L, .sc (.int .u8 key), ints sd] [] (.B true) [] := by
  refine slaw44_CheckerOne.acalls (Nat.le_of_ble_eq_true rfl) (Nat.le_of_ble_eq_true rfl) (Nat.le_refl _) ?_
  show awp _ 0 _ _ ⟨145, [(0, ints L), (1, .sc (.int .u8 key)), (2, ints sd)], [], 16⟩
  refine rx (s := ?s1) [0, 1, 2] [] [] rfl ?o1 ?q1
  case o1 => simp; rfl
  refine awp_seq ?_
  refine awp_regc ⟨145, [(0, ints L), (1, .sc (.int .u8 key)), (2, ints sd), (25, .B (decide (¬ (L.length ≤ 400 ∧ sd.length ≤ 40))))], [], 200⟩ rfl ?_ ?_
  · simp
    refine call0e (mk_Light_ok L) (by simp) ?_
    simp
    by_cases hL : L.length ≤ 400
    · simp [hL]
      exact Le.go [] [] rfl rfl (by simp [hL] <;> exact wkB (by rw [Bool.eq_iff_iff]; simp; omega)) (by simp)
    · simp [hL]
      exact Le.go [] [] rfl rfl (by simp [hL]) (by simp)
  refine awp_cond _ rfl (fun h3 => ?_) fun h3 => ?_
  · refine rx (s := ?s4) [6] [] [] rfl ?o4 ?q4
    case o4 => simp; refine call0e awake44_ok (by simp) ?_; simp; rfl
    refine awp_ret ?_
    exact ⟨.inr rfl, RetOk.one (by simp)⟩
  rw [decide_eq_false_iff_not, Decidable.not_not] at h3
  obtain ⟨h3, hsd⟩ := h3
  obtain ⟨g, b1, ⟨hg, hg2, hg9, hb1⟩, hcg⟩ := roll_a L h3
  obtain ⟨⟨p, b2⟩, ⟨hp1, hp2, hp3, hb2⟩, hcp⟩ := Policy_a L b1 g h3 hb1 (by omega) (by omega)
  simp only at hp1 hp2 hp3 hb2 hcp
  have hel := hg.edges_le
  have hgl := hg.gone_le
  refine awp_skip ?_
  refine awp_regc ⟨145, [(1, .sc (.int .u8 key)), (2, ints sd), (7, .pt 20 0 0)], [(20, some (dice L 0))], 300⟩ rfl ?_ ?_
  · simp
    refine callN1 (Roll_ok L) (by simp) ?_
    simp
    exact Le.go [(208, 20)] [] rfl rfl (by simp) (by simp)
  refine awp_regc ⟨145, [(1, .sc (.int .u8 key)), (2, ints sd), (7, .pt 20 0 0), (8, .pv (gC g))], [(20, some (dice L b1))], 400⟩ rfl ?_ ?_
  · simp
    refine callM1 (i := 20) rfl (e' := dice L 0) (by simp) hcg (by simp) (by simp) ?_
    simp
    exact Le.go [(20, 20)] [316] rfl rfl (by simp) (by simp)
  refine awp_regc ⟨145, [(1, .sc (.int .u8 key)), (2, ints sd), (8, .pv (gC g)), (9, .pv (pC p))], [], 500⟩ rfl ?_ ?_
  · simp
    refine callM1 (i := 20) rfl (e' := dice L b1) (by simp) hcp (by simp) (by simp) ?_
    simp
    exact Le.go [] [424] rfl rfl (by simp) (by simp)
  obtain ⟨kk, hkk⟩ : ∃ kk, kk = (IntKind.i64.wrap key).tmod g.size := ⟨_, rfl⟩
  obtain ⟨x, e, hx, hcf⟩ := for_any g p kk hg hp1 (by omega)
  refine awp_dregc ⟨145, [(2, ints sd), (8, .pv (gC g)), (9, .pv (pC p)), (10, .pv (xE x)), (11, .I e)], [], 700⟩ rfl ?_ ?_
  · have hg0 : g.size ≠ 0 := by omega
    simp [hg0, ← hkk]
    refine call0e hcf (by simp) ?_
    simp
    exact ⟨rfl, Le.go [] [588] rfl rfl (by simp) (by simp)⟩
  refine awp_seq ?_
  refine awp_regc ⟨145, [(2, ints sd), (8, .pv (gC g)), (9, .pv (pC p)), (10, .pv (xE x)), (46, .B (decide (e ≠ 0)))], [], 800⟩ rfl ?_ ?_
  · simp
    exact Le.go [] [] rfl rfl (by simp <;> exact wkB (by rw [Bool.eq_iff_iff]; simp)) (by simp)
  refine awp_cond _ rfl (fun h10 => ?_) fun h10 => ?_
  · refine rx (s := ?s11) [6] [] [] rfl ?o11 ?q11
    case o11 => simp; refine call0e awake44_ok (by simp) ?_; simp; rfl
    refine awp_ret ?_
    exact ⟨.inr rfl, RetOk.one (by simp)⟩
  rw [decide_eq_false_iff_not, Decidable.not_not] at h10
  have hx : ForR g p (ordL (levelG g p.lv) p.seeds) kk x := by
    rcases hx with ⟨_, hx⟩ | ⟨rfl, _⟩
    · exact hx
    · cases h10
  have hxk := hx.key_
  subst hxk
  have hb := hx.bounds hg hp1
  obtain ⟨_, hat, _⟩ := hx.at_ hg
  have hxb := hb.b
  have hxp := hb.p
  have hxw := hb.w
  have hxs := hb.s
  have hrange := hat.range
  have hother := fun y => hx.other (y := y) hg hp1
  refine awp_skip ?_
  refine awp_regc ⟨145, [(2, ints sd), (8, .pv (gC g)), (9, .pv (pC p)), (10, .pv (xE x)), (12, .pt 30 0 0)], [(30, some ⟨5, [[.I x.key, .B !x.acc, ints x.before, .nilS, .nilS]], 0⟩)], 1000⟩ rfl ?_ ?_
  · simp [splice]
    exact Le.go [(864, 30)] [] rfl rfl (by simp) (by simp)
  refine awp_cut (ι := Expl × Bool) (fun y => ⟨145, [(8, .pv (gC g)), (9, .pv (pC p)), (10, .pv (xE x)), (12, .pv [.I y.1.key, .B y.1.acc, ints y.1.before, if y.2 = true then pathsV y.1.paths else .nilS, if y.2 = true then .nilS else ints y.1.side])], [], 3000⟩) (fun y => (checkC g p y.1 = 52 ∧ SmallX y.1) ∧ (y.2 = true → y.1.side = []) ∧ (y.2 = false → y.1.paths = [])) ?_ ?_
  · refine awp_regc ⟨145, [(2, ints sd), (8, .pv (gC g)), (9, .pv (pC p)), (10, .pv (xE x)), (12, .pt 30 0 0), (57, .B !x.acc)], [(30, some ⟨5, [[.I x.key, .B !x.acc, ints x.before, .nilS, .nilS]], 0⟩)], 1100⟩ rfl ?_ ?_
    · simp
      exact Le.go [(30, 30)] [] rfl rfl (by simp) (by simp)
    refine awp_cond _ rfl (fun hya => ?_) fun hya => ?_
    · rw [hya]
      refine awp_regc ⟨145, [(8, .pv (gC g)), (9, .pv (pC p)), (10, .pv (xE x)), (12, .pt 30 0 0), (13, .I 0)], [(30, some ⟨5, [[.I x.key, .B true, ints x.before, .nilS, .nilS]], 0⟩)], 1200⟩ rfl ?_ ?_
      · simp
        exact Le.go [(30, 30)] [] rfl rfl (by simp) (by simp)
      refine awp_block ?_
      refine awp_loop (ι := Nat × List (List Int)) (fun s => ⟨145, [(8, .pv (gC g)), (9, .pv (pC p)), (10, .pv (xE x)), (12, .pt 30 0 0), (13, .I s.1)], [(30, some ⟨5, [[.I x.key, .B true, ints x.before, .rs 40 0 s.2.length, .nilS]], 0⟩), (40, some ⟨1, s.2.map fun w => [ints w], 0⟩)], 1300⟩)
        (fun s => s.1 ≤ x.before.length + 1 ∧ s.2.length ≤ 200 * s.1 ∧ ∀ w ∈ s.2, w.length ≤ 200) (fun s => x.before.length + 1 - s.1) (0, []) ⟨Nat.zero_le _, by simp, fun w hw => (by cases hw)⟩
        (Le.lst [(30, 30)] [] [(40, 1)] rfl (by simp) (by simp) (by simp) (by simp) (by simp) (by simp) (by simp) (by simp [Up]) (by simp [Function.comp_def]; exact EntUp.row rfl (by omega) (by simp [UpL, Up]))) ?_
      rintro ⟨i, Z⟩ ⟨hi, hZl, hZw⟩
      simp only at hi hZl hZw
      refine awp_seq ?_
      refine awp_regc ⟨145, [(8, .pv (gC g)), (9, .pv (pC p)), (10, .pv (xE x)), (12, .pt 30 0 0), (13, .I i), (62, .B (decide (i ≤ x.before.length)))], [(30, some ⟨5, [[.I x.key, .B true, ints x.before, .rs 40 0 Z.length, .nilS]], 0⟩), (40, some ⟨1, Z.map fun w => [ints w], 0⟩)], 1400⟩ rfl ?_ ?_
      · simp
        exact Le.go [(30, 30), (40, 40)] [] rfl rfl (by simp) (by simp [Function.comp_def])
      refine awp_cond _ rfl (fun h17 => ?_) fun h17 => ?_
      · simp at h17
        have hwi : IntKind.i64.wrap ((i : Int) + 1) = (i : Int) + 1 := w64 (by omega) (by omega)
        obtain ⟨B, hB⟩ : ∃ B, B = x.before.take i := ⟨_, rfl⟩
        have hBl : B.length = i := by rw [hB, List.length_take]; omega
        obtain ⟨ks, hks⟩ : ∃ ks, ks = B ++ [x.key] := ⟨_, rfl⟩
        have hksl : ks.length = i + 1 := by rw [hks, List.length_append, hBl]; rfl
        have hksr : ∀ k ∈ ks, 0 ≤ k ∧ k < g.size := fun k hk => by
          rw [hks, hB] at hk
          rcases List.mem_append.1 hk with h | h
          · exact hrange k (List.mem_append_left _ (List.mem_of_mem_take h))
          · exact hrange k (List.mem_append_right _ h)
        obtain ⟨W, ⟨f, g', _, _, hWl, hWw⟩, hWc⟩ := Paths43_a g p ks hg hp1 (by omega) hksr (by omega)
        have hWm := maxF_few hg hp1 (ks := joinL ks) fun k hk => hksr k (mem_joinL.1 hk).1
        have hjl := joinL_len ks
        obtain ⟨V, hV⟩ : ∃ V, V = W.map (keysA (netA g p (joinL ks))) := ⟨_, rfl⟩
        have hVl : V.length ≤ 64 := by rw [hV, List.length_map]; omega
        have hVw : ∀ w ∈ V, w.length ≤ 200 := fun w hw => by
          rw [hV] at hw
          obtain ⟨v, hv, rfl⟩ := List.mem_map.1 hw
          have := keysA_len (netA g p (joinL ks)) v
          have := hWw v hv
          omega
        rw [← hV] at hWc
        have hB1 : ∀ f : Int → List AV, List.take i (List.map f x.before) = List.map f B := fun f => by rw [hB, List.map_take]
        have hd1 : List.take (B.length + 1) (List.map (fun n => [AV.I n]) B ++ [[AV.I x.key]]) = List.map (fun n => [AV.I n]) ks := by rw [List.take_of_length_le (by simp), hks, List.map_append]; rfl
        refine awp_skip ?_
        refine awp_seq ?_
        refine awp_block ?_
        refine awp_dregc ⟨145, [(8, .pv (gC g)), (9, .pv (pC p)), (10, .pv (xE x)), (12, .pt 30 0 0), (13, .I i), (14, pathsV V)], [(30, some ⟨5, [[.I x.key, .B true, ints x.before, .rs 40 0 Z.length, .nilS]], 0⟩), (40, some ⟨1, Z.map fun w => [ints w], 0⟩)], 1600⟩ rfl ?_ ?_
        · simp [hB1]
          refine ⟨by omega, by omega, by omega, by omega, by omega, ?_⟩
          refine call0k [1488] (by simp) hWc (by simp [Function.comp_def, hd1]) ?_
          simp
          exact ⟨rfl, Le.go [(30, 30), (40, 40)] [1488] rfl rfl (by simp) (by simp [Function.comp_def])⟩
        refine awp_run (s := ?s40) rfl ?o40 ?q40
        case o40 => simp [take_map_len, splice]; refine ⟨by omega, by omega, ?_⟩; rfl
        refine awp_run (s := ?s41) rfl ?o41 ?q41
        case o41 => simp; rfl
        refine ⟨(i + 1, Z ++ V), ⟨by simp only; omega, by simp only [List.length_append]; omega, fun w hw => ?_⟩, by simp only; omega, Le.go [(30, 30), (1624, 40)] [] rfl rfl (by simp [hwi]) (by simp [Function.comp_def])⟩
        rcases List.mem_append.1 hw with h | h
        · exact hZw w h
        · exact hVw w h
      simp at h17
      refine awp_exit ?_
      refine hit ?_
      exact ⟨(⟨x.key, true, x.before, Z, []⟩, true), ⟨⟨hother _ rfl (by simp only [hya]) rfl (fun _ => rfl) (fun h => by cases h), ⟨by simp only; omega, by simp only; omega, fun w hw => Nat.le_trans (hZw w hw) (by omega), by simp⟩⟩, fun _ => rfl, fun h => by cases h⟩, Le.go [] [30, 40] rfl rfl (by simp [Function.comp_def, take_map_len]) (by simp)⟩
    · rw [hya]
      refine awp_regc ⟨145, [(2, ints sd), (8, .pv (gC g)), (9, .pv (pC p)), (10, .pv (xE x)), (12, .pt 30 0 0)], [(30, some ⟨5, [[.I x.key, .B false, ints x.before, .nilS, .rs 41 0 1]], 0⟩), (41, some ⟨1, rowsI [0], 0⟩)], 1200⟩ rfl ?_ ?_
      · simp [splice]
        exact Le.go [(30, 30), (1100, 41)] [] rfl rfl (by simp) (by simp)
      refine awp_regc ⟨145, [(2, ints sd), (8, .pv (gC g)), (9, .pv (pC p)), (10, .pv (xE x)), (12, .pt 30 0 0), (15, .I 0)], [(30, some ⟨5, [[.I x.key, .B false, ints x.before, .nilS, .rs 41 0 1]], 0⟩), (41, some ⟨1, rowsI [0], 0⟩)], 1300⟩ rfl ?_ ?_
      · simp
        exact Le.go [(30, 30), (41, 41)] [] rfl rfl (by simp) (by simp)
      refine awp_block ?_
      refine awp_loop (ι := Nat × List Int) (fun s => ⟨145, [(2, ints sd), (8, .pv (gC g)), (9, .pv (pC p)), (10, .pv (xE x)), (12, .pt 30 0 0), (15, .I s.1)], [(30, some ⟨5, [[.I x.key, .B false, ints x.before, .nilS, .rs 41 0 s.2.length]], 0⟩), (41, some ⟨1, rowsI s.2, 0⟩)], 1400⟩)
        (fun s => s.1 ≤ sd.length ∧ s.2.length ≤ 64) (fun s => sd.length - s.1) (0, [0]) ⟨Nat.zero_le _, by simp⟩ (Le.go [(30, 30), (41, 41)] [] rfl rfl (by simp) (by simp)) ?_
      rintro ⟨i, S⟩ ⟨hi, hSl⟩
      simp only at hi hSl
      refine awp_seq ?_
      refine awp_regc ⟨145, [(2, ints sd), (8, .pv (gC g)), (9, .pv (pC p)), (10, .pv (xE x)), (12, .pt 30 0 0), (15, .I i), (88, .B (decide (i < sd.length)))], [(30, some ⟨5, [[.I x.key, .B false, ints x.before, .nilS, .rs 41 0 S.length]], 0⟩), (41, some ⟨1, rowsI S, 0⟩)], 1500⟩ rfl ?_ ?_
      · simp
        exact Le.go [(30, 30), (41, 41)] [] rfl rfl (by simp) (by simp [Function.comp_def])
      refine awp_cond _ rfl (fun h17 => ?_) fun h17 => ?_
      · simp at h17
        have hwi : IntKind.i64.wrap ((i : Int) + 1) = (i : Int) + 1 := w64 (by omega) (by omega)
        have hw2 : IntKind.i64.wrap (2 * g.size) = 2 * g.size := w64 (by omega) (by omega)
        obtain ⟨v, hv⟩ : ∃ v, v = sd[i] := ⟨_, rfl⟩
        have hgi : sd[i]? = some v := by rw [List.getElem?_eq_getElem h17, hv]
        have hmod := mk_Mod_ok v (2 * g.size) (by omega)
        have hml := modI_lt (n := v) (m := 2 * g.size) (by omega)
        obtain ⟨r, hr⟩ : ∃ r, r = modI v (2 * g.size) := ⟨_, rfl⟩
        rw [← hr] at hmod hml
        have hw3 : IntKind.i64.wrap (2 + r) = 2 + r := w64 (by omega) (by omega)
        obtain ⟨q, hq⟩ : ∃ q, q = 2 + r := ⟨_, rfl⟩
        rw [← hq] at hw3
        have hha := has24_ok S q (by omega)
        have hjn := join24_ok S [q] (by omega) (by simp)
        obtain ⟨J, hJ⟩ : ∃ J, J = joinL (S ++ [q]) := ⟨_, rfl⟩
        have hJl : J.length ≤ 64 := by rw [hJ]; exact joinL_len _
        rw [← hJ] at hjn
        refine awp_skip ?_
        refine awp_cut (ι := List Int) (fun S => ⟨145, [(2, ints sd), (8, .pv (gC g)), (9, .pv (pC p)), (10, .pv (xE x)), (12, .pt 30 0 0), (15, .I i)], [(30, some ⟨5, [[.I x.key, .B false, ints x.before, .nilS, .rs 41 0 S.length]], 0⟩), (41, some ⟨1, rowsI S, 0⟩)], 2500⟩) (fun S => S.length ≤ 64) ?_ fun S hS => ?_
        · refine awp_block ?_
          refine awp_dregc ⟨145, [(2, ints sd), (8, .pv (gC g)), (9, .pv (pC p)), (10, .pv (xE x)), (12, .pt 30 0 0), (15, .I i), (16, .I q)], [(30, some ⟨5, [[.I x.key, .B false, ints x.before, .nilS, .rs 41 0 S.length]], 0⟩), (41, some ⟨1, rowsI S, 0⟩)], 1700⟩ rfl ?_ ?_
          · simp [hgi, h17, hw2]
            rw [hv] at hmod
            refine call0e hmod (by simp) ?_
            simp [hw3, ← hq]
            exact ⟨rfl, Le.go [(30, 30), (41, 41)] [] rfl rfl (by simp) (by simp [Function.comp_def])⟩
          refine awp_regc ⟨145, [(2, ints sd), (8, .pv (gC g)), (9, .pv (pC p)), (10, .pv (xE x)), (12, .pt 30 0 0), (15, .I i), (16, .I q), (104, .B (!decide (q ∈ S)))], [(30, some ⟨5, [[.I x.key, .B false, ints x.before, .nilS, .rs 41 0 S.length]], 0⟩), (41, some ⟨1, rowsI S, 0⟩)], 1900⟩ rfl ?_ ?_
          · simp
            refine call0w [41] hha (by simp [take_map_len, Function.comp_def, Wk.refl]) (.sc _) ?_
            simp
            exact Le.go [(30, 30), (41, 41)] [] rfl rfl (by simp) (by simp [Function.comp_def])
          refine awp_cond _ rfl (fun h30 => ?_) fun h30 => ?_
          · refine awp_reg rfl ?_
            simp
            refine callN1r [41, 1924] hjn (by simp [take_map_len, Function.comp_def]) (.rs _ _ _) plainI ?_
            simp [splice, Function.comp_def]
            exact ⟨J, hJl, Le.go [(30, 30), (1932, 41)] [] rfl rfl (by simp) (by simp [Function.comp_def])⟩
          · refine awp_skip ?_
            exact ⟨S, hSl, Le.go [(30, 30), (41, 41)] [] rfl rfl (by simp) (by simp [Function.comp_def])⟩
        refine awp_reg rfl ?_
        simp
        exact ⟨i + 1, S, ⟨by omega, hS⟩, by omega, Le.go [(30, 30), (41, 41)] [] rfl rfl (by simp [hwi]) (by simp [Function.comp_def])⟩
      simp at h17
      refine awp_exit ?_
      refine hit ?_
      exact ⟨(⟨x.key, false, x.before, [], S⟩, false), ⟨⟨hother _ rfl (by simp only [hya]) rfl (fun h => by cases h) (fun _ => rfl), ⟨by simp only; omega, by simp, fun w hw => (by cases hw), by simp only; omega⟩⟩, (fun h => by cases h), fun _ => rfl⟩, Le.go [] [30, 41] rfl rfl (by simp [Function.comp_def, take_map_len]) (by simp)⟩
  rintro ⟨y, b⟩ ⟨⟨hy52, hys⟩, hyt, hyf⟩
  simp only at hy52 hys hyt hyf
  have hxs' : SmallX x := ⟨by omega, by omega, fun w hw => Nat.le_trans (hxw w hw) (by omega), by omega⟩
  have k1 := checker_Check_ok g p x (by omega) (by omega) (by omega) (by omega) (by omega) hxs'
  have k2 := checker_Check_ok g p y (by omega) (by omega) (by omega) (by omega) (by omega) hys
  have c1 := hx.checked hg hp1
  have hord := ref12_Order_ok (g := levelG g p.lv) (S := p.seeds) (hg.level p.lv) (by omega)
  obtain ⟨o, ho⟩ : ∃ o, o = ordL (levelG g p.lv) p.seeds := ⟨_, rfl⟩
  have hmem := hat.mem
  rw [← ho] at hord hmem
  have hol : o.length ≤ 64 := by
    have h1 := ordL_len (g := levelG g p.lv) (S := p.seeds) hg.1.1
    have h2 : (levelG g p.lv).size = g.size := rfl
    rw [← ho] at h1
    omega
  have k3 := has24_ok o x.key (by omega)
  rw [decide_eq_true hmem] at k3
  have hchk := ref13_Check_ok g p (by omega) (by omega) (by omega) (by omega)
  rw [if_pos hg, if_pos hp1] at hchk
  refine awp_dregc ⟨145, [(8, .pv (gC g)), (9, .pv (pC p)), (10, .pv (xE x)), (12, .pv [.I y.key, .B y.acc, ints y.before, if b = true then pathsV y.paths else .nilS, if b = true then .nilS else ints y.side]), (17, ints o)], [], 4000⟩ rfl ?_ ?_
  · simp
    refine call0e (ref11_Level_ok g p.lv (by omega) (by omega)) (by simp) ?_
    simp
    refine callN1 hord (by simp) ?_
    simp [Function.comp_def]
    exact ⟨rfl, Le.go [] [3048] rfl rfl (by simp [Function.comp_def, take_map_len]) (by simp)⟩
  have e1 : checkAll g p x = 0 := by unfold checkAll; rw [if_pos hg, if_pos hp1, c1]
  have e2 : checkAll g p y = 52 := by unfold checkAll; rw [if_pos hg, if_pos hp1, hy52]
  rw [e1] at k1
  rw [e2] at k2
  refine awp_regc ⟨145, [(6, .B true)], [], 6000⟩ rfl ?_ ?_
  · simp
    refine call0e k1 (by simp) ?_
    simp
    refine call0w [] k2 ?_ (.sc _) ?_
    · simp
      cases b with
      | true => simp; exact wkX5 (.refl _) (by rw [hyt rfl]; exact .nil 1 false)
      | false => simp; exact wkX5 (by rw [hyf rfl]; exact .nil 1 false) (.refl _)
    simp
    refine call0e k3 (by simp) ?_
    simp
    refine call0e hchk (by simp) ?_
    simp
    refine call0e awake44_ok (by simp) ?_
    simp
    exact Le.go [] [] rfl rfl (by simp) (by simp)
  refine awp_ret ?_
  exact ⟨.inr rfl, RetOk.one (by simp)⟩
end Go.Proofs.YtlhjelookgjmpaaGreat
