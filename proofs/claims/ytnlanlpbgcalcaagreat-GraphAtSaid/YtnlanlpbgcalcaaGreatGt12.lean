/- Texts of this claim, merged. -/
import Derived.Test.YtnlanlpbgcalcaaGreatGt11
import Derived.Test.YtnlanlpbgcalcaaGreatGt10
import Derived.Test.YtnlanlpbgcalcaaGreatGt7
set_option linter.unusedSimpArgs false
set_option linter.unusedVariables false
set_option linter.unusedSectionVars false
namespace Go.Proofs.YtnlanlpbgcalcaaGreat
open Go
theorem StOk.b {s : Stm} (h : StOk s) : StB s := by
  obtain ⟨_, _, _, ⟨⟨hnu, _⟩, _⟩, ⟨h1, h2, h3⟩, ⟨h4, h5, h6⟩, _⟩ := h
  refine ⟨?_, by omega, by omega, by omega, fun p hp => ?_⟩
  · by_cases hn : 0 < s.nu
    · have := h5 hn; omega
    · by_cases h0 : s.nu = 0
      · have := h4 h0
        have h7 : s.pr.toList.length = 0 := by rw [this]; rfl
        have h8 : s.pr.toList.length = s.pr.size := by rw [ByteArray.toList_eq]; simp
        omega
      · omega
  · obtain ⟨i, hi, rfl⟩ := List.mem_iff_getElem.1 hp
    have := (h6 i hi).2.2.2.2
    omega
structure Fine (s : Stm) : Prop where
  ok : StOk s
  sk_ : s.sk = s.au
  sd_ : s.sd.toList = (digS s).toList
def ownR (au : Int) (l o : List Stm) : Prop := o.length ≤ l.length ∧ ∀ x ∈ o, x ∈ l ∧ x.au = au ∧ Fine x
set_option maxHeartbeats 4000000 in
set_option maxRecDepth 100000 in
theorem Own_any (au : Int) (l : List Stm) (hl : l.length ≤ 100000) (hb : ∀ s ∈ l, StB s) : ∃ o, ownR au l o ∧ ACalls Tryz.prog nref04_Own [.I au, sts l] [] (.rs 0 0 o.length) [some ⟨13, o.map sC, 0⟩] := by
  refine sref04_Own.acallsX (args := [.I au, sts l]) (hs := []) (fun o => .rs 0 0 o.length) (fun o => [some ⟨13, o.map sC, 0⟩]) (ownR au l) (Nat.le_of_ble_eq_true rfl) (Nat.le_of_ble_eq_true rfl) (fun _ => Nat.zero_le _) ?_
  show awp _ 0 _ _ ⟨96, [(0, .I au), (1, sts l)], [], 16⟩
  refine rx (s := ?s1) [0, 1] [] [] rfl ?o1 ?q1
  case o1 => simp; rfl
  refine rx (s := ?s2) [0, 1, 5] [] [] rfl ?o2 ?q2
  case o2 => simp; rfl
  refine awp_seq ?_
  refine rx (s := ?s3) [0, 1, 5, 6] [] [] rfl ?o3 ?q3
  case o3 => simp; rfl
  refine awp_block ?_
  refine awp_loop (ι := List Stm × Nat) (fun p => ⟨96, [(0, .I au), (1, sts l), (5, .rs 16 0 p.1.length), (6, .I p.2)], [(16, some ⟨13, p.1.map sC, 0⟩)], 40⟩) (fun p => p.2 ≤ l.length ∧ p.1.length ≤ p.2 ∧ ∀ x ∈ p.1, x ∈ l ∧ x.au = au ∧ Fine x) (fun p => l.length - p.2) ([], 0) ⟨Nat.zero_le _, Nat.zero_le _, by simp⟩ (Le.lst [] [] [(16, 13)] rfl (by simp) (by simp) (by simp) (by simp) (by simp) (by simp) (by simp) (by simp [Up]) (by simp)) ?_
  rintro ⟨o, i⟩ ⟨hi, ho1, ho2⟩
  simp only at hi ho1 ho2
  have hXl : (o.map sC).length = o.length := List.length_map ..
  have hXg : ∀ k (h : k < o.length), (o.map sC)[k]? = some (sC o[k]) := fun k h => by rw [List.getElem?_map, List.getElem?_eq_getElem h]; rfl
  have hXf := sts_flat o
  obtain ⟨X, hX⟩ : ∃ X, X = o.map sC := ⟨_, rfl⟩
  simp only
  rw [← hX] at hXl hXg hXf ⊢
  refine awp_seq ?_
  refine rk (s := ?s4) [0, 1, 5, 6, 12] [16] rfl ?o4 ?q4
  case o4 => simp; rfl
  refine awp_cond _ rfl (fun h => awp_skip ?_) fun h => awp_exit (hit ?_)
  · simp only [decide_eq_true_eq, Int.ofNat_lt] at h
    refine awp_cut (ι := List Stm) (fun o => ⟨96, [(0, .I au), (1, sts l), (5, .rs 16 0 o.length), (6, .I i)], [(16, some ⟨13, o.map sC, 0⟩)], 1000⟩) (fun o => o.length ≤ i + 1 ∧ ∀ x ∈ o, x ∈ l ∧ x.au = au ∧ Fine x) ?_ ?_
    · have hg : l[i]? = some l[i] := List.getElem?_eq_getElem h
      have hsm : l[i] ∈ l := List.getElem_mem h
      generalize l[i] = s at *
      have hsb := hb s hsm
      obtain ⟨e, he0, hchk⟩ := ref03_Check_ok s (by have := hsb.2.2.1; omega) (by have := hsb.2.2.2.1; omega)
      have hsl := ref03_Sealed_ok s hsb
      have hcp := ref03_Copy_ok s (by have := hsb.2.2.1; omega) (by have := hsb.2.2.2.1; omega)
      refine awp_block ?_
      refine rx (s := ?s5) [0, 1, 5, 6, 7] [16] [104] rfl ?o5 ?q5
      case o5 => simp [hg, splice, hXf]; rfl
      refine awp_seq ?_
      obtain ⟨r, hr⟩ : ∃ r : Bool, r = !decide (s.au = au ∧ e = 0 ∧ s.sk = s.au ∧ s.sd.toList = (digS s).toList) := ⟨_, rfl⟩
      refine awp_regc ⟨96, [(0, .I au), (1, sts l), (5, .rs 16 0 o.length), (6, .I i), (7, .pv (sC s)), (32, .B r)], [(16, some ⟨13, X, 0⟩)], 300⟩ rfl ?_ ?_
      · by_cases c1 : s.au = au
        · have c1' : (s.au != au) = false := by simp [c1]
          simp [c1']
          refine call0e hchk (by simp) ?_
          by_cases c2 : e = 0
          · have c2' : (e != 0) = false := by simp [c2]
            simp [c2']
            refine call0e hsl (by simp) ?_
            simp
            exact Le.keep rfl (by simp) (by simp [hr, c1, c2]) (by simp)
          · have c2' : (e != 0) = true := by simp [c2]
            simp [c2']
            exact Le.keep rfl (by simp) (by simp [hr, c2]) (by simp)
        · have c1' : (s.au != au) = true := by simp [c1]
          simp [c1']
          exact Le.keep rfl (by simp) (by simp [hr, c1]) (by simp)
      refine awp_cond _ rfl (fun h1 => awp_exit (hit ?_)) fun h1 => awp_skip ?_
      · exact ⟨o, ⟨by omega, ho2⟩, Le.keep rfl (by simp) (by simp) (by simp [hX])⟩
      rw [h1] at hr
      have hfine : s.au = au ∧ Fine s := by
        have : s.au = au ∧ e = 0 ∧ s.sk = s.au ∧ s.sd.toList = (digS s).toList := by simpa using hr
        exact ⟨this.1, he0.1 this.2.1, this.2.2.1, this.2.2.2⟩
      refine rk (s := ?s6) [0, 1, 5, 6, 7, 8] [16] rfl ?o6 ?q6
      case o6 => simp; rfl
      refine awp_seq ?_
      refine awp_block ?_
      refine awp_loop (ι := Nat) (fun k => ⟨96, [(0, .I au), (1, sts l), (5, .rs 16 0 o.length), (6, .I i), (7, .pv (sC s)), (8, .I k)], [(16, some ⟨13, X, 0⟩)], 400⟩) (fun k => k ≤ o.length) (fun k => o.length - k) 0 (Nat.zero_le _) (Le.keep rfl (by simp) (by simp) (by simp)) ?_
      intro k hk
      refine awp_seq ?_
      obtain ⟨r2, hr2, hr2'⟩ : ∃ r2 : Bool, (∀ h : k < o.length, r2 = (decide (o[k].nu < s.nu) || (o[k].nu == s.nu && Op.bytesLess o[k].sd.toList s.sd.toList))) ∧ (r2 = true → k < o.length) := by
        by_cases h : k < o.length
        · exact ⟨decide (o[k].nu < s.nu) || (o[k].nu == s.nu && Op.bytesLess o[k].sd.toList s.sd.toList), fun _ => rfl, fun _ => h⟩
        · exact ⟨false, fun h' => absurd h' h, fun h' => by cases h'⟩
      refine awp_dregc ⟨96, [(0, .I au), (1, sts l), (5, .rs 16 0 o.length), (6, .I i), (7, .pv (sC s)), (8, .I k), (68, .B r2)], [(16, some ⟨13, X, 0⟩)], 700⟩ rfl ?_ ?_
      · by_cases hko : k < o.length
        · have hp := hXg k hko
          have hr3 := hr2 hko
          generalize o[k] = p at *
          by_cases c1 : p.nu < s.nu
          · simp [hko, hp, c1]
            exact ⟨rfl, Le.keep rfl (by simp) (by simp [hr3, c1]) (by simp)⟩
          · by_cases c2 : p.nu = s.nu
            · have c2' : (p.nu == s.nu) = true := by simp [c2]
              simp [hko, hp, c1, c2']
              exact ⟨rfl, Le.keep rfl (by simp) (by simp [hr3, c1, c2]) (by simp)⟩
            · have c2' : (p.nu == s.nu) = false := by simp [c2]
              simp [hko, hp, c1, c2']
              exact ⟨rfl, Le.keep rfl (by simp) (by simp [hr3, c1, c2]) (by simp)⟩
        · have e2 : r2 = false := by
            cases hh : r2
            · rfl
            · exact absurd (hr2' hh) hko
          simp [hko]
          exact ⟨rfl, Le.keep rfl (by simp) (by simp [e2]) (by simp)⟩
      refine awp_cond _ rfl (fun h4 => awp_skip ?_) fun h4 => awp_exit (hit ?_)
      · have hko := hr2' h4
        have hwk := wr1 hko (by omega)
        refine awp_block ?_
        refine awp_reg rfl ?_
        simp [hwk]
        exact ⟨k + 1, by omega, by omega, Le.Z1 hXf 16 16 [] rfl rfl (by simp) (by simp) rfl (by simp)⟩
      refine awp_seq ?_
      obtain ⟨r3, hr3⟩ : ∃ r3 : Bool, ∀ h : k < o.length, ACalls Tryz.prog nref03_Same [eS o[k], eS s] [] (.B r3) [] := by
        by_cases h : k < o.length
        · have hkb := (ho2 o[k] (List.getElem_mem h)).2.2.ok.b
          obtain ⟨r3, h3⟩ := Same_any o[k] s (by have := hkb.2.2.1; omega) (by have := hkb.2.2.2.1; omega)
          exact ⟨r3, fun _ => h3⟩
        · exact ⟨false, fun h' => absurd h' h⟩
      refine awp_dregc ⟨96, [(0, .I au), (1, sts l), (5, .rs 16 0 o.length), (6, .I i), (7, .pv (sC s)), (8, .I k), (82, .B (decide (k < o.length) && r3))], [(16, some ⟨13, X, 0⟩)], 900⟩ rfl ?_ ?_
      · by_cases hko : k < o.length
        · have hp := hXg k hko
          have hr4 := hr3 hko
          generalize o[k] = p at *
          simp [hko, hp]
          refine call0e hr4 (by simp) ?_
          simp
          exact ⟨rfl, Le.keep rfl (by simp) (by simp) (by simp)⟩
        · simp [hko]
          exact ⟨rfl, Le.keep rfl (by simp) (by simp) (by simp)⟩
      refine awp_cond _ rfl (fun h5 => awp_exit (hit ?_)) fun h5 => awp_skip ?_
      · exact ⟨o, ⟨by omega, ho2⟩, Le.keep rfl (by simp) (by simp) (by simp [hX])⟩
      have hol : (o.take k ++ s :: o.drop k).length = o.length + 1 := by rw [List.length_append, List.length_cons, List.length_take, List.length_drop]; omega
      have hom : (o.take k ++ s :: o.drop k).map sC = X.take k ++ [sC s] ++ X.drop k := by rw [hX, List.map_append, List.map_cons, List.map_take, List.map_drop, List.append_assoc]; rfl
      have hXf2 := sts_flat (o.take k ++ s :: o.drop k)
      rw [hom] at hXf2
      have hin : (o.take k ++ s :: o.drop k).length ≤ i + 1 ∧ ∀ x ∈ o.take k ++ s :: o.drop k, x ∈ l ∧ x.au = au ∧ Fine x := by
        refine ⟨by omega, fun x hx => ?_⟩
        rcases List.mem_append.1 hx with h6 | h6
        · exact ho2 x (List.mem_of_mem_take h6)
        · rcases List.mem_cons.1 h6 with rfl | h6
          · exact ⟨hsm, hfine⟩
          · exact ho2 x (List.mem_of_mem_drop h6)
      obtain ⟨n, hn⟩ : ∃ n, n = o.length := ⟨_, rfl⟩
      rw [← hn] at hXl hol hk ho1 ⊢
      have hmin : min k n = k := by omega
      have hmin2 : min (n - k) (n - k) = n - k := by omega
      have htk : List.take (n - k) (X.drop k) = X.drop k := List.take_of_length_le (by rw [List.length_drop]; omega)
      have hlen : k + 1 + (n - k) = n + 1 := by omega
      refine awp_drw rfl ?_
      simp [hXl, hmin, htk, hk]
      refine ⟨by omega, by omega, ?_⟩
      refine call0e hcp (by simp) ?_
      simp [hXl, hmin, htk, hk]
      have htk2 : List.take (k + 1) (List.take k X ++ [sC s]) = List.take k X ++ [sC s] := List.take_of_length_le (by rw [List.length_append, List.length_take, hXl, hmin]; exact Nat.le_refl _)
      have e1 : List.take (k + 1) (List.take k (List.take k X) ++ [sC s]) = List.take k X ++ [sC s] := by rw [List.take_take, Nat.min_self]; exact htk2
      exact ⟨by omega, by omega, by omega, by omega, rfl, o.take k ++ s :: o.drop k, hin, Le.Z1 (z := 13) hXf2 988 16 [] rfl (by simp only [hom]) (by simp) (by simp) (by simp [htk]; exact (congrArg (· ++ List.drop k X) e1).trans (by simp)) (by simp only [hol]; simp [hlen])⟩
    · rintro o ⟨ho3, ho4⟩
      have hwi := wr1 h (by omega)
      refine awp_reg rfl ?_
      simp [hwi]
      exact ⟨o, i + 1, ⟨by omega, by omega, by simpa using ho4⟩, by omega, Le.Z1 (sts_flat o) 16 16 [] rfl rfl (by simp) (by simp) rfl (by simp)⟩
  rw [hX]
  refine rx (s := ?s9) [4] [16] [] rfl ?o9 ?q9
  case o9 => simp [Function.comp_def]; rfl
  exact awp_ret (PostX.mk (.inr rfl) o ⟨by omega, ho2⟩ (RetOk.out [16] [] rfl (by simp) (by simp) (by simp) (by simp [Function.comp_def])))
end Go.Proofs.YtnlanlpbgcalcaaGreat
namespace Go.Proofs.YtnlanlpbgcalcaaGreat
open Go
theorem Chain.snoc {au : Int} {c : List Stm} {s : Stm} (hc : Chain au c) (hs : StAt au c.length s) (hn : ∀ p, c[c.length - 1]? = some p → StNx p s) : Chain au (c ++ [s]) := by
  refine ⟨fun i h => ?_, fun i h => ?_⟩
  · by_cases hi : i < c.length
    · rw [List.getElem_append_left hi]; exact hc.1 i hi
    · have : i = c.length := by simp at h; omega
      subst this
      rw [List.getElem_append_right (Nat.le_refl _)]
      simpa using hs
  · by_cases hi : i + 1 < c.length
    · rw [List.getElem_append_left (by omega), List.getElem_append_left hi]; exact hc.2 i hi
    · have : i + 1 = c.length := by simp at h; omega
      rw [List.getElem_append_left (by omega), List.getElem_append_right (by omega)]
      have h2 := hn (c[i]'(by omega)) (by rw [show c.length - 1 = i by omega]; exact List.getElem?_eq_getElem (by omega))
      simpa [this] using h2
theorem Chain.nil (au : Int) : Chain au [] := ⟨fun i h => by simp at h, fun i h => by simp at h⟩
theorem Chain.few {au : Int} {c : List Stm} (hc : Chain au c) : c.length ≤ 200 := by
  rcases Nat.lt_or_ge 200 c.length with h | h
  · have h1 := hc.1 200 h
    have h2 := h1.ok.2.2.2.1.1.2
    have h3 := h1.nu_
    omega
  · exact h
set_option maxHeartbeats 4000000 in
set_option maxRecDepth 100000 in
theorem Counted_any (au : Int) (l : List Stm) (hl : l.length ≤ 100000) (hb : ∀ s ∈ l, StB s) : ∃ c, (Chain au c ∧ c.length ≤ l.length) ∧ ACalls Tryz.prog nref04_Counted [.I au, sts l] [] (.rs 0 0 c.length) [some ⟨13, c.map sC, 0⟩] := by
  obtain ⟨o, ⟨ho1, ho2⟩, hown⟩ := Own_any au l hl hb
  refine sref04_Counted.acallsX (args := [.I au, sts l]) (hs := []) (fun o => .rs 0 0 o.length) (fun o => [some ⟨13, o.map sC, 0⟩]) (fun c => Chain au c ∧ c.length ≤ l.length) (Nat.le_of_ble_eq_true rfl) (Nat.le_of_ble_eq_true rfl) (fun _ => Nat.zero_le _) ?_
  show awp _ 0 _ _ ⟨76, [(0, .I au), (1, sts l)], [], 16⟩
  refine rx (s := ?s1) [0, 1] [] [] rfl ?o1 ?q1
  case o1 => simp; rfl
  refine awp_regc ⟨76, [(5, sts o)], [], 56⟩ rfl ?_ ?_
  · simp
    refine callN1 hown rfl ?_
    simp [Function.comp_def]
    exact Le.snap [40] rfl rfl (by simp [Function.comp_def]; exact wkE (congrArg _ (List.take_of_length_le (by simp))))
  refine rx (s := ?s2) [5, 6] [] [] rfl ?o2 ?q2
  case o2 => simp; rfl
  let Y : Nat → List (List AV) := fun i => (o.take i).map sC
  have hYl : ∀ i, i ≤ o.length → (Y i).length = i := fun i hi => by simp [Y]; omega
  have hYf : ∀ i ρ sn h m, (Y i).map (List.map (conv ρ sn h (m + 1))) = Y i := fun i => sts_flat _
  have hYs : ∀ i (h : i < o.length), Y (i + 1) = Y i ++ [sC o[i]] := fun i h => by
    simp only [Y]
    rw [List.take_succ_eq_append_getElem h, List.map_append]
    rfl
  have hYg : ∀ i k (h : k < o.length), k < i → (Y i)[k]? = some (sC o[k]) := fun i k h hk => by
    simp only [Y]
    rw [List.getElem?_map, List.getElem?_take, if_pos hk, List.getElem?_eq_getElem h]
    rfl
  have hYe : ∀ i, Y i = (o.take i).map sC := fun i => rfl
  have hY0 : Y 0 = [] := rfl
  clear_value Y
  have hend : ∀ i, i ≤ o.length → Chain au (o.take i) → PostX cref04_Counted.res 0 (fun o : List Stm => AV.rs 0 0 o.length) (fun o => [some ⟨13, o.map sC, 0⟩]) (fun c => Chain au c ∧ c.length ≤ l.length) .ret ⟨76, [(4, .rs 16 0 i)], [(16, some ⟨13, Y i, 0⟩)], 2000⟩ := fun i hi hch => by
    have hil : (o.take i).length = i := by rw [List.length_take]; omega
    exact PostX.mk (.inr rfl) (o.take i) ⟨hch, by omega⟩ (RetOk.out [16] [] rfl (by simp) (by simp) (by simp [hil]) (by simp only [hYe]; simp [Function.comp_def]))
  refine awp_cut (ι := Nat) (fun i => ⟨76, [(6, .rs 16 0 i)], [(16, some ⟨13, Y i, 0⟩)], 1900⟩) (fun i => i ≤ o.length ∧ Chain au (o.take i)) ?_ ?_
  · refine rx (s := ?s3) [5, 6, 7] [] [] rfl ?o3 ?q3
    case o3 => simp; rfl
    refine awp_block ?_
    refine awp_loop (ι := Nat) (fun i => ⟨76, [(5, sts o), (6, .rs 16 0 i), (7, .I i)], [(16, some ⟨13, Y i, 0⟩)], 72⟩) (fun i => i ≤ o.length ∧ Chain au (o.take i)) (fun i => o.length - i) 0 ⟨Nat.zero_le _, Chain.nil au⟩ (Le.lst [] [] [(16, 13)] rfl (by simp) (by simp) (by simp) (by simp) (by simp) (by simp) (by simp) (by simp [Up]) (by simp [hY0])) ?_
    rintro i ⟨hi, hch⟩
    refine awp_seq ?_
    refine rk (s := ?s4) [5, 6, 7, 15] [16] rfl ?o4 ?q4
    case o4 => simp; rfl
    refine awp_cond _ rfl (fun h => awp_skip ?_) fun h => awp_exit (hit ?_)
    · simp only [decide_eq_true_eq, Int.ofNat_lt] at h
      refine awp_cut (ι := Unit) (fun _ => ⟨76, [(5, sts o), (6, .rs 16 0 (i + 1)), (7, .I i)], [(16, some ⟨13, Y (i + 1), 0⟩)], 1500⟩) (fun _ => Chain au (o.take (i + 1))) ?_ ?_
      · have hg : o[i]? = some o[i] := List.getElem?_eq_getElem h
        obtain ⟨hsl, hsau, hsf⟩ := ho2 o[i] (List.getElem_mem h)
        have hts : o.take (i + 1) = o.take i ++ [o[i]] := List.take_succ_eq_append_getElem h
        have hil : (o.take i).length = i := by rw [List.length_take]; omega
        have hpv : ∀ j, i = j + 1 → ∃ p : Stm, (Y i)[j]? = some (sC p) ∧ (o.take i)[(o.take i).length - 1]? = some p ∧ StAt au j p := fun j hj => by
          subst hj
          have h1 := hch.1 j (by omega)
          rw [List.getElem_take] at h1
          refine ⟨o[j]'(by omega), hYg _ j (by omega) (by omega), ?_, h1⟩
          rw [hil, List.getElem?_take, if_pos (by omega)]
          exact List.getElem?_eq_getElem (by omega)
        rw [hYs i h, hts]
        generalize o[i] = s at *
        have hXl := hYl i hi
        have hXf := hYf i
        have hse : Y i = (o.take i).map sC := hYe i
        generalize hYX : Y i = X at *
        generalize hce : o.take i = c at *
        refine awp_block ?_
        refine rk (s := ?s5) [5, 6, 7, 8] [16] rfl ?o5 ?q5
        case o5 => simp; rfl
        refine awp_seq ?_
        obtain ⟨i1, hi1⟩ : ∃ i1, i1 = i + 1 := ⟨_, rfl⟩
        have hw1 : IntKind.i64.wrap ((i : Int) + 1) = (i1 : Int) := by rw [w64 (by omega) (by omega)]; omega
        obtain ⟨r, hr, hrn⟩ : ∃ r : Bool, r = (s.nu != (i : Int) || match o[i1]? with | some p => p.nu == (i : Int) | none => false) ∧ (r = false → s.nu = i) := ⟨_, rfl, fun h => by
          have := (Bool.or_eq_false_iff.1 h).1
          simpa using this⟩
        refine awp_regc ⟨76, [(5, sts o), (6, .rs 16 0 i), (7, .I i), (8, .I i), (43, .B r)], [(16, some ⟨13, X, 0⟩)], 500⟩ rfl ?_ ?_
        · by_cases c1 : s.nu = (i : Int)
          · have c1' : (s.nu != (i : Int)) = false := by simp [c1]
            by_cases hk : i1 < o.length
            · have hp1 : o[i1]? = some o[i1] := List.getElem?_eq_getElem hk
              obtain ⟨p, hp⟩ : ∃ p, p = o[i1] := ⟨_, rfl⟩
              rw [← hp] at hp1
              simp [hg, c1', hw1, hk, ← hp]
              exact Le.keep rfl (by simp) (by simp [hr, c1', hk, hp]) (by simp)
            · have hp1 : o[i1]? = none := List.getElem?_eq_none (by omega)
              simp [hg, c1', hw1, hk]
              exact Le.keep rfl (by simp) (by simp [hr, c1', hp1]) (by simp)
          · have c1' : (s.nu != (i : Int)) = true := by simp [c1]
            simp [hg, c1']
            exact Le.keep rfl (by simp) (by simp [hr, c1']) (by simp)
        refine awp_cond _ rfl (fun h5 => awp_exit ?_) fun h5 => awp_skip ?_
        · refine miss (by decide) (hit ?_)
          exact ⟨i, ⟨hi, by rw [hce]; exact hch⟩, Le.keep rfl (by simp) (by simp) (by simp [hYX])⟩
        have hnu := hrn h5
        refine awp_seq ?_
        obtain ⟨r2, hr2, hr0⟩ : ∃ r2 : Bool, (∀ j, i = j + 1 → ∃ p : Stm, X[j]? = some (sC p) ∧ c[c.length - 1]? = some p ∧ StAt au j p ∧ r2 = (!decide (FollowsP p s) || p.ki == 3)) ∧ (i = 0 → r2 = false) := by
          rcases Nat.eq_zero_or_pos i with h0 | h0
          · exact ⟨false, fun j hj => by omega, fun _ => rfl⟩
          · obtain ⟨j, hj⟩ : ∃ j, i = j + 1 := ⟨i - 1, by omega⟩
            obtain ⟨p, hp1, hp2, hp3⟩ := hpv j hj
            refine ⟨!decide (FollowsP p s) || p.ki == 3, fun j' hj' => ?_, fun h => by omega⟩
            obtain rfl : j' = j := by omega
            exact ⟨p, hp1, hp2, hp3, rfl⟩
        refine awp_dregc ⟨76, [(5, sts o), (6, .rs 16 0 i), (7, .I i), (8, .I i), (67, .B r2)], [(16, some ⟨13, X, 0⟩)], 800⟩ rfl ?_ ?_
        · rcases Nat.eq_zero_or_pos i with h0 | hi0
          · have h1 := hr0 h0
            have h2 : ¬ 0 < i := by omega
            simp [h2]
            exact ⟨rfl, Le.keep rfl (by simp) (by simp [h1]) (by simp)⟩
          · obtain ⟨j, hj⟩ : ∃ j, i = j + 1 := ⟨i - 1, by omega⟩
            obtain ⟨p, hp1, hp2, hp3, hp4⟩ := hr2 j hj
            have hwj : IntKind.i64.wrap ((i : Int) - 1) = (j : Int) := by rw [w64 (by omega) (by omega)]; omega
            have hfo := ref04_Follows_ok p s hp3.b (by have := hp3.nu_; omega) (by have := hp3.nu_; omega)
            have hji : j < i := by omega
            simp [hi0, hwj, hji, hp1, hg]
            refine call0e hfo (by simp) ?_
            by_cases c2 : FollowsP p s
            · simp [hwj, hji, hp1, c2]
              exact ⟨rfl, Le.keep rfl (by simp) (by simp [hp4, c2]) (by simp)⟩
            · simp [c2]
              exact ⟨rfl, Le.keep rfl (by simp) (by simp [hp4, c2]) (by simp)⟩
        refine awp_cond _ rfl (fun h6 => awp_exit ?_) fun h6 => awp_skip ?_
        · refine miss (by decide) (hit ?_)
          exact ⟨i, ⟨hi, by rw [hce]; exact hch⟩, Le.keep rfl (by simp) (by simp) (by simp [hYX])⟩
        have hchn : Chain au (c ++ [s]) := hch.snoc ⟨hsf.ok, hsf.ok.b, hsau, by rw [hil]; exact hnu, hsf.sk_, hsf.sd_⟩ fun p hp => by
          have hi0 : 0 < i := by
            rcases Nat.eq_zero_or_pos i with h0 | h0
            · rw [hil, h0] at hp
              have := List.getElem?_eq_some_iff.1 hp
              obtain ⟨hh, _⟩ := this
              omega
            · exact h0
          obtain ⟨j, hj⟩ : ∃ j, i = j + 1 := ⟨i - 1, by omega⟩
          obtain ⟨p', hp1, hp2, hp3, hp4⟩ := hr2 j hj
          rw [hp2] at hp
          cases hp
          rw [hp4, Bool.or_eq_false_iff] at h6
          have hf : FollowsP p s := by simpa using h6.1
          exact ⟨hf.2.2.1, hf.2.2.2, by simpa using h6.2⟩
        have htk : List.take i X = X := List.take_of_length_le (by omega)
        have hXf2 : ∀ ρ sn h m, (X ++ [sC s]).map (List.map (conv ρ sn h (m + 1))) = X ++ [sC s] := fun ρ sn h m => by rw [List.map_append, hXf]; simp
        refine awp_reg rfl ?_
        simp [hXl, htk, hg]
        exact ⟨by omega, by omega, hchn, Le.Z1 hXf2 848 16 [] rfl rfl (by simp) (by simp) (by simp [htk, hXl]) (by simp)⟩
      · intro _ hch2
        have hwi := wr1 h (by omega)
        refine awp_reg rfl ?_
        simp [hwi]
        exact ⟨i + 1, ⟨by omega, hch2⟩, by omega, Le.Z1 (hYf (i + 1)) 16 16 [] rfl rfl (by simp) (by simp) rfl (by simp)⟩
    · exact ⟨i, ⟨hi, hch⟩, Le.keep rfl (by simp) (by simp) (by simp)⟩
  · rintro i ⟨hi, hch⟩
    have := hYf i
    refine awp_regc ⟨76, [(4, .rs 16 0 i)], [(16, some ⟨13, Y i, 0⟩)], 2000⟩ rfl ?_ (awp_ret (hend i hi hch))
    simp
    exact Le.keep rfl (by simp) (by simp) (by simp)
end Go.Proofs.YtnlanlpbgcalcaaGreat
namespace Go.Proofs.YtnlanlpbgcalcaaGreat
open Go
section
variable {P : Program} {np id : Nat} {h : Nat → Option Ent} {K : AV → List Nat → List (Nat × Option Ent) → Prop} {f : FuncId} {first capt args args' : List AV} {res : AV}
theorem callN1s (sn : List Nat) {e : Ent} (hnp : ∀ i ∈ sn, np ≤ i) (hc : ACalls P f args' [] res [some e]) (he : WkL ((first ++ args ++ capt).map (conv [] sn h 4)) args')
    (hk : K (conv (swp [] id) [] (fun _ => none) 4 res) sn ((id, some (convE (swp [] id) [] (fun _ => none) 4 e)) :: sn.filterMap fun i => (h i).map fun e => (i, some { e with ro := e.rows.length }))) : aK P np id .call (.fn (.func f) first capt :: args) h K :=
  ⟨[], sn, true, args', [], res, [some e], by simp, by simp, fun _ => hnp, by rw [List.zipIdx_nil]; exact he, rfl, hc, by simp, .inl rfl, by simpa [swp] using hk⟩
end
def ofS (l : List Stm) (k : Int) : List Stm := l.filter fun s => decide (s.au = k)
theorem ofS_succ (l : List Stm) (k : Int) (i : Nat) (h : i < l.length) : ofS (l.take (i + 1)) k = ofS (l.take i) k ++ if l[i].au = k then [l[i]] else [] := by
  unfold ofS
  rw [List.take_succ_eq_append_getElem h, List.filter_append]
  congr 1
  by_cases hk : l[i].au = k
  · rw [if_pos hk]; simp [hk]
  · rw [if_neg hk]; simp [hk]
def lowS (l : List Stm) (k : Nat) : Nat := (l.filter fun s => decide (0 ≤ s.au ∧ s.au < (k : Int))).length
theorem lowS_succ (k : Nat) : ∀ l : List Stm, lowS l (k + 1) = lowS l k + (ofS l k).length
  | [] => rfl
  | s :: l => by
    have ih := lowS_succ k l
    unfold lowS ofS at *
    rw [List.filter_cons, List.filter_cons, List.filter_cons]
    by_cases h1 : s.au = k
    · have h2 : 0 ≤ s.au ∧ s.au < ((k + 1 : Nat) : Int) := by omega
      have h3 : ¬ (0 ≤ s.au ∧ s.au < (k : Int)) := by omega
      rw [if_pos (decide_eq_true h2), if_neg (by rw [decide_eq_false h3]; decide), if_pos (decide_eq_true h1), List.length_cons, List.length_cons]
      omega
    · by_cases h2 : 0 ≤ s.au ∧ s.au < (k : Int)
      · have h3 : 0 ≤ s.au ∧ s.au < ((k + 1 : Nat) : Int) := by omega
        rw [if_pos (decide_eq_true h3), if_pos (decide_eq_true h2), if_neg (by rw [decide_eq_false h1]; decide), List.length_cons, List.length_cons]
        omega
      · have h3 : ¬ (0 ≤ s.au ∧ s.au < ((k + 1 : Nat) : Int)) := by omega
        rw [if_neg (by rw [decide_eq_false h3]; decide), if_neg (by rw [decide_eq_false h2]; decide), if_neg (by rw [decide_eq_false h1]; decide)]
        exact ih
theorem lowS_le (l : List Stm) (k : Nat) : lowS l k ≤ l.length := List.length_filter_le _ _
set_option maxHeartbeats 1000000 in
set_option maxRecDepth 100000 in
theorem StoreOf_any (l : List Stm) (k : Int) (hl : l.length ≤ 100000) (hb : ∀ s ∈ l, StB s) : ACalls Tryz.prog nref05_Of [.agg [sts l], .I k] [] (.rs 0 0 (ofS l k).length) [some ⟨13, (ofS l k).map sC, 0⟩] := by
  refine sref05_Of.acalls (Nat.le_of_ble_eq_true rfl) (Nat.le_of_ble_eq_true rfl) (Nat.zero_le _) ?_
  show awp _ 0 _ _ ⟨32, [(0, .agg [sts l]), (1, .I k)], [], 16⟩
  refine rx (s := ?s1) [1, 2] [] [16] rfl ?o1 ?q1
  case o1 => simp; rfl
  refine rx (s := ?s2) [1, 2, 5] [] [] rfl ?o2 ?q2
  case o2 => simp; rfl
  refine awp_seq ?_
  refine rx (s := ?s3) [1, 2, 5, 6] [] [] rfl ?o3 ?q3
  case o3 => simp; rfl
  refine awp_block ?_
  refine awp_loop (ι := List Stm × Nat) (fun p => ⟨32, [(1, .I k), (2, .pv [sts l]), (5, .rs 16 0 p.1.length), (6, .I p.2)], [(16, some ⟨13, p.1.map sC, 0⟩)], 56⟩) (fun p => p.2 ≤ l.length ∧ p.1 = ofS (l.take p.2) k) (fun p => l.length - p.2) ([], 0) ⟨Nat.zero_le _, rfl⟩ (Le.lst [] [] [(16, 13)] rfl (by simp) (by simp) (by simp) (by simp) (by simp) (by simp) (by simp) (by simp [Up]) (by simp)) ?_
  rintro ⟨o, i⟩ ⟨hi, hoe⟩
  simp only at hi hoe
  have ho1 : o.length ≤ i := by
    rw [hoe]
    exact Nat.le_trans (List.length_filter_le _ _) (by rw [List.length_take]; omega)
  have hXl : (o.map sC).length = o.length := List.length_map ..
  have hXf := sts_flat o
  obtain ⟨X, hX⟩ : ∃ X, X = o.map sC := ⟨_, rfl⟩
  simp only
  rw [← hX] at hXl hXf ⊢
  refine awp_seq ?_
  refine rk (s := ?s4) [1, 2, 5, 6, 11] [16] rfl ?o4 ?q4
  case o4 => simp; rfl
  refine awp_cond _ rfl (fun h => awp_skip ?_) fun h => awp_exit (hit ?_)
  · simp only [decide_eq_true_eq, Int.ofNat_lt] at h
    refine awp_cut (ι := List Stm) (fun o => ⟨32, [(1, .I k), (2, .pv [sts l]), (5, .rs 16 0 o.length), (6, .I i)], [(16, some ⟨13, o.map sC, 0⟩)], 500⟩) (fun o => o = ofS (l.take (i + 1)) k) ?_ ?_
    · have hg : l[i]? = some l[i] := List.getElem?_eq_getElem h
      have hsm : l[i] ∈ l := List.getElem_mem h
      have hsu := ofS_succ l k i h
      rw [← hoe] at hsu
      generalize l[i] = s at *
      have hsb := hb s hsm
      have hcp := ref03_Copy_ok s (by have := hsb.2.2.1; omega) (by have := hsb.2.2.2.1; omega)
      refine awp_block ?_
      refine rk (s := ?s5) [1, 2, 5, 6, 21] [16] rfl ?o5 ?q5
      case o5 => simp [hg]; rfl
      refine awp_cond _ rfl (fun h5 => ?_) fun h5 => awp_skip ?_
      · have htk : List.take o.length X = X := List.take_of_length_le (by omega)
        have hXf2 : ∀ ρ sn h m, (X ++ [sC s]).map (List.map (conv ρ sn h (m + 1))) = X ++ [sC s] := fun ρ sn h m => by rw [List.map_append, hXf]; simp
        have hom : (o ++ [s]).map sC = X ++ [sC s] := by rw [List.map_append, ← hX]; rfl
        have hol : (o ++ [s]).length = o.length + 1 := by simp
        refine awp_reg rfl ?_
        simp [hg]
        refine call0e hcp (by simp) ?_
        simp [hXl, htk]
        have hsk : s.au = k := by simpa using h5
        rw [if_pos hsk] at hsu
        refine ⟨by omega, by omega, ?_⟩
        rw [hsu]
        exact Le.Z1 (z := 13) hXf2 224 16 [] rfl (by simp only [hom]) (by simp) (by simp) (by simp [htk]) (by simp [hol])
      · have hsk : ¬ s.au = k := by simpa using h5
        rw [if_neg hsk, List.append_nil] at hsu
        exact ⟨o, hsu.symm, Le.keep rfl (by simp) (by simp) (by simp [hX])⟩
    · rintro o ho3
      have hwi := wr1 h (by omega)
      refine awp_reg rfl ?_
      simp [hwi]
      exact ⟨o, i + 1, ⟨by omega, ho3⟩, by omega, Le.Z1 (sts_flat o) 16 16 [] rfl rfl (by simp) (by simp) rfl (by simp)⟩
  simp only [decide_eq_false_iff_not, Int.ofNat_lt] at h
  obtain rfl : i = l.length := by omega
  rw [List.take_length] at hoe
  rw [hX, hoe]
  refine rx (s := ?s9) [4] [16] [] rfl ?o9 ?q9
  case o9 => simp [Function.comp_def]; rfl
  exact awp_ret ⟨.inr rfl, RetOk.out [16] [] rfl (by simp) (by simp) (by simp) (by simp [Function.comp_def])⟩
theorem Chain.stOk {a : Int} {c : List Stm} (hc : Chain a c) {s : Stm} (hs : s ∈ c) : StOk s := by
  obtain ⟨i, hi, rfl⟩ := List.mem_iff_getElem.1 hs
  exact (hc.1 i hi).ok
theorem Chain.au {a : Int} {c : List Stm} (hc : Chain a c) {s : Stm} (hs : s ∈ c) : s.au = a := by
  obtain ⟨i, hi, rfl⟩ := List.mem_iff_getElem.1 hs
  exact (hc.1 i hi).au_
set_option maxHeartbeats 1000000 in
set_option maxRecDepth 100000 in
theorem StoreCounted_any (l : List Stm) (hl : l.length ≤ 100000) (hb : ∀ s ∈ l, StB s) : ∃ c : List Stm, (GoodL c ∧ c.length ≤ l.length ∧ ∀ s ∈ c, StOk s) ∧ ACalls Tryz.prog nref05_Counted [.agg [sts l]] [] (.rs 0 0 c.length) [some ⟨13, c.map sC, 0⟩] := by
  refine sref05_Counted.acallsX (args := [.agg [sts l]]) (hs := []) (fun o => .rs 0 0 o.length) (fun o => [some ⟨13, o.map sC, 0⟩]) (fun c : List Stm => GoodL c ∧ c.length ≤ l.length ∧ ∀ s ∈ c, StOk s) (Nat.le_of_ble_eq_true rfl) (Nat.le_of_ble_eq_true rfl) (fun _ => Nat.zero_le _) ?_
  show awp _ 0 _ _ ⟨17, [(0, .agg [sts l])], [], 16⟩
  refine rx (s := ?s1) [1] [] [16] rfl ?o1 ?q1
  case o1 => simp; rfl
  refine rx (s := ?s2) [1, 3] [] [] rfl ?o2 ?q2
  case o2 => simp; rfl
  refine awp_seq ?_
  refine rx (s := ?s3) [1, 3, 4] [] [] rfl ?o3 ?q3
  case o3 => simp; rfl
  refine awp_block ?_
  refine awp_loop (ι := List Stm × Nat) (fun p => ⟨17, [(1, .pv [sts l]), (3, .rs 16 0 p.1.length), (4, .I p.2)], [(16, some ⟨13, p.1.map sC, 0⟩)], 48⟩) (fun p => p.2 ≤ 64 ∧ p.1.length ≤ lowS l p.2 ∧ GoodL p.1 ∧ ∀ x ∈ p.1, x.au < p.2 ∧ StOk x) (fun p => 64 - p.2) ([], 0) ⟨Nat.zero_le _, Nat.zero_le _, ⟨List.Pairwise.nil, by simp⟩, by simp⟩ (Le.lst [] [] [(16, 13)] rfl (by simp) (by simp) (by simp) (by simp) (by simp) (by simp) (by simp) (by simp [Up]) (by simp)) ?_
  rintro ⟨o, k⟩ ⟨hk, ho1, ho2, ho3⟩
  simp only at hk ho1 ho2 ho3
  have hXl : (o.map sC).length = o.length := List.length_map ..
  have hXf := sts_flat o
  obtain ⟨X, hX⟩ : ∃ X, X = o.map sC := ⟨_, rfl⟩
  simp only
  rw [← hX] at hXl hXf ⊢
  refine awp_seq ?_
  refine rk (s := ?s4) [1, 3, 4, 6] [16] rfl ?o4 ?q4
  case o4 => simp; rfl
  refine awp_cond _ rfl (fun h => awp_skip ?_) fun h => awp_exit (hit ?_)
  · simp only [decide_eq_true_eq] at h
    have hk64 : k < 64 := by omega
    have hof := StoreOf_any l k hl hb
    have ha1 : (ofS l k).length ≤ l.length := List.length_filter_le _ _
    have ha2 : ∀ x ∈ ofS l k, x ∈ l := fun x hx => (List.mem_filter.1 hx).1
    have hlow := lowS_succ k l
    have hlow2 := lowS_le l k
    generalize ofS l k = a at *
    obtain ⟨c, ⟨hc1, hc2⟩, hct⟩ := Counted_any k a (by omega) fun s hs => hb s (ha2 s hs)
    have hcl := hc1.few
    have htk : List.take o.length X = X := List.take_of_length_le (by omega)
    have htc : List.take c.length (c.map sC) = c.map sC := List.take_of_length_le (by simp)
    have hom : (o ++ c).map sC = X ++ c.map sC := by rw [List.map_append, ← hX]
    have hol : (o ++ c).length = o.length + c.length := List.length_append ..
    have hXf2 := sts_flat (o ++ c)
    rw [hom] at hXf2
    have hta : List.take a.length (a.map sC) = a.map sC := List.take_of_length_le (by simp)
    have hgood : GoodL (o ++ c) ∧ ∀ x ∈ o ++ c, x.au < (k + 1 : Nat) ∧ StOk x := by
      refine ⟨ho2.append hc1.good fun x hx y hy => ?_, fun x hx => ?_⟩
      · rw [hc1.au hy]; exact (ho3 x hx).1
      · rcases List.mem_append.1 hx with hx | hx
        · have := ho3 x hx; exact ⟨by omega, this.2⟩
        · exact ⟨by rw [hc1.au hx]; omega, hc1.stOk hx⟩
    have hXc := sts_flat c
    refine awp_cut (ι := Unit) (fun _ => ⟨17, [(1, .pv [sts l]), (3, .rs 16 0 (o ++ c).length), (4, .I k)], [(16, some ⟨13, X ++ c.map sC, 0⟩)], 300⟩) (fun _ => True) ?_ fun _ _ => ?_
    · refine awp_block ?_
      refine awp_reg rfl ?_
      simp
      refine callN1 hof (by simp) ?_
      simp [Function.comp_def]
      refine callN1s [96] (by simp) hct (by simp [hta, Function.comp_def]) ?_
      simp [hXl, htk, htc, Function.comp_def]
      exact ⟨by omega, by omega, Le.Z1 (z := 13) hXf2 112 16 [] rfl rfl (by simp) (by simp) (by simp) (by simp)⟩
    have hwi := wr1 hk64 (by omega)
    refine awp_reg rfl ?_
    simp [hwi]
    exact ⟨o ++ c, k + 1, ⟨by omega, by rw [hol, hlow]; omega, hgood.1, hgood.2⟩, by omega, Le.Z1 (z := 13) hXf2 16 16 [] rfl (by simp only [hom]) (by simp) (by simp) rfl (by simp)⟩
  rw [hX]
  refine rx (s := ?s9) [2] [16] [] rfl ?o9 ?q9
  case o9 => simp [Function.comp_def]; rfl
  exact awp_ret (PostX.mk (.inr rfl) o ⟨ho2, Nat.le_trans ho1 (lowS_le l k), fun x hx => (ho3 x hx).2⟩ (RetOk.out [16] [] rfl (by simp) (by simp) (by simp) (by simp [Function.comp_def])))
end Go.Proofs.YtnlanlpbgcalcaaGreat
namespace Go.Proofs.YtnlanlpbgcalcaaGreat
open Go
def edV (v : Vch) : Ed := ⟨v.fr, v.to, v.lv⟩
def edgesAt (V : List Vch) (lv : Int) : List Ed := (V.filter fun v => decide (lv ≤ v.lv)).map edV
def atG (l : List Stm) (t lv : Int) : Gr := ⟨64, edgesAt (actV l t) lv, goneR l t⟩
def zGr : Gr := ⟨0, [], []⟩
def atR (l : List Stm) (t lv : Int) : Gr × Int := if 1 ≤ lv ∧ lv ≤ 3 then (if (edgesAt (actV l t) lv).length ≤ 500 then (atG l t lv, 0) else (zGr, 3)) else (zGr, 2)
theorem edgesAt_len (V : List Vch) (lv : Int) : (edgesAt V lv).length ≤ V.length := by
  unfold edgesAt
  rw [List.length_map]
  exact List.length_filter_le _ _
theorem actV_len (l : List Stm) (t : Int) : (actV l t).length ≤ l.length := by
  have h1 := actN_le (ofV l) (goneR l t) t (ofV l).length
  have h2 : (ofV l).length = (rawV l l).length := by unfold ofV isortV; rw [List.length_reverse, isortRevV_len]
  have h3 := rawV_le l l
  unfold actV
  omega
theorem atR_few {l : List Stm} {t lv : Int} (h1 : 1 ≤ lv) (h3 : lv ≤ 3) (hl : l.length ≤ 500) : atR l t lv = (atG l t lv, 0) := by
  have := edgesAt_len (actV l t) lv
  have := actV_len l t
  unfold atR
  rw [if_pos ⟨h1, h3⟩, if_pos (by omega)]
theorem level_at (l : List Stm) (t lv : Int) (h : 1 ≤ lv) : levelG (atG l t 1) lv = atG l t lv := by
  unfold levelG atG edgesAt
  congr 1
  simp only
  rw [List.filter_map, List.filter_filter]
  congr 1
  refine List.filter_congr fun v _ => ?_
  by_cases hv : lv ≤ v.lv
  · have h1 : 1 ≤ v.lv := by omega
    have h2 : ¬ v.lv < lv := by omega
    simp [edV, hv, h1, h2]
  · have h2 : v.lv < lv := by omega
    simp [edV, hv, h2]
end Go.Proofs.YtnlanlpbgcalcaaGreat
namespace Go.Proofs.YtnlanlpbgcalcaaGreat
open Go
abbrev gRow (g : Int) (es ks : AV) : List AV := [.I g, es, ks]
theorem zGwk : Wk (.agg (gRow 0 .nilS .nilS)) (eG zGr) := wkA3 (.refl _) (.nil 3 false) (.nil 1 false)
abbrev rwE (l : List Ed) : List (List AV) := l.map fun e => [.I e.f, .I e.t, .I e.v]
theorem rwE_flat (l : List Ed) (ρ sn h m) : (rwE l).map (List.map (conv ρ sn h (m + 1))) = rwE l := by simp [Function.comp_def]
theorem edgesAt_succ (V : List Vch) (lv : Int) (i : Nat) (h : i < V.length) : edgesAt (V.take (i + 1)) lv = edgesAt (V.take i) lv ++ if lv ≤ V[i].lv then [edV V[i]] else [] := by
  unfold edgesAt
  rw [List.take_succ_eq_append_getElem h, List.filter_append, List.map_append]
  congr 1
  by_cases hk : lv ≤ V[i].lv
  · rw [if_pos hk]; simp [hk]
  · rw [if_neg hk]; simp [hk]
theorem Le.g3 {st st' : St} {X : List (List AV)} {G : AV} {n : Nat} (i k : Nat) (sn : List Nat) (hsz : st'.sz = st.sz) (hh : st'.h = [(16, some ⟨3, [gRow 0 .nilS .nilS], 0⟩), (k, some ⟨3, [gRow 64 (.rs 24 0 n) G], 0⟩), (24, some ⟨3, X, 0⟩)]) (hk : 24 < k ∧ k < st'.n ∧ i ≠ 16 ∧ i ≠ k) (hs : ∀ j ∈ sn, j ∉ [16, k, i])
    (hX : ∀ ρ sn h m, X.map (List.map (conv ρ sn h (m + 1))) = X) (hG : ∀ ρ sn h m, conv ρ sn h (m + 1) G = G) (h1 : st.hp 16 = some ⟨3, [gRow 0 .nilS .nilS], 0⟩) (h2 : st.hp k = some ⟨3, [gRow 64 (.rs i 0 n) G], 0⟩) (h3 : st.hp i = some ⟨3, X, 0⟩)
    (ht : ∀ p ∈ st'.t, Wk (conv [(16, 16), (k, k), (i, 24)] sn st.hp 4 (st.get p.1)) p.2) : Le 0 st st' := by
  refine Le.ents [(16, 16), (k, k), (i, 24)] sn hsz (by simp; omega) (by simp; omega) (by simp; omega) (fun j hj => ⟨Nat.zero_le _, by simpa using hs j hj⟩) (by omega) ht fun p hp => ?_
  rw [hh] at hp
  simp only [List.mem_cons, List.not_mem_nil, or_false] at hp
  have hne : ¬ (16 = i) := fun h => hk.2.2.1 h.symm
  have hne2 : ¬ (k = i) := fun h => hk.2.2.2 h.symm
  have hne3 : ¬ (16 = k) := by omega
  rcases hp with rfl | rfl | rfl
  · exact ⟨16, _, _, rfl, by simp, h1, EntUp.eq (by simp) (by simp)⟩
  · exact ⟨k, _, _, rfl, by simp, h2, EntUp.eq (by simp [hG, hne, hne2, hne3]) (by simp)⟩
  · exact ⟨i, _, _, rfl, by simp, h3, EntUp.eq (by simp only [convE, hX]) (by simp)⟩
set_option maxHeartbeats 2000000 in
set_option maxRecDepth 100000 in
theorem graph_At_ok (l : List Stm) (t lv : Int) (hl : l.length ≤ 100000) (hn : SortH l) (hz : (goneR l t).Pairwise (· < ·)) : ACalls Tryz.prog ngraph_At [sts l, .I t, .I lv] [] (.tup [eG (atR l t lv).1, .I (atR l t lv).2]) [] := by
  have hac := vouch_Active_ok l t hl hn hz
  have hgo := vouch_Gone_ok l t hl hz
  have hVl := actV_len l t
  have hres : atR l t lv = if 1 ≤ lv ∧ lv ≤ 3 then (if (edgesAt (actV l t) lv).length ≤ 500 then (⟨64, edgesAt (actV l t) lv, goneR l t⟩, 0) else (zGr, 3)) else (zGr, 2) := rfl
  rw [hres]
  generalize actV l t = V at *
  generalize goneR l t = G at *
  refine sgraph_At.acalls (Nat.le_of_ble_eq_true rfl) (Nat.le_of_ble_eq_true rfl) (Nat.le_refl _) ?_
  show awp _ 0 _ _ ⟨50, [(0, sts l), (1, .I t), (2, .I lv)], [], 16⟩
  refine awp_regc ⟨50, [(0, sts l), (1, .I t), (2, .I lv), (6, .pt 16 0 0)], [(16, some ⟨3, [gRow 0 .nilS .nilS], 0⟩)], 32⟩ rfl ?_ ?_
  · simp
    exact Le.keep rfl (by simp) (by simp) (by simp)
  refine awp_seq ?_
  refine awp_regc ⟨50, [(0, sts l), (1, .I t), (2, .I lv), (6, .pt 16 0 0), (13, .B (decide (¬ (1 ≤ lv ∧ lv ≤ 3))))], [(16, some ⟨3, [gRow 0 .nilS .nilS], 0⟩)], 56⟩ rfl ?_ ?_
  · simp
    refine call0e (lists_In_ok lv 1 3) (by simp) ?_
    simp
    exact Le.keep rfl (by simp) (by simp <;> rw [Bool.eq_iff_iff] <;> simp <;> omega) (by simp)
  refine awp_cond _ rfl (fun h3 => ?_) fun h3 => awp_skip ?_
  · have h4 : ¬ (1 ≤ lv ∧ lv ≤ 3) := of_decide_eq_true h3
    rw [if_neg h4]
    refine awp_regc ⟨50, [(6, .pv (gRow 0 .nilS .nilS)), (7, .I 2)], [], 200⟩ rfl ?_ (awp_ret ⟨.inr rfl, RetOk.out [] [] rfl (by simp) (by simp) (by simp; exact wkT2 zGwk (.refl _)) (by simp)⟩)
    simp [splice]
    exact Le.snap [16] rfl rfl (by simp)
  have h4 : 1 ≤ lv ∧ lv ≤ 3 := by simpa using h3
  rw [if_pos h4]
  have htG : List.take G.length (rwI G) = rwI G := List.take_of_length_le (by simp)
  have htV : List.take V.length (rowsV V) = rowsV V := List.take_of_length_le (by simp)
  have hVf := rowsV_flat V
  have hGf := rwI_flat G
  have hGs : ints G = .vs 1 false (rwI G) := rfl
  have hGc : ∀ (ρ : List (Nat × Nat)) (sn : List Nat) (h : Nat → Option Ent) (m : Nat), conv ρ sn h (m + 1) (ints G) = ints G := fun _ _ _ _ => rfl
  refine awp_regc ⟨50, [(0, sts l), (1, .I t), (2, .I lv), (6, .pt 16 0 0), (8, .pt 88 0 0)], [(16, some ⟨3, [gRow 0 .nilS .nilS], 0⟩), (88, some ⟨3, [gRow 64 .nilS (ints G)], 0⟩)], 110⟩ rfl ?_ ?_
  · simp
    refine callN1 hgo (by simp) ?_
    simp [hGf, splice]
    exact Le.go [(16, 16), (88, 88)] [72] rfl rfl (by simp) (by simp [htG, hGf])
  refine awp_cut (ι := Nat) (fun k => ⟨50, [(6, .pt 16 0 0), (8, .pt 88 0 0)], [(16, some ⟨3, [gRow 0 .nilS .nilS], 0⟩), (88, some ⟨3, [gRow 64 (.rs 24 0 (edgesAt V lv).length) (ints G)], 0⟩), (24, some ⟨3, rwE (edgesAt V lv), 0⟩)], 600⟩) (fun _ => True) ?_ fun _ _ => ?_
  · refine awp_regc ⟨50, [(2, .I lv), (6, .pt 16 0 0), (8, .pt 88 0 0), (21, vchs V), (22, .I V.length), (23, .I (0 : Nat))], [(16, some ⟨3, [gRow 0 .nilS .nilS], 0⟩), (88, some ⟨3, [gRow 64 .nilS (ints G)], 0⟩)], 150⟩ rfl ?_ ?_
    · simp
      refine callN1 hac (by simp) ?_
      simp [hVf]
      exact Le.go [(16, 16), (88, 88)] [126] rfl rfl (by simp [hVf]; exact wkE (congrArg _ htV)) (by simp [hGc])
    refine awp_block ?_
    refine awp_loop (ι := Nat) (fun i => ⟨50, [(2, .I lv), (6, .pt 16 0 0), (8, .pt 88 0 0), (21, vchs V), (22, .I V.length), (23, .I i)], [(16, some ⟨3, [gRow 0 .nilS .nilS], 0⟩), (88, some ⟨3, [gRow 64 (.rs 24 0 (edgesAt (V.take i) lv).length) (ints G)], 0⟩), (24, some ⟨3, rwE (edgesAt (V.take i) lv), 0⟩)], 160⟩) (fun i => i ≤ V.length) (fun i => V.length - i) 0 (Nat.zero_le _) ?_ ?_
    · refine Le.lst [(16, 16), (88, 88)] [] [(24, 3)] rfl (by simp) (by simp) (by simp) (by simp) (by simp) (by simp) (by simp) (by simp [Up]) fun p hp e' he' => ?_
      simp only [List.mem_cons, List.not_mem_nil, or_false] at hp
      rcases hp with rfl | rfl | rfl
      · cases he'
        exact .inl ⟨(16, 16), by simp, rfl, _, rfl, EntUp.eq (by simp) (by simp)⟩
      · cases he'
        exact .inl ⟨(88, 88), by simp, rfl, _, rfl, EntUp.row (r := gRow 64 .nilS (ints G)) (by simp) (Nat.zero_le _) (by simp [UpL, Up, edgesAt])⟩
      · cases he'
        exact .inr ⟨by simp, by simp [edgesAt], rfl⟩
    intro i hi
    have hsu := edgesAt_succ V lv i
    have hil : (edgesAt (V.take i) lv).length ≤ i := Nat.le_trans (edgesAt_len _ _) (by rw [List.length_take]; omega)
    have hXf := rwE_flat (edgesAt (V.take i) lv)
    have hXl : (rwE (edgesAt (V.take i) lv)).length = (edgesAt (V.take i) lv).length := List.length_map ..
    obtain ⟨X, hX⟩ : ∃ X, X = rwE (edgesAt (V.take i) lv) := ⟨_, rfl⟩
    obtain ⟨n, hn⟩ : ∃ n, n = (edgesAt (V.take i) lv).length := ⟨_, rfl⟩
    rw [← hX] at hXf hXl ⊢
    rw [← hn] at hXl hil ⊢
    refine rk (s := ?s5) [2, 6, 8, 21, 22, 23, 24] [16, 88, 24] rfl ?o5 ?q5
    case o5 => simp; rfl
    refine awp_seq ?_
    refine awp_cond _ rfl (fun h => awp_skip ?_) fun h => awp_exit (hit ?_)
    · simp only [decide_eq_true_eq, Int.ofNat_lt] at h
      have hg : V[i]? = some V[i] := List.getElem?_eq_getElem h
      have hs := hsu h
      obtain ⟨v, hv⟩ : ∃ v, v = V[i] := ⟨_, rfl⟩
      rw [← hv] at hg hs
      have hwi := wr1 h (by omega)
      refine awp_cut (ι := Unit) (fun _ => ⟨50, [(2, .I lv), (6, .pt 16 0 0), (8, .pt 88 0 0), (21, vchs V), (22, .I V.length), (23, .I i)], [(16, some ⟨3, [gRow 0 .nilS .nilS], 0⟩), (88, some ⟨3, [gRow 64 (.rs 24 0 (edgesAt (V.take (i + 1)) lv).length) (ints G)], 0⟩), (24, some ⟨3, rwE (edgesAt (V.take (i + 1)) lv), 0⟩)], 500⟩) (fun _ => True) ?_ fun _ _ => ?_
      · refine awp_block ?_
        refine awp_regc ⟨50, [(2, .I lv), (6, .pt 16 0 0), (8, .pt 88 0 0), (10, .pv (vC v)), (21, vchs V), (22, .I V.length), (23, .I i)], [(16, some ⟨3, [gRow 0 .nilS .nilS], 0⟩), (88, some ⟨3, [gRow 64 (.rs 24 0 n) (ints G)], 0⟩), (24, some ⟨3, X, 0⟩)], 210⟩ rfl ?_ ?_
        · simp [hg, splice]
          exact Le.go [(16, 16), (88, 88), (24, 24)] [184] rfl rfl (by simp) (by simp [hXf, hGc])
        refine awp_regc ⟨50, [(2, .I lv), (6, .pt 16 0 0), (8, .pt 88 0 0), (10, .pv (vC v)), (21, vchs V), (22, .I V.length), (23, .I i), (30, .B (decide (lv ≤ v.lv)))], [(16, some ⟨3, [gRow 0 .nilS .nilS], 0⟩), (88, some ⟨3, [gRow 64 (.rs 24 0 n) (ints G)], 0⟩), (24, some ⟨3, X, 0⟩)], 250⟩ rfl ?_ ?_
        · simp
          exact Le.keep rfl (by simp) (by simp) (by simp)
        refine awp_cond _ rfl (fun h5 => ?_) fun h5 => awp_skip ?_
        · simp only [decide_eq_true_eq] at h5
          rw [if_pos h5] at hs
          have hom : rwE (edgesAt (V.take (i + 1)) lv) = X ++ [[.I v.fr, .I v.to, .I v.lv]] := by rw [hs, rwE, List.map_append, ← rwE, ← hX]; rfl
          have hol : (edgesAt (V.take (i + 1)) lv).length = n + 1 := by rw [hs, List.length_append, ← hn]; rfl
          have hXf2 := rwE_flat (edgesAt (V.take (i + 1)) lv)
          rw [hom] at hXf2
          have htX : List.take n X = X := List.take_of_length_le (by omega)
          rw [hom, hol]
          refine awp_reg rfl ?_
          simp [hXl, htX, splice]
          exact ⟨by omega, by omega, Le.go [(16, 16), (88, 88), (330, 24)] [] rfl rfl (by simp) (by simp [hXf, hGc])⟩
        · simp only [decide_eq_false_iff_not] at h5
          rw [if_neg h5, List.append_nil] at hs
          exact ⟨(), trivial, Le.keep rfl (by simp) (by simp) (by simp [hs, hX, hn])⟩
      have hXf2 := rwE_flat (edgesAt (V.take (i + 1)) lv)
      refine awp_reg rfl ?_
      simp [hwi]
      exact ⟨i + 1, by omega, by omega, Le.go [(16, 16), (88, 88), (24, 24)] [] rfl rfl (by simp) (by simp [hGc, Function.comp_def])⟩
    · simp only [decide_eq_false_iff_not, Int.ofNat_lt] at h
      obtain rfl : i = V.length := by omega
      rw [List.take_length] at hX hn
      exact ⟨0, trivial, Le.keep rfl (by simp) (by simp) (by simp [hX, hn])⟩
  have hXf := rwE_flat (edgesAt V lv)
  have hXl : (rwE (edgesAt V lv)).length = (edgesAt V lv).length := List.length_map ..
  have hES : eEs (edgesAt V lv) = .vs 3 false (rwE (edgesAt V lv)) := rfl
  obtain ⟨E, hE⟩ : ∃ E, E = edgesAt V lv := ⟨_, rfl⟩
  rw [← hE] at hXf hXl hES ⊢
  have htX : List.take E.length (rwE E) = rwE E := List.take_of_length_le (by omega)
  refine awp_seq ?_
  refine awp_regc ⟨50, [(6, .pt 16 0 0), (8, .pt 88 0 0), (47, .B (decide (500 < E.length)))], [(16, some ⟨3, [gRow 0 .nilS .nilS], 0⟩), (88, some ⟨3, [gRow 64 (.rs 24 0 E.length) (ints G)], 0⟩), (24, some ⟨3, rwE E, 0⟩)], 700⟩ rfl ?_ ?_
  · generalize rwE E = X at *
    simp
    exact Le.keep rfl (by simp) (by simp; omega) (by simp)
  refine awp_cond _ rfl (fun h6 => ?_) fun h6 => awp_skip ?_
  · simp only [decide_eq_true_eq] at h6
    rw [if_neg (by omega)]
    refine awp_regc ⟨50, [(6, .pv (gRow 0 .nilS .nilS)), (7, .I 3)], [], 900⟩ rfl ?_ (awp_ret ⟨.inr rfl, RetOk.out [] [] rfl (by simp) (by simp) (by simp; exact wkT2 zGwk (.refl _)) (by simp)⟩)
    generalize rwE E = X at *
    simp [splice]
    exact Le.snap [16] rfl rfl (by simp)
  · simp only [decide_eq_false_iff_not] at h6
    rw [if_pos (by omega)]
    refine awp_regc ⟨50, [(6, .pv (gC ⟨64, E, G⟩)), (7, .I 0)], [], 900⟩ rfl ?_ (awp_ret ⟨.inr rfl, RetOk.out [] [] rfl (by simp) (by simp) (by simp) (by simp)⟩)
    rw [show gC ⟨64, E, G⟩ = [.I 64, .vs 3 false (rwE E), ints G] from rfl]
    generalize rwE E = X at *
    simp [splice]
    exact Le.snap [16, 24] rfl rfl (by simp [hXl, hXf, htX, hGc])
end Go.Proofs.YtnlanlpbgcalcaaGreat
namespace Go.Proofs.YtnlanlpbgcalcaaGreat
open Go
set_option maxHeartbeats 2000000 in
set_option maxRecDepth 100000 in
theorem ref11_At_ok (l : List Stm) (t lv : Int) (hl : l.length ≤ 100000) (hgd : GoodL l) : ACalls Tryz.prog nref11_At [sts l, .I t, .I lv] [] (.tup [eG (atR l t lv).1, .I (atR l t lv).2]) [] := by
  have hac := ref10_Active_ok l t hl
  have hgo := ref10_Gone_ok l t (by omega)
  have hVl := actV_len l t
  have hres : atR l t lv = if 1 ≤ lv ∧ lv ≤ 3 then (if (edgesAt (actV l t) lv).length ≤ 500 then (⟨64, edgesAt (actV l t) lv, goneR l t⟩, 0) else (zGr, 3)) else (zGr, 2) := rfl
  rw [hres]
  rw [← hgd.act] at hac
  rw [← hgd.gone] at hgo
  clear hgd
  generalize actV l t = V at *
  generalize goneR l t = G at *
  refine sref11_At.acalls (Nat.le_of_ble_eq_true rfl) (Nat.le_of_ble_eq_true rfl) (Nat.le_refl _) ?_
  show awp _ 0 _ _ ⟨65, [(0, sts l), (1, .I t), (2, .I lv)], [], 16⟩
  refine awp_regc ⟨65, [(0, sts l), (1, .I t), (2, .I lv), (6, .pt 16 0 0)], [(16, some ⟨3, [gRow 0 .nilS .nilS], 0⟩)], 32⟩ rfl ?_ ?_
  · simp
    exact Le.keep rfl (by simp) (by simp) (by simp)
  refine awp_seq ?_
  refine awp_regc ⟨65, [(0, sts l), (1, .I t), (2, .I lv), (6, .pt 16 0 0), (16, .B (decide (¬ (1 ≤ lv ∧ lv ≤ 3))))], [(16, some ⟨3, [gRow 0 .nilS .nilS], 0⟩)], 80⟩ rfl ?_ ?_
  · by_cases h1 : lv < 1
    · rw [show decide (¬ (1 ≤ lv ∧ lv ≤ 3)) = true from decide_eq_true (by omega)]
      simp [h1]
      exact Le.keep rfl (by simp) (by simp) (by simp)
    · rw [show decide (¬ (1 ≤ lv ∧ lv ≤ 3)) = decide (3 < lv) from decide_eq_decide.2 (by omega)]
      simp [h1]
      exact Le.keep rfl (by simp) (by simp) (by simp)
  refine awp_cond _ rfl (fun h3 => ?_) fun h3 => awp_skip ?_
  · have h4 : ¬ (1 ≤ lv ∧ lv ≤ 3) := of_decide_eq_true h3
    rw [if_neg h4]
    refine awp_regc ⟨65, [(6, .pv (gRow 0 .nilS .nilS)), (7, .I 2)], [], 200⟩ rfl ?_ (awp_ret ⟨.inr rfl, RetOk.out [] [] rfl (by simp) (by simp) (by simp; exact wkT2 zGwk (.refl _)) (by simp)⟩)
    simp [splice]
    exact Le.snap [16] rfl rfl (by simp)
  have h4 : 1 ≤ lv ∧ lv ≤ 3 := by simpa using h3
  rw [if_pos h4]
  have htG : List.take G.length (rwI G) = rwI G := List.take_of_length_le (by simp)
  have htV : List.take V.length (rowsV V) = rowsV V := List.take_of_length_le (by simp)
  have hVf := rowsV_flat V
  have hGf := rwI_flat G
  have hGs : ints G = .vs 1 false (rwI G) := rfl
  have hGc : ∀ (ρ : List (Nat × Nat)) (sn : List Nat) (h : Nat → Option Ent) (m : Nat), conv ρ sn h (m + 1) (ints G) = ints G := fun _ _ _ _ => rfl
  refine awp_regc ⟨65, [(0, sts l), (1, .I t), (2, .I lv), (6, .pt 16 0 0), (8, .pt 112 0 0)], [(16, some ⟨3, [gRow 0 .nilS .nilS], 0⟩), (112, some ⟨3, [gRow 64 .nilS (ints G)], 0⟩)], 140⟩ rfl ?_ ?_
  · simp
    refine callN1 hgo (by simp) ?_
    simp [hGf, splice]
    exact Le.go [(16, 16), (112, 112)] [96] rfl rfl (by simp) (by simp [htG, hGf])
  refine awp_regc ⟨65, [(2, .I lv), (6, .pt 16 0 0), (8, .pt 112 0 0), (9, vchs V)], [(16, some ⟨3, [gRow 0 .nilS .nilS], 0⟩), (112, some ⟨3, [gRow 64 .nilS (ints G)], 0⟩)], 180⟩ rfl ?_ ?_
  · simp
    refine callN1 hac (by simp) ?_
    simp [hVf]
    exact Le.go [(16, 16), (112, 112)] [156] rfl rfl (by simp [hVf]; exact wkE (congrArg _ htV)) (by simp [hGc])
  refine awp_cut (ι := Nat) (fun k => ⟨65, [(6, .pt 16 0 0), (8, .pt 112 0 0)], [(16, some ⟨3, [gRow 0 .nilS .nilS], 0⟩), (112, some ⟨3, [gRow 64 (.rs 24 0 (edgesAt V lv).length) (ints G)], 0⟩), (24, some ⟨3, rwE (edgesAt V lv), 0⟩)], 600⟩) (fun _ => True) ?_ fun _ _ => ?_
  · refine awp_regc ⟨65, [(2, .I lv), (6, .pt 16 0 0), (8, .pt 112 0 0), (9, vchs V), (10, .I (0 : Nat))], [(16, some ⟨3, [gRow 0 .nilS .nilS], 0⟩), (112, some ⟨3, [gRow 64 .nilS (ints G)], 0⟩)], 190⟩ rfl (by simp; exact Le.keep rfl (by simp) (by simp) (by simp)) ?_
    refine awp_block ?_
    refine awp_loop (ι := Nat) (fun i => ⟨65, [(2, .I lv), (6, .pt 16 0 0), (8, .pt 112 0 0), (9, vchs V), (10, .I i)], [(16, some ⟨3, [gRow 0 .nilS .nilS], 0⟩), (112, some ⟨3, [gRow 64 (.rs 24 0 (edgesAt (V.take i) lv).length) (ints G)], 0⟩), (24, some ⟨3, rwE (edgesAt (V.take i) lv), 0⟩)], 200⟩) (fun i => i ≤ V.length) (fun i => V.length - i) 0 (Nat.zero_le _) ?_ ?_
    · refine Le.lst [(16, 16), (112, 112)] [] [(24, 3)] rfl (by simp) (by simp) (by simp) (by simp) (by simp) (by simp) (by simp) (by simp [Up]) fun p hp e' he' => ?_
      simp only [List.mem_cons, List.not_mem_nil, or_false] at hp
      rcases hp with rfl | rfl | rfl
      · cases he'
        exact .inl ⟨(16, 16), by simp, rfl, _, rfl, EntUp.eq (by simp) (by simp)⟩
      · cases he'
        exact .inl ⟨(112, 112), by simp, rfl, _, rfl, EntUp.row (r := gRow 64 .nilS (ints G)) (by simp) (Nat.zero_le _) (by simp [UpL, Up, edgesAt])⟩
      · cases he'
        exact .inr ⟨by simp, by simp [edgesAt], rfl⟩
    intro i hi
    have hsu := edgesAt_succ V lv i
    have hil : (edgesAt (V.take i) lv).length ≤ i := Nat.le_trans (edgesAt_len _ _) (by rw [List.length_take]; omega)
    have hXf := rwE_flat (edgesAt (V.take i) lv)
    have hXl : (rwE (edgesAt (V.take i) lv)).length = (edgesAt (V.take i) lv).length := List.length_map ..
    obtain ⟨X, hX⟩ : ∃ X, X = rwE (edgesAt (V.take i) lv) := ⟨_, rfl⟩
    obtain ⟨n, hn⟩ : ∃ n, n = (edgesAt (V.take i) lv).length := ⟨_, rfl⟩
    rw [← hX] at hXf hXl ⊢
    rw [← hn] at hXl hil ⊢
    refine awp_seq ?_
    refine rk (s := ?s5) [2, 6, 8, 9, 10, 28] [16, 112, 24] rfl ?o5 ?q5
    case o5 => simp; rfl
    refine awp_cond _ rfl (fun h => awp_skip ?_) fun h => awp_exit (hit ?_)
    · simp only [decide_eq_true_eq, Int.ofNat_lt] at h
      have hg : V[i]? = some V[i] := List.getElem?_eq_getElem h
      have hs := hsu h
      obtain ⟨v, hv⟩ : ∃ v, v = V[i] := ⟨_, rfl⟩
      rw [← hv] at hg hs
      have hwi := wr1 h (by omega)
      refine awp_cut (ι := Unit) (fun _ => ⟨65, [(2, .I lv), (6, .pt 16 0 0), (8, .pt 112 0 0), (9, vchs V), (10, .I i)], [(16, some ⟨3, [gRow 0 .nilS .nilS], 0⟩), (112, some ⟨3, [gRow 64 (.rs 24 0 (edgesAt (V.take (i + 1)) lv).length) (ints G)], 0⟩), (24, some ⟨3, rwE (edgesAt (V.take (i + 1)) lv), 0⟩)], 500⟩) (fun _ => True) ?_ fun _ _ => ?_
      · refine awp_block ?_
        refine awp_regc ⟨65, [(2, .I lv), (6, .pt 16 0 0), (8, .pt 112 0 0), (9, vchs V), (10, .I i), (37, .B (decide (lv ≤ v.lv)))], [(16, some ⟨3, [gRow 0 .nilS .nilS], 0⟩), (112, some ⟨3, [gRow 64 (.rs 24 0 n) (ints G)], 0⟩), (24, some ⟨3, X, 0⟩)], 300⟩ rfl ?_ ?_
        · simp [hg]
          exact Le.keep rfl (by simp) (by simp) (by simp)
        refine awp_cond _ rfl (fun h5 => ?_) fun h5 => awp_skip ?_
        · simp only [decide_eq_true_eq] at h5
          rw [if_pos h5] at hs
          have hom : rwE (edgesAt (V.take (i + 1)) lv) = X ++ [[.I v.fr, .I v.to, .I v.lv]] := by rw [hs, rwE, List.map_append, ← rwE, ← hX]; rfl
          have hol : (edgesAt (V.take (i + 1)) lv).length = n + 1 := by rw [hs, List.length_append, ← hn]; rfl
          have hXf2 := rwE_flat (edgesAt (V.take (i + 1)) lv)
          rw [hom] at hXf2
          have htX : List.take n X = X := List.take_of_length_le (by omega)
          rw [hom, hol]
          refine awp_drw rfl ?_
          simp [hg, hXl, htX, splice]
          exact ⟨by omega, by omega, rfl, Le.go [(16, 16), (112, 112), (452, 24)] [] rfl rfl (by simp) (by simp [hXf, hGc])⟩
        · simp only [decide_eq_false_iff_not] at h5
          rw [if_neg h5, List.append_nil] at hs
          exact ⟨(), trivial, Le.keep rfl (by simp) (by simp) (by simp [hs, hX, hn])⟩
      have hXf2 := rwE_flat (edgesAt (V.take (i + 1)) lv)
      refine awp_reg rfl ?_
      simp [hwi]
      exact ⟨i + 1, by omega, by omega, Le.go [(16, 16), (112, 112), (24, 24)] [] rfl rfl (by simp) (by simp [hGc, Function.comp_def])⟩
    · simp only [decide_eq_false_iff_not, Int.ofNat_lt] at h
      obtain rfl : i = V.length := by omega
      rw [List.take_length] at hX hn
      exact ⟨0, trivial, Le.keep rfl (by simp) (by simp) (by simp [hX, hn])⟩
  have hXf := rwE_flat (edgesAt V lv)
  have hXl : (rwE (edgesAt V lv)).length = (edgesAt V lv).length := List.length_map ..
  have hES : eEs (edgesAt V lv) = .vs 3 false (rwE (edgesAt V lv)) := rfl
  obtain ⟨E, hE⟩ : ∃ E, E = edgesAt V lv := ⟨_, rfl⟩
  rw [← hE] at hXf hXl hES ⊢
  have htX : List.take E.length (rwE E) = rwE E := List.take_of_length_le (by omega)
  refine awp_seq ?_
  refine awp_regc ⟨65, [(6, .pt 16 0 0), (8, .pt 112 0 0), (62, .B (decide (500 < E.length)))], [(16, some ⟨3, [gRow 0 .nilS .nilS], 0⟩), (112, some ⟨3, [gRow 64 (.rs 24 0 E.length) (ints G)], 0⟩), (24, some ⟨3, rwE E, 0⟩)], 700⟩ rfl ?_ ?_
  · generalize rwE E = X at *
    simp
    exact Le.keep rfl (by simp) (by simp; omega) (by simp)
  refine awp_cond _ rfl (fun h6 => ?_) fun h6 => awp_skip ?_
  · simp only [decide_eq_true_eq] at h6
    rw [if_neg (by omega)]
    refine awp_regc ⟨65, [(6, .pv (gRow 0 .nilS .nilS)), (7, .I 3)], [], 900⟩ rfl ?_ (awp_ret ⟨.inr rfl, RetOk.out [] [] rfl (by simp) (by simp) (by simp; exact wkT2 zGwk (.refl _)) (by simp)⟩)
    generalize rwE E = X at *
    simp [splice]
    exact Le.snap [16] rfl rfl (by simp)
  · simp only [decide_eq_false_iff_not] at h6
    rw [if_pos (by omega)]
    refine awp_regc ⟨65, [(6, .pv (gC ⟨64, E, G⟩)), (7, .I 0)], [], 900⟩ rfl ?_ (awp_ret ⟨.inr rfl, RetOk.out [] [] rfl (by simp) (by simp) (by simp) (by simp)⟩)
    rw [show gC ⟨64, E, G⟩ = [.I 64, .vs 3 false (rwE E), ints G] from rfl]
    generalize rwE E = X at *
    simp [splice]
    exact Le.snap [16, 24] rfl rfl (by simp [hXl, hXf, htX, hGc])
end Go.Proofs.YtnlanlpbgcalcaaGreat
namespace Go.Proofs.YtnlanlpbgcalcaaGreat
open Go
set_option maxHeartbeats 1000000 in
set_option maxRecDepth 100000 in
theorem put_any (l : List Stm) (x : Stm) (hl : l.length ≤ 100000) (hb : ∀ s ∈ l, StB s) (hx : StB x) : ∃ p : List Stm × Bool, (p.1.length ≤ l.length + 1 ∧ ∀ s ∈ p.1, s ∈ l ∨ s = x) ∧ ACalls Tryz.prog nref05_put [sts l, eS x] [] (.tup [sts p.1, .B p.2]) [] := by
  refine sref05_put.acallsX (args := [sts l, eS x]) (hs := []) (fun p => .tup [sts p.1, .B p.2]) (fun _ => []) (fun p : List Stm × Bool => p.1.length ≤ l.length + 1 ∧ ∀ s ∈ p.1, s ∈ l ∨ s = x) (Nat.le_of_ble_eq_true rfl) (Nat.le_of_ble_eq_true rfl) (fun _ => Nat.zero_le _) ?_
  show awp _ 0 _ _ ⟨46, [(0, sts l), (1, eS x)], [], 16⟩
  refine rx (s := ?s1) [0, 3] [] [16] rfl ?o1 ?q1
  case o1 => simp; rfl
  refine rx (s := ?s2) [0, 3, 6] [] [] rfl ?o2 ?q2
  case o2 => simp; rfl
  refine awp_seq ?_
  refine awp_block ?_
  refine awp_loop (ι := Nat) (fun k => ⟨46, [(0, sts l), (3, .pv (sC x)), (6, .I k)], [], 48⟩) (fun k => k ≤ l.length) (fun k => l.length - k) 0 (Nat.zero_le _) (Le.snap [] rfl rfl (by simp)) ?_
  intro k hk
  refine awp_seq ?_
  obtain ⟨r2, hr2, hr2'⟩ : ∃ r2 : Bool, (∀ h : k < l.length, ACalls Tryz.prog nref05_before [eS l[k], eS x] [] (.B r2) []) ∧ (r2 = true → k < l.length) := by
    by_cases h : k < l.length
    · obtain ⟨r, hr⟩ := before_any l[k] x
      exact ⟨r, fun _ => hr, fun _ => h⟩
    · exact ⟨false, fun h' => absurd h' h, fun h' => by cases h'⟩
  refine awp_dregc ⟨46, [(0, sts l), (3, .pv (sC x)), (6, .I k), (18, .B r2)], [], 200⟩ rfl ?_ ?_
  · by_cases hko : k < l.length
    · have hp : l[k]? = some l[k] := List.getElem?_eq_getElem hko
      have hr3 := hr2 hko
      obtain ⟨s, hs⟩ : ∃ s, s = l[k] := ⟨_, rfl⟩
      rw [← hs] at hr3 hp
      simp [hko, ← hs]
      refine call0e hr3 (by simp) ?_
      simp
      exact ⟨rfl, Le.snap [] rfl rfl (by simp)⟩
    · have e2 : r2 = false := by
        cases hh : r2
        · rfl
        · exact absurd (hr2' hh) hko
      simp [hko]
      exact ⟨rfl, Le.snap [] rfl rfl (by simp [e2])⟩
  refine awp_cond _ rfl (fun h4 => awp_skip ?_) fun h4 => awp_exit (hit ?_)
  · have hwk := wr1 (hr2' h4) (by omega)
    have hkl := hr2' h4
    refine awp_block ?_
    refine awp_reg rfl ?_
    simp [hwk]
    exact ⟨k + 1, by omega, by omega, Le.snap [] rfl rfl (by simp)⟩
  refine awp_seq ?_
  obtain ⟨r3, hr3⟩ : ∃ r3 : Bool, ∀ h : k < l.length, ACalls Tryz.prog nref03_Same [eS l[k], eS x] [] (.B r3) [] := by
    by_cases h : k < l.length
    · have hkb := hb l[k] (List.getElem_mem h)
      obtain ⟨r3, h3⟩ := Same_any l[k] x (by have := hkb.2.2.1; omega) (by have := hkb.2.2.2.1; omega)
      exact ⟨r3, fun _ => h3⟩
    · exact ⟨false, fun h' => absurd h' h⟩
  refine awp_dregc ⟨46, [(0, sts l), (3, .pv (sC x)), (6, .I k), (32, .B (decide (k < l.length) && r3))], [], 300⟩ rfl ?_ ?_
  · by_cases hko : k < l.length
    · have hp : l[k]? = some l[k] := List.getElem?_eq_getElem hko
      have hr4 := hr3 hko
      obtain ⟨s, hs⟩ : ∃ s, s = l[k] := ⟨_, rfl⟩
      rw [← hs] at hr4 hp
      simp [hko, ← hs]
      refine call0e hr4 (by simp) ?_
      simp
      exact ⟨rfl, Le.snap [] rfl rfl (by simp)⟩
    · simp [hko]
      exact ⟨rfl, Le.snap [] rfl rfl (by simp)⟩
  refine awp_cond _ rfl (fun h6 => ?_) fun h6 => awp_skip ?_
  · refine rx (s := ?s7) [4, 5] [] [] rfl ?o7 ?q7
    case o7 => simp; rfl
    exact awp_ret (PostX.mk (.inr rfl) (l, false) ⟨Nat.le_succ _, fun s hs => .inl hs⟩ (RetOk.out [] [] rfl (by simp) (by simp) (by simp) (by simp)))
  have hcp := ref03_Copy_ok x (by have := hx.2.2.1; omega) (by have := hx.2.2.2.1; omega)
  have hX : ∃ X, X = l.map sC := ⟨_, rfl⟩
  obtain ⟨X, hX⟩ := hX
  have hXl : X.length = l.length := by rw [hX, List.length_map]
  have hXf := sts_flat l
  rw [← hX] at hXf
  obtain ⟨n, hn⟩ : ∃ n, n = l.length := ⟨_, rfl⟩
  have hmin : min k n = k := by omega
  have htk2 : List.take (k + 1) (List.take k X ++ [sC x]) = List.take k X ++ [sC x] := List.take_of_length_le (by rw [List.length_append, List.length_take, hXl, ← hn, hmin]; exact Nat.le_refl _)
  have e1 : List.take (k + 1) (List.take k (List.take k X) ++ [sC x]) = List.take k X ++ [sC x] := by rw [List.take_take, Nat.min_self]; exact htk2
  have hom : (l.take k ++ x :: l.drop k).map sC = List.take k X ++ [sC x] ++ List.drop k X := by rw [hX, List.map_append, List.map_cons, List.map_take, List.map_drop, List.append_assoc]; rfl
  have hol : (l.take k ++ x :: l.drop k).length = n + 1 := by rw [List.length_append, List.length_cons, List.length_take, List.length_drop]; omega
  have hsts : sts l = .vs 13 false X := by rw [hX]
  have hXf2 := sts_flat (l.take k ++ x :: l.drop k)
  rw [hom] at hXf2
  have hall : List.take (k + 1 + (n - k)) (List.take k X ++ [sC x] ++ List.drop k X) = List.take k X ++ [sC x] ++ List.drop k X := List.take_of_length_le (by rw [← hom, List.length_map, hol]; omega)
  refine awp_dregc ⟨46, [(4, sts (l.take k ++ x :: l.drop k)), (5, .B true)], [], 600⟩ rfl ?_ (awp_ret (PostX.mk (.inr rfl) (l.take k ++ x :: l.drop k, true) ⟨by rw [hol]; omega, fun s hs => ?_⟩ (RetOk.out [] [] rfl (by simp) (by simp) (by simp [-List.map_append, -List.map_cons]; exact .refl _) (by simp))))
  · rw [hsts, show sts (l.take k ++ x :: l.drop k) = .vs 13 false (List.take k X ++ [sC x] ++ List.drop k X) from by rw [← hom]]
    rw [← hn] at hXl hk
    simp [hXl, hmin, hk]
    refine ⟨by omega, by omega, ?_⟩
    refine call0e hcp (by simp) ?_
    simp [hXl, hmin, hk]
    have hln : min k n + (1 + (n - k)) = n + 1 := by omega
    refine ⟨by omega, by omega, by omega, by omega, rfl, Le.snap [388] rfl rfl ?_⟩
    simp [hXl, hmin, hk, hXf]
    exact wkE (congrArg _ (((congrArg (fun Z => List.take (k + 1 + (n - k)) (Z ++ List.drop k X)) e1).trans hall).trans (by simp)))
  · rcases List.mem_append.1 hs with h | h
    · exact .inl (List.mem_of_mem_take h)
    · rcases List.mem_cons.1 h with h | h
      · exact .inr h
      · exact .inl (List.mem_of_mem_drop h)
set_option maxHeartbeats 1000000 in
set_option maxRecDepth 100000 in
theorem Adds_any (l : List Stm) (x : Stm) (hl : l.length ≤ 1000) (hb : ∀ s ∈ l, StOk s) (hx : StB x) : ∃ l' : List Stm, ((l'.length ≤ 1000 ∧ l'.length ≤ l.length + 1) ∧ ∀ s ∈ l', StOk s) ∧ ACalls Tryz.prog nref05_Adds [.agg [sts l], eS x] [] (.agg [sts l']) [] := by
  obtain ⟨e, he0, hchk⟩ := ref03_Check_ok x (by have := hx.2.2.1; omega) (by have := hx.2.2.2.1; omega)
  have hsl := ref03_Sealed_ok x hx
  obtain ⟨⟨p, r⟩, ⟨hp1, hp2⟩, hput⟩ := put_any l x (by omega) (fun s hs => (hb s hs).b) hx
  simp only at hp1 hp2 hput
  refine sref05_Adds.acallsX (args := [.agg [sts l], eS x]) (hs := []) (fun l => .agg [sts l]) (fun _ => []) (fun l' : List Stm => (l'.length ≤ 1000 ∧ l'.length ≤ l.length + 1) ∧ ∀ s ∈ l', StOk s) (Nat.le_of_ble_eq_true rfl) (Nat.le_of_ble_eq_true rfl) (fun _ => Nat.zero_le _) ?_
  show awp _ 0 _ _ ⟨29, [(0, .agg [sts l]), (1, eS x)], [], 16⟩
  have hend : ∀ l' : List Stm, l'.length ≤ 1000 ∧ l'.length ≤ l.length + 1 → (∀ s ∈ l', StOk s) → PostX cref05_Adds.res 0 (fun l : List Stm => AV.agg [sts l]) (fun _ => []) (fun l' : List Stm => (l'.length ≤ 1000 ∧ l'.length ≤ l.length + 1) ∧ ∀ s ∈ l', StOk s) .ret ⟨29, [(4, .pv [sts l'])], [], 1000⟩ := fun l' h1 h2 => PostX.mk (.inr rfl) l' ⟨h1, h2⟩ (RetOk.out [] [] rfl (by simp) (by simp) (by simp) (by simp))
  refine rx (s := ?s1) [2, 3, 4] [32] [16, 24] rfl ?o1 ?q1
  case o1 => simp; rfl
  refine awp_seq ?_
  obtain ⟨r1, hr1, hr1'⟩ : ∃ r1 : Bool, r1 = (e != 0 || !decide (x.sk = x.au ∧ x.sd.toList = (digS x).toList)) ∧ (r1 = false → StOk x) := ⟨_, rfl, fun h => he0.1 (by simpa using (Bool.or_eq_false_iff.1 h).1)⟩
  refine awp_regc ⟨29, [(2, .pv [sts l]), (3, .pv (sC x)), (4, .pt 32 0 0), (14, .B r1)], [(32, some ⟨1, [[.nilS]], 0⟩)], 200⟩ rfl ?_ ?_
  · simp
    refine call0e hchk (by simp) ?_
    by_cases c2 : e = 0
    · have c2' : (e != 0) = false := by simp [c2]
      simp [c2']
      refine call0e hsl (by simp) ?_
      simp
      exact Le.keep rfl (by simp) (by simp [hr1, c2]) (by simp)
    · have c2' : (e != 0) = true := by simp [c2]
      simp [c2']
      exact Le.keep rfl (by simp) (by simp [hr1, c2]) (by simp)
  refine awp_cond _ rfl (fun h3 => ?_) fun h3 => awp_skip ?_
  · refine awp_regc ⟨29, [(4, .pv [sts l])], [], 1000⟩ rfl ?_ (awp_ret (hend l ⟨hl, Nat.le_succ _⟩ hb))
    simp
    exact Le.snap [32] rfl rfl (by simp)
  have hok := hr1' h3
  refine awp_seq ?_
  refine awp_regc ⟨29, [(2, .pv [sts l]), (4, .pt 32 0 0), (5, sts p)], [(32, some ⟨1, [[.nilS]], 0⟩)], 300⟩ rfl ?_ ?_
  · simp
    refine call0e hput (by simp) ?_
    simp
    exact Le.keep rfl (by simp) (by simp) (by simp)
  refine rk (s := ?s6) [2, 4, 5, 25] [32] rfl ?o6 ?q6
  case o6 => simp; rfl
  refine awp_cond _ rfl (fun h7 => ?_) fun h7 => awp_skip ?_
  · simp only [decide_eq_true_eq] at h7
    refine awp_regc ⟨29, [(4, .pv [sts p])], [], 1000⟩ rfl ?_ (awp_ret (hend p ⟨by omega, hp1⟩ fun s hs => (hp2 s hs).elim (hb s) fun h => by rw [h]; exact hok))
    simp
    exact Le.snap [32] rfl rfl (by simp)
  · refine awp_regc ⟨29, [(4, .pv [sts l])], [], 1000⟩ rfl ?_ (awp_ret (hend l ⟨hl, Nat.le_succ _⟩ hb))
    simp
    exact Le.snap [32] rfl rfl (by simp)
set_option maxHeartbeats 1000000 in
set_option maxRecDepth 100000 in
theorem MadeStoreOf_any (l : List Stm) (hl : l.length ≤ 100000) (hb : ∀ s ∈ l, StB s) : ∃ l' : List Stm, ((l'.length ≤ 1000 ∧ l'.length ≤ l.length) ∧ ∀ s ∈ l', StOk s) ∧ ACalls Tryz.prog nmade_StoreOf [sts l] [] (.agg [sts l']) [] := by
  refine smade_StoreOf.acallsX (args := [sts l]) (hs := []) (fun l => .agg [sts l]) (fun _ => []) (fun l' : List Stm => (l'.length ≤ 1000 ∧ l'.length ≤ l.length) ∧ ∀ s ∈ l', StOk s) (Nat.le_of_ble_eq_true rfl) (Nat.le_of_ble_eq_true rfl) (fun _ => Nat.zero_le _) ?_
  show awp _ 0 _ _ ⟨18, [(0, sts l)], [], 16⟩
  refine rx (s := ?s1) [0, 2] [16] [] rfl ?o1 ?q1
  case o1 => simp; rfl
  refine rx (s := ?s2) [0, 2, 3] [16, 24] [] rfl ?o2 ?q2
  case o2 => simp; rfl
  refine awp_seq ?_
  refine rx (s := ?s3) [0, 2, 3, 4] [16, 24] [] rfl ?o3 ?q3
  case o3 => simp; rfl
  refine awp_block ?_
  refine awp_loop (ι := List Stm × Nat) (fun p => ⟨18, [(0, sts l), (2, .pt 16 0 0), (3, .pt 24 0 0), (4, .I p.2)], [(16, some ⟨1, [[.nilS]], 0⟩), (24, some ⟨1, [[sts p.1]], 0⟩)], 40⟩) (fun p => p.2 ≤ l.length ∧ (p.1.length ≤ 1000 ∧ p.1.length ≤ p.2) ∧ ∀ s ∈ p.1, StOk s) (fun p => l.length - p.2) ([], 0) ⟨Nat.zero_le _, ⟨Nat.zero_le _, Nat.zero_le _⟩, by simp⟩ ?_ ?_
  · refine Le.ents [(16, 16), (24, 24)] [] rfl (by simp) (by simp) (by simp) (by simp) (by simp) (by simp) fun p hp => ?_
    simp only [List.mem_cons, List.not_mem_nil, or_false] at hp
    rcases hp with rfl | rfl
    · exact ⟨16, _, _, rfl, by simp, rfl, EntUp.eq (by simp) (by simp)⟩
    · exact ⟨24, _, _, rfl, by simp, rfl, EntUp.row (r := [.nilS]) (by simp) (Nat.zero_le _) ⟨.inl (Wk.nil 13 false), trivial⟩⟩
  rintro ⟨o, i⟩ ⟨hi, ⟨ho1, ho1'⟩, ho2⟩
  simp only at hi ho1 ho1' ho2
  simp only
  refine awp_seq ?_
  refine rk (s := ?s4) [0, 2, 3, 4, 8] [16, 24] rfl ?o4 ?q4
  case o4 => simp; rfl
  refine awp_cond _ rfl (fun h => awp_skip ?_) fun h => awp_exit (hit ?_)
  · simp only [decide_eq_true_eq, Int.ofNat_lt] at h
    have hg : l[i]? = some l[i] := List.getElem?_eq_getElem h
    have hsm : l[i] ∈ l := List.getElem_mem h
    obtain ⟨s, hs⟩ : ∃ s, s = l[i] := ⟨_, rfl⟩
    rw [← hs] at hg hsm
    obtain ⟨o2, ⟨⟨ho3, ho3'⟩, ho4⟩, hadd⟩ := Adds_any o s ho1 ho2 (hb s hsm)
    refine awp_cut (ι := Unit) (fun _ => ⟨18, [(0, sts l), (2, .pt 16 0 0), (3, .pt 24 0 0), (4, .I i)], [(16, some ⟨1, [[.nilS]], 0⟩), (24, some ⟨1, [[sts o2]], 0⟩)], 400⟩) (fun _ => True) ?_ fun _ _ => ?_
    · refine awp_block ?_
      refine awp_drw rfl ?_
      simp [hg]
      refine call0e hadd (by simp) ?_
      simp [splice]
      exact ⟨rfl, Le.keep rfl (by simp) (by simp) (by simp)⟩
    have hwi := wr1 h (by omega)
    refine awp_reg rfl ?_
    simp [hwi]
    exact ⟨o2, i + 1, ⟨by omega, ⟨ho3, by omega⟩, ho4⟩, by omega, Le.go [(16, 16), (24, 24)] [] rfl rfl (by simp) (by simp)⟩
  refine awp_regc ⟨18, [(2, .pv [sts o])], [], 1000⟩ rfl ?_ (awp_ret (PostX.mk (.inr rfl) o ⟨⟨ho1, by omega⟩, ho2⟩ (RetOk.out [] [] rfl (by simp) (by simp) (by simp) (by simp))))
  simp [splice]
  exact Le.snap [16] rfl rfl (by simp)
end Go.Proofs.YtnlanlpbgcalcaaGreat
namespace Go.Proofs.YtnlanlpbgcalcaaGreat
open Go
theorem ofD_in2 (L : List Int) (a : Nat) {l : List Int} (h : 0 < l.length) : ofD L a l ∈ l := by
  have := nextD_lt (L := L) (a := a) (n := l.length) (by omega)
  obtain ⟨q, hq⟩ : ∃ q : Nat, (nextD L a l.length).1 = q := ⟨(nextD L a l.length).1.toNat, by omega⟩
  have hql : q < l.length := by omega
  unfold ofD
  rw [hq]
  simp [hql]
theorem next_any2 (au : Int) (l : List Stm) (s : Stm) (hc : Chain au l) (hl : l.length ≤ 1000) (hs : StB s) :
    ∃ (e : Int) (x : Stm), ACalls Tryz.prog nref04_Next [.I au, sts l, eS s] [] (.tup [eS x, .I e]) [] ∧ (e = 0 → Chain au (l ++ [x])) := by
  have hb3 := hs.2.2.1
  have hb4 := hs.2.2.2.1
  obtain ⟨eC, he, hchk⟩ := ref03_Check_ok (nx au l s) (by show s.li.length ≤ _; omega) (by show s.pi.length ≤ _; omega)
  by_cases hT : BadT l s
  · exact ⟨9, zS, next_ok au l s hc hl hs eC 9 zS hchk (fun _ => ⟨rfl, rfl⟩) (fun h => absurd hT h) (fun h => absurd hT h), fun h => by omega⟩
  · by_cases hK : BadK l
    · exact ⟨5, zS, next_ok au l s hc hl hs eC 5 zS hchk (fun h => absurd h hT) (fun _ _ => ⟨rfl, rfl⟩) (fun _ h => absurd hK h), fun h => by omega⟩
    · by_cases h0 : eC = 0
      · exact ⟨eC, nx au l s, next_ok au l s hc hl hs eC eC _ hchk (fun h => absurd h hT) (fun _ h => absurd h hK) (fun _ _ => ⟨rfl, fun _ => rfl, fun h => absurd h0 h⟩), fun _ => chain_nx hc hs hT hK (he.1 h0)⟩
      · exact ⟨eC, zS, next_ok au l s hc hl hs eC eC _ hchk (fun h => absurd h hT) (fun _ h => absurd h hK) (fun _ _ => ⟨rfl, fun h => absurd h h0, fun _ => rfl⟩), fun h => absurd h h0⟩
theorem RetOk.k1m {rs : List (Nat × Option (Bool × Nat))} {st : St} {vs : List AV} {res : AV} {e0 e : Ent} (i : Nat) (hi : 1 ≤ i) (h1 : resAll st rs = some vs) (hw : Wk (conv [(0, 0), (i, 1)] [] st.hp 4 (resV vs)) res) (h0 : (st.hp 0).map (convE [(0, 0), (i, 1)] [] st.hp 4) = some e0) (he : (st.hp i).map (convE [(0, 0), (i, 1)] [] st.hp 4) = some e) : RetOk rs 1 st res [some e0, some e] :=
  ⟨vs, h1, [i], [], by simp [List.range, List.range.loop]; omega, by simpa using hi, by simp, by simpa [List.range, List.range.loop] using hw, by simpa [List.range, List.range.loop] using ⟨by simpa using h0, by simpa using he⟩⟩
theorem Next_any (L : List Int) (a : Nat) (n : Int) (hl : L.length ≤ 400) (ha : a ≤ L.length) (hn : n ≤ 1000000) : ∃ (x : Int) (b : Nat), (b ≤ L.length ∧ 0 ≤ x ∧ x ≤ 1000000 ∧ (0 < n → x < n)) ∧ ACalls Tryz.prog nmade_Dice_Next [.pt 0 0 0, .I n] [dice L a] (.I x) [some (dice L b)] := by
  refine ⟨_, _, ⟨nextD_le ha, ?_⟩, Next_ok L a n (by omega) ha (by omega)⟩
  by_cases h : 0 < n
  · have := nextD_lt (L := L) (a := a) h
    omega
  · unfold nextD
    split
    · simp only [modI]
      rw [if_pos (by omega)]
      omega
    · simp
theorem Of_any (L : List Int) (a : Nat) (l : List Int) (hl : L.length ≤ 400) (ha : a ≤ L.length) (h0 : 0 < l.length) (hl2 : l.length ≤ 100) : ∃ (x : Int) (b : Nat), (b ≤ L.length ∧ x ∈ l) ∧ ACalls Tryz.prog nmade_Dice_Of [.pt 0 0 0, ints l] [dice L a] (.I x) [some (dice L b)] :=
  ⟨_, _, ⟨nextD_le ha, ofD_in2 L a h0⟩, Of_ok L a l (by omega) ha h0 (by omega)⟩
theorem One_any (L : List Int) (a : Nat) (n : Int) (hl : L.length ≤ 400) (ha : a ≤ L.length) (hn0 : 0 ≤ n) (hn : n ≤ 1000000) : ∃ (x : Bool) (b : Nat), b ≤ L.length ∧ ACalls Tryz.prog nmade_Dice_One [.pt 0 0 0, .I n] [dice L a] (.B x) [some (dice L b)] :=
  ⟨_, _, nextD_le ha, One_ok L a n (by omega) ha hn0 (by omega)⟩
set_option maxHeartbeats 1000000 in
set_option maxRecDepth 100000 in
theorem Bytes_any (L : List Int) (a : Nat) (m : Nat) (hl : L.length ≤ 400) (ha : a ≤ L.length) (hm : m ≤ 100) : ∃ p : List Int × Nat, (p.1.length ≤ 200 ∧ p.2 ≤ L.length) ∧ ACalls Tryz.prog nmade_Dice_Bytes [.pt 0 0 0, .I m] [dice L a] (.rs 1 0 p.1.length) [some (dice L p.2), some ⟨1, rowsK .u8 p.1, 0⟩] := by
  refine smade_Dice_Bytes.acallsX (args := [.pt 0 0 0, .I m]) (hs := [dice L a]) (fun p => .rs 1 0 p.1.length) (fun p => [some (dice L p.2), some ⟨1, rowsK .u8 p.1, 0⟩]) (fun p : List Int × Nat => p.1.length ≤ 200 ∧ p.2 ≤ L.length) (Nat.le_of_ble_eq_true rfl) (Nat.le_of_ble_eq_true rfl) (fun _ => by simp) ?_
  show awp _ 1 _ _ ⟨23, [(0, .pt 0 0 0), (1, .I m)], [(0, some (dice L a))], 16⟩
  obtain ⟨x, b, ⟨hb1, hb2, hb3, hb4⟩, hnx⟩ := Next_any L a ((m + 1 : Nat) : Int) hl ha (by omega)
  have hxm := hb4 (by omega)
  obtain ⟨y, rfl⟩ : ∃ y : Nat, x = y := ⟨x.toNat, by omega⟩
  have hwm := wr1 (k := m) (N := 101) (by omega) (by omega)
  refine rx (s := ?s1) [0, 1] [0] [] rfl ?o1 ?q1
  case o1 => simp; rfl
  refine rx (s := ?s2) [0, 1, 5] [0] [] rfl ?o2 ?q2
  case o2 => simp; rfl
  refine awp_seq ?_
  refine awp_regc ⟨23, [(0, .pt 0 0 0), (5, .nilS), (6, .I y)], [(0, some (dice L b))], 100⟩ rfl ?_ ?_
  · simp [hwm]
    refine callM1 (i := 0) rfl (e' := dice L a) (by simp) hnx (by simp) (by simp) ?_
    simp
    exact Le.keep rfl (by simp) (by simp) (by simp)
  refine awp_block ?_
  refine awp_loop (ι := (List Int × Nat) × Nat) (fun p => ⟨23, [(0, .pt 0 0 0), (5, .rs 16 0 p.1.1.length), (6, .I p.2)], [(0, some (dice L p.1.2)), (16, some ⟨1, rowsK .u8 p.1.1, 0⟩)], 100⟩) (fun p => p.1.1.length + p.2 = y ∧ p.1.2 ≤ L.length) (fun p => p.2) (([], b), y) ⟨by simp, hb1⟩ ?_ ?_
  · refine Le.lst [(0, 0)] [] [(16, 1)] rfl (by simp) (by simp) (by simp) (by simp) (by simp) (by simp) (by simp) (by simp [Up]) fun p hp e' he' => ?_
    simp at hp
    rcases hp with rfl | rfl
    · cases he'
      exact .inl ⟨(0, 0), by simp, rfl, _, rfl, EntUp.eq (by simp) (by simp)⟩
    · cases he'
      exact .inr ⟨by simp, by simp, rfl⟩
  rintro ⟨⟨c, b⟩, n⟩ ⟨hc, hbl⟩
  simp only at hc hbl
  simp only
  have hXl : (rowsK .u8 c).length = c.length := List.length_map ..
  have hXf := rowsK_flat .u8 c
  obtain ⟨X, hX⟩ : ∃ X, X = rowsK .u8 c := ⟨_, rfl⟩
  rw [← hX] at hXl hXf ⊢
  refine awp_seq ?_
  refine rk (s := ?s3) [0, 5, 6, 12] [0, 16] rfl ?o3 ?q3
  case o3 => simp; rfl
  refine awp_cond _ rfl (fun h => awp_skip ?_) fun h => awp_exit (hit ?_)
  · simp only [decide_eq_true_eq] at h
    obtain ⟨z, b2, ⟨hb5, _⟩, hof⟩ := Of_any L b [0, 1, 255, 7, 128, 126, 32] hl hbl (by decide) (by decide)
    have htk : List.take c.length X = X := List.take_of_length_le (by omega)
    have hXf2 := rowsK_flat .u8 (c ++ [IntKind.u8.wrap z])
    have hom : rowsK .u8 (c ++ [IntKind.u8.wrap z]) = X ++ [[.sc (.int .u8 (IntKind.u8.wrap z))]] := by rw [hX, rowsK, List.map_append]; rfl
    have hol : (c ++ [IntKind.u8.wrap z]).length = c.length + 1 := by simp
    rw [hom] at hXf2
    refine awp_cut (ι := Unit) (fun _ => ⟨23, [(0, .pt 0 0 0), (5, .rs 16 0 (c.length + 1)), (6, .I n)], [(0, some (dice L b2)), (16, some ⟨1, X ++ [[.sc (.int .u8 (IntKind.u8.wrap z))]], 0⟩)], 400⟩) (fun _ => True) ?_ fun _ _ => ?_
    · refine awp_block ?_
      refine awp_reg rfl ?_
      simp
      refine callM1s (i := 0) (j := 132) (by decide) (by decide) rfl rfl (e' := dice L b) (by simp) hof (by simp) (by simp) ?_
      simp [hXl, htk]
      exact ⟨by omega, Le.go [(0, 0), (164, 16)] [] rfl rfl (by simp) (by simp [hXf])⟩
    have hwn : IntKind.i64.wrap ((n : Int) - 1) = ((n - 1 : Nat) : Int) := by rw [w64 (by omega) (by omega)]; omega
    refine awp_reg rfl ?_
    simp [hwn]
    refine ⟨c ++ [IntKind.u8.wrap z], b2, n - 1, ⟨by rw [hol]; omega, hb5⟩, by omega, ?_⟩
    show Le 1 _ ⟨23, [(0, .pt 0 0 0), (5, .rs 16 0 (c ++ [IntKind.u8.wrap z]).length), (6, .I (n - 1 : Nat))], [(0, some (dice L b2)), (16, some ⟨1, rowsK .u8 (c ++ [IntKind.u8.wrap z]), 0⟩)], 100⟩
    rw [hom, hol]
    exact Le.go [(0, 0), (16, 16)] [] rfl rfl (by simp) (by simp [hXf])
  rw [hX]
  refine rx (s := ?s9) [0, 4] [0, 16] [] rfl ?o9 ?q9
  case o9 => simp [Function.comp_def]; rfl
  exact awp_ret (PostX.mk (.inr rfl) (c, b) ⟨by simp only; omega, hbl⟩ (RetOk.k1m 16 (by simp) rfl (by simp) (by simp [Function.comp_def]) (by simp [Function.comp_def])))
end Go.Proofs.YtnlanlpbgcalcaaGreat
namespace Go.Proofs.YtnlanlpbgcalcaaGreat
open Go
set_option maxHeartbeats 1000000 in
set_option maxRecDepth 100000 in
theorem Digest_any (L : List Int) (a : Nat) (hl : L.length ≤ 400) (ha : a ≤ L.length) : ∃ p : ByteArray × Nat, (p.1.size = 32 ∧ p.2 ≤ L.length) ∧ ACalls Tryz.prog nmade_Dice_Digest [.pt 0 0 0] [dice L a] (.sc (.string p.1)) [some (dice L p.2)] := by
  obtain ⟨x, b, ⟨hb1, _⟩, hn1⟩ := Next_any L a 4 hl ha (by decide)
  obtain ⟨y, c, ⟨hc1, _⟩, hn2⟩ := Next_any L b 256 hl hb1 (by decide)
  obtain ⟨D, hD⟩ : ∃ D : List Int, D = ((List.replicate 32 0).set 0 (IntKind.u8.wrap x)).set 31 (IntKind.u8.wrap y) := ⟨_, rfl⟩
  have hDl : D.length = 32 := by rw [hD]; simp
  refine ⟨(⟨(D.map fun n => UInt8.ofNat n.toNat).toArray⟩, c), ⟨by show (D.map _).toArray.size = 32; simpa using hDl, hc1⟩, ?_⟩
  refine smade_Dice_Digest.acalls (Nat.le_of_ble_eq_true rfl) (Nat.le_of_ble_eq_true rfl) (Nat.le_refl _) ?_
  show awp _ 1 _ _ ⟨17, [(0, .pt 0 0 0)], [(0, some (dice L a))], 16⟩
  have hZ0 : List.replicate 32 [AV.sc (.int .u8 0)] = rowsK .u8 (List.replicate 32 0) := by simp [rowsK]
  have hZ2 : rowsK .u8 D = ((rowsK .u8 (List.replicate 32 0)).set 0 [.sc (.int .u8 (IntKind.u8.wrap x))]).set 31 [.sc (.int .u8 (IntKind.u8.wrap y))] := by rw [hD, rowsK, List.map_set, List.map_set]
  have hbs := bytesOf_rows D
  have hXf := rowsK_flat .u8 D
  have hZf := rowsK_flat .u8 (List.replicate 32 0)
  have hZl : (rowsK .u8 (List.replicate 32 0)).length = 32 := by simp [rowsK]
  have hg0 : (rowsK .u8 (List.replicate 32 0))[0]? = some [.sc (.int .u8 0)] := by simp [rowsK]
  have hg1 : ((rowsK .u8 (List.replicate 32 0)).set 0 [.sc (.int .u8 (IntKind.u8.wrap x))])[31]? = some [.sc (.int .u8 0)] := by simp [rowsK]
  have hXl : (rowsK .u8 D).length = 32 := by rw [rowsK, List.length_map]; exact hDl
  have hg0' : (rowsK .u8 (List.replicate 32 0))[0]'(by rw [hZl]; decide) = [.sc (.int .u8 0)] := by simp [rowsK]
  have hg1' : (rowsK .u8 (List.replicate 32 0))[31]'(by rw [hZl]; decide) = [.sc (.int .u8 0)] := by simp [rowsK]
  clear hg0 hg1
  generalize rowsK .u8 D = X at *
  generalize rowsK .u8 (List.replicate 32 0) = Z at *
  refine rx (s := ?s1) [0] [0] [] rfl ?o1 ?q1
  case o1 => simp; rfl
  refine awp_regc ⟨17, [(0, .pt 0 0 0), (3, .rs 24 0 32)], [(0, some (dice L a)), (24, some ⟨1, Z, 0⟩)], 100⟩ rfl ?_ ?_
  · simp [-List.reduceReplicate]
    exact Le.keep rfl (by simp) (by simp) (by simp [-List.reduceReplicate, hZ0])
  refine awp_regc ⟨17, [(0, .pt 0 0 0), (3, .rs 24 0 32)], [(0, some (dice L c)), (24, some ⟨1, X, 0⟩)], 300⟩ rfl ?_ ?_
  · simp
    refine callM1 (i := 0) rfl (e' := dice L a) (by simp) hn1 (by simp) (by simp) ?_
    simp
    refine callM1 (i := 0) rfl (e' := dice L b) (by simp) hn2 (by simp) (by simp) ?_
    simp [hZl, hg0', hg1', splice]
    exact Le.keep rfl (by simp) (by simp) (by simp [hZ2])
  have htk : List.take 32 X = X := List.take_of_length_le (by omega)
  refine rx (s := ?s3) [0, 2] [0] [] rfl ?o3 ?q3
  case o3 => simp [hXl, htk, hbs]; rfl
  exact awp_ret ⟨.inr rfl, RetOk.k1 rfl (by simp) (by simp)⟩
abbrev dR (au ti ki a b c : Int) (li pi bo : AV) : List AV := [.I au, .I 0, .sc (.string noB), .I ti, .I ki, .I a, .I b, .I c, li, pi, bo, .I 0, .sc (.string noB)]
abbrev dS (au ti ki a b c : Int) (li : List Int) (pi : List Pn) (bo : ByteArray) : Stm := ⟨au, 0, noB, ti, ki, a, b, c, li, pi, bo, 0, noB⟩
theorem dS_b {au ti ki a b c : Int} {li : List Int} {pi : List Pn} {bo : ByteArray} (h1 : li.length ≤ 10) (h2 : pi.length ≤ 10) (h3 : bo.size ≤ 1000) (h4 : ∀ p ∈ pi, p.d.size = 32) : StB (dS au ti ki a b c li pi bo) :=
  ⟨by show noB.size ≤ 5000; decide, by show bo.size ≤ 5000; omega, by show li.length ≤ 100; omega, by show pi.length ≤ 100; omega, fun p hp => by have := h4 p hp; omega⟩
theorem Le.d3 {st st' : St} {L : List Int} {a : Nat} {Z r r' : List AV} (nl : List (Nat × Nat)) (sn : List Nat) (hsz : st'.sz = st.sz) (hh : st'.h = [(0, some (dice L a)), (16, some ⟨13, [Z], 0⟩), (72, some ⟨13, [r'], 0⟩)]) (hn : 72 < st'.n) (hs : ∀ k ∈ sn, 1 ≤ k ∧ k ∉ [0, 16, 72]) (hnl : nl = [])
    (hZ : ∀ ρ sn h m, Z.map (conv ρ sn h (m + 1)) = Z) (h1 : st.hp 0 = some (dice L a)) (h2 : st.hp 16 = some ⟨13, [Z], 0⟩) (h3 : st.hp 72 = some ⟨13, [r], 0⟩) (hu : UpL [] (r.map (conv [(0, 0), (16, 16), (72, 72)] sn st.hp 4)) r')
    (ht : ∀ p ∈ st'.t, Wk (conv [(0, 0), (16, 16), (72, 72)] sn st.hp 4 (st.get p.1)) p.2) : Le 1 st st' := by
  refine Le.ents [(0, 0), (16, 16), (72, 72)] sn hsz (by simp) (by simp) (by simp; omega) (fun k hk => ⟨(hs k hk).1, by simpa using (hs k hk).2⟩) (by omega) ht fun p hp => ?_
  rw [hh] at hp
  simp only [List.mem_cons, List.not_mem_nil, or_false] at hp
  rcases hp with rfl | rfl | rfl
  · exact ⟨0, _, _, rfl, by simp, h1, EntUp.eq (by simp) (by simp)⟩
  · exact ⟨16, _, _, rfl, by simp, h2, EntUp.eq (by simp [hZ]) (by simp)⟩
  · exact ⟨72, _, _, rfl, by simp, h3, EntUp.row (r := r.map (conv [(0, 0), (16, 16), (72, 72)] sn st.hp 4)) (by simp) (Nat.zero_le _) hu⟩
set_option maxHeartbeats 4000000 in
set_option maxRecDepth 100000 in
theorem Statement_any (L : List Int) (a : Nat) (au ti : Int) (hl : L.length ≤ 400) (ha : a ≤ L.length) : ∃ p : Stm × Nat, (StB p.1 ∧ p.2 ≤ L.length) ∧ ACalls Tryz.prog nmade_Dice_Statement [.pt 0 0 0, .I au, .I ti] [dice L a] (eS p.1) [some (dice L p.2)] := by
  refine smade_Dice_Statement.acallsX (args := [.pt 0 0 0, .I au, .I ti]) (hs := [dice L a]) (fun p => eS p.1) (fun p => [some (dice L p.2)]) (fun p : Stm × Nat => StB p.1 ∧ p.2 ≤ L.length) (Nat.le_of_ble_eq_true rfl) (Nat.le_of_ble_eq_true rfl) (fun _ => by simp) ?_
  show awp _ 1 _ _ ⟨89, [(0, .pt 0 0 0), (1, .I au), (2, .I ti)], [(0, some (dice L a))], 16⟩
  obtain ⟨ki, b1, ⟨hb1, _⟩, hof1⟩ := Of_any L a [1, 1, 1, 2, 10, 31, 1, 12] hl ha (by decide) (by decide)
  refine awp_regc ⟨89, [(0, .pt 0 0 0), (1, .I au), (2, .I ti), (6, .pt 16 0 0)], [(0, some (dice L a)), (16, some ⟨13, [zC], 0⟩)], 24⟩ rfl ?_ ?_
  · simp
    exact Le.keep rfl (by simp) (by simp) (by simp)
  refine awp_regc ⟨89, [(0, .pt 0 0 0), (1, .I au), (2, .I ti), (6, .pt 16 0 0), (7, .pt 72 0 0)], [(0, some (dice L b1)), (16, some ⟨13, [zC], 0⟩), (72, some ⟨13, [dR au ti ki 0 0 0 .nilS .nilS (.sc (.string noB))], 0⟩)], 100⟩ rfl ?_ ?_
  · simp
    refine callM1s (i := 0) (j := 48) (by decide) (by decide) rfl rfl (e' := dice L a) (by simp) hof1 (by simp) (by simp) ?_
    simp [splice]
    exact Le.keep rfl (by simp) (by simp) (by simp)
  refine awp_cut (ι := Stm × Nat) (fun p => ⟨89, [(6, .pt 16 0 0), (7, .pt 72 0 0)], [(0, some (dice L p.2)), (16, some ⟨13, [zC], 0⟩), (72, some ⟨13, [sC p.1], 0⟩)], 2000⟩) (fun p => StB p.1 ∧ p.2 ≤ L.length) ?_ ?_
  · refine rk (s := ?s3) [0, 1, 2, 6, 7, 16] [0, 16, 72] rfl ?o3 ?q3
    case o3 => simp; rfl
    refine awp_block ?_
    refine rk (s := ?s4) [0, 1, 2, 6, 7, 16, 57] [0, 16, 72] rfl ?o4 ?q4
    case o4 => simp; rfl
    refine awp_cond _ rfl (fun h5 => ?_) fun h5 => ?_
    · obtain ⟨x1, b2, ⟨hb2, _⟩, hn1⟩ := Next_any L b1 5 hl hb1 (by decide)
      obtain ⟨x2, b3, ⟨hb3, _⟩, hn2⟩ := Next_any L b2 3 hl hb2 (by decide)
      obtain ⟨x3, b4, ⟨hb4, _⟩, hof2⟩ := Of_any L b3 [50, 5, 0, 200] hl hb3 (by decide) (by decide)
      have hmod := Mod_ok (IntKind.i64.wrap (IntKind.i64.wrap (au + 1) + x1)) 6 (by decide)
      obtain ⟨A, hA⟩ : ∃ A, A = modI (IntKind.i64.wrap (IntKind.i64.wrap (au + 1) + x1)) 6 := ⟨_, rfl⟩
      rw [← hA] at hmod
      refine awp_regc ⟨89, [(1, .I au), (6, .pt 16 0 0), (7, .pt 72 0 0)], [(0, some (dice L b4)), (16, some ⟨13, [zC], 0⟩), (72, some ⟨13, [dR au ti ki A (IntKind.i64.wrap (1 + x2)) (IntKind.i64.wrap (ti + x3)) .nilS .nilS (.sc (.string noB))], 0⟩)], 500⟩ rfl ?_ ?_
      · simp
        refine callM1 (i := 0) rfl (e' := dice L b1) (by simp) hn1 (by simp) (by simp) ?_
        simp
        refine callf nmade_Mod rfl ?_
        refine call0e hmod (by simp) ?_
        simp
        refine callf nmade_Dice_Next rfl ?_
        refine callM1 (i := 0) rfl (e' := dice L b2) (by simp) hn2 (by simp) (by simp) ?_
        simp
        refine callM1s (i := 0) (j := 220) (by decide) (by decide) rfl rfl (e' := dice L b3) (by simp) hof2 (by simp) (by simp) ?_
        simp [splice]
        exact Le.keep rfl (by simp) (by simp) (by simp)
      have hB2 : ∀ A' : Int, StB (dS au ti ki A' (IntKind.i64.wrap (1 + x2)) (IntKind.i64.wrap (ti + x3)) [] [] noB) := fun A' => dS_b (by simp) (by simp) (by decide) (by simp)
      refine rk (s := ?s6) [1, 6, 7, 79] [0, 16, 72] rfl ?o6 ?q6
      case o6 => simp; rfl
      refine awp_cond _ rfl (fun h6 => ?_) fun h6 => awp_skip ?_
      · refine awp_reg rfl ?_
        simp [splice]
        exact ⟨dS au ti ki (IntKind.i64.wrap (au + 1)) (IntKind.i64.wrap (1 + x2)) (IntKind.i64.wrap (ti + x3)) [] [] noB, b4, ⟨hB2 _, hb4⟩, Le.d3 [] [] rfl rfl (by simp) (by simp) rfl (by simp) rfl rfl rfl (by simp [UpL, Up]; exact ⟨.nil 1 false, .nil 3 false⟩) (by simp)⟩
      · exact ⟨(dS au ti ki A (IntKind.i64.wrap (1 + x2)) (IntKind.i64.wrap (ti + x3)) [] [] noB, b4), ⟨hB2 _, hb4⟩, Le.d3 [] [] rfl rfl (by simp) (by simp) rfl (by simp) rfl rfl rfl (by simp [UpL, Up]; exact ⟨.nil 1 false, .nil 3 false⟩) (by simp)⟩
    refine rk (s := ?s7) [0, 6, 7, 83] [0, 16, 72] rfl ?o7 ?q7
    case o7 => simp; rfl
    refine awp_cond _ rfl (fun h7 => ?_) fun h7 => ?_
    · obtain ⟨x1, b2, ⟨hb2, _⟩, hn1⟩ := Next_any L b1 4 hl hb1 (by decide)
      refine awp_reg rfl ?_
      simp
      refine callM1 (i := 0) rfl (e' := dice L b1) (by simp) hn1 (by simp) (by simp) ?_
      simp [splice]
      exact ⟨dS au ti ki x1 0 0 [] [] noB, b2, ⟨dS_b (by simp) (by simp) (by decide) (by simp), hb2⟩, Le.d3 [] [] rfl rfl (by simp) (by simp) rfl (by simp) rfl rfl rfl (by simp [UpL, Up]; exact ⟨.nil 1 false, .nil 3 false⟩) (by simp)⟩
    obtain ⟨x1, b2, ⟨hb2, _⟩, hn1⟩ := Next_any L b1 9 hl hb1 (by decide)
    obtain ⟨x2, b3, ⟨hb3, _⟩, hof2⟩ := Of_any L b2 [0, 1099511627776] hl hb2 (by decide) (by decide)
    obtain ⟨x3, b4, ⟨hb4, _⟩, hn3⟩ := Next_any L b3 3 hl hb3 (by decide)
    obtain ⟨x4, b5, ⟨hb5, hx40, _, hx43⟩, hn4⟩ := Next_any L b4 3 hl hb4 (by decide)
    have hx44 := hx43 (by decide)
    obtain ⟨y, rfl⟩ : ∃ y : Nat, x4 = y := ⟨x4.toNat, by omega⟩
    refine awp_regc ⟨89, [(0, .pt 0 0 0), (6, .pt 16 0 0), (7, .pt 72 0 0)], [(0, some (dice L b4)), (16, some ⟨13, [zC], 0⟩), (72, some ⟨13, [dR au ti ki x1 x2 x3 .nilS .nilS (.sc (.string noB))], 0⟩)], 500⟩ rfl ?_ ?_
    · simp
      refine callM1 (i := 0) rfl (e' := dice L b1) (by simp) hn1 (by simp) (by simp) ?_
      simp
      refine callf nmade_Dice_Of rfl ?_
      refine callM1s (i := 0) (j := 172) (by decide) (by decide) rfl rfl (e' := dice L b2) (by simp) hof2 (by simp) (by simp) ?_
      simp
      refine callf nmade_Dice_Next rfl ?_
      refine callM1 (i := 0) rfl (e' := dice L b3) (by simp) hn3 (by simp) (by simp) ?_
      simp [splice]
      exact Le.keep rfl (by simp) (by simp) (by simp)
    refine awp_cut (ι := List Int × Nat) (fun p => ⟨89, [(0, .pt 0 0 0), (6, .pt 16 0 0), (7, .pt 72 0 0)], [(0, some (dice L p.2)), (16, some ⟨13, [zC], 0⟩), (72, some ⟨13, [dR au ti ki x1 x2 x3 (.rs 200 0 p.1.length) .nilS (.sc (.string noB))], 0⟩), (200, some ⟨1, rwI p.1, 0⟩)], 700⟩) (fun p => p.1.length ≤ 3 ∧ p.2 ≤ L.length) ?_ ?_
    · refine awp_regc ⟨89, [(0, .pt 0 0 0), (6, .pt 16 0 0), (7, .pt 72 0 0), (8, .I y)], [(0, some (dice L b5)), (16, some ⟨13, [zC], 0⟩), (72, some ⟨13, [dR au ti ki x1 x2 x3 .nilS .nilS (.sc (.string noB))], 0⟩)], 600⟩ rfl ?_ ?_
      · simp
        refine callM1 (i := 0) rfl (e' := dice L b4) (by simp) hn4 (by simp) (by simp) ?_
        simp
        exact Le.keep rfl (by simp) (by simp) (by simp)
      refine awp_block ?_
      refine awp_loop (ι := (List Int × Nat) × Nat) (fun p => ⟨89, [(0, .pt 0 0 0), (6, .pt 16 0 0), (7, .pt 72 0 0), (8, .I p.2)], [(0, some (dice L p.1.2)), (16, some ⟨13, [zC], 0⟩), (72, some ⟨13, [dR au ti ki x1 x2 x3 (.rs 200 0 p.1.1.length) .nilS (.sc (.string noB))], 0⟩), (200, some ⟨1, rwI p.1.1, 0⟩)], 650⟩) (fun p => p.1.1.length + p.2 ≤ 3 ∧ p.1.2 ≤ L.length) (fun p => p.2) (([], b5), y) ⟨by simp; omega, hb5⟩ ?_ ?_
      · refine Le.lst [(0, 0), (16, 16), (72, 72)] [] [(200, 1)] rfl (by simp) (by simp) (by simp) (by simp) (by simp) (by simp) (by simp) (by simp [Up]) fun p hp e' he' => ?_
        simp only [List.mem_cons, List.not_mem_nil, or_false] at hp
        rcases hp with rfl | rfl | rfl | rfl
        · cases he'
          exact .inl ⟨(0, 0), by simp, rfl, _, rfl, EntUp.eq (by simp) (by simp)⟩
        · cases he'
          exact .inl ⟨(16, 16), by simp, rfl, _, rfl, EntUp.eq (by simp) (by simp)⟩
        · cases he'
          exact .inl ⟨(72, 72), by simp, rfl, _, rfl, EntUp.row (r := dR au ti ki x1 x2 x3 .nilS .nilS (.sc (.string noB))) (by simp) (Nat.zero_le _) (by simp [UpL, Up])⟩
        · cases he'
          exact .inr ⟨by simp, by simp, rfl⟩
      rintro ⟨⟨li, b⟩, n⟩ ⟨hc, hbl⟩
      simp only at hc hbl
      simp only
      have hXl : (rwI li).length = li.length := List.length_map ..
      have hXf := rwI_flat li
      obtain ⟨X, hX⟩ : ∃ X, X = rwI li := ⟨_, rfl⟩
      rw [← hX] at hXl hXf ⊢
      refine awp_seq ?_
      refine rk (s := ?s8) [0, 6, 7, 8, 30] [0, 16, 72, 200] rfl ?o8 ?q8
      case o8 => simp; rfl
      refine awp_cond _ rfl (fun h => awp_skip ?_) fun h => awp_exit (hit ?_)
      · simp only [decide_eq_true_eq] at h
        obtain ⟨z, b2, ⟨hb5, _⟩, hof⟩ := Of_any L b [0, 5, 1099511627776] hl hbl (by decide) (by decide)
        have htk : List.take li.length X = X := List.take_of_length_le (by omega)
        have hom : rwI (li ++ [z]) = X ++ [[.I z]] := by rw [hX, rwI, List.map_append]; rfl
        have hol : (li ++ [z]).length = li.length + 1 := by simp
        refine awp_cut (ι := Unit) (fun _ => ⟨89, [(0, .pt 0 0 0), (6, .pt 16 0 0), (7, .pt 72 0 0), (8, .I n)], [(0, some (dice L b2)), (16, some ⟨13, [zC], 0⟩), (72, some ⟨13, [dR au ti ki x1 x2 x3 (.rs 200 0 (li.length + 1)) .nilS (.sc (.string noB))], 0⟩), (200, some ⟨1, X ++ [[.I z]], 0⟩)], 900⟩) (fun _ => True) ?_ fun _ _ => ?_
        · refine awp_block ?_
          refine awp_drw rfl ?_
          simp
          refine callM1s (i := 0) (j := 690) (by decide) (by decide) rfl rfl (e' := dice L b) (by simp) hof (by simp) (by simp) ?_
          simp [hXl, htk, splice]
          exact ⟨by omega, by omega, rfl, Le.go [(0, 0), (16, 16), (72, 72), (714, 200)] [] rfl rfl (by simp) (by simp [hXf])⟩
        have hwn : IntKind.i64.wrap ((n : Int) - 1) = ((n - 1 : Nat) : Int) := by rw [w64 (by omega) (by omega)]; omega
        refine awp_reg rfl ?_
        simp [hwn]
        refine ⟨li ++ [z], b2, n - 1, ⟨by rw [hol]; omega, hb5⟩, by omega, ?_⟩
        rw [hom, hol]
        exact Le.go [(0, 0), (16, 16), (72, 72), (200, 200)] [] rfl rfl (by simp) (by simp [hXf])
      · exact ⟨(li, b), ⟨by simp only; omega, hbl⟩, Le.keep rfl (by simp) (by simp) (by simp [hX])⟩
    rintro ⟨li, b⟩ ⟨hli, hbl⟩
    simp only at hli hbl
    simp only
    have hXl : (rwI li).length = li.length := List.length_map ..
    have hXf := rwI_flat li
    have htk : List.take li.length (rwI li) = rwI li := List.take_of_length_le (by omega)
    have hin : ints li = .vs 1 false (rwI li) := rfl
    obtain ⟨X, hX⟩ : ∃ X, X = rwI li := ⟨_, rfl⟩
    rw [← hX] at hXl hXf htk hin ⊢
    obtain ⟨r, b2, hb6, hone⟩ := One_any L b 3 hl hbl (by decide) (by decide)
    refine awp_cut (ι := List Pn × Nat) (fun p => ⟨89, [(0, .pt 0 0 0), (6, .pt 16 0 0), (7, .pt 72 0 0)], [(0, some (dice L p.2)), (16, some ⟨13, [zC], 0⟩), (72, some ⟨13, [dR au ti ki x1 x2 x3 (.vs 1 false X) (pns p.1) (.sc (.string noB))], 0⟩)], 1500⟩) (fun p => p.1.length ≤ 1 ∧ (∀ q ∈ p.1, q.d.size = 32) ∧ p.2 ≤ L.length) ?_ ?_
    · refine awp_regc ⟨89, [(0, .pt 0 0 0), (6, .pt 16 0 0), (7, .pt 72 0 0), (42, .B r)], [(0, some (dice L b2)), (16, some ⟨13, [zC], 0⟩), (72, some ⟨13, [dR au ti ki x1 x2 x3 (.rs 200 0 li.length) .nilS (.sc (.string noB))], 0⟩), (200, some ⟨1, X, 0⟩)], 800⟩ rfl ?_ ?_
      · simp
        refine callM1 (i := 0) rfl (e' := dice L b) (by simp) hone (by simp) (by simp) ?_
        simp
        exact Le.keep rfl (by simp) (by simp) (by simp)
      refine awp_cond _ rfl (fun h8 => ?_) fun h8 => awp_skip ?_
      · obtain ⟨y1, c1, ⟨hc1, _⟩, hm1⟩ := Next_any L b2 5 hl hb6 (by decide)
        obtain ⟨y2, c2, ⟨hc2, _⟩, hm2⟩ := Next_any L c1 4 hl hc1 (by decide)
        obtain ⟨⟨d, c3⟩, ⟨hd, hc3⟩, hm3⟩ := Digest_any L c2 hl hc2
        simp only at hd hc3 hm3
        refine awp_reg rfl ?_
        simp
        refine callM1 (i := 0) rfl (e' := dice L b2) (by simp) hm1 (by simp) (by simp) ?_
        simp
        refine callM1 (i := 0) rfl (e' := dice L c1) (by simp) hm2 (by simp) (by simp) ?_
        simp
        refine callM1 (i := 0) rfl (e' := dice L c2) (by simp) hm3 (by simp) (by simp) ?_
        simp [splice]
        exact ⟨[⟨y1, IntKind.i64.wrap (1 + y2), d⟩], c3, ⟨by simp, by simpa using hd, hc3⟩, Le.d3 [] [200, 864] rfl rfl (by simp) (by simp) rfl (by simp) rfl rfl rfl (by simp [UpL, Up, hXl, htk, hXf]; exact .refl _) (by simp)⟩
      · exact ⟨([], b2), ⟨by simp, by simp, hb6⟩, Le.d3 [] [200] rfl rfl (by simp) (by simp) rfl (by simp) rfl rfl rfl (by simp [UpL, Up, hXl, htk, hXf]; exact .nil 3 false) (by simp)⟩
    rintro ⟨pi, c⟩ ⟨hp1, hp2, hp3⟩
    simp only at hp1 hp2 hp3
    simp only
    obtain ⟨⟨by_, c2⟩, ⟨hy1, hy2⟩, hby⟩ := Bytes_any L c 5 hl hp3 (by decide)
    simp only at hy1 hy2 hby
    have hYl := rowsK_len .u8 by_
    have hYf := rowsK_flat .u8 by_
    have hYb := bytesOf_rows by_
    generalize rowsK .u8 by_ = Y at *
    have htY : List.take by_.length Y = Y := List.take_of_length_le (by omega)
    refine awp_reg rfl ?_
    simp
    refine callM1 (i := 0) rfl (e' := dice L c) (by simp) hby (by simp) (by simp) ?_
    simp [splice, hYl, hYf, htY, hYb]
    refine ⟨dS au ti ki x1 x2 x3 li pi ⟨(by_.map fun n => UInt8.ofNat n.toNat).toArray⟩, c2, ⟨dS_b (by omega) (by omega) ?_ hp2, hy2⟩, Le.d3 [] [] rfl rfl (by simp) (by simp) rfl (by simp) rfl rfl rfl (by simp [UpL, Up, hX]) (by simp)⟩
    show (by_.map _).toArray.size ≤ 1000
    simp
    omega
  · rintro ⟨s, b⟩ ⟨h1, h2⟩
    simp only at h1 h2
    refine awp_regc ⟨89, [(6, .pv (sC s))], [(0, some (dice L b))], 3000⟩ rfl ?_ (awp_ret (PostX.mk (.inr rfl) (s, b) ⟨h1, h2⟩ (RetOk.k1 rfl (by simp) (by simp))))
    simp [splice]
    exact Le.go [(0, 0)] [16] rfl rfl (by simp) (by simp)
end Go.Proofs.YtnlanlpbgcalcaaGreat
namespace Go.Proofs.YtnlanlpbgcalcaaGreat
open Go
set_option maxHeartbeats 4000000 in
set_option maxRecDepth 100000 in
theorem Chain_any (L : List Int) (a : Nat) (au : Int) (m : Nat) (hl : L.length ≤ 400) (ha : a ≤ L.length) (hm : m ≤ 100) : ∃ p : (List Stm × Nat) × Nat, (Chain au p.1.1 ∧ p.1.1.length ≤ m ∧ p.1.2 ≤ L.length) ∧ ACalls Tryz.prog nmade_Dice_Chain [.pt 0 0 0, .I au, .I m] [dice L a] (.rs 1 0 p.1.1.length) [some (dice L p.1.2), some ⟨13, p.1.1.map sC, p.2⟩] := by
  refine smade_Dice_Chain.acallsX (args := [.pt 0 0 0, .I au, .I m]) (hs := [dice L a]) (fun p => .rs 1 0 p.1.1.length) (fun p => [some (dice L p.1.2), some ⟨13, p.1.1.map sC, p.2⟩]) (fun p : (List Stm × Nat) × Nat => Chain au p.1.1 ∧ p.1.1.length ≤ m ∧ p.1.2 ≤ L.length) (Nat.le_of_ble_eq_true rfl) (Nat.le_of_ble_eq_true rfl) (fun _ => by simp) ?_
  show awp _ 1 _ _ ⟨55, [(0, .pt 0 0 0), (1, .I au), (2, .I m)], [(0, some (dice L a))], 16⟩
  obtain ⟨t0, b, ⟨hb1, _⟩, hn1⟩ := Next_any L a 10 hl ha (by decide)
  obtain ⟨x, c, ⟨hc1, hx1, _, hx3⟩, hn2⟩ := Next_any L b ((m + 1 : Nat) : Int) hl hb1 (by omega)
  have hx4 := hx3 (by omega)
  obtain ⟨y, rfl⟩ : ∃ y : Nat, x = y := ⟨x.toNat, by omega⟩
  have hwm := wr1 (k := m) (N := 101) (by omega) (by omega)
  refine rx (s := ?s1) [0, 1, 2] [0] [] rfl ?o1 ?q1
  case o1 => simp; rfl
  refine rx (s := ?s2) [0, 1, 2, 7] [0] [] rfl ?o2 ?q2
  case o2 => simp; rfl
  refine awp_regc ⟨55, [(0, .pt 0 0 0), (1, .I au), (2, .I m), (7, .nilS), (8, .I t0)], [(0, some (dice L b))], 100⟩ rfl ?_ ?_
  · simp
    refine callM1 (i := 0) rfl (e' := dice L a) (by simp) hn1 (by simp) (by simp) ?_
    simp
    exact Le.keep rfl (by simp) (by simp) (by simp)
  refine awp_seq ?_
  refine awp_regc ⟨55, [(0, .pt 0 0 0), (1, .I au), (7, .nilS), (8, .I t0), (9, .I y)], [(0, some (dice L c))], 200⟩ rfl ?_ ?_
  · simp [hwm]
    refine callM1 (i := 0) rfl (e' := dice L b) (by simp) hn2 (by simp) (by simp) ?_
    simp
    exact Le.keep rfl (by simp) (by simp) (by simp)
  refine awp_block ?_
  refine awp_loop (ι := ((List Stm × Nat) × Nat) × (Int × Nat)) (fun p => ⟨55, [(0, .pt 0 0 0), (1, .I au), (7, .rs 16 0 p.1.1.1.length), (8, .I p.2.1), (9, .I p.2.2)], [(0, some (dice L p.1.1.2)), (16, some ⟨13, p.1.1.1.map sC, p.1.2⟩)], 200⟩) (fun p => Chain au p.1.1.1 ∧ p.1.1.1.length + p.2.2 ≤ m ∧ p.1.1.2 ≤ L.length ∧ p.1.2 ≤ p.1.1.1.length) (fun p => p.2.2) ((([], c), 0), (t0, y)) ⟨Chain.nil au, by simp; omega, hc1, Nat.zero_le _⟩ ?_ ?_
  · refine Le.lst [(0, 0)] [] [(16, 13)] rfl (by simp) (by simp) (by simp) (by simp) (by simp) (by simp) (by simp) (by simp [Up]) fun p hp e' he' => ?_
    simp only [List.mem_cons, List.not_mem_nil, or_false] at hp
    rcases hp with rfl | rfl
    · cases he'
      exact .inl ⟨(0, 0), by simp, rfl, _, rfl, EntUp.eq (by simp) (by simp)⟩
    · cases he'
      exact .inr ⟨by simp, by simp, rfl⟩
  rintro ⟨⟨⟨o, b⟩, ro⟩, t, n⟩ ⟨hch, hon, hbl, hro⟩
  simp only at hch hon hbl hro
  simp only
  have hXl : (o.map sC).length = o.length := List.length_map ..
  have hXf := sts_flat o
  have hst : sts o = .vs 13 false (o.map sC) := rfl
  obtain ⟨X, hX⟩ : ∃ X, X = o.map sC := ⟨_, rfl⟩
  rw [← hX] at hXl hXf hst ⊢
  refine awp_seq ?_
  refine rk (s := ?s3) [0, 1, 7, 8, 9, 20] [0, 16] rfl ?o3 ?q3
  case o3 => simp; rfl
  refine awp_cond _ rfl (fun h => awp_skip ?_) fun h => awp_exit (hit ?_)
  · simp only [decide_eq_true_eq] at h
    obtain ⟨z, b2, ⟨hb2, _⟩, hof⟩ := Of_any L b [1, 0, 5, 20] hl hbl (by decide) (by decide)
    obtain ⟨t2, ht2⟩ : ∃ t2, t2 = IntKind.i64.wrap (t + z) := ⟨_, rfl⟩
    obtain ⟨⟨s, b3⟩, ⟨hsb, hb3⟩, hsta⟩ := Statement_any L b2 au t2 hl hb2
    simp only at hsb hb3 hsta
    obtain ⟨r, b4, hb4, hone⟩ := One_any L b3 6 hl hb3 (by decide) (by decide)
    refine awp_cut (ι := (List Stm × Nat) × Nat) (fun p => ⟨55, [(0, .pt 0 0 0), (1, .I au), (7, .rs 16 0 p.1.1.length), (8, .I t2), (9, .I n)], [(0, some (dice L p.1.2)), (16, some ⟨13, p.1.1.map sC, p.2⟩)], 2000⟩) (fun p => Chain au p.1.1 ∧ p.1.1.length + (n - 1) ≤ m ∧ p.1.2 ≤ L.length ∧ p.2 ≤ p.1.1.length) ?_ ?_
    · refine awp_block ?_
      refine awp_regc ⟨55, [(0, .pt 0 0 0), (1, .I au), (7, .rs 16 0 o.length), (8, .I t2), (9, .I n)], [(0, some (dice L b2)), (16, some ⟨13, X, ro⟩)], 300⟩ rfl ?_ ?_
      · simp
        refine callM1s (i := 0) (j := 232) (by decide) (by decide) rfl rfl (e' := dice L b) (by simp) hof (by simp) (by simp) ?_
        simp
        exact Le.keep rfl (by simp) (by simp [ht2]) (by simp)
      refine awp_regc ⟨55, [(0, .pt 0 0 0), (1, .I au), (7, .rs 16 0 o.length), (8, .I t2), (9, .I n), (10, .pt 332 0 0)], [(0, some (dice L b3)), (16, some ⟨13, X, ro⟩), (332, some ⟨13, [sC s], 0⟩)], 400⟩ rfl ?_ ?_
      · simp
        refine callM1 (i := 0) rfl (e' := dice L b2) (by simp) hsta (by simp) (by simp) ?_
        simp [splice]
        exact Le.keep rfl (by simp) (by simp) (by simp)
      refine awp_cut (ι := Stm × Nat) (fun p => ⟨55, [(0, .pt 0 0 0), (1, .I au), (7, .rs 16 0 o.length), (8, .I t2), (9, .I n), (10, .pt 332 0 0)], [(0, some (dice L p.2)), (16, some ⟨13, X, ro⟩), (332, some ⟨13, [sC p.1], 0⟩)], 700⟩) (fun p => StB p.1 ∧ p.2 ≤ L.length) ?_ ?_
      · obtain ⟨b5, hb5, hb5'⟩ : ∃ b5, b5 ≤ L.length ∧ b5 = if n = 1 then b4 else b3 := by
          refine ⟨_, ?_, rfl⟩
          split
          · exact hb4
          · exact hb3
        refine awp_regc ⟨55, [(0, .pt 0 0 0), (1, .I au), (7, .rs 16 0 o.length), (8, .I t2), (9, .I n), (10, .pt 332 0 0), (37, .B (decide (n = 1) && r))], [(0, some (dice L b5)), (16, some ⟨13, X, ro⟩), (332, some ⟨13, [sC s], 0⟩)], 500⟩ rfl ?_ ?_
        · by_cases h1 : n = 1
          · have h1' : ((n : Int) == 1) = true := by simp; omega
            rw [if_pos h1] at hb5'
            simp [h1']
            refine callM1 (i := 0) rfl (e' := dice L b3) (by simp) hone (by simp) (by simp) ?_
            simp
            exact Le.keep rfl (by simp) (by simp [h1]) (by simp [hb5'])
          · have h1' : ((n : Int) == 1) = false := by simp; omega
            rw [if_neg h1] at hb5'
            simp [h1']
            exact Le.keep rfl (by simp) (by simp [h1]) (by simp [hb5'])
        refine awp_cond _ rfl (fun h2 => ?_) fun h2 => awp_skip ?_
        · refine awp_reg rfl ?_
          simp [splice]
          refine ⟨dS au t2 3 0 0 0 [] [] noB, b5, ⟨dS_b (by simp) (by simp) (by decide) (by simp), hb5⟩, ?_⟩
          refine Le.ents [(0, 0), (16, 16), (332, 332)] [] rfl (by simp) (by simp) (by simp) (by simp) (by simp) (by simp) fun p hp => ?_
          simp only [List.mem_cons, List.not_mem_nil, or_false] at hp
          rcases hp with rfl | rfl | rfl
          · exact ⟨0, _, _, rfl, by simp, rfl, EntUp.eq (by simp) (by simp)⟩
          · exact ⟨16, _, _, rfl, by simp, rfl, EntUp.eq (by simp [hXf]) (by simp [hXl]; exact hro)⟩
          · exact ⟨332, _, _, rfl, by simp, rfl, EntUp.row (r := dR au t2 3 0 0 0 .nilS .nilS (.sc (.string noB))) (by simp) (Nat.zero_le _) (by simp [UpL, Up]; exact ⟨.nil 1 false, .nil 3 false⟩)⟩
        · exact ⟨(s, b5), ⟨hsb, hb5⟩, Le.keep rfl (by simp) (by simp) (by simp)⟩
      clear hsta hone hof hsb hb3
      rintro ⟨s, b5⟩ ⟨hsb, hb5⟩
      simp only at hsb hb5
      simp only
      obtain ⟨e, x, hnx, hcx⟩ := next_any2 au o s hch (by omega) hsb
      have htk : List.take o.length X = X := List.take_of_length_le (by omega)
      refine awp_regc ⟨55, [(0, .pt 0 0 0), (1, .I au), (7, .rs 16 0 o.length), (8, .I t2), (9, .I n), (11, .pv (sC x)), (12, .I e)], [(0, some (dice L b5)), (16, some ⟨13, X, o.length⟩)], 900⟩ rfl ?_ ?_
      · simp
        refine call0r [16] hnx (by simp [hXl, htk, hXf, hst]) (by simp) ?_
        simp [splice, hXl]
        exact Le.go [(0, 0), (16, 16)] [756] rfl rfl (by simp) (by simp [hXf, hXl])
      refine awp_regc ⟨55, [(0, .pt 0 0 0), (1, .I au), (7, .rs 16 0 o.length), (8, .I t2), (9, .I n), (11, .pv (sC x)), (49, .B (decide (e = 0)))], [(0, some (dice L b5)), (16, some ⟨13, X, o.length⟩)], 1000⟩ rfl ?_ ?_
      · simp
        exact Le.keep rfl (by simp) (by simp <;> rw [Bool.eq_iff_iff] <;> simp) (by simp)
      refine awp_cond _ rfl (fun h5 => ?_) fun h5 => awp_skip ?_
      · simp only [decide_eq_true_eq] at h5
        have hom : (o ++ [x]).map sC = X ++ [sC x] := by rw [List.map_append, ← hX]; rfl
        have hol : (o ++ [x]).length = o.length + 1 := by simp
        refine awp_reg rfl ?_
        simp [hXl, htk]
        refine ⟨by omega, by omega, o ++ [x], b5, o.length, ⟨hcx h5, by rw [hol]; omega, hb5, by rw [hol]; omega⟩, ?_⟩
        rw [hom, hol]
        exact Le.go [(0, 0), (1024, 16)] [] rfl rfl (by simp) (by simp [hXf, hXl])
      · exact ⟨((o, b5), o.length), ⟨hch, by simp only; omega, hb5, Nat.le_refl _⟩, Le.keep rfl (by simp) (by simp) (by simp [hX])⟩
    · rintro ⟨⟨o2, b6⟩, ro2⟩ ⟨h1, h2, h3, h4⟩
      simp only at h1 h2 h3 h4
      have hwn : IntKind.i64.wrap ((n : Int) - 1) = ((n - 1 : Nat) : Int) := by rw [w64 (by omega) (by omega)]; omega
      have hXf2 := sts_flat o2
      refine awp_reg rfl ?_
      simp [hwn]
      exact ⟨o2, b6, ro2, t2, n - 1, ⟨h1, by omega, h3, h4⟩, by omega, Le.go [(0, 0), (16, 16)] [] rfl rfl (by simp) (by simp [Function.comp_def]; exact h4)⟩
  rw [hX]
  refine rx (s := ?s9) [0, 6] [0, 16] [] rfl ?o9 ?q9
  case o9 => simp [Function.comp_def, hro]; rfl
  exact awp_ret (PostX.mk (.inr rfl) ((o, b), ro) ⟨hch, by simp only; omega, hbl⟩ (RetOk.k1m 16 (by simp) rfl (by simp) (by simp [Function.comp_def]) (by simp [Function.comp_def])))
end Go.Proofs.YtnlanlpbgcalcaaGreat
