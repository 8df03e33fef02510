/- Texts of this claim, merged. -/
import Derived.Test.YtnphfkceoklkkaaVo9
set_option linter.unusedSimpArgs false
set_option linter.unusedVariables false
set_option linter.unusedSectionVars false
namespace Go.Proofs.Ytnphfkceoklkkaa
open Go
section
variable {P : Program} {np id : Nat} {h : Nat → Option Ent} {K : AV → List Nat → List (Nat × Option Ent) → Prop} {f : FuncId} {first capt args args' : List AV} {res : AV}
theorem callN1s (sn : List Nat) {e : Ent} (hnp : ∀ i ∈ sn, np ≤ i) (hc : ACalls P f args' [] res [some e]) (he : WkL ((first ++ args ++ capt).map (conv [] sn h 4)) args')
    (hk : K (conv (swp [] id) [] (fun _ => none) 4 res) sn ((id, some (convE (swp [] id) [] (fun _ => none) 4 e)) :: sn.filterMap fun i => (h i).map fun e => (i, some { e with ro := e.rows.length }))) : aK P np id .call (.fn (.func f) first capt :: args) h K :=
  ⟨[], sn, true, args', [], res, [some e], by simp, by simp, fun _ => hnp, by rw [List.zipIdx_nil]; exact he, rfl, hc, by simp, .inl rfl, by simpa [swp] using hk⟩
end
set_option maxHeartbeats 1000000 in
set_option maxRecDepth 100000 in
theorem StoreOf_any (l : List Stm) (k : Int) (hl : l.length ≤ 100000) (hb : ∀ s ∈ l, StB s) : ∃ o : List Stm, (o.length ≤ l.length ∧ ∀ x ∈ o, x ∈ l) ∧ ACalls Try.prog nref05_Of [.agg [sts l], .I k] [] (.rs 0 0 o.length) [some ⟨13, o.map sC, 0⟩] := by
  refine sref05_Of.acallsX (args := [.agg [sts l], .I k]) (hs := []) (fun o => .rs 0 0 o.length) (fun o => [some ⟨13, o.map sC, 0⟩]) (fun o : List Stm => o.length ≤ l.length ∧ ∀ x ∈ o, x ∈ l) (Nat.le_of_ble_eq_true rfl) (Nat.le_of_ble_eq_true rfl) (fun _ => Nat.zero_le _) ?_
  show awp _ 0 _ _ ⟨32, [(0, .agg [sts l]), (1, .I k)], [], 16⟩
  refine rx (s := ?s1) [1, 2] [] [16] rfl ?o1 ?q1
  case o1 => simp; rfl
  refine rx (s := ?s2) [1, 2, 5] [] [] rfl ?o2 ?q2
  case o2 => simp; rfl
  refine awp_seq ?_
  refine rx (s := ?s3) [1, 2, 5, 6] [] [] rfl ?o3 ?q3
  case o3 => simp; rfl
  refine awp_block ?_
  refine awp_loop (ι := List Stm × Nat) (fun p => ⟨32, [(1, .I k), (2, .pv [sts l]), (5, .rs 16 0 p.1.length), (6, .I p.2)], [(16, some ⟨13, p.1.map sC, 0⟩)], 56⟩) (fun p => p.2 ≤ l.length ∧ p.1.length ≤ p.2 ∧ ∀ x ∈ p.1, x ∈ l) (fun p => l.length - p.2) ([], 0) ⟨Nat.zero_le _, Nat.zero_le _, by simp⟩ (Le.lst [] [] [(16, 13)] rfl (by simp) (by simp) (by simp) (by simp) (by simp) (by simp) (by simp) (by simp [Up]) (by simp)) ?_
  rintro ⟨o, i⟩ ⟨hi, ho1, ho2⟩
  simp only at hi ho1 ho2
  have hXl : (o.map sC).length = o.length := List.length_map ..
  have hXf := sts_flat o
  obtain ⟨X, hX⟩ : ∃ X, X = o.map sC := ⟨_, rfl⟩
  simp only
  rw [← hX] at hXl hXf ⊢
  refine awp_seq ?_
  refine rk (s := ?s4) [1, 2, 5, 6, 11] [16] rfl ?o4 ?q4
  case o4 => simp; rfl
  refine awp_cond _ rfl (fun h => awp_skip ?_) fun h => awp_exit (hit ?_)
  · simp only [decide_eq_true_eq, Int.ofNat_lt] at h
    refine awp_cut (ι := List Stm) (fun o => ⟨32, [(1, .I k), (2, .pv [sts l]), (5, .rs 16 0 o.length), (6, .I i)], [(16, some ⟨13, o.map sC, 0⟩)], 500⟩) (fun o => o.length ≤ i + 1 ∧ ∀ x ∈ o, x ∈ l) ?_ ?_
    · have hg : l[i]? = some l[i] := List.getElem?_eq_getElem h
      have hsm : l[i] ∈ l := List.getElem_mem h
      generalize l[i] = s at *
      have hsb := hb s hsm
      have hcp := ref03_Copy_ok s (by have := hsb.2.2.1; omega) (by have := hsb.2.2.2.1; omega)
      refine awp_block ?_
      refine rk (s := ?s5) [1, 2, 5, 6, 21] [16] rfl ?o5 ?q5
      case o5 => simp [hg]; rfl
      refine awp_cond _ rfl (fun h5 => ?_) fun h5 => awp_skip ?_
      · have htk : List.take o.length X = X := List.take_of_length_le (by omega)
        have hXf2 : ∀ ρ sn h m, (X ++ [sC s]).map (List.map (conv ρ sn h (m + 1))) = X ++ [sC s] := fun ρ sn h m => by rw [List.map_append, hXf]; simp
        have hom : (o ++ [s]).map sC = X ++ [sC s] := by rw [List.map_append, ← hX]; rfl
        have hol : (o ++ [s]).length = o.length + 1 := by simp
        refine awp_reg rfl ?_
        simp [hg]
        refine call0e hcp (by simp) ?_
        simp [hXl, htk]
        refine ⟨by omega, by omega, o ++ [s], ⟨by rw [hol]; omega, fun x hx => ?_⟩, Le.Z1 (z := 13) hXf2 224 16 [] rfl (by simp only [hom]) (by simp) (by simp) (by simp [htk]) (by simp [hol])⟩
        rcases List.mem_append.1 hx with hx | hx
        · exact ho2 x hx
        · rw [List.mem_singleton] at hx; rw [hx]; exact hsm
      · exact ⟨o, ⟨by omega, ho2⟩, Le.keep rfl (by simp) (by simp) (by simp [hX])⟩
    · rintro o ⟨ho3, ho4⟩
      have hwi := wr1 h (by omega)
      refine awp_reg rfl ?_
      simp [hwi]
      exact ⟨o, i + 1, ⟨by omega, by omega, ho4⟩, by omega, Le.Z1 (sts_flat o) 16 16 [] rfl rfl (by simp) (by simp) rfl (by simp)⟩
  rw [hX]
  refine rx (s := ?s9) [4] [16] [] rfl ?o9 ?q9
  case o9 => simp [Function.comp_def]; rfl
  exact awp_ret (PostX.mk (.inr rfl) o ⟨by omega, ho2⟩ (RetOk.out [16] [] rfl (by simp) (by simp) (by simp) (by simp [Function.comp_def])))
theorem Chain.au {a : Int} {c : List Stm} (hc : Chain a c) {s : Stm} (hs : s ∈ c) : s.au = a := by
  obtain ⟨i, hi, rfl⟩ := List.mem_iff_getElem.1 hs
  exact (hc.1 i hi).au_
set_option maxHeartbeats 1000000 in
set_option maxRecDepth 100000 in
theorem StoreCounted_any (l : List Stm) (hl : l.length ≤ 100000) (hb : ∀ s ∈ l, StB s) : ∃ c : List Stm, (GoodL c ∧ c.length ≤ 12800) ∧ ACalls Try.prog nref05_Counted [.agg [sts l]] [] (.rs 0 0 c.length) [some ⟨13, c.map sC, 0⟩] := by
  refine sref05_Counted.acallsX (args := [.agg [sts l]]) (hs := []) (fun o => .rs 0 0 o.length) (fun o => [some ⟨13, o.map sC, 0⟩]) (fun c : List Stm => GoodL c ∧ c.length ≤ 12800) (Nat.le_of_ble_eq_true rfl) (Nat.le_of_ble_eq_true rfl) (fun _ => Nat.zero_le _) ?_
  show awp _ 0 _ _ ⟨17, [(0, .agg [sts l])], [], 16⟩
  refine rx (s := ?s1) [1] [] [16] rfl ?o1 ?q1
  case o1 => simp; rfl
  refine rx (s := ?s2) [1, 3] [] [] rfl ?o2 ?q2
  case o2 => simp; rfl
  refine awp_seq ?_
  refine rx (s := ?s3) [1, 3, 4] [] [] rfl ?o3 ?q3
  case o3 => simp; rfl
  refine awp_block ?_
  refine awp_loop (ι := List Stm × Nat) (fun p => ⟨17, [(1, .pv [sts l]), (3, .rs 16 0 p.1.length), (4, .I p.2)], [(16, some ⟨13, p.1.map sC, 0⟩)], 48⟩) (fun p => p.2 ≤ 64 ∧ p.1.length ≤ 200 * p.2 ∧ GoodL p.1 ∧ ∀ x ∈ p.1, x.au < p.2) (fun p => 64 - p.2) ([], 0) ⟨Nat.zero_le _, Nat.zero_le _, ⟨List.Pairwise.nil, by simp⟩, by simp⟩ (Le.lst [] [] [(16, 13)] rfl (by simp) (by simp) (by simp) (by simp) (by simp) (by simp) (by simp) (by simp [Up]) (by simp)) ?_
  rintro ⟨o, k⟩ ⟨hk, ho1, ho2, ho3⟩
  simp only at hk ho1 ho2 ho3
  have hXl : (o.map sC).length = o.length := List.length_map ..
  have hXf := sts_flat o
  obtain ⟨X, hX⟩ : ∃ X, X = o.map sC := ⟨_, rfl⟩
  simp only
  rw [← hX] at hXl hXf ⊢
  refine awp_seq ?_
  refine rk (s := ?s4) [1, 3, 4, 6] [16] rfl ?o4 ?q4
  case o4 => simp; rfl
  refine awp_cond _ rfl (fun h => awp_skip ?_) fun h => awp_exit (hit ?_)
  · simp only [decide_eq_true_eq] at h
    have hk64 : k < 64 := by omega
    obtain ⟨a, ⟨ha1, ha2⟩, hof⟩ := StoreOf_any l k hl hb
    obtain ⟨c, ⟨hc1, hc2⟩, hct⟩ := Counted_any k a (by omega) fun s hs => hb s (ha2 s hs)
    have hcl := hc1.few
    have htk : List.take o.length X = X := List.take_of_length_le (by omega)
    have htc : List.take c.length (c.map sC) = c.map sC := List.take_of_length_le (by simp)
    have hom : (o ++ c).map sC = X ++ c.map sC := by rw [List.map_append, ← hX]
    have hol : (o ++ c).length = o.length + c.length := List.length_append ..
    have hXf2 := sts_flat (o ++ c)
    rw [hom] at hXf2
    have hta : List.take a.length (a.map sC) = a.map sC := List.take_of_length_le (by simp)
    have hgood : GoodL (o ++ c) ∧ ∀ x ∈ o ++ c, x.au < (k + 1 : Nat) := by
      refine ⟨ho2.append hc1.good fun x hx y hy => ?_, fun x hx => ?_⟩
      · rw [hc1.au hy]; exact ho3 x hx
      · rcases List.mem_append.1 hx with hx | hx
        · have := ho3 x hx; omega
        · rw [hc1.au hx]; omega
    have hXc := sts_flat c
    refine awp_cut (ι := Unit) (fun _ => ⟨17, [(1, .pv [sts l]), (3, .rs 16 0 (o ++ c).length), (4, .I k)], [(16, some ⟨13, X ++ c.map sC, 0⟩)], 300⟩) (fun _ => True) ?_ fun _ _ => ?_
    · refine awp_block ?_
      refine awp_reg rfl ?_
      simp
      refine callN1 hof (by simp) ?_
      simp [Function.comp_def]
      refine callN1s [96] (by simp) hct (by simp [hta, Function.comp_def]) ?_
      simp [hXl, htk, htc, Function.comp_def]
      exact ⟨by omega, by omega, Le.Z1 (z := 13) hXf2 112 16 [] rfl rfl (by simp) (by simp) (by simp) (by simp)⟩
    have hwi := wr1 hk64 (by omega)
    refine awp_reg rfl ?_
    simp [hwi]
    exact ⟨o ++ c, k + 1, ⟨by omega, by rw [hol]; omega, hgood.1, hgood.2⟩, by omega, Le.Z1 (z := 13) hXf2 16 16 [] rfl (by simp only [hom]) (by simp) (by simp) rfl (by simp)⟩
  rw [hX]
  refine rx (s := ?s9) [2] [16] [] rfl ?o9 ?q9
  case o9 => simp [Function.comp_def]; rfl
  exact awp_ret (PostX.mk (.inr rfl) o ⟨ho2, by omega⟩ (RetOk.out [16] [] rfl (by simp) (by simp) (by simp) (by simp [Function.comp_def])))
end Go.Proofs.Ytnphfkceoklkkaa
namespace Go.Proofs.Ytnphfkceoklkkaa
open Go
set_option maxHeartbeats 1000000 in
set_option maxRecDepth 100000 in
theorem put_any (l : List Stm) (x : Stm) (hl : l.length ≤ 100000) (hb : ∀ s ∈ l, StB s) (hx : StB x) : ∃ p : List Stm × Bool, (p.1.length ≤ l.length + 1 ∧ ∀ s ∈ p.1, s ∈ l ∨ s = x) ∧ ACalls Try.prog nref05_put [sts l, eS x] [] (.tup [sts p.1, .B p.2]) [] := by
  refine sref05_put.acallsX (args := [sts l, eS x]) (hs := []) (fun p => .tup [sts p.1, .B p.2]) (fun _ => []) (fun p : List Stm × Bool => p.1.length ≤ l.length + 1 ∧ ∀ s ∈ p.1, s ∈ l ∨ s = x) (Nat.le_of_ble_eq_true rfl) (Nat.le_of_ble_eq_true rfl) (fun _ => Nat.zero_le _) ?_
  show awp _ 0 _ _ ⟨46, [(0, sts l), (1, eS x)], [], 16⟩
  refine rx (s := ?s1) [0, 3] [] [16] rfl ?o1 ?q1
  case o1 => simp; rfl
  refine rx (s := ?s2) [0, 3, 6] [] [] rfl ?o2 ?q2
  case o2 => simp; rfl
  refine awp_seq ?_
  refine awp_block ?_
  refine awp_loop (ι := Nat) (fun k => ⟨46, [(0, sts l), (3, .pv (sC x)), (6, .I k)], [], 48⟩) (fun k => k ≤ l.length) (fun k => l.length - k) 0 (Nat.zero_le _) (Le.snap [] rfl rfl (by simp)) ?_
  intro k hk
  refine awp_seq ?_
  obtain ⟨r2, hr2, hr2'⟩ : ∃ r2 : Bool, (∀ h : k < l.length, ACalls Try.prog nref05_before [eS l[k], eS x] [] (.B r2) []) ∧ (r2 = true → k < l.length) := by
    by_cases h : k < l.length
    · obtain ⟨r, hr⟩ := before_any l[k] x
      exact ⟨r, fun _ => hr, fun _ => h⟩
    · exact ⟨false, fun h' => absurd h' h, fun h' => by cases h'⟩
  refine awp_dregc ⟨46, [(0, sts l), (3, .pv (sC x)), (6, .I k), (18, .B r2)], [], 200⟩ rfl ?_ ?_
  · by_cases hko : k < l.length
    · have hp : l[k]? = some l[k] := List.getElem?_eq_getElem hko
      have hr3 := hr2 hko
      obtain ⟨s, hs⟩ : ∃ s, s = l[k] := ⟨_, rfl⟩
      rw [← hs] at hr3 hp
      simp [hko, ← hs]
      refine call0e hr3 (by simp) ?_
      simp
      exact ⟨rfl, Le.snap [] rfl rfl (by simp)⟩
    · have e2 : r2 = false := by
        cases hh : r2
        · rfl
        · exact absurd (hr2' hh) hko
      simp [hko]
      exact ⟨rfl, Le.snap [] rfl rfl (by simp [e2])⟩
  refine awp_cond _ rfl (fun h4 => awp_skip ?_) fun h4 => awp_exit (hit ?_)
  · have hwk := wr1 (hr2' h4) (by omega)
    have hkl := hr2' h4
    refine awp_block ?_
    refine awp_reg rfl ?_
    simp [hwk]
    exact ⟨k + 1, by omega, by omega, Le.snap [] rfl rfl (by simp)⟩
  refine awp_seq ?_
  obtain ⟨r3, hr3⟩ : ∃ r3 : Bool, ∀ h : k < l.length, ACalls Try.prog nref03_Same [eS l[k], eS x] [] (.B r3) [] := by
    by_cases h : k < l.length
    · have hkb := hb l[k] (List.getElem_mem h)
      obtain ⟨r3, h3⟩ := Same_any l[k] x (by have := hkb.2.2.1; omega) (by have := hkb.2.2.2.1; omega)
      exact ⟨r3, fun _ => h3⟩
    · exact ⟨false, fun h' => absurd h' h⟩
  refine awp_dregc ⟨46, [(0, sts l), (3, .pv (sC x)), (6, .I k), (32, .B (decide (k < l.length) && r3))], [], 300⟩ rfl ?_ ?_
  · by_cases hko : k < l.length
    · have hp : l[k]? = some l[k] := List.getElem?_eq_getElem hko
      have hr4 := hr3 hko
      obtain ⟨s, hs⟩ : ∃ s, s = l[k] := ⟨_, rfl⟩
      rw [← hs] at hr4 hp
      simp [hko, ← hs]
      refine call0e hr4 (by simp) ?_
      simp
      exact ⟨rfl, Le.snap [] rfl rfl (by simp)⟩
    · simp [hko]
      exact ⟨rfl, Le.snap [] rfl rfl (by simp)⟩
  refine awp_cond _ rfl (fun h6 => ?_) fun h6 => awp_skip ?_
  · refine rx (s := ?s7) [4, 5] [] [] rfl ?o7 ?q7
    case o7 => simp; rfl
    exact awp_ret (PostX.mk (.inr rfl) (l, false) ⟨Nat.le_succ _, fun s hs => .inl hs⟩ (RetOk.out [] [] rfl (by simp) (by simp) (by simp) (by simp)))
  have hcp := ref03_Copy_ok x (by have := hx.2.2.1; omega) (by have := hx.2.2.2.1; omega)
  have hX : ∃ X, X = l.map sC := ⟨_, rfl⟩
  obtain ⟨X, hX⟩ := hX
  have hXl : X.length = l.length := by rw [hX, List.length_map]
  have hXf := sts_flat l
  rw [← hX] at hXf
  obtain ⟨n, hn⟩ : ∃ n, n = l.length := ⟨_, rfl⟩
  have hmin : min k n = k := by omega
  have htk2 : List.take (k + 1) (List.take k X ++ [sC x]) = List.take k X ++ [sC x] := List.take_of_length_le (by rw [List.length_append, List.length_take, hXl, ← hn, hmin]; exact Nat.le_refl _)
  have e1 : List.take (k + 1) (List.take k (List.take k X) ++ [sC x]) = List.take k X ++ [sC x] := by rw [List.take_take, Nat.min_self]; exact htk2
  have hom : (l.take k ++ x :: l.drop k).map sC = List.take k X ++ [sC x] ++ List.drop k X := by rw [hX, List.map_append, List.map_cons, List.map_take, List.map_drop, List.append_assoc]; rfl
  have hol : (l.take k ++ x :: l.drop k).length = n + 1 := by rw [List.length_append, List.length_cons, List.length_take, List.length_drop]; omega
  have hsts : sts l = .vs 13 false X := by rw [hX]
  have hXf2 := sts_flat (l.take k ++ x :: l.drop k)
  rw [hom] at hXf2
  have hall : List.take (k + 1 + (n - k)) (List.take k X ++ [sC x] ++ List.drop k X) = List.take k X ++ [sC x] ++ List.drop k X := List.take_of_length_le (by rw [← hom, List.length_map, hol]; omega)
  refine awp_dregc ⟨46, [(4, sts (l.take k ++ x :: l.drop k)), (5, .B true)], [], 600⟩ rfl ?_ (awp_ret (PostX.mk (.inr rfl) (l.take k ++ x :: l.drop k, true) ⟨by rw [hol]; omega, fun s hs => ?_⟩ (RetOk.out [] [] rfl (by simp) (by simp) (by simp [-List.map_append, -List.map_cons]; exact .refl _) (by simp))))
  · rw [hsts, show sts (l.take k ++ x :: l.drop k) = .vs 13 false (List.take k X ++ [sC x] ++ List.drop k X) from by rw [← hom]]
    rw [← hn] at hXl hk
    simp [hXl, hmin, hk]
    refine ⟨by omega, by omega, ?_⟩
    refine call0e hcp (by simp) ?_
    simp [hXl, hmin, hk]
    have hln : min k n + (1 + (n - k)) = n + 1 := by omega
    refine ⟨by omega, by omega, by omega, by omega, rfl, Le.snap [388] rfl rfl ?_⟩
    simp [hXl, hmin, hk, hXf]
    exact wkE (congrArg _ (((congrArg (fun Z => List.take (k + 1 + (n - k)) (Z ++ List.drop k X)) e1).trans hall).trans (by simp)))
  · rcases List.mem_append.1 hs with h | h
    · exact .inl (List.mem_of_mem_take h)
    · rcases List.mem_cons.1 h with h | h
      · exact .inr h
      · exact .inl (List.mem_of_mem_drop h)
set_option maxHeartbeats 1000000 in
set_option maxRecDepth 100000 in
theorem Adds_any (l : List Stm) (x : Stm) (hl : l.length ≤ 1000) (hb : ∀ s ∈ l, StOk s) (hx : StB x) : ∃ l' : List Stm, (l'.length ≤ 1000 ∧ ∀ s ∈ l', StOk s) ∧ ACalls Try.prog nref05_Adds [.agg [sts l], eS x] [] (.agg [sts l']) [] := by
  obtain ⟨e, he0, hchk⟩ := ref03_Check_ok x (by have := hx.2.2.1; omega) (by have := hx.2.2.2.1; omega)
  have hsl := ref03_Sealed_ok x hx
  obtain ⟨⟨p, r⟩, ⟨hp1, hp2⟩, hput⟩ := put_any l x (by omega) (fun s hs => (hb s hs).b) hx
  simp only at hp1 hp2 hput
  refine sref05_Adds.acallsX (args := [.agg [sts l], eS x]) (hs := []) (fun l => .agg [sts l]) (fun _ => []) (fun l' : List Stm => l'.length ≤ 1000 ∧ ∀ s ∈ l', StOk s) (Nat.le_of_ble_eq_true rfl) (Nat.le_of_ble_eq_true rfl) (fun _ => Nat.zero_le _) ?_
  show awp _ 0 _ _ ⟨29, [(0, .agg [sts l]), (1, eS x)], [], 16⟩
  have hend : ∀ l' : List Stm, l'.length ≤ 1000 → (∀ s ∈ l', StOk s) → PostX cref05_Adds.res 0 (fun l : List Stm => AV.agg [sts l]) (fun _ => []) (fun l' : List Stm => l'.length ≤ 1000 ∧ ∀ s ∈ l', StOk s) .ret ⟨29, [(4, .pv [sts l'])], [], 1000⟩ := fun l' h1 h2 => PostX.mk (.inr rfl) l' ⟨h1, h2⟩ (RetOk.out [] [] rfl (by simp) (by simp) (by simp) (by simp))
  refine rx (s := ?s1) [2, 3, 4] [32] [16, 24] rfl ?o1 ?q1
  case o1 => simp; rfl
  refine awp_seq ?_
  obtain ⟨r1, hr1, hr1'⟩ : ∃ r1 : Bool, r1 = (e != 0 || !decide (x.sk = x.au ∧ x.sd.toList = (digS x).toList)) ∧ (r1 = false → StOk x) := ⟨_, rfl, fun h => he0.1 (by simpa using (Bool.or_eq_false_iff.1 h).1)⟩
  refine awp_regc ⟨29, [(2, .pv [sts l]), (3, .pv (sC x)), (4, .pt 32 0 0), (14, .B r1)], [(32, some ⟨1, [[.nilS]], 0⟩)], 200⟩ rfl ?_ ?_
  · simp
    refine call0e hchk (by simp) ?_
    by_cases c2 : e = 0
    · have c2' : (e != 0) = false := by simp [c2]
      simp [c2']
      refine call0e hsl (by simp) ?_
      simp
      exact Le.keep rfl (by simp) (by simp [hr1, c2]) (by simp)
    · have c2' : (e != 0) = true := by simp [c2]
      simp [c2']
      exact Le.keep rfl (by simp) (by simp [hr1, c2]) (by simp)
  refine awp_cond _ rfl (fun h3 => ?_) fun h3 => awp_skip ?_
  · refine awp_regc ⟨29, [(4, .pv [sts l])], [], 1000⟩ rfl ?_ (awp_ret (hend l hl hb))
    simp
    exact Le.snap [32] rfl rfl (by simp)
  have hok := hr1' h3
  refine awp_seq ?_
  refine awp_regc ⟨29, [(2, .pv [sts l]), (4, .pt 32 0 0), (5, sts p)], [(32, some ⟨1, [[.nilS]], 0⟩)], 300⟩ rfl ?_ ?_
  · simp
    refine call0e hput (by simp) ?_
    simp
    exact Le.keep rfl (by simp) (by simp) (by simp)
  refine rk (s := ?s6) [2, 4, 5, 25] [32] rfl ?o6 ?q6
  case o6 => simp; rfl
  refine awp_cond _ rfl (fun h7 => ?_) fun h7 => awp_skip ?_
  · simp only [decide_eq_true_eq] at h7
    refine awp_regc ⟨29, [(4, .pv [sts p])], [], 1000⟩ rfl ?_ (awp_ret (hend p (by omega) fun s hs => (hp2 s hs).elim (hb s) fun h => by rw [h]; exact hok))
    simp
    exact Le.snap [32] rfl rfl (by simp)
  · refine awp_regc ⟨29, [(4, .pv [sts l])], [], 1000⟩ rfl ?_ (awp_ret (hend l hl hb))
    simp
    exact Le.snap [32] rfl rfl (by simp)
set_option maxHeartbeats 1000000 in
set_option maxRecDepth 100000 in
theorem MadeStoreOf_any (l : List Stm) (hl : l.length ≤ 100000) (hb : ∀ s ∈ l, StB s) : ∃ l' : List Stm, (l'.length ≤ 1000 ∧ ∀ s ∈ l', StOk s) ∧ ACalls Try.prog nmade_StoreOf [sts l] [] (.agg [sts l']) [] := by
  refine smade_StoreOf.acallsX (args := [sts l]) (hs := []) (fun l => .agg [sts l]) (fun _ => []) (fun l' : List Stm => l'.length ≤ 1000 ∧ ∀ s ∈ l', StOk s) (Nat.le_of_ble_eq_true rfl) (Nat.le_of_ble_eq_true rfl) (fun _ => Nat.zero_le _) ?_
  show awp _ 0 _ _ ⟨18, [(0, sts l)], [], 16⟩
  refine rx (s := ?s1) [0, 2] [16] [] rfl ?o1 ?q1
  case o1 => simp; rfl
  refine rx (s := ?s2) [0, 2, 3] [16, 24] [] rfl ?o2 ?q2
  case o2 => simp; rfl
  refine awp_seq ?_
  refine rx (s := ?s3) [0, 2, 3, 4] [16, 24] [] rfl ?o3 ?q3
  case o3 => simp; rfl
  refine awp_block ?_
  refine awp_loop (ι := List Stm × Nat) (fun p => ⟨18, [(0, sts l), (2, .pt 16 0 0), (3, .pt 24 0 0), (4, .I p.2)], [(16, some ⟨1, [[.nilS]], 0⟩), (24, some ⟨1, [[sts p.1]], 0⟩)], 40⟩) (fun p => p.2 ≤ l.length ∧ p.1.length ≤ 1000 ∧ ∀ s ∈ p.1, StOk s) (fun p => l.length - p.2) ([], 0) ⟨Nat.zero_le _, Nat.zero_le _, by simp⟩ ?_ ?_
  · refine Le.ents [(16, 16), (24, 24)] [] rfl (by simp) (by simp) (by simp) (by simp) (by simp) (by simp) fun p hp => ?_
    simp only [List.mem_cons, List.not_mem_nil, or_false] at hp
    rcases hp with rfl | rfl
    · exact ⟨16, _, _, rfl, by simp, rfl, EntUp.eq (by simp) (by simp)⟩
    · exact ⟨24, _, _, rfl, by simp, rfl, EntUp.row (r := [.nilS]) (by simp) (Nat.zero_le _) ⟨.inl (Wk.nil 13 false), trivial⟩⟩
  rintro ⟨o, i⟩ ⟨hi, ho1, ho2⟩
  simp only at hi ho1 ho2
  simp only
  refine awp_seq ?_
  refine rk (s := ?s4) [0, 2, 3, 4, 8] [16, 24] rfl ?o4 ?q4
  case o4 => simp; rfl
  refine awp_cond _ rfl (fun h => awp_skip ?_) fun h => awp_exit (hit ?_)
  · simp only [decide_eq_true_eq, Int.ofNat_lt] at h
    have hg : l[i]? = some l[i] := List.getElem?_eq_getElem h
    have hsm : l[i] ∈ l := List.getElem_mem h
    obtain ⟨s, hs⟩ : ∃ s, s = l[i] := ⟨_, rfl⟩
    rw [← hs] at hg hsm
    obtain ⟨o2, ⟨ho3, ho4⟩, hadd⟩ := Adds_any o s ho1 ho2 (hb s hsm)
    refine awp_cut (ι := Unit) (fun _ => ⟨18, [(0, sts l), (2, .pt 16 0 0), (3, .pt 24 0 0), (4, .I i)], [(16, some ⟨1, [[.nilS]], 0⟩), (24, some ⟨1, [[sts o2]], 0⟩)], 400⟩) (fun _ => True) ?_ fun _ _ => ?_
    · refine awp_block ?_
      refine awp_drw rfl ?_
      simp [hg]
      refine call0e hadd (by simp) ?_
      simp [splice]
      exact ⟨rfl, Le.keep rfl (by simp) (by simp) (by simp)⟩
    have hwi := wr1 h (by omega)
    refine awp_reg rfl ?_
    simp [hwi]
    exact ⟨o2, i + 1, ⟨by omega, ho3, ho4⟩, by omega, Le.go [(16, 16), (24, 24)] [] rfl rfl (by simp) (by simp)⟩
  refine awp_regc ⟨18, [(2, .pv [sts o])], [], 1000⟩ rfl ?_ (awp_ret (PostX.mk (.inr rfl) o ⟨ho1, ho2⟩ (RetOk.out [] [] rfl (by simp) (by simp) (by simp) (by simp))))
  simp [splice]
  exact Le.snap [16] rfl rfl (by simp)
end Go.Proofs.Ytnphfkceoklkkaa
namespace Go.Proofs.Ytnphfkceoklkkaa
open Go
theorem ofD_in2 (L : List Int) (a : Nat) {l : List Int} (h : 0 < l.length) : ofD L a l ∈ l := by
  have := nextD_lt (L := L) (a := a) (n := l.length) (by omega)
  obtain ⟨q, hq⟩ : ∃ q : Nat, (nextD L a l.length).1 = q := ⟨(nextD L a l.length).1.toNat, by omega⟩
  have hql : q < l.length := by omega
  unfold ofD
  rw [hq]
  simp [hql]
theorem next_any2 (au : Int) (l : List Stm) (s : Stm) (hc : Chain au l) (hl : l.length ≤ 1000) (hs : StB s) :
    ∃ (e : Int) (x : Stm), ACalls Try.prog nref04_Next [.I au, sts l, eS s] [] (.tup [eS x, .I e]) [] ∧ (e = 0 → Chain au (l ++ [x])) := by
  have hb3 := hs.2.2.1
  have hb4 := hs.2.2.2.1
  obtain ⟨eC, he, hchk⟩ := ref03_Check_ok (nx au l s) (by show s.li.length ≤ _; omega) (by show s.pi.length ≤ _; omega)
  by_cases hT : BadT l s
  · exact ⟨9, zS, next_ok au l s hc hl hs eC 9 zS hchk (fun _ => ⟨rfl, rfl⟩) (fun h => absurd hT h) (fun h => absurd hT h), fun h => by omega⟩
  · by_cases hK : BadK l
    · exact ⟨5, zS, next_ok au l s hc hl hs eC 5 zS hchk (fun h => absurd h hT) (fun _ _ => ⟨rfl, rfl⟩) (fun _ h => absurd hK h), fun h => by omega⟩
    · by_cases h0 : eC = 0
      · exact ⟨eC, nx au l s, next_ok au l s hc hl hs eC eC _ hchk (fun h => absurd h hT) (fun _ h => absurd h hK) (fun _ _ => ⟨rfl, fun _ => rfl, fun h => absurd h0 h⟩), fun _ => chain_nx hc hs hT hK (he.1 h0)⟩
      · exact ⟨eC, zS, next_ok au l s hc hl hs eC eC _ hchk (fun h => absurd h hT) (fun _ h => absurd h hK) (fun _ _ => ⟨rfl, fun h => absurd h h0, fun _ => rfl⟩), fun h => absurd h h0⟩
theorem RetOk.k1m {rs : List (Nat × Option (Bool × Nat))} {st : St} {vs : List AV} {res : AV} {e0 e : Ent} (i : Nat) (hi : 1 ≤ i) (h1 : resAll st rs = some vs) (hw : Wk (conv [(0, 0), (i, 1)] [] st.hp 4 (resV vs)) res) (h0 : (st.hp 0).map (convE [(0, 0), (i, 1)] [] st.hp 4) = some e0) (he : (st.hp i).map (convE [(0, 0), (i, 1)] [] st.hp 4) = some e) : RetOk rs 1 st res [some e0, some e] :=
  ⟨vs, h1, [i], [], by simp [List.range, List.range.loop]; omega, by simpa using hi, by simp, by simpa [List.range, List.range.loop] using hw, by simpa [List.range, List.range.loop] using ⟨by simpa using h0, by simpa using he⟩⟩
theorem Next_any (L : List Int) (a : Nat) (n : Int) (hl : L.length ≤ 400) (ha : a ≤ L.length) (hn : n ≤ 1000000) : ∃ (x : Int) (b : Nat), (b ≤ L.length ∧ 0 ≤ x ∧ x ≤ 1000000 ∧ (0 < n → x < n)) ∧ ACalls Try.prog nmade_Dice_Next [.pt 0 0 0, .I n] [dice L a] (.I x) [some (dice L b)] := by
  refine ⟨_, _, ⟨nextD_le ha, ?_⟩, Next_ok L a n (by omega) ha (by omega)⟩
  by_cases h : 0 < n
  · have := nextD_lt (L := L) (a := a) h
    omega
  · unfold nextD
    split
    · simp only [modI]
      rw [if_pos (by omega)]
      omega
    · simp
theorem Of_any (L : List Int) (a : Nat) (l : List Int) (hl : L.length ≤ 400) (ha : a ≤ L.length) (h0 : 0 < l.length) (hl2 : l.length ≤ 100) : ∃ (x : Int) (b : Nat), (b ≤ L.length ∧ x ∈ l) ∧ ACalls Try.prog nmade_Dice_Of [.pt 0 0 0, ints l] [dice L a] (.I x) [some (dice L b)] :=
  ⟨_, _, ⟨nextD_le ha, ofD_in2 L a h0⟩, Of_ok L a l (by omega) ha h0 (by omega)⟩
theorem One_any (L : List Int) (a : Nat) (n : Int) (hl : L.length ≤ 400) (ha : a ≤ L.length) (hn0 : 0 ≤ n) (hn : n ≤ 1000000) : ∃ (x : Bool) (b : Nat), b ≤ L.length ∧ ACalls Try.prog nmade_Dice_One [.pt 0 0 0, .I n] [dice L a] (.B x) [some (dice L b)] :=
  ⟨_, _, nextD_le ha, One_ok L a n (by omega) ha hn0 (by omega)⟩
set_option maxHeartbeats 1000000 in
set_option maxRecDepth 100000 in
theorem Bytes_any (L : List Int) (a : Nat) (m : Nat) (hl : L.length ≤ 400) (ha : a ≤ L.length) (hm : m ≤ 100) : ∃ p : List Int × Nat, (p.1.length ≤ 200 ∧ p.2 ≤ L.length) ∧ ACalls Try.prog nmade_Dice_Bytes [.pt 0 0 0, .I m] [dice L a] (.rs 1 0 p.1.length) [some (dice L p.2), some ⟨1, rowsK .u8 p.1, 0⟩] := by
  refine smade_Dice_Bytes.acallsX (args := [.pt 0 0 0, .I m]) (hs := [dice L a]) (fun p => .rs 1 0 p.1.length) (fun p => [some (dice L p.2), some ⟨1, rowsK .u8 p.1, 0⟩]) (fun p : List Int × Nat => p.1.length ≤ 200 ∧ p.2 ≤ L.length) (Nat.le_of_ble_eq_true rfl) (Nat.le_of_ble_eq_true rfl) (fun _ => by simp) ?_
  show awp _ 1 _ _ ⟨23, [(0, .pt 0 0 0), (1, .I m)], [(0, some (dice L a))], 16⟩
  obtain ⟨x, b, ⟨hb1, hb2, hb3, hb4⟩, hnx⟩ := Next_any L a ((m + 1 : Nat) : Int) hl ha (by omega)
  have hxm := hb4 (by omega)
  obtain ⟨y, rfl⟩ : ∃ y : Nat, x = y := ⟨x.toNat, by omega⟩
  have hwm := wr1 (k := m) (N := 101) (by omega) (by omega)
  refine rx (s := ?s1) [0, 1] [0] [] rfl ?o1 ?q1
  case o1 => simp; rfl
  refine rx (s := ?s2) [0, 1, 5] [0] [] rfl ?o2 ?q2
  case o2 => simp; rfl
  refine awp_seq ?_
  refine awp_regc ⟨23, [(0, .pt 0 0 0), (5, .nilS), (6, .I y)], [(0, some (dice L b))], 100⟩ rfl ?_ ?_
  · simp [hwm]
    refine callM1 (i := 0) rfl (e' := dice L a) (by simp) hnx (by simp) (by simp) ?_
    simp
    exact Le.keep rfl (by simp) (by simp) (by simp)
  refine awp_block ?_
  refine awp_loop (ι := (List Int × Nat) × Nat) (fun p => ⟨23, [(0, .pt 0 0 0), (5, .rs 16 0 p.1.1.length), (6, .I p.2)], [(0, some (dice L p.1.2)), (16, some ⟨1, rowsK .u8 p.1.1, 0⟩)], 100⟩) (fun p => p.1.1.length + p.2 = y ∧ p.1.2 ≤ L.length) (fun p => p.2) (([], b), y) ⟨by simp, hb1⟩ ?_ ?_
  · refine Le.lst [(0, 0)] [] [(16, 1)] rfl (by simp) (by simp) (by simp) (by simp) (by simp) (by simp) (by simp) (by simp [Up]) fun p hp e' he' => ?_
    simp at hp
    rcases hp with rfl | rfl
    · cases he'
      exact .inl ⟨(0, 0), by simp, rfl, _, rfl, EntUp.eq (by simp) (by simp)⟩
    · cases he'
      exact .inr ⟨by simp, by simp, rfl⟩
  rintro ⟨⟨c, b⟩, n⟩ ⟨hc, hbl⟩
  simp only at hc hbl
  simp only
  have hXl : (rowsK .u8 c).length = c.length := List.length_map ..
  have hXf := rowsK_flat .u8 c
  obtain ⟨X, hX⟩ : ∃ X, X = rowsK .u8 c := ⟨_, rfl⟩
  rw [← hX] at hXl hXf ⊢
  refine awp_seq ?_
  refine rk (s := ?s3) [0, 5, 6, 12] [0, 16] rfl ?o3 ?q3
  case o3 => simp; rfl
  refine awp_cond _ rfl (fun h => awp_skip ?_) fun h => awp_exit (hit ?_)
  · simp only [decide_eq_true_eq] at h
    obtain ⟨z, b2, ⟨hb5, _⟩, hof⟩ := Of_any L b [0, 1, 255, 7, 128, 126, 32] hl hbl (by decide) (by decide)
    have htk : List.take c.length X = X := List.take_of_length_le (by omega)
    have hXf2 := rowsK_flat .u8 (c ++ [IntKind.u8.wrap z])
    have hom : rowsK .u8 (c ++ [IntKind.u8.wrap z]) = X ++ [[.sc (.int .u8 (IntKind.u8.wrap z))]] := by rw [hX, rowsK, List.map_append]; rfl
    have hol : (c ++ [IntKind.u8.wrap z]).length = c.length + 1 := by simp
    rw [hom] at hXf2
    refine awp_cut (ι := Unit) (fun _ => ⟨23, [(0, .pt 0 0 0), (5, .rs 16 0 (c.length + 1)), (6, .I n)], [(0, some (dice L b2)), (16, some ⟨1, X ++ [[.sc (.int .u8 (IntKind.u8.wrap z))]], 0⟩)], 400⟩) (fun _ => True) ?_ fun _ _ => ?_
    · refine awp_block ?_
      refine awp_reg rfl ?_
      simp
      refine callM1s (i := 0) (j := 132) (by decide) (by decide) rfl rfl (e' := dice L b) (by simp) hof (by simp) (by simp) ?_
      simp [hXl, htk]
      exact ⟨by omega, Le.go [(0, 0), (164, 16)] [] rfl rfl (by simp) (by simp [hXf])⟩
    have hwn : IntKind.i64.wrap ((n : Int) - 1) = ((n - 1 : Nat) : Int) := by rw [w64 (by omega) (by omega)]; omega
    refine awp_reg rfl ?_
    simp [hwn]
    refine ⟨c ++ [IntKind.u8.wrap z], b2, n - 1, ⟨by rw [hol]; omega, hb5⟩, by omega, ?_⟩
    show Le 1 _ ⟨23, [(0, .pt 0 0 0), (5, .rs 16 0 (c ++ [IntKind.u8.wrap z]).length), (6, .I (n - 1 : Nat))], [(0, some (dice L b2)), (16, some ⟨1, rowsK .u8 (c ++ [IntKind.u8.wrap z]), 0⟩)], 100⟩
    rw [hom, hol]
    exact Le.go [(0, 0), (16, 16)] [] rfl rfl (by simp) (by simp [hXf])
  rw [hX]
  refine rx (s := ?s9) [0, 4] [0, 16] [] rfl ?o9 ?q9
  case o9 => simp [Function.comp_def]; rfl
  exact awp_ret (PostX.mk (.inr rfl) (c, b) ⟨by simp only; omega, hbl⟩ (RetOk.k1m 16 (by simp) rfl (by simp) (by simp [Function.comp_def]) (by simp [Function.comp_def])))
end Go.Proofs.Ytnphfkceoklkkaa
namespace Go.Proofs.Ytnphfkceoklkkaa
open Go
set_option maxHeartbeats 1000000 in
set_option maxRecDepth 100000 in
theorem Digest_any (L : List Int) (a : Nat) (hl : L.length ≤ 400) (ha : a ≤ L.length) : ∃ p : ByteArray × Nat, (p.1.size = 32 ∧ p.2 ≤ L.length) ∧ ACalls Try.prog nmade_Dice_Digest [.pt 0 0 0] [dice L a] (.sc (.string p.1)) [some (dice L p.2)] := by
  obtain ⟨x, b, ⟨hb1, _⟩, hn1⟩ := Next_any L a 4 hl ha (by decide)
  obtain ⟨y, c, ⟨hc1, _⟩, hn2⟩ := Next_any L b 256 hl hb1 (by decide)
  obtain ⟨D, hD⟩ : ∃ D : List Int, D = ((List.replicate 32 0).set 0 (IntKind.u8.wrap x)).set 31 (IntKind.u8.wrap y) := ⟨_, rfl⟩
  have hDl : D.length = 32 := by rw [hD]; simp
  refine ⟨(⟨(D.map fun n => UInt8.ofNat n.toNat).toArray⟩, c), ⟨by show (D.map _).toArray.size = 32; simpa using hDl, hc1⟩, ?_⟩
  refine smade_Dice_Digest.acalls (Nat.le_of_ble_eq_true rfl) (Nat.le_of_ble_eq_true rfl) (Nat.le_refl _) ?_
  show awp _ 1 _ _ ⟨17, [(0, .pt 0 0 0)], [(0, some (dice L a))], 16⟩
  have hZ0 : List.replicate 32 [AV.sc (.int .u8 0)] = rowsK .u8 (List.replicate 32 0) := by simp [rowsK]
  have hZ2 : rowsK .u8 D = ((rowsK .u8 (List.replicate 32 0)).set 0 [.sc (.int .u8 (IntKind.u8.wrap x))]).set 31 [.sc (.int .u8 (IntKind.u8.wrap y))] := by rw [hD, rowsK, List.map_set, List.map_set]
  have hbs := bytesOf_rows D
  have hXf := rowsK_flat .u8 D
  have hZf := rowsK_flat .u8 (List.replicate 32 0)
  have hZl : (rowsK .u8 (List.replicate 32 0)).length = 32 := by simp [rowsK]
  have hg0 : (rowsK .u8 (List.replicate 32 0))[0]? = some [.sc (.int .u8 0)] := by simp [rowsK]
  have hg1 : ((rowsK .u8 (List.replicate 32 0)).set 0 [.sc (.int .u8 (IntKind.u8.wrap x))])[31]? = some [.sc (.int .u8 0)] := by simp [rowsK]
  have hXl : (rowsK .u8 D).length = 32 := by rw [rowsK, List.length_map]; exact hDl
  have hg0' : (rowsK .u8 (List.replicate 32 0))[0]'(by rw [hZl]; decide) = [.sc (.int .u8 0)] := by simp [rowsK]
  have hg1' : (rowsK .u8 (List.replicate 32 0))[31]'(by rw [hZl]; decide) = [.sc (.int .u8 0)] := by simp [rowsK]
  clear hg0 hg1
  generalize rowsK .u8 D = X at *
  generalize rowsK .u8 (List.replicate 32 0) = Z at *
  refine rx (s := ?s1) [0] [0] [] rfl ?o1 ?q1
  case o1 => simp; rfl
  refine awp_regc ⟨17, [(0, .pt 0 0 0), (3, .rs 24 0 32)], [(0, some (dice L a)), (24, some ⟨1, Z, 0⟩)], 100⟩ rfl ?_ ?_
  · simp [-List.reduceReplicate]
    exact Le.keep rfl (by simp) (by simp) (by simp [-List.reduceReplicate, hZ0])
  refine awp_regc ⟨17, [(0, .pt 0 0 0), (3, .rs 24 0 32)], [(0, some (dice L c)), (24, some ⟨1, X, 0⟩)], 300⟩ rfl ?_ ?_
  · simp
    refine callM1 (i := 0) rfl (e' := dice L a) (by simp) hn1 (by simp) (by simp) ?_
    simp
    refine callM1 (i := 0) rfl (e' := dice L b) (by simp) hn2 (by simp) (by simp) ?_
    simp [hZl, hg0', hg1', splice]
    exact Le.keep rfl (by simp) (by simp) (by simp [hZ2])
  have htk : List.take 32 X = X := List.take_of_length_le (by omega)
  refine rx (s := ?s3) [0, 2] [0] [] rfl ?o3 ?q3
  case o3 => simp [hXl, htk, hbs]; rfl
  exact awp_ret ⟨.inr rfl, RetOk.k1 rfl (by simp) (by simp)⟩
abbrev dR (au ti ki a b c : Int) (li pi bo : AV) : List AV := [.I au, .I 0, .sc (.string noB), .I ti, .I ki, .I a, .I b, .I c, li, pi, bo, .I 0, .sc (.string noB)]
abbrev dS (au ti ki a b c : Int) (li : List Int) (pi : List Pn) (bo : ByteArray) : Stm := ⟨au, 0, noB, ti, ki, a, b, c, li, pi, bo, 0, noB⟩
theorem dS_b {au ti ki a b c : Int} {li : List Int} {pi : List Pn} {bo : ByteArray} (h1 : li.length ≤ 10) (h2 : pi.length ≤ 10) (h3 : bo.size ≤ 1000) (h4 : ∀ p ∈ pi, p.d.size = 32) : StB (dS au ti ki a b c li pi bo) :=
  ⟨by show noB.size ≤ 5000; decide, by show bo.size ≤ 5000; omega, by show li.length ≤ 100; omega, by show pi.length ≤ 100; omega, fun p hp => by have := h4 p hp; omega⟩
theorem Le.d3 {st st' : St} {L : List Int} {a : Nat} {Z r r' : List AV} (nl : List (Nat × Nat)) (sn : List Nat) (hsz : st'.sz = st.sz) (hh : st'.h = [(0, some (dice L a)), (16, some ⟨13, [Z], 0⟩), (72, some ⟨13, [r'], 0⟩)]) (hn : 72 < st'.n) (hs : ∀ k ∈ sn, 1 ≤ k ∧ k ∉ [0, 16, 72]) (hnl : nl = [])
    (hZ : ∀ ρ sn h m, Z.map (conv ρ sn h (m + 1)) = Z) (h1 : st.hp 0 = some (dice L a)) (h2 : st.hp 16 = some ⟨13, [Z], 0⟩) (h3 : st.hp 72 = some ⟨13, [r], 0⟩) (hu : UpL [] (r.map (conv [(0, 0), (16, 16), (72, 72)] sn st.hp 4)) r')
    (ht : ∀ p ∈ st'.t, Wk (conv [(0, 0), (16, 16), (72, 72)] sn st.hp 4 (st.get p.1)) p.2) : Le 1 st st' := by
  refine Le.ents [(0, 0), (16, 16), (72, 72)] sn hsz (by simp) (by simp) (by simp; omega) (fun k hk => ⟨(hs k hk).1, by simpa using (hs k hk).2⟩) (by omega) ht fun p hp => ?_
  rw [hh] at hp
  simp only [List.mem_cons, List.not_mem_nil, or_false] at hp
  rcases hp with rfl | rfl | rfl
  · exact ⟨0, _, _, rfl, by simp, h1, EntUp.eq (by simp) (by simp)⟩
  · exact ⟨16, _, _, rfl, by simp, h2, EntUp.eq (by simp [hZ]) (by simp)⟩
  · exact ⟨72, _, _, rfl, by simp, h3, EntUp.row (r := r.map (conv [(0, 0), (16, 16), (72, 72)] sn st.hp 4)) (by simp) (Nat.zero_le _) hu⟩
set_option maxHeartbeats 4000000 in
set_option maxRecDepth 100000 in
theorem Statement_any (L : List Int) (a : Nat) (au ti : Int) (hl : L.length ≤ 400) (ha : a ≤ L.length) : ∃ p : Stm × Nat, (StB p.1 ∧ p.2 ≤ L.length) ∧ ACalls Try.prog nmade_Dice_Statement [.pt 0 0 0, .I au, .I ti] [dice L a] (eS p.1) [some (dice L p.2)] := by
  refine smade_Dice_Statement.acallsX (args := [.pt 0 0 0, .I au, .I ti]) (hs := [dice L a]) (fun p => eS p.1) (fun p => [some (dice L p.2)]) (fun p : Stm × Nat => StB p.1 ∧ p.2 ≤ L.length) (Nat.le_of_ble_eq_true rfl) (Nat.le_of_ble_eq_true rfl) (fun _ => by simp) ?_
  show awp _ 1 _ _ ⟨89, [(0, .pt 0 0 0), (1, .I au), (2, .I ti)], [(0, some (dice L a))], 16⟩
  obtain ⟨ki, b1, ⟨hb1, _⟩, hof1⟩ := Of_any L a [1, 1, 1, 2, 10, 31, 1, 12] hl ha (by decide) (by decide)
  refine awp_regc ⟨89, [(0, .pt 0 0 0), (1, .I au), (2, .I ti), (6, .pt 16 0 0)], [(0, some (dice L a)), (16, some ⟨13, [zC], 0⟩)], 24⟩ rfl ?_ ?_
  · simp
    exact Le.keep rfl (by simp) (by simp) (by simp)
  refine awp_regc ⟨89, [(0, .pt 0 0 0), (1, .I au), (2, .I ti), (6, .pt 16 0 0), (7, .pt 72 0 0)], [(0, some (dice L b1)), (16, some ⟨13, [zC], 0⟩), (72, some ⟨13, [dR au ti ki 0 0 0 .nilS .nilS (.sc (.string noB))], 0⟩)], 100⟩ rfl ?_ ?_
  · simp
    refine callM1s (i := 0) (j := 48) (by decide) (by decide) rfl rfl (e' := dice L a) (by simp) hof1 (by simp) (by simp) ?_
    simp [splice]
    exact Le.keep rfl (by simp) (by simp) (by simp)
  refine awp_cut (ι := Stm × Nat) (fun p => ⟨89, [(6, .pt 16 0 0), (7, .pt 72 0 0)], [(0, some (dice L p.2)), (16, some ⟨13, [zC], 0⟩), (72, some ⟨13, [sC p.1], 0⟩)], 2000⟩) (fun p => StB p.1 ∧ p.2 ≤ L.length) ?_ ?_
  · refine rk (s := ?s3) [0, 1, 2, 6, 7, 16] [0, 16, 72] rfl ?o3 ?q3
    case o3 => simp; rfl
    refine awp_block ?_
    refine rk (s := ?s4) [0, 1, 2, 6, 7, 16, 57] [0, 16, 72] rfl ?o4 ?q4
    case o4 => simp; rfl
    refine awp_cond _ rfl (fun h5 => ?_) fun h5 => ?_
    · obtain ⟨x1, b2, ⟨hb2, _⟩, hn1⟩ := Next_any L b1 5 hl hb1 (by decide)
      obtain ⟨x2, b3, ⟨hb3, _⟩, hn2⟩ := Next_any L b2 3 hl hb2 (by decide)
      obtain ⟨x3, b4, ⟨hb4, _⟩, hof2⟩ := Of_any L b3 [50, 5, 0, 200] hl hb3 (by decide) (by decide)
      have hmod := Mod_ok (IntKind.i64.wrap (IntKind.i64.wrap (au + 1) + x1)) 6 (by decide)
      obtain ⟨A, hA⟩ : ∃ A, A = modI (IntKind.i64.wrap (IntKind.i64.wrap (au + 1) + x1)) 6 := ⟨_, rfl⟩
      rw [← hA] at hmod
      refine awp_regc ⟨89, [(1, .I au), (6, .pt 16 0 0), (7, .pt 72 0 0)], [(0, some (dice L b4)), (16, some ⟨13, [zC], 0⟩), (72, some ⟨13, [dR au ti ki A (IntKind.i64.wrap (1 + x2)) (IntKind.i64.wrap (ti + x3)) .nilS .nilS (.sc (.string noB))], 0⟩)], 500⟩ rfl ?_ ?_
      · simp
        refine callM1 (i := 0) rfl (e' := dice L b1) (by simp) hn1 (by simp) (by simp) ?_
        simp
        refine callf nmade_Mod rfl ?_
        refine call0e hmod (by simp) ?_
        simp
        refine callf nmade_Dice_Next rfl ?_
        refine callM1 (i := 0) rfl (e' := dice L b2) (by simp) hn2 (by simp) (by simp) ?_
        simp
        refine callM1s (i := 0) (j := 220) (by decide) (by decide) rfl rfl (e' := dice L b3) (by simp) hof2 (by simp) (by simp) ?_
        simp [splice]
        exact Le.keep rfl (by simp) (by simp) (by simp)
      have hB2 : ∀ A' : Int, StB (dS au ti ki A' (IntKind.i64.wrap (1 + x2)) (IntKind.i64.wrap (ti + x3)) [] [] noB) := fun A' => dS_b (by simp) (by simp) (by decide) (by simp)
      refine rk (s := ?s6) [1, 6, 7, 79] [0, 16, 72] rfl ?o6 ?q6
      case o6 => simp; rfl
      refine awp_cond _ rfl (fun h6 => ?_) fun h6 => awp_skip ?_
      · refine awp_reg rfl ?_
        simp [splice]
        exact ⟨dS au ti ki (IntKind.i64.wrap (au + 1)) (IntKind.i64.wrap (1 + x2)) (IntKind.i64.wrap (ti + x3)) [] [] noB, b4, ⟨hB2 _, hb4⟩, Le.d3 [] [] rfl rfl (by simp) (by simp) rfl (by simp) rfl rfl rfl (by simp [UpL, Up]; exact ⟨.nil 1 false, .nil 3 false⟩) (by simp)⟩
      · exact ⟨(dS au ti ki A (IntKind.i64.wrap (1 + x2)) (IntKind.i64.wrap (ti + x3)) [] [] noB, b4), ⟨hB2 _, hb4⟩, Le.d3 [] [] rfl rfl (by simp) (by simp) rfl (by simp) rfl rfl rfl (by simp [UpL, Up]; exact ⟨.nil 1 false, .nil 3 false⟩) (by simp)⟩
    refine rk (s := ?s7) [0, 6, 7, 83] [0, 16, 72] rfl ?o7 ?q7
    case o7 => simp; rfl
    refine awp_cond _ rfl (fun h7 => ?_) fun h7 => ?_
    · obtain ⟨x1, b2, ⟨hb2, _⟩, hn1⟩ := Next_any L b1 4 hl hb1 (by decide)
      refine awp_reg rfl ?_
      simp
      refine callM1 (i := 0) rfl (e' := dice L b1) (by simp) hn1 (by simp) (by simp) ?_
      simp [splice]
      exact ⟨dS au ti ki x1 0 0 [] [] noB, b2, ⟨dS_b (by simp) (by simp) (by decide) (by simp), hb2⟩, Le.d3 [] [] rfl rfl (by simp) (by simp) rfl (by simp) rfl rfl rfl (by simp [UpL, Up]; exact ⟨.nil 1 false, .nil 3 false⟩) (by simp)⟩
    obtain ⟨x1, b2, ⟨hb2, _⟩, hn1⟩ := Next_any L b1 9 hl hb1 (by decide)
    obtain ⟨x2, b3, ⟨hb3, _⟩, hof2⟩ := Of_any L b2 [0, 1099511627776] hl hb2 (by decide) (by decide)
    obtain ⟨x3, b4, ⟨hb4, _⟩, hn3⟩ := Next_any L b3 3 hl hb3 (by decide)
    obtain ⟨x4, b5, ⟨hb5, hx40, _, hx43⟩, hn4⟩ := Next_any L b4 3 hl hb4 (by decide)
    have hx44 := hx43 (by decide)
    obtain ⟨y, rfl⟩ : ∃ y : Nat, x4 = y := ⟨x4.toNat, by omega⟩
    refine awp_regc ⟨89, [(0, .pt 0 0 0), (6, .pt 16 0 0), (7, .pt 72 0 0)], [(0, some (dice L b4)), (16, some ⟨13, [zC], 0⟩), (72, some ⟨13, [dR au ti ki x1 x2 x3 .nilS .nilS (.sc (.string noB))], 0⟩)], 500⟩ rfl ?_ ?_
    · simp
      refine callM1 (i := 0) rfl (e' := dice L b1) (by simp) hn1 (by simp) (by simp) ?_
      simp
      refine callf nmade_Dice_Of rfl ?_
      refine callM1s (i := 0) (j := 172) (by decide) (by decide) rfl rfl (e' := dice L b2) (by simp) hof2 (by simp) (by simp) ?_
      simp
      refine callf nmade_Dice_Next rfl ?_
      refine callM1 (i := 0) rfl (e' := dice L b3) (by simp) hn3 (by simp) (by simp) ?_
      simp [splice]
      exact Le.keep rfl (by simp) (by simp) (by simp)
    refine awp_cut (ι := List Int × Nat) (fun p => ⟨89, [(0, .pt 0 0 0), (6, .pt 16 0 0), (7, .pt 72 0 0)], [(0, some (dice L p.2)), (16, some ⟨13, [zC], 0⟩), (72, some ⟨13, [dR au ti ki x1 x2 x3 (.rs 200 0 p.1.length) .nilS (.sc (.string noB))], 0⟩), (200, some ⟨1, rwI p.1, 0⟩)], 700⟩) (fun p => p.1.length ≤ 3 ∧ p.2 ≤ L.length) ?_ ?_
    · refine awp_regc ⟨89, [(0, .pt 0 0 0), (6, .pt 16 0 0), (7, .pt 72 0 0), (8, .I y)], [(0, some (dice L b5)), (16, some ⟨13, [zC], 0⟩), (72, some ⟨13, [dR au ti ki x1 x2 x3 .nilS .nilS (.sc (.string noB))], 0⟩)], 600⟩ rfl ?_ ?_
      · simp
        refine callM1 (i := 0) rfl (e' := dice L b4) (by simp) hn4 (by simp) (by simp) ?_
        simp
        exact Le.keep rfl (by simp) (by simp) (by simp)
      refine awp_block ?_
      refine awp_loop (ι := (List Int × Nat) × Nat) (fun p => ⟨89, [(0, .pt 0 0 0), (6, .pt 16 0 0), (7, .pt 72 0 0), (8, .I p.2)], [(0, some (dice L p.1.2)), (16, some ⟨13, [zC], 0⟩), (72, some ⟨13, [dR au ti ki x1 x2 x3 (.rs 200 0 p.1.1.length) .nilS (.sc (.string noB))], 0⟩), (200, some ⟨1, rwI p.1.1, 0⟩)], 650⟩) (fun p => p.1.1.length + p.2 ≤ 3 ∧ p.1.2 ≤ L.length) (fun p => p.2) (([], b5), y) ⟨by simp; omega, hb5⟩ ?_ ?_
      · refine Le.lst [(0, 0), (16, 16), (72, 72)] [] [(200, 1)] rfl (by simp) (by simp) (by simp) (by simp) (by simp) (by simp) (by simp) (by simp [Up]) fun p hp e' he' => ?_
        simp only [List.mem_cons, List.not_mem_nil, or_false] at hp
        rcases hp with rfl | rfl | rfl | rfl
        · cases he'
          exact .inl ⟨(0, 0), by simp, rfl, _, rfl, EntUp.eq (by simp) (by simp)⟩
        · cases he'
          exact .inl ⟨(16, 16), by simp, rfl, _, rfl, EntUp.eq (by simp) (by simp)⟩
        · cases he'
          exact .inl ⟨(72, 72), by simp, rfl, _, rfl, EntUp.row (r := dR au ti ki x1 x2 x3 .nilS .nilS (.sc (.string noB))) (by simp) (Nat.zero_le _) (by simp [UpL, Up])⟩
        · cases he'
          exact .inr ⟨by simp, by simp, rfl⟩
      rintro ⟨⟨li, b⟩, n⟩ ⟨hc, hbl⟩
      simp only at hc hbl
      simp only
      have hXl : (rwI li).length = li.length := List.length_map ..
      have hXf := rwI_flat li
      obtain ⟨X, hX⟩ : ∃ X, X = rwI li := ⟨_, rfl⟩
      rw [← hX] at hXl hXf ⊢
      refine awp_seq ?_
      refine rk (s := ?s8) [0, 6, 7, 8, 30] [0, 16, 72, 200] rfl ?o8 ?q8
      case o8 => simp; rfl
      refine awp_cond _ rfl (fun h => awp_skip ?_) fun h => awp_exit (hit ?_)
      · simp only [decide_eq_true_eq] at h
        obtain ⟨z, b2, ⟨hb5, _⟩, hof⟩ := Of_any L b [0, 5, 1099511627776] hl hbl (by decide) (by decide)
        have htk : List.take li.length X = X := List.take_of_length_le (by omega)
        have hom : rwI (li ++ [z]) = X ++ [[.I z]] := by rw [hX, rwI, List.map_append]; rfl
        have hol : (li ++ [z]).length = li.length + 1 := by simp
        refine awp_cut (ι := Unit) (fun _ => ⟨89, [(0, .pt 0 0 0), (6, .pt 16 0 0), (7, .pt 72 0 0), (8, .I n)], [(0, some (dice L b2)), (16, some ⟨13, [zC], 0⟩), (72, some ⟨13, [dR au ti ki x1 x2 x3 (.rs 200 0 (li.length + 1)) .nilS (.sc (.string noB))], 0⟩), (200, some ⟨1, X ++ [[.I z]], 0⟩)], 900⟩) (fun _ => True) ?_ fun _ _ => ?_
        · refine awp_block ?_
          refine awp_drw rfl ?_
          simp
          refine callM1s (i := 0) (j := 690) (by decide) (by decide) rfl rfl (e' := dice L b) (by simp) hof (by simp) (by simp) ?_
          simp [hXl, htk, splice]
          exact ⟨by omega, by omega, rfl, Le.go [(0, 0), (16, 16), (72, 72), (714, 200)] [] rfl rfl (by simp) (by simp [hXf])⟩
        have hwn : IntKind.i64.wrap ((n : Int) - 1) = ((n - 1 : Nat) : Int) := by rw [w64 (by omega) (by omega)]; omega
        refine awp_reg rfl ?_
        simp [hwn]
        refine ⟨li ++ [z], b2, n - 1, ⟨by rw [hol]; omega, hb5⟩, by omega, ?_⟩
        rw [hom, hol]
        exact Le.go [(0, 0), (16, 16), (72, 72), (200, 200)] [] rfl rfl (by simp) (by simp [hXf])
      · exact ⟨(li, b), ⟨by simp only; omega, hbl⟩, Le.keep rfl (by simp) (by simp) (by simp [hX])⟩
    rintro ⟨li, b⟩ ⟨hli, hbl⟩
    simp only at hli hbl
    simp only
    have hXl : (rwI li).length = li.length := List.length_map ..
    have hXf := rwI_flat li
    have htk : List.take li.length (rwI li) = rwI li := List.take_of_length_le (by omega)
    have hin : ints li = .vs 1 false (rwI li) := rfl
    obtain ⟨X, hX⟩ : ∃ X, X = rwI li := ⟨_, rfl⟩
    rw [← hX] at hXl hXf htk hin ⊢
    obtain ⟨r, b2, hb6, hone⟩ := One_any L b 3 hl hbl (by decide) (by decide)
    refine awp_cut (ι := List Pn × Nat) (fun p => ⟨89, [(0, .pt 0 0 0), (6, .pt 16 0 0), (7, .pt 72 0 0)], [(0, some (dice L p.2)), (16, some ⟨13, [zC], 0⟩), (72, some ⟨13, [dR au ti ki x1 x2 x3 (.vs 1 false X) (pns p.1) (.sc (.string noB))], 0⟩)], 1500⟩) (fun p => p.1.length ≤ 1 ∧ (∀ q ∈ p.1, q.d.size = 32) ∧ p.2 ≤ L.length) ?_ ?_
    · refine awp_regc ⟨89, [(0, .pt 0 0 0), (6, .pt 16 0 0), (7, .pt 72 0 0), (42, .B r)], [(0, some (dice L b2)), (16, some ⟨13, [zC], 0⟩), (72, some ⟨13, [dR au ti ki x1 x2 x3 (.rs 200 0 li.length) .nilS (.sc (.string noB))], 0⟩), (200, some ⟨1, X, 0⟩)], 800⟩ rfl ?_ ?_
      · simp
        refine callM1 (i := 0) rfl (e' := dice L b) (by simp) hone (by simp) (by simp) ?_
        simp
        exact Le.keep rfl (by simp) (by simp) (by simp)
      refine awp_cond _ rfl (fun h8 => ?_) fun h8 => awp_skip ?_
      · obtain ⟨y1, c1, ⟨hc1, _⟩, hm1⟩ := Next_any L b2 5 hl hb6 (by decide)
        obtain ⟨y2, c2, ⟨hc2, _⟩, hm2⟩ := Next_any L c1 4 hl hc1 (by decide)
        obtain ⟨⟨d, c3⟩, ⟨hd, hc3⟩, hm3⟩ := Digest_any L c2 hl hc2
        simp only at hd hc3 hm3
        refine awp_reg rfl ?_
        simp
        refine callM1 (i := 0) rfl (e' := dice L b2) (by simp) hm1 (by simp) (by simp) ?_
        simp
        refine callM1 (i := 0) rfl (e' := dice L c1) (by simp) hm2 (by simp) (by simp) ?_
        simp
        refine callM1 (i := 0) rfl (e' := dice L c2) (by simp) hm3 (by simp) (by simp) ?_
        simp [splice]
        exact ⟨[⟨y1, IntKind.i64.wrap (1 + y2), d⟩], c3, ⟨by simp, by simpa using hd, hc3⟩, Le.d3 [] [200, 864] rfl rfl (by simp) (by simp) rfl (by simp) rfl rfl rfl (by simp [UpL, Up, hXl, htk, hXf]; exact .refl _) (by simp)⟩
      · exact ⟨([], b2), ⟨by simp, by simp, hb6⟩, Le.d3 [] [200] rfl rfl (by simp) (by simp) rfl (by simp) rfl rfl rfl (by simp [UpL, Up, hXl, htk, hXf]; exact .nil 3 false) (by simp)⟩
    rintro ⟨pi, c⟩ ⟨hp1, hp2, hp3⟩
    simp only at hp1 hp2 hp3
    simp only
    obtain ⟨⟨by_, c2⟩, ⟨hy1, hy2⟩, hby⟩ := Bytes_any L c 5 hl hp3 (by decide)
    simp only at hy1 hy2 hby
    have hYl := rowsK_len .u8 by_
    have hYf := rowsK_flat .u8 by_
    have hYb := bytesOf_rows by_
    generalize rowsK .u8 by_ = Y at *
    have htY : List.take by_.length Y = Y := List.take_of_length_le (by omega)
    refine awp_reg rfl ?_
    simp
    refine callM1 (i := 0) rfl (e' := dice L c) (by simp) hby (by simp) (by simp) ?_
    simp [splice, hYl, hYf, htY, hYb]
    refine ⟨dS au ti ki x1 x2 x3 li pi ⟨(by_.map fun n => UInt8.ofNat n.toNat).toArray⟩, c2, ⟨dS_b (by omega) (by omega) ?_ hp2, hy2⟩, Le.d3 [] [] rfl rfl (by simp) (by simp) rfl (by simp) rfl rfl rfl (by simp [UpL, Up, hX]) (by simp)⟩
    show (by_.map _).toArray.size ≤ 1000
    simp
    omega
  · rintro ⟨s, b⟩ ⟨h1, h2⟩
    simp only at h1 h2
    refine awp_regc ⟨89, [(6, .pv (sC s))], [(0, some (dice L b))], 3000⟩ rfl ?_ (awp_ret (PostX.mk (.inr rfl) (s, b) ⟨h1, h2⟩ (RetOk.k1 rfl (by simp) (by simp))))
    simp [splice]
    exact Le.go [(0, 0)] [16] rfl rfl (by simp) (by simp)
end Go.Proofs.Ytnphfkceoklkkaa
namespace Go.Proofs.Ytnphfkceoklkkaa
open Go
set_option maxHeartbeats 4000000 in
set_option maxRecDepth 100000 in
theorem Chain_any (L : List Int) (a : Nat) (au : Int) (m : Nat) (hl : L.length ≤ 400) (ha : a ≤ L.length) (hm : m ≤ 100) : ∃ p : (List Stm × Nat) × Nat, (Chain au p.1.1 ∧ p.1.1.length ≤ 100 ∧ p.1.2 ≤ L.length) ∧ ACalls Try.prog nmade_Dice_Chain [.pt 0 0 0, .I au, .I m] [dice L a] (.rs 1 0 p.1.1.length) [some (dice L p.1.2), some ⟨13, p.1.1.map sC, p.2⟩] := by
  refine smade_Dice_Chain.acallsX (args := [.pt 0 0 0, .I au, .I m]) (hs := [dice L a]) (fun p => .rs 1 0 p.1.1.length) (fun p => [some (dice L p.1.2), some ⟨13, p.1.1.map sC, p.2⟩]) (fun p : (List Stm × Nat) × Nat => Chain au p.1.1 ∧ p.1.1.length ≤ 100 ∧ p.1.2 ≤ L.length) (Nat.le_of_ble_eq_true rfl) (Nat.le_of_ble_eq_true rfl) (fun _ => by simp) ?_
  show awp _ 1 _ _ ⟨55, [(0, .pt 0 0 0), (1, .I au), (2, .I m)], [(0, some (dice L a))], 16⟩
  obtain ⟨t0, b, ⟨hb1, _⟩, hn1⟩ := Next_any L a 10 hl ha (by decide)
  obtain ⟨x, c, ⟨hc1, hx1, _, hx3⟩, hn2⟩ := Next_any L b ((m + 1 : Nat) : Int) hl hb1 (by omega)
  have hx4 := hx3 (by omega)
  obtain ⟨y, rfl⟩ : ∃ y : Nat, x = y := ⟨x.toNat, by omega⟩
  have hwm := wr1 (k := m) (N := 101) (by omega) (by omega)
  refine rx (s := ?s1) [0, 1, 2] [0] [] rfl ?o1 ?q1
  case o1 => simp; rfl
  refine rx (s := ?s2) [0, 1, 2, 7] [0] [] rfl ?o2 ?q2
  case o2 => simp; rfl
  refine awp_regc ⟨55, [(0, .pt 0 0 0), (1, .I au), (2, .I m), (7, .nilS), (8, .I t0)], [(0, some (dice L b))], 100⟩ rfl ?_ ?_
  · simp
    refine callM1 (i := 0) rfl (e' := dice L a) (by simp) hn1 (by simp) (by simp) ?_
    simp
    exact Le.keep rfl (by simp) (by simp) (by simp)
  refine awp_seq ?_
  refine awp_regc ⟨55, [(0, .pt 0 0 0), (1, .I au), (7, .nilS), (8, .I t0), (9, .I y)], [(0, some (dice L c))], 200⟩ rfl ?_ ?_
  · simp [hwm]
    refine callM1 (i := 0) rfl (e' := dice L b) (by simp) hn2 (by simp) (by simp) ?_
    simp
    exact Le.keep rfl (by simp) (by simp) (by simp)
  refine awp_block ?_
  refine awp_loop (ι := ((List Stm × Nat) × Nat) × (Int × Nat)) (fun p => ⟨55, [(0, .pt 0 0 0), (1, .I au), (7, .rs 16 0 p.1.1.1.length), (8, .I p.2.1), (9, .I p.2.2)], [(0, some (dice L p.1.1.2)), (16, some ⟨13, p.1.1.1.map sC, p.1.2⟩)], 200⟩) (fun p => Chain au p.1.1.1 ∧ p.1.1.1.length + p.2.2 ≤ 100 ∧ p.1.1.2 ≤ L.length ∧ p.1.2 ≤ p.1.1.1.length) (fun p => p.2.2) ((([], c), 0), (t0, y)) ⟨Chain.nil au, by simp; omega, hc1, Nat.zero_le _⟩ ?_ ?_
  · refine Le.lst [(0, 0)] [] [(16, 13)] rfl (by simp) (by simp) (by simp) (by simp) (by simp) (by simp) (by simp) (by simp [Up]) fun p hp e' he' => ?_
    simp only [List.mem_cons, List.not_mem_nil, or_false] at hp
    rcases hp with rfl | rfl
    · cases he'
      exact .inl ⟨(0, 0), by simp, rfl, _, rfl, EntUp.eq (by simp) (by simp)⟩
    · cases he'
      exact .inr ⟨by simp, by simp, rfl⟩
  rintro ⟨⟨⟨o, b⟩, ro⟩, t, n⟩ ⟨hch, hon, hbl, hro⟩
  simp only at hch hon hbl hro
  simp only
  have hXl : (o.map sC).length = o.length := List.length_map ..
  have hXf := sts_flat o
  have hst : sts o = .vs 13 false (o.map sC) := rfl
  obtain ⟨X, hX⟩ : ∃ X, X = o.map sC := ⟨_, rfl⟩
  rw [← hX] at hXl hXf hst ⊢
  refine awp_seq ?_
  refine rk (s := ?s3) [0, 1, 7, 8, 9, 20] [0, 16] rfl ?o3 ?q3
  case o3 => simp; rfl
  refine awp_cond _ rfl (fun h => awp_skip ?_) fun h => awp_exit (hit ?_)
  · simp only [decide_eq_true_eq] at h
    obtain ⟨z, b2, ⟨hb2, _⟩, hof⟩ := Of_any L b [1, 0, 5, 20] hl hbl (by decide) (by decide)
    obtain ⟨t2, ht2⟩ : ∃ t2, t2 = IntKind.i64.wrap (t + z) := ⟨_, rfl⟩
    obtain ⟨⟨s, b3⟩, ⟨hsb, hb3⟩, hsta⟩ := Statement_any L b2 au t2 hl hb2
    simp only at hsb hb3 hsta
    obtain ⟨r, b4, hb4, hone⟩ := One_any L b3 6 hl hb3 (by decide) (by decide)
    refine awp_cut (ι := (List Stm × Nat) × Nat) (fun p => ⟨55, [(0, .pt 0 0 0), (1, .I au), (7, .rs 16 0 p.1.1.length), (8, .I t2), (9, .I n)], [(0, some (dice L p.1.2)), (16, some ⟨13, p.1.1.map sC, p.2⟩)], 2000⟩) (fun p => Chain au p.1.1 ∧ p.1.1.length + (n - 1) ≤ 100 ∧ p.1.2 ≤ L.length ∧ p.2 ≤ p.1.1.length) ?_ ?_
    · refine awp_block ?_
      refine awp_regc ⟨55, [(0, .pt 0 0 0), (1, .I au), (7, .rs 16 0 o.length), (8, .I t2), (9, .I n)], [(0, some (dice L b2)), (16, some ⟨13, X, ro⟩)], 300⟩ rfl ?_ ?_
      · simp
        refine callM1s (i := 0) (j := 232) (by decide) (by decide) rfl rfl (e' := dice L b) (by simp) hof (by simp) (by simp) ?_
        simp
        exact Le.keep rfl (by simp) (by simp [ht2]) (by simp)
      refine awp_regc ⟨55, [(0, .pt 0 0 0), (1, .I au), (7, .rs 16 0 o.length), (8, .I t2), (9, .I n), (10, .pt 332 0 0)], [(0, some (dice L b3)), (16, some ⟨13, X, ro⟩), (332, some ⟨13, [sC s], 0⟩)], 400⟩ rfl ?_ ?_
      · simp
        refine callM1 (i := 0) rfl (e' := dice L b2) (by simp) hsta (by simp) (by simp) ?_
        simp [splice]
        exact Le.keep rfl (by simp) (by simp) (by simp)
      refine awp_cut (ι := Stm × Nat) (fun p => ⟨55, [(0, .pt 0 0 0), (1, .I au), (7, .rs 16 0 o.length), (8, .I t2), (9, .I n), (10, .pt 332 0 0)], [(0, some (dice L p.2)), (16, some ⟨13, X, ro⟩), (332, some ⟨13, [sC p.1], 0⟩)], 700⟩) (fun p => StB p.1 ∧ p.2 ≤ L.length) ?_ ?_
      · obtain ⟨b5, hb5, hb5'⟩ : ∃ b5, b5 ≤ L.length ∧ b5 = if n = 1 then b4 else b3 := by
          refine ⟨_, ?_, rfl⟩
          split
          · exact hb4
          · exact hb3
        refine awp_regc ⟨55, [(0, .pt 0 0 0), (1, .I au), (7, .rs 16 0 o.length), (8, .I t2), (9, .I n), (10, .pt 332 0 0), (37, .B (decide (n = 1) && r))], [(0, some (dice L b5)), (16, some ⟨13, X, ro⟩), (332, some ⟨13, [sC s], 0⟩)], 500⟩ rfl ?_ ?_
        · by_cases h1 : n = 1
          · have h1' : ((n : Int) == 1) = true := by simp; omega
            rw [if_pos h1] at hb5'
            simp [h1']
            refine callM1 (i := 0) rfl (e' := dice L b3) (by simp) hone (by simp) (by simp) ?_
            simp
            exact Le.keep rfl (by simp) (by simp [h1]) (by simp [hb5'])
          · have h1' : ((n : Int) == 1) = false := by simp; omega
            rw [if_neg h1] at hb5'
            simp [h1']
            exact Le.keep rfl (by simp) (by simp [h1]) (by simp [hb5'])
        refine awp_cond _ rfl (fun h2 => ?_) fun h2 => awp_skip ?_
        · refine awp_reg rfl ?_
          simp [splice]
          refine ⟨dS au t2 3 0 0 0 [] [] noB, b5, ⟨dS_b (by simp) (by simp) (by decide) (by simp), hb5⟩, ?_⟩
          refine Le.ents [(0, 0), (16, 16), (332, 332)] [] rfl (by simp) (by simp) (by simp) (by simp) (by simp) (by simp) fun p hp => ?_
          simp only [List.mem_cons, List.not_mem_nil, or_false] at hp
          rcases hp with rfl | rfl | rfl
          · exact ⟨0, _, _, rfl, by simp, rfl, EntUp.eq (by simp) (by simp)⟩
          · exact ⟨16, _, _, rfl, by simp, rfl, EntUp.eq (by simp [hXf]) (by simp [hXl]; exact hro)⟩
          · exact ⟨332, _, _, rfl, by simp, rfl, EntUp.row (r := dR au t2 3 0 0 0 .nilS .nilS (.sc (.string noB))) (by simp) (Nat.zero_le _) (by simp [UpL, Up]; exact ⟨.nil 1 false, .nil 3 false⟩)⟩
        · exact ⟨(s, b5), ⟨hsb, hb5⟩, Le.keep rfl (by simp) (by simp) (by simp)⟩
      clear hsta hone hof hsb hb3
      rintro ⟨s, b5⟩ ⟨hsb, hb5⟩
      simp only at hsb hb5
      simp only
      obtain ⟨e, x, hnx, hcx⟩ := next_any2 au o s hch (by omega) hsb
      have htk : List.take o.length X = X := List.take_of_length_le (by omega)
      refine awp_regc ⟨55, [(0, .pt 0 0 0), (1, .I au), (7, .rs 16 0 o.length), (8, .I t2), (9, .I n), (11, .pv (sC x)), (12, .I e)], [(0, some (dice L b5)), (16, some ⟨13, X, o.length⟩)], 900⟩ rfl ?_ ?_
      · simp
        refine call0r [16] hnx (by simp [hXl, htk, hXf, hst]) (by simp) ?_
        simp [splice, hXl]
        exact Le.go [(0, 0), (16, 16)] [756] rfl rfl (by simp) (by simp [hXf, hXl])
      refine awp_regc ⟨55, [(0, .pt 0 0 0), (1, .I au), (7, .rs 16 0 o.length), (8, .I t2), (9, .I n), (11, .pv (sC x)), (49, .B (decide (e = 0)))], [(0, some (dice L b5)), (16, some ⟨13, X, o.length⟩)], 1000⟩ rfl ?_ ?_
      · simp
        exact Le.keep rfl (by simp) (by simp <;> rw [Bool.eq_iff_iff] <;> simp) (by simp)
      refine awp_cond _ rfl (fun h5 => ?_) fun h5 => awp_skip ?_
      · simp only [decide_eq_true_eq] at h5
        have hom : (o ++ [x]).map sC = X ++ [sC x] := by rw [List.map_append, ← hX]; rfl
        have hol : (o ++ [x]).length = o.length + 1 := by simp
        refine awp_reg rfl ?_
        simp [hXl, htk]
        refine ⟨by omega, by omega, o ++ [x], b5, o.length, ⟨hcx h5, by rw [hol]; omega, hb5, by rw [hol]; omega⟩, ?_⟩
        rw [hom, hol]
        exact Le.go [(0, 0), (1024, 16)] [] rfl rfl (by simp) (by simp [hXf, hXl])
      · exact ⟨((o, b5), o.length), ⟨hch, by simp only; omega, hb5, Nat.le_refl _⟩, Le.keep rfl (by simp) (by simp) (by simp [hX])⟩
    · rintro ⟨⟨o2, b6⟩, ro2⟩ ⟨h1, h2, h3, h4⟩
      simp only at h1 h2 h3 h4
      have hwn : IntKind.i64.wrap ((n : Int) - 1) = ((n - 1 : Nat) : Int) := by rw [w64 (by omega) (by omega)]; omega
      have hXf2 := sts_flat o2
      refine awp_reg rfl ?_
      simp [hwn]
      exact ⟨o2, b6, ro2, t2, n - 1, ⟨h1, by omega, h3, h4⟩, by omega, Le.go [(0, 0), (16, 16)] [] rfl rfl (by simp) (by simp [Function.comp_def]; exact h4)⟩
  rw [hX]
  refine rx (s := ?s9) [0, 6] [0, 16] [] rfl ?o9 ?q9
  case o9 => simp [Function.comp_def, hro]; rfl
  exact awp_ret (PostX.mk (.inr rfl) ((o, b), ro) ⟨hch, by simp only; omega, hbl⟩ (RetOk.k1m 16 (by simp) rfl (by simp) (by simp [Function.comp_def]) (by simp [Function.comp_def])))
end Go.Proofs.Ytnphfkceoklkkaa
namespace Go.Proofs.Ytnphfkceoklkkaa
open Go
set_option maxHeartbeats 1000000 in
set_option maxRecDepth 100000 in
theorem CopyList_ok (l : List Stm) (hl : l.length ≤ 100000) (hb : ∀ s ∈ l, StB s) : ACalls Try.prog nref03_CopyList [sts l] [] (.rs 0 0 l.length) [some ⟨13, l.map sC, 0⟩] := by
  refine sref03_CopyList.acalls (Nat.le_of_ble_eq_true rfl) (Nat.le_of_ble_eq_true rfl) (Nat.zero_le _) ?_
  show awp _ 0 _ _ ⟨20, [(0, sts l)], [], 16⟩
  refine rx (s := ?s1) [0] [] [] rfl ?o1 ?q1
  case o1 => simp; rfl
  refine rx (s := ?s2) [0, 3] [] [] rfl ?o2 ?q2
  case o2 => simp; rfl
  refine awp_seq ?_
  refine rx (s := ?s3) [0, 3, 4] [] [] rfl ?o3 ?q3
  case o3 => simp; rfl
  let Y : Nat → List (List AV) := fun i => (l.take i).map sC
  have hYl : ∀ i, i ≤ l.length → (Y i).length = i := fun i hi => by simp [Y]; omega
  have hYf : ∀ i ρ sn h m, (Y i).map (List.map (conv ρ sn h (m + 1))) = Y i := fun i => sts_flat _
  have hYs : ∀ i (h : i < l.length), Y (i + 1) = Y i ++ [sC l[i]] := fun i h => by
    simp only [Y]
    rw [List.take_succ_eq_append_getElem h, List.map_append]
    rfl
  have hYn : Y l.length = l.map sC := by simp only [Y]; rw [List.take_length]
  have hY0 : Y 0 = [] := rfl
  clear_value Y
  refine awp_block ?_
  refine awp_loop (ι := Nat) (fun i => ⟨20, [(0, sts l), (3, .rs 16 0 i), (4, .I i)], [(16, some ⟨13, Y i, 0⟩)], 40⟩) (fun i => i ≤ l.length) (fun i => l.length - i) 0 (Nat.zero_le _) (Le.lst [] [] [(16, 13)] rfl (by simp) (by simp) (by simp) (by simp) (by simp) (by simp) (by simp) (by simp [Up]) (by simp [hY0])) ?_
  intro i hi
  refine awp_seq ?_
  refine rk (s := ?s4) [0, 3, 4, 8] [16] rfl ?o4 ?q4
  case o4 => simp; rfl
  refine awp_cond _ rfl (fun h => awp_skip ?_) fun h => awp_exit (hit ?_)
  · simp only [decide_eq_true_eq, Int.ofNat_lt] at h
    have hg : l[i]? = some l[i] := List.getElem?_eq_getElem h
    have hsb := hb l[i] (List.getElem_mem h)
    have hys := hYs i h
    have hyl := hYl i hi
    have hyf := hYf i
    have hyf2 := hYf (i + 1)
    obtain ⟨s, hs⟩ : ∃ s, s = l[i] := ⟨_, rfl⟩
    rw [← hs] at hg hsb hys
    have hcp := ref03_Copy_ok s (by have := hsb.2.2.1; omega) (by have := hsb.2.2.2.1; omega)
    obtain ⟨X, hX⟩ : ∃ X, X = Y i := ⟨_, rfl⟩
    obtain ⟨X2, hX2⟩ : ∃ X2, X2 = Y (i + 1) := ⟨_, rfl⟩
    have htk : List.take i X = X := List.take_of_length_le (by rw [hX]; omega)
    rw [← hX] at hyl hyf hys ⊢
    rw [← hX2] at hyf2 hys
    refine awp_cut (ι := Unit) (fun _ => ⟨20, [(0, sts l), (3, .rs 16 0 (i + 1)), (4, .I i)], [(16, some ⟨13, X2, 0⟩)], 300⟩) (fun _ => True) ?_ fun _ _ => ?_
    · refine awp_block ?_
      refine awp_reg rfl ?_
      simp [hg]
      refine call0e hcp (by simp) ?_
      simp [hyl, htk]
      exact ⟨by omega, by omega, Le.Z1 (z := 13) hyf2 128 16 [] rfl rfl (by simp) (by simp) (by simp [hys]) (by simp)⟩
    have hwi := wr1 h (by omega)
    refine awp_reg rfl ?_
    simp [hwi]
    exact ⟨i + 1, by omega, by omega, Le.Z1 hyf2 16 16 [] rfl (by rw [hX2]) (by simp) (by simp) rfl (by simp)⟩
  simp only [decide_eq_false_iff_not, Int.ofNat_lt] at h
  obtain rfl : i = l.length := by omega
  rw [hYn]
  refine rx (s := ?s9) [2] [16] [] rfl ?o9 ?q9
  case o9 => simp [Function.comp_def]; rfl
  exact awp_ret ⟨.inr rfl, RetOk.out [16] [] rfl (by simp) (by simp) (by simp) (by simp [Function.comp_def])⟩
end Go.Proofs.Ytnphfkceoklkkaa
namespace Go.Proofs.Ytnphfkceoklkkaa
open Go
theorem Le.s3 {st st' : St} {L : List Int} {a : Nat} {X : List (List AV)} {r : List AV} (i j : Nat) (sn : List Nat) (hsz : st'.sz = st.sz) (hh : st'.h = [(0, some (dice L a)), (32, some ⟨13, X, 0⟩), (j, some ⟨13, [r], 0⟩)]) (hj : 0 < j ∧ j ≠ 32 ∧ i ≠ 0 ∧ i ≠ j) (hn : 32 < st'.n ∧ j < st'.n) (hs : ∀ k ∈ sn, 1 ≤ k ∧ k ∉ [0, i, j])
    (hX : ∀ ρ sn h m, X.map (List.map (conv ρ sn h (m + 1))) = X) (hr : ∀ ρ sn h m, r.map (conv ρ sn h (m + 1)) = r) (h1 : st.hp 0 = some (dice L a)) (h2 : st.hp i = some ⟨13, X, 0⟩) (h3 : st.hp j = some ⟨13, [r], 0⟩)
    (ht : ∀ p ∈ st'.t, Wk (conv [(0, 0), (i, 32), (j, j)] sn st.hp 4 (st.get p.1)) p.2) : Le 1 st st' := by
  refine Le.ents [(0, 0), (i, 32), (j, j)] sn hsz (by simp; omega) (by simp; omega) (by simp; omega) (fun k hk => ⟨(hs k hk).1, by simpa using (hs k hk).2⟩) (by omega) ht fun p hp => ?_
  rw [hh] at hp
  simp only [List.mem_cons, List.not_mem_nil, or_false] at hp
  rcases hp with rfl | rfl | rfl
  · exact ⟨0, _, _, rfl, by simp, h1, EntUp.eq (by simp) (by simp)⟩
  · exact ⟨i, _, _, rfl, by simp, h2, EntUp.eq (by simp only [convE, hX]) (by simp)⟩
  · exact ⟨j, _, _, rfl, by simp, h3, EntUp.eq (by simp [hr]) (by simp)⟩
def okL (l : List Stm) : Prop := ∀ s ∈ l, StOk s
set_option maxHeartbeats 8000000 in
set_option maxRecDepth 100000 in
theorem Spoil_any (L : List Int) (a : Nat) (ch : List Stm) (hl : L.length ≤ 400) (ha : a ≤ L.length) (hc : okL ch) (hcl : ch.length ≤ 100) : ∃ p : List Stm × Nat, (okL p.1 ∧ p.1.length ≤ 110 ∧ p.2 ≤ L.length) ∧ ACalls Try.prog nmade_Dice_Spoil [.pt 0 0 0, sts ch] [dice L a] (.rs 1 0 p.1.length) [some (dice L p.2), some ⟨13, p.1.map sC, 0⟩] := by
  have hcp := CopyList_ok ch (by omega) fun s hs => (hc s hs).b
  refine smade_Dice_Spoil.acallsX (args := [.pt 0 0 0, sts ch]) (hs := [dice L a]) (fun p => .rs 1 0 p.1.length) (fun p => [some (dice L p.2), some ⟨13, p.1.map sC, 0⟩]) (fun p : List Stm × Nat => okL p.1 ∧ p.1.length ≤ 110 ∧ p.2 ≤ L.length) (Nat.le_of_ble_eq_true rfl) (Nat.le_of_ble_eq_true rfl) (fun _ => by simp) ?_
  show awp _ 1 _ _ ⟨111, [(0, .pt 0 0 0), (1, sts ch)], [(0, some (dice L a))], 16⟩
  refine rx (s := ?s1) [0, 1] [0] [] rfl ?o1 ?q1
  case o1 => simp; rfl
  refine awp_regc ⟨111, [(0, .pt 0 0 0), (5, .rs 32 0 ch.length)], [(0, some (dice L a)), (32, some ⟨13, ch.map sC, 0⟩)], 50⟩ rfl ?_ ?_
  · simp
    refine callN1 hcp (by simp) ?_
    simp [Function.comp_def]
    exact Le.keep rfl (by simp) (by simp) (by simp)
  refine awp_seq ?_
  refine awp_regc ⟨111, [(0, .pt 0 0 0), (5, .rs 32 0 ch.length), (13, .B (decide (ch.length = 0)))], [(0, some (dice L a)), (32, some ⟨13, ch.map sC, 0⟩)], 80⟩ rfl ?_ ?_
  · simp
    exact Le.keep rfl (by simp) (by simp <;> rw [Bool.eq_iff_iff] <;> simp) (by simp)
  refine awp_cond _ rfl (fun h2 => ?_) fun h2 => awp_skip ?_
  · refine rx (s := ?s3) [0, 4] [0, 32] [] rfl ?o3 ?q3
    case o3 => simp [Function.comp_def]; rfl
    exact awp_ret (PostX.mk (.inr rfl) (ch, a) ⟨hc, by simp only; omega, ha⟩ (RetOk.k1m 32 (by simp) rfl (by simp) (by simp [Function.comp_def]) (by simp [Function.comp_def])))
  simp only [decide_eq_false_iff_not] at h2
  obtain ⟨y0, b0, ⟨hb0, hy1, _, hy2⟩, hn0⟩ := Next_any L a 3 hl ha (by decide)
  have hy3 := hy2 (by decide)
  obtain ⟨y, rfl⟩ : ∃ y : Nat, y0 = y := ⟨y0.toNat, by omega⟩
  refine awp_seq ?_
  refine awp_regc ⟨111, [(0, .pt 0 0 0), (5, .rs 32 0 ch.length), (6, .I y)], [(0, some (dice L b0)), (32, some ⟨13, ch.map sC, 0⟩)], 120⟩ rfl ?_ ?_
  · simp
    refine callM1 (i := 0) rfl (e' := dice L a) (by simp) hn0 (by simp) (by simp) ?_
    simp
    exact Le.keep rfl (by simp) (by simp) (by simp)
  refine awp_block ?_
  refine awp_loop (ι := (List Stm × Nat) × Nat) (fun p => ⟨111, [(0, .pt 0 0 0), (5, .rs 32 0 p.1.1.length), (6, .I p.2)], [(0, some (dice L p.1.2)), (32, some ⟨13, p.1.1.map sC, 0⟩)], 200⟩) (fun p => okL p.1.1 ∧ 0 < p.1.1.length ∧ p.1.1.length + p.2 ≤ 110 ∧ p.1.2 ≤ L.length) (fun p => p.2) ((ch, b0), y) ⟨hc, by simp only; omega, by simp only; omega, hb0⟩ (Le.keep rfl (by simp) (by simp) (by simp)) ?_
  rintro ⟨⟨o, b⟩, n⟩ ⟨hok, ho0, hon, hbl⟩
  simp only at hok ho0 hon hbl
  simp only
  have hXl : (o.map sC).length = o.length := List.length_map ..
  have hXf := sts_flat o
  have hXg : ∀ k (h : k < o.length), (o.map sC)[k]? = some (sC o[k]) := fun k h => by rw [List.getElem?_map, List.getElem?_eq_getElem h]; rfl
  obtain ⟨X, hX⟩ : ∃ X, X = o.map sC := ⟨_, rfl⟩
  rw [← hX] at hXl hXf hXg ⊢
  refine awp_seq ?_
  refine rk (s := ?s4) [0, 5, 6, 18] [0, 32] rfl ?o4 ?q4
  case o4 => simp; rfl
  refine awp_cond _ rfl (fun h => awp_skip ?_) fun h => awp_exit (hit ?_)
  · simp only [decide_eq_true_eq] at h
    refine awp_cut (ι := List Stm × Nat) (fun p => ⟨111, [(0, .pt 0 0 0), (5, .rs 32 0 p.1.length), (6, .I n)], [(0, some (dice L p.2)), (32, some ⟨13, p.1.map sC, 0⟩)], 5000⟩) (fun p => okL p.1 ∧ 0 < p.1.length ∧ p.1.length + (n - 1) ≤ 110 ∧ p.2 ≤ L.length) ?_ ?_
    · obtain ⟨k0, b1, ⟨hb1, hk1, _, hk2⟩, hn1⟩ := Next_any L b o.length hl hbl (by omega)
      have hk3 := hk2 (by omega)
      obtain ⟨k, rfl⟩ : ∃ k : Nat, k0 = k := ⟨k0.toNat, by omega⟩
      have hko : k < o.length := by omega
      have hxk := hXg k hko
      have hxo := hok o[k] (List.getElem_mem hko)
      obtain ⟨x, hx⟩ : ∃ x, x = o[k] := ⟨_, rfl⟩
      rw [← hx] at hxk hxo
      have hxb := hxo.b
      have hcx := ref03_Copy_ok x (by have := hxb.2.2.1; omega) (by have := hxb.2.2.2.1; omega)
      have hxk' : X[k]'(by omega) = sC x := by
        have := List.getElem?_eq_some_iff.1 hxk
        exact this.2
      obtain ⟨w, b2, ⟨hb2, _⟩, hn2⟩ := Next_any L b1 5 hl hb1 (by decide)
      refine awp_block ?_
      refine awp_regc ⟨111, [(0, .pt 0 0 0), (5, .rs 32 0 o.length), (6, .I n), (7, .pt 280 0 0)], [(0, some (dice L b1)), (32, some ⟨13, X, 0⟩), (280, some ⟨13, [sC x], 0⟩)], 320⟩ rfl ?_ ?_
      · simp
        refine callM1 (i := 0) rfl (e' := dice L b) (by simp) hn1 (by simp) (by simp) ?_
        simp [hko, hXl, hxk']
        refine call0e hcx (by simp) ?_
        simp [splice]
        exact Le.keep rfl (by simp) (by simp) (by simp)
      refine awp_cut (ι := (List Stm × Stm) × Nat) (fun p => ⟨111, [(0, .pt 0 0 0), (5, .rs 32 0 p.1.1.length), (6, .I n), (7, .pt 280 0 0)], [(0, some (dice L p.2)), (32, some ⟨13, p.1.1.map sC, 0⟩), (280, some ⟨13, [sC p.1.2], 0⟩)], 2000⟩) (fun p => okL p.1.1 ∧ 0 < p.1.1.length ∧ p.1.1.length ≤ o.length ∧ StB p.1.2 ∧ p.2 ≤ L.length) ?_ ?_
      · refine awp_regc ⟨111, [(0, .pt 0 0 0), (5, .rs 32 0 o.length), (6, .I n), (7, .pt 280 0 0), (30, .I w)], [(0, some (dice L b2)), (32, some ⟨13, X, 0⟩), (280, some ⟨13, [sC x], 0⟩)], 400⟩ rfl ?_ ?_
        · simp
          refine callM1 (i := 0) rfl (e' := dice L b1) (by simp) hn2 (by simp) (by simp) ?_
          simp
          exact Le.keep rfl (by simp) (by simp) (by simp)
        have hxf : ∀ (x : Stm) ρ sn h m, (sC x).map (conv ρ sn h (m + 1)) = sC x := fun x ρ sn h m => by simp
        have hback : ∀ (st : St) (x' : Stm) (c : Nat), st.sz = 111 → st.hp 0 = some (dice L c) → st.hp 32 = some ⟨13, X, 0⟩ → st.hp 280 = some ⟨13, [sC x'], 0⟩ → st.get 0 = .pt 0 0 0 → st.get 5 = .rs 32 0 o.length → st.get 6 = .I n → st.get 7 = .pt 280 0 0 → Le 1 st ⟨111, [(0, .pt 0 0 0), (5, .rs 32 0 o.length), (6, .I n), (7, .pt 280 0 0)], [(0, some (dice L c)), (32, some ⟨13, o.map sC, 0⟩), (280, some ⟨13, [sC x'], 0⟩)], 2000⟩ := fun st x' c g0 g1 g2 g3 g4 g5 g6 g7 => by
          rw [← hX]
          exact Le.s3 32 280 [] g0.symm rfl (by simp) (by simp) (by simp) hXf (hxf x') g1 g2 g3 (by simp [g4, g5, g6, g7])
        refine awp_block ?_
        refine rk (s := ?s11) [0, 5, 6, 7, 30, 47] [0, 32, 280] rfl ?o11 ?q11
        case o11 => simp; rfl
        refine awp_cond _ rfl (fun h12 => ?_) fun h12 => ?_
        · refine rk (s := ?s13) [0, 5, 6, 7] [0, 32, 280] rfl ?o13 ?q13
          case o13 => simp [splice]; rfl
          have hmod := Mod_ok (IntKind.i64.wrap (2 - x.ki)) 2 (by decide)
          refine awp_drw rfl ?_
          simp
          refine call0e hmod (by simp) ?_
          simp [splice]
          exact ⟨rfl, o, { x with ti := IntKind.i64.wrap (x.ti + 1), c := if x.c < IntKind.i64.wrap (IntKind.i64.wrap (x.ti + 1) * modI (IntKind.i64.wrap (2 - x.ki)) 2) then IntKind.i64.wrap (IntKind.i64.wrap (x.ti + 1) * modI (IntKind.i64.wrap (2 - x.ki)) 2) else x.c }, b2, ⟨hok, ho0, Nat.le_refl _, hxb, hb2⟩, hback _ _ _ rfl rfl rfl rfl rfl rfl rfl rfl⟩
        refine rk (s := ?s17) [0, 5, 6, 7, 30, 64] [0, 32, 280] rfl ?o17 ?q17
        case o17 => simp; rfl
        refine awp_cond _ rfl (fun h18 => ?_) fun h18 => ?_
        · obtain ⟨z, b3, ⟨hb3, _⟩, hn3⟩ := Next_any L b2 3 hl hb2 (by decide)
          obtain ⟨⟨d, b4⟩, ⟨hd, hb4⟩, hdg⟩ := Digest_any L b3 hl hb3
          simp only at hd hb4 hdg
          obtain ⟨q, hq⟩ : ∃ q, q = (if 199 < IntKind.i64.wrap (IntKind.i64.wrap (x.nu + 1) + z) then 199 else IntKind.i64.wrap (IntKind.i64.wrap (x.nu + 1) + z)) := ⟨_, rfl⟩
          refine awp_dregc ⟨111, [(0, .pt 0 0 0), (5, .rs 32 0 o.length), (6, .I n), (7, .pt 280 0 0)], [(0, some (dice L b3)), (32, some ⟨13, X, 0⟩), (280, some ⟨13, [sC { x with nu := q }], 0⟩)], 800⟩ rfl ?_ ?_
          · simp
            refine callM1 (i := 0) rfl (e' := dice L b2) (by simp) hn3 (by simp) (by simp) ?_
            simp [splice]
            exact ⟨rfl, Le.keep rfl (by simp) (by simp) (by simp [hq])⟩
          refine rk (s := ?s20) [0, 5, 6, 7, 77] [0, 32, 280] rfl ?o20 ?q20
          case o20 => simp; rfl
          refine awp_cond _ rfl (fun h21 => ?_) fun h21 => awp_skip ?_
          · refine awp_reg rfl ?_
            simp
            refine callM1 (i := 0) rfl (e' := dice L b3) (by simp) hdg (by simp) (by simp) ?_
            simp [splice]
            exact ⟨o, { x with nu := q, pr := d }, b4, ⟨hok, ho0, Nat.le_refl _, ⟨by show d.size ≤ 5000; omega, hxb.2⟩, hb4⟩, hback _ _ _ rfl rfl rfl rfl rfl rfl rfl rfl⟩
          · exact ⟨((o, { x with nu := q }), b3), ⟨hok, ho0, Nat.le_refl _, hxb, hb3⟩, hback _ _ _ rfl rfl rfl rfl rfl rfl rfl rfl⟩
        refine rk (s := ?s28) [0, 5, 6, 7, 30, 81] [0, 32, 280] rfl ?o28 ?q28
        case o28 => simp; rfl
        refine awp_cond _ rfl (fun h22 => ?_) fun h22 => ?_
        · refine awp_reg rfl ?_
          simp [splice]
          exact ⟨o, { x with ti := if 0 < IntKind.i64.wrap (x.ti - 30) then IntKind.i64.wrap (x.ti - 30) else 0 }, b2, ⟨hok, ho0, Nat.le_refl _, hxb, hb2⟩, hback _ _ _ rfl rfl rfl rfl rfl rfl rfl rfl⟩
        refine rk (s := ?s29) [0, 5, 6, 7, 88] [0, 32, 280] rfl ?o29 ?q29
        case o29 => simp; rfl
        refine awp_cond _ rfl (fun h23 => ?_) fun h23 => ?_
        · refine rk (s := ?s30) [0, 5, 6, 7, 92] [0, 32, 280] rfl ?o30 ?q30
          case o30 => simp; rfl
          refine awp_cond _ rfl (fun h24 => ?_) fun h24 => awp_skip ?_
          · obtain ⟨⟨d, b4⟩, ⟨hd, hb4⟩, hdg⟩ := Digest_any L b2 hl hb2
            simp only at hd hb4 hdg
            refine awp_reg rfl ?_
            simp
            refine callM1 (i := 0) rfl (e' := dice L b2) (by simp) hdg (by simp) (by simp) ?_
            simp [splice]
            exact ⟨o, { x with pr := d }, b4, ⟨hok, ho0, Nat.le_refl _, ⟨by show d.size ≤ 5000; omega, hxb.2⟩, hb4⟩, hback _ _ _ rfl rfl rfl rfl rfl rfl rfl rfl⟩
          · exact ⟨((o, x), b2), ⟨hok, ho0, Nat.le_refl _, hxb, hb2⟩, hback _ _ _ rfl rfl rfl rfl rfl rfl rfl rfl⟩
        refine rk (s := ?s31) [0, 5, 6, 7, 33] [0, 32, 280] rfl ?o31 ?q31
        case o31 => simp; rfl
        refine awp_cond _ rfl (fun h25 => ?_) fun h25 => awp_skip ?_
        · have h26 : 1 < o.length := by simp at h25; omega
          obtain ⟨k0, b3, ⟨hb3, hk4, _, hk5⟩, hn3⟩ := Next_any L b2 o.length hl hb2 (by omega)
          have hk6 := hk5 (by omega)
          obtain ⟨j, rfl⟩ : ∃ k : Nat, k0 = k := ⟨k0.toNat, by omega⟩
          obtain ⟨j2, hj2⟩ : ∃ j2, j2 = j + 1 := ⟨_, rfl⟩
          have hwj : IntKind.i64.wrap ((j : Int) + 1) = (j2 : Int) := by rw [w64 (by omega) (by omega)]; omega
          refine awp_regc ⟨111, [(0, .pt 0 0 0), (5, .rs 32 0 o.length), (6, .I n), (7, .pt 280 0 0), (8, .I j)], [(0, some (dice L b3)), (32, some ⟨13, X, 0⟩), (280, some ⟨13, [sC x], 0⟩)], 1000⟩ rfl ?_ ?_
          · simp
            refine callM1 (i := 0) rfl (e' := dice L b2) (by simp) hn3 (by simp) (by simp) ?_
            simp
            exact Le.keep rfl (by simp) (by simp) (by simp)
          have hom : (o.take j ++ o.drop j2).map sC = X.take j ++ X.drop j2 := by rw [hX, List.map_append, List.map_take, List.map_drop]
          have hol : (o.take j ++ o.drop j2).length = o.length - 1 := by rw [List.length_append, List.length_take, List.length_drop]; omega
          have hXf2 := sts_flat (o.take j ++ o.drop j2)
          rw [hom] at hXf2
          have hokn : okL (o.take j ++ o.drop j2) := fun s hs => by
            rcases List.mem_append.1 hs with hs | hs
            · exact hok s (List.mem_of_mem_take hs)
            · exact hok s (List.mem_of_mem_drop hs)
          have hmin : min j o.length = j := by omega
          have hjl : j ≤ o.length := by omega
          have hj2l : j2 ≤ o.length := by omega
          have htk : List.take (o.length - j2) (X.drop j2) = X.drop j2 := List.take_of_length_le (by rw [List.length_drop]; omega)
          have hle : j + (o.length - j2) = o.length - 1 := by omega
          refine awp_drw rfl ?_
          simp [hXl, hmin, hjl, hj2l, hwj, htk]
          refine ⟨by omega, by omega, by omega, by omega, rfl, o.take j ++ o.drop j2, x, b3, ⟨hokn, by rw [hol]; omega, by rw [hol]; omega, hxb, hb3⟩, ?_⟩
          rw [hom, hol, ← hle]
          exact Le.s3 1064 280 [] rfl rfl (by simp) (by simp) (by simp) hXf2 (hxf x) rfl rfl rfl (by simp)
        · exact ⟨((o, x), b2), ⟨hok, ho0, Nat.le_refl _, hxb, hb2⟩, hback _ _ _ rfl rfl rfl rfl rfl rfl rfl rfl⟩
      · rintro ⟨⟨o2, x2⟩, b3⟩ ⟨g1, g2, g3, g4, g5⟩
        simp only at g1 g2 g3 g4 g5
        simp only
        clear hXl hXf hXg hX hxk' hxk
        have hXl : (o2.map sC).length = o2.length := List.length_map ..
        have hXf := sts_flat o2
        obtain ⟨X, hX⟩ : ∃ X, X = o2.map sC := ⟨_, rfl⟩
        rw [← hX] at hXl hXf ⊢
        have hsl := ref03_Seal_ok x2 g4
        obtain ⟨x3, hx3⟩ : ∃ x3 : Stm, x3 = { x2 with sk := x2.au, sd := digS x2 } := ⟨_, rfl⟩
        rw [← hx3] at hsl
        have g6 : StB x3 := by rw [hx3]; exact g4
        obtain ⟨e, he0, hchk⟩ := ref03_Check_ok x3 (by have := g6.2.2.1; omega) (by have := g6.2.2.2.1; omega)
        obtain ⟨r, b4, hb4, hone⟩ := One_any L b3 3 hl g5 (by decide) (by decide)
        refine awp_regc ⟨111, [(0, .pt 0 0 0), (5, .rs 32 0 o2.length), (6, .I n), (7, .pt 280 0 0)], [(0, some (dice L b3)), (32, some ⟨13, X, 0⟩), (280, some ⟨13, [sC x3], 0⟩)], 2200⟩ rfl ?_ ?_
        · simp
          refine call0e hsl (by simp) ?_
          simp [splice]
          exact Le.keep rfl (by simp) (by simp) (by simp)
        obtain ⟨b5, hb5, hb5'⟩ : ∃ b5, b5 ≤ L.length ∧ b5 = if e = 0 then b4 else b3 := by
          refine ⟨_, ?_, rfl⟩
          split
          · exact hb4
          · exact g5
        refine awp_regc ⟨111, [(0, .pt 0 0 0), (5, .rs 32 0 o2.length), (6, .I n), (7, .pt 280 0 0), (105, .B (decide (e = 0) && !r))], [(0, some (dice L b5)), (32, some ⟨13, X, 0⟩), (280, some ⟨13, [sC x3], 0⟩)], 2500⟩ rfl ?_ ?_
        · simp
          refine call0e hchk (by simp) ?_
          by_cases h1 : e = 0
          · have h1' : (e == 0) = true := by simp [h1]
            rw [if_pos h1] at hb5'
            simp [h1']
            refine callM1 (i := 0) rfl (e' := dice L b3) (by simp) hone (by simp) (by simp) ?_
            simp
            exact Le.keep rfl (by simp) (by simp [h1]) (by simp [hb5'])
          · have h1' : (e == 0) = false := by simp [h1]
            rw [if_neg h1] at hb5'
            simp [h1']
            exact Le.keep rfl (by simp) (by simp [h1]) (by simp [hb5'])
        refine awp_cond _ rfl (fun h5 => ?_) fun h5 => awp_skip ?_
        · have h6 : StOk x3 := he0.1 (by simp at h5; exact h5.1)
          have hom : (o2 ++ [x3]).map sC = X ++ [sC x3] := by rw [List.map_append, ← hX]; rfl
          have hol : (o2 ++ [x3]).length = o2.length + 1 := by simp
          have htk : List.take o2.length X = X := List.take_of_length_le (by omega)
          have hokn : okL (o2 ++ [x3]) := fun s hs => by
            rcases List.mem_append.1 hs with hs | hs
            · exact g1 s hs
            · rw [List.mem_singleton] at hs; rw [hs]; exact h6
          refine awp_reg rfl ?_
          simp [hXl, htk]
          refine ⟨by omega, by omega, o2 ++ [x3], b5, ⟨hokn, by rw [hol]; omega, by rw [hol]; omega, hb5⟩, ?_⟩
          rw [hom, hol]
          exact Le.go [(0, 0), (2524, 32)] [] rfl rfl (by simp) (by simp [hXf])
        · exact ⟨(o2, b5), ⟨g1, g2, by simp only; omega, hb5⟩, Le.keep rfl (by simp) (by simp) (by simp [hX])⟩
    · rintro ⟨o2, b6⟩ ⟨h1, h2, h3, h4⟩
      simp only at h1 h2 h3 h4
      have hwn : IntKind.i64.wrap ((n : Int) - 1) = ((n - 1 : Nat) : Int) := by rw [w64 (by omega) (by omega)]; omega
      have hXf2 := sts_flat o2
      refine awp_reg rfl ?_
      simp [hwn]
      exact ⟨o2, b6, n - 1, ⟨h1, h2, by omega, h4⟩, by omega, Le.go [(0, 0), (32, 32)] [] rfl rfl (by simp) (by simp [Function.comp_def])⟩
  rw [hX]
  refine rx (s := ?s9) [0, 4] [0, 32] [] rfl ?o9 ?q9
  case o9 => simp [Function.comp_def]; rfl
  exact awp_ret (PostX.mk (.inr rfl) (o, b) ⟨hok, by simp only; omega, hbl⟩ (RetOk.k1m 32 (by simp) rfl (by simp) (by simp [Function.comp_def]) (by simp [Function.comp_def])))
end Go.Proofs.Ytnphfkceoklkkaa
namespace Go.Proofs.Ytnphfkceoklkkaa
open Go
theorem Chain.okL {a : Int} {c : List Stm} (hc : Chain a c) : okL c := fun s hs => by
  obtain ⟨i, hi, rfl⟩ := List.mem_iff_getElem.1 hs
  exact (hc.1 i hi).ok
set_option maxHeartbeats 1000000 in
set_option maxRecDepth 100000 in
theorem Lists_any (L : List Int) (a : Nat) (A m : Nat) (hl : L.length ≤ 400) (ha : a ≤ L.length) (hA : A ≤ 100) (hm : m ≤ 100) : ∃ p : List Stm × Nat, (okL p.1 ∧ p.1.length ≤ 100000 ∧ p.2 ≤ L.length) ∧ ACalls Try.prog nmade_Dice_Lists [.pt 0 0 0, .I A, .I m] [dice L a] (.rs 1 0 p.1.length) [some (dice L p.2), some ⟨13, p.1.map sC, 0⟩] := by
  refine smade_Dice_Lists.acallsX (args := [.pt 0 0 0, .I A, .I m]) (hs := [dice L a]) (fun p => .rs 1 0 p.1.length) (fun p => [some (dice L p.2), some ⟨13, p.1.map sC, 0⟩]) (fun p : List Stm × Nat => okL p.1 ∧ p.1.length ≤ 100000 ∧ p.2 ≤ L.length) (Nat.le_of_ble_eq_true rfl) (Nat.le_of_ble_eq_true rfl) (fun _ => by simp) ?_
  show awp _ 1 _ _ ⟨23, [(0, .pt 0 0 0), (1, .I A), (2, .I m)], [(0, some (dice L a))], 16⟩
  refine rx (s := ?s1) [0, 1, 2] [0] [] rfl ?o1 ?q1
  case o1 => simp; rfl
  refine rx (s := ?s2) [0, 1, 2, 7] [0] [] rfl ?o2 ?q2
  case o2 => simp; rfl
  refine awp_seq ?_
  refine rx (s := ?s3) [0, 1, 2, 7, 8] [0] [] rfl ?o3 ?q3
  case o3 => simp; rfl
  refine awp_block ?_
  refine awp_loop (ι := (List Stm × Nat) × Nat) (fun p => ⟨23, [(0, .pt 0 0 0), (1, .I A), (2, .I m), (7, .rs 24 0 p.1.1.length), (8, .I p.2)], [(0, some (dice L p.1.2)), (24, some ⟨13, p.1.1.map sC, 0⟩)], 200⟩) (fun p => p.2 ≤ A ∧ okL p.1.1 ∧ p.1.1.length ≤ 110 * p.2 ∧ p.1.2 ≤ L.length) (fun p => A - p.2) (([], a), 0) ⟨Nat.zero_le _, fun s hs => by simp at hs, Nat.zero_le _, ha⟩ ?_ ?_
  · refine Le.lst [(0, 0)] [] [(24, 13)] rfl (by simp) (by simp) (by simp) (by simp) (by simp) (by simp) (by simp) (by simp [Up]) fun p hp e' he' => ?_
    simp only [List.mem_cons, List.not_mem_nil, or_false] at hp
    rcases hp with rfl | rfl
    · cases he'
      exact .inl ⟨(0, 0), by simp, rfl, _, rfl, EntUp.eq (by simp) (by simp)⟩
    · cases he'
      exact .inr ⟨by simp, by simp, rfl⟩
  rintro ⟨⟨o, b⟩, i⟩ ⟨hi, hok, hon, hbl⟩
  simp only at hi hok hon hbl
  simp only
  have hXl : (o.map sC).length = o.length := List.length_map ..
  have hXf := sts_flat o
  obtain ⟨X, hX⟩ : ∃ X, X = o.map sC := ⟨_, rfl⟩
  rw [← hX] at hXl hXf ⊢
  refine awp_seq ?_
  refine rk (s := ?s4) [0, 1, 2, 7, 8, 11] [0, 24] rfl ?o4 ?q4
  case o4 => simp; rfl
  refine awp_cond _ rfl (fun h => awp_skip ?_) fun h => awp_exit (hit ?_)
  · simp only [decide_eq_true_eq, Int.ofNat_lt] at h
    obtain ⟨⟨⟨c, b1⟩, ro⟩, ⟨hc1, hc2, hc3⟩, hch⟩ := Chain_any L b i m hl hbl hm
    simp only at hc1 hc2 hc3 hch
    obtain ⟨⟨d, b2⟩, ⟨hd1, hd2, hd3⟩, hsp⟩ := Spoil_any L b1 c hl hc3 hc1.okL hc2
    simp only at hd1 hd2 hd3 hsp
    have hom : (o ++ d).map sC = X ++ d.map sC := by rw [List.map_append, ← hX]
    have hol : (o ++ d).length = o.length + d.length := List.length_append ..
    have hXf2 := sts_flat (o ++ d)
    have hcf := sts_flat c
    have hcl : (c.map sC).length = c.length := List.length_map ..
    have hdf := sts_flat d
    have hdl : (d.map sC).length = d.length := List.length_map ..
    have hsc : sts c = .vs 13 false (c.map sC) := rfl
    rw [hom] at hXf2
    have hokn : okL (o ++ d) := fun s hs => by
      rcases List.mem_append.1 hs with hs | hs
      · exact hok s hs
      · exact hd1 s hs
    obtain ⟨C, hC⟩ : ∃ C, C = c.map sC := ⟨_, rfl⟩
    obtain ⟨D, hD⟩ : ∃ D, D = d.map sC := ⟨_, rfl⟩
    rw [← hC] at hcf hcl hch hsc
    rw [← hD] at hdf hdl hsp hom hXf2
    rw [hsc] at hsp
    have htX : List.take o.length X = X := List.take_of_length_le (by omega)
    have htC : List.take c.length C = C := List.take_of_length_le (by omega)
    have htD : List.take d.length D = D := List.take_of_length_le (by omega)
    refine awp_cut (ι := Unit) (fun _ => ⟨23, [(0, .pt 0 0 0), (1, .I A), (2, .I m), (7, .rs 24 0 (o.length + d.length)), (8, .I i)], [(0, some (dice L b2)), (24, some ⟨13, X ++ D, 0⟩)], 1000⟩) (fun _ => True) ?_ fun _ _ => ?_
    · refine awp_block ?_
      refine awp_reg rfl ?_
      simp
      refine callM1 (i := 0) rfl (e' := dice L b) (by simp) hch (by simp) (by simp) ?_
      simp [hcf]
      refine callM1s (i := 0) (j := 264) (by decide) (by decide) rfl rfl (e' := dice L b1) (by simp) hsp (by simp) (by simp [hcl, htC, hcf]) ?_
      simp [hXl, htX, hdl, htD, hdf]
      exact ⟨by omega, by omega, Le.go [(0, 0), (280, 24)] [] rfl rfl (by simp) (by simp [hXf, hdf])⟩
    have hwi := wr1 h (by omega)
    refine awp_reg rfl ?_
    simp [hwi]
    refine ⟨o ++ d, b2, i + 1, ⟨by omega, hokn, by rw [hol]; omega, hd3⟩, by omega, ?_⟩
    rw [hom, hol]
    exact Le.go [(0, 0), (24, 24)] [] rfl rfl (by simp) (by simp [hXf, hdf])
  rw [hX]
  refine rx (s := ?s9) [0, 6] [0, 24] [] rfl ?o9 ?q9
  case o9 => simp [Function.comp_def]; rfl
  exact awp_ret (PostX.mk (.inr rfl) (o, b) ⟨hok, by simp only; omega, hbl⟩ (RetOk.k1m 24 (by simp) rfl (by simp) (by simp [Function.comp_def]) (by simp [Function.comp_def])))
set_option maxHeartbeats 1000000 in
set_option maxRecDepth 100000 in
theorem Store_any (L : List Int) (a : Nat) (m : Nat) (hl : L.length ≤ 400) (ha : a ≤ L.length) (hm : m ≤ 100) : ∃ p : List Stm × Nat, (okL p.1 ∧ p.1.length ≤ 1000 ∧ p.2 ≤ L.length) ∧ ACalls Try.prog nmade_Dice_Store [.pt 0 0 0, .I m] [dice L a] (.agg [sts p.1]) [some (dice L p.2)] := by
  obtain ⟨y0, b0, ⟨hb0, hy1, _, hy2⟩, hn0⟩ := Next_any L a 5 hl ha (by decide)
  have hy3 := hy2 (by decide)
  obtain ⟨y, rfl⟩ : ∃ y : Nat, y0 = y := ⟨y0.toNat, by omega⟩
  obtain ⟨z, hz⟩ : ∃ z, z = 1 + y := ⟨_, rfl⟩
  have hwz : IntKind.i64.wrap (1 + (y : Int)) = (z : Int) := by rw [w64 (by omega) (by omega)]; omega
  obtain ⟨⟨l, b1⟩, ⟨hl1, hl2, hb1⟩, hli⟩ := Lists_any L b0 z m hl hb0 (by omega) hm
  simp only at hl1 hl2 hb1 hli
  obtain ⟨s, ⟨hs1, hs2⟩, hst⟩ := MadeStoreOf_any l hl2 fun x hx => (hl1 x hx).b
  refine ⟨(s, b1), ⟨hs2, hs1, hb1⟩, ?_⟩
  refine smade_Dice_Store.acalls (Nat.le_of_ble_eq_true rfl) (Nat.le_of_ble_eq_true rfl) (Nat.le_refl _) ?_
  show awp _ 1 _ _ ⟨12, [(0, .pt 0 0 0), (1, .I m)], [(0, some (dice L a))], 16⟩
  have hXl : (l.map sC).length = l.length := List.length_map ..
  have hXf := sts_flat l
  have hsc : sts l = .vs 13 false (l.map sC) := rfl
  obtain ⟨X, hX⟩ : ∃ X, X = l.map sC := ⟨_, rfl⟩
  rw [← hX] at hXl hXf hli hsc
  rw [hsc] at hst
  have htX : List.take l.length X = X := List.take_of_length_le (by omega)
  refine rx (s := ?s1) [0, 1, 4] [0, 16] [] rfl ?o1 ?q1
  case o1 => simp; rfl
  refine awp_regc ⟨12, [(4, .pv [sts s])], [(0, some (dice L b1))], 300⟩ rfl ?_ (awp_ret ⟨.inr rfl, RetOk.k1 rfl (by simp) (by simp)⟩)
  simp
  refine callM1 (i := 0) rfl (e' := dice L a) (by simp) hn0 (by simp) (by simp) ?_
  simp [hwz]
  refine callM1 (i := 0) rfl (e' := dice L b0) (by simp) hli (by simp) (by simp) ?_
  simp [hXf]
  refine call0r [64] hst (by simp [hXl, htX, hXf]) (by simp) ?_
  simp [splice, hXl]
  exact Le.go [(0, 0)] [16] rfl rfl (by simp) (by simp)
end Go.Proofs.Ytnphfkceoklkkaa
namespace Go.Proofs.Ytnphfkceoklkkaa
open Go
theorem outV {st : St} {X : List (List AV)} (hflat : ∀ ρ sn h m, X.map (List.map (conv ρ sn h (m + 1))) = X) (he : st.hp 0 = some ⟨7, X, 0⟩) : RetOk [] 1 st (.tup []) [some ⟨7, X, 0⟩] :=
  ⟨[], rfl, [], [], by simp [List.range, List.range.loop], by simp, by simp, by simp, by simp [List.range, List.range.loop, he, convE, hflat]⟩
theorem swap2_get {H G T : List Vch} {x y : Vch} {p q : Nat} (hp : H.length = p) (hq : p + 1 + G.length = q) : (rowsV (H ++ x :: (G ++ y :: T)))[p]? = some (vC x) ∧ (rowsV (H ++ x :: (G ++ y :: T)))[q]? = some (vC y) := by
  subst hp hq
  constructor
  · rw [List.getElem?_map, List.getElem?_append_right (by omega)]
    simp
  · rw [List.getElem?_map, List.getElem?_append_right (by omega)]
    have e : H.length + 1 + G.length - H.length = G.length + 1 := by omega
    rw [e, List.getElem?_cons_succ, List.getElem?_append_right (by omega)]
    simp
theorem swap2_set {H G T : List Vch} {x y : Vch} {p q : Nat} (hp : H.length = p) (hq : p + 1 + G.length = q) : ((rowsV (H ++ x :: (G ++ y :: T))).set p (vC y)).set q (vC x) = rowsV (H ++ y :: (G ++ x :: T)) := by
  subst hp hq
  have e1 : (rowsV (H ++ x :: (G ++ y :: T))).set H.length (vC y) = rowsV (H ++ y :: (G ++ y :: T)) := by simp [rowsV, List.set_append]
  rw [e1, rowsV, List.map_append, List.set_append_right _ _ (by simp; omega)]
  have e : H.length + 1 + G.length - (H.map vC).length = G.length + 1 := by simp; omega
  rw [e, List.map_cons, List.set_cons_succ, List.map_append, List.set_append_right _ _ (by simp)]
  simp
set_option maxHeartbeats 4000000 in
set_option maxRecDepth 100000 in
theorem swapRangeV_ok (f : FuncId) (capt : List AV) (hs : StillV capt) (P X Q Y R : List Vch) (n a b t : Nat) (hn : (P ++ (X ++ (Q ++ (Y ++ R)))).length = n) (ha : P.length = a) (hX : X.length = t) (hY : Y.length = t) (hb : a + t + Q.length = b) (hl : n ≤ 1000000) :
    ACalls Try.prog nslices_swapRangeCmpFunc_api_Vouch [.rs 0 0 n, .I a, .I b, .I t, .fn (.func f) [] capt] [⟨7, rowsV (P ++ (X ++ (Q ++ (Y ++ R)))), 0⟩] (.tup []) [some ⟨7, rowsV (P ++ (Y ++ (Q ++ (X ++ R)))), 0⟩] := by
  have hs2 : ∀ ρ sn h, capt.map (conv ρ sn h 2) = capt := fun _ _ _ => hs _ _ _ 1
  have hs3 : ∀ ρ sn h, capt.map (conv ρ sn h 3) = capt := fun _ _ _ => hs _ _ _ 2
  have hs4 : ∀ ρ sn h, capt.map (conv ρ sn h 4) = capt := fun _ _ _ => hs _ _ _ 3
  refine sslices_swapRangeCmpFunc_api_Vouch.acalls (Nat.le_of_ble_eq_true rfl) (Nat.le_of_ble_eq_true rfl) (Nat.le_of_ble_eq_true rfl) ?_
  show awp _ 1 _ _ ⟨38, [(0, .rs 0 0 n), (1, .I a), (2, .I b), (3, .I t), (4, .fn (.func f) [] capt)], [(0, some ⟨7, rowsV (P ++ (X ++ (Q ++ (Y ++ R)))), 0⟩)], 16⟩
  have hab : a + t ≤ b := by omega
  have hbn : b + t + R.length = n := by simp only [List.length_append] at hn; omega
  refine awp_regc ⟨38, [(0, .rs 0 0 n), (1, .I a), (2, .I b), (3, .I t), (10, .I (0 : Nat))], [(0, some ⟨7, rowsV (P ++ (X ++ (Q ++ (Y ++ R)))), 0⟩)], 24⟩ rfl ?_ ?_
  · simp
    exact Le.keep rfl (Nat.le_refl _) (by simp) (by simp)
  refine awp_block ?_
  obtain ⟨F, hF⟩ : ∃ F, F = P ++ (Y ++ (Q ++ (X ++ R))) := ⟨_, rfl⟩
  rw [← hF]
  refine awp_loop (ι := (List Vch × List Vch × List Vch × List Vch) × Nat) (fun q => ⟨38, [(0, .rs 0 0 n), (1, .I a), (2, .I b), (3, .I t), (10, .I q.2)], [(0, some ⟨7, rowsV (q.1.1 ++ (q.1.2.1 ++ (q.1.2.2.1 ++ (q.1.2.2.2 ++ R)))), 0⟩)], 24⟩)
    (fun q => q.1.1.length = a + q.2 ∧ q.1.2.1.length + q.2 = t ∧ q.1.2.2.2.length + q.2 = t ∧ a + t + q.1.2.2.1.length = b + q.2 ∧ F = q.1.1 ++ (q.1.2.2.2 ++ (q.1.2.2.1 ++ (q.1.2.1 ++ R)))) (fun q => t - q.2) ((P, X, Q, Y), 0) ⟨ha, hX, hY, hb, hF⟩ (Le.refl _ _) ?_
  rintro ⟨⟨P, X, Q, Y⟩, i⟩ ⟨h1, h2, h3, h4, h5⟩
  simp only at h1 h2 h3 h4 h5
  refine awp_seq ?_
  refine awp_regc ⟨38, [(0, .rs 0 0 n), (1, .I a), (2, .I b), (3, .I t), (10, .I i), (13, .B (decide (i < t)))], [(0, some ⟨7, rowsV (P ++ (X ++ (Q ++ (Y ++ R)))), 0⟩)], 48⟩ rfl ?_ ?_
  · generalize rowsV (P ++ (X ++ (Q ++ (Y ++ R)))) = Z at *
    simp
    exact Le.keep rfl (Nat.le_refl _) (by simp) (by simp)
  refine awp_cond _ rfl (fun h => awp_skip ?_) fun h => awp_exit (hit ?_)
  · simp only [decide_eq_true_eq] at h
    obtain ⟨x, X, rfl⟩ : ∃ x X', X = x :: X' := by cases X with | nil => simp at h2; omega | cons x X => exact ⟨x, X, rfl⟩
    obtain ⟨y, Y, rfl⟩ : ∃ x X', Y = x :: X' := by cases Y with | nil => simp at h3; omega | cons x X => exact ⟨x, X, rfl⟩
    simp only [List.length_cons] at h2 h3
    have hwi : IntKind.i64.wrap ((i : Int) + 1) = ((i + 1 : Nat) : Int) := by rw [w64 (by omega) (by omega)]; omega
    have hw1 : IntKind.i64.wrap ((a : Int) + (i : Int)) = ((a + i : Nat) : Int) := by rw [w64 (by omega) (by omega)]; omega
    have hw2 : IntKind.i64.wrap ((b : Int) + (i : Int)) = ((b + i : Nat) : Int) := by rw [w64 (by omega) (by omega)]; omega
    have e1 : P ++ (x :: X ++ (Q ++ (y :: Y ++ R))) = P ++ x :: ((X ++ Q) ++ y :: (Y ++ R)) := by simp
    have e2 : P ++ y :: ((X ++ Q) ++ x :: (Y ++ R)) = (P ++ [y]) ++ (X ++ ((Q ++ [x]) ++ (Y ++ R))) := by simp
    have hg := swap2_get (H := P) (G := X ++ Q) (T := Y ++ R) (x := x) (y := y) (p := a + i) (q := b + i) h1 (by rw [List.length_append]; omega)
    have hset := swap2_set (H := P) (G := X ++ Q) (T := Y ++ R) (x := x) (y := y) (p := a + i) (q := b + i) h1 (by rw [List.length_append]; omega)
    obtain ⟨g1, g2⟩ := hg
    rw [e2] at hset
    rw [e1]
    have hai : a + i < n := by omega
    have hbi : b + i < n := by omega
    have hpq : a + i ≠ b + i := by omega
    refine awp_cut (ι := Unit) (fun _ => ⟨38, [(0, .rs 0 0 n), (1, .I a), (2, .I b), (3, .I t), (10, .I i)], [(0, some ⟨7, rowsV ((P ++ [y]) ++ (X ++ ((Q ++ [x]) ++ (Y ++ R)))), 0⟩)], 400⟩) (fun _ => True) ?_ fun _ _ => ?_
    · generalize rowsV ((P ++ [y]) ++ (X ++ ((Q ++ [x]) ++ (Y ++ R)))) = Z2 at *
      generalize rowsV (P ++ x :: ((X ++ Q) ++ y :: (Y ++ R))) = Z at *
      generalize a + i = p at *
      generalize b + i = q at *
      have g3 : (Z.set p (vC y))[q]? = some (vC y) := by
        rw [List.getElem?_set, if_neg hpq]
        exact g2
      refine awp_block ?_
      refine awp_drw rfl ?_
      simp [hw1, hw2, hai, hbi, g1, g2, g3, splice]
      exact ⟨rfl, Le.keep rfl (by simp) (by simp) (by simp; exact hset)⟩
    refine awp_reg rfl ?_
    have hf2 := rowsV_flat ((P ++ [y]) ++ (X ++ ((Q ++ [x]) ++ (Y ++ R))))
    have hne : ∃ Z, Z = rowsV ((P ++ [y]) ++ (X ++ ((Q ++ [x]) ++ (Y ++ R)))) := ⟨_, rfl⟩
    obtain ⟨Z, hZ⟩ := hne
    rw [← hZ] at hf2 ⊢
    simp [hwi]
    refine ⟨P ++ [y], X, Q ++ [x], Y, i + 1, ⟨by simp; omega, by omega, by omega, by simp; omega, by rw [h5]; simp⟩, by omega, ?_⟩
    exact Le.N1 hf2 rfl (by simp) (by simp [hZ]) rfl (by simp)
  simp only [decide_eq_false_iff_not] at h
  have hx0 : X = [] := List.eq_nil_of_length_eq_zero (by omega)
  have hy0 : Y = [] := List.eq_nil_of_length_eq_zero (by omega)
  have hfin : P ++ (X ++ (Q ++ (Y ++ R))) = F := by rw [h5, hx0, hy0]
  rw [hfin]
  exact ⟨.inl rfl, outV (rowsV_flat F) rfl⟩
end Go.Proofs.Ytnphfkceoklkkaa
namespace Go.Proofs.Ytnphfkceoklkkaa
open Go
set_option maxHeartbeats 4000000 in
set_option maxRecDepth 100000 in
theorem rotateV_ok (f : FuncId) (capt : List AV) (hs : StillV capt) (A X Y B : List Vch) (n a m b : Nat) (hn : (A ++ (X ++ (Y ++ B))).length = n) (ha : A.length = a) (hm : a + X.length = m) (hb : m + Y.length = b) (hX : 0 < X.length) (hY : 0 < Y.length) (hl : n ≤ 1000000) :
    ACalls Try.prog nslices_rotateCmpFunc_api_Vouch [.rs 0 0 n, .I a, .I m, .I b, .fn (.func f) [] capt] [⟨7, rowsV (A ++ (X ++ (Y ++ B))), 0⟩] (.tup []) [some ⟨7, rowsV (A ++ (Y ++ (X ++ B))), 0⟩] := by
  have hs2 : ∀ ρ sn h, capt.map (conv ρ sn h 2) = capt := fun _ _ _ => hs _ _ _ 1
  have hs3 : ∀ ρ sn h, capt.map (conv ρ sn h 3) = capt := fun _ _ _ => hs _ _ _ 2
  have hs4 : ∀ ρ sn h, capt.map (conv ρ sn h 4) = capt := fun _ _ _ => hs _ _ _ 3
  refine sslices_rotateCmpFunc_api_Vouch.acalls (Nat.le_of_ble_eq_true rfl) (Nat.le_of_ble_eq_true rfl) (Nat.le_of_ble_eq_true rfl) ?_
  show awp _ 1 _ _ ⟨58, [(0, .rs 0 0 n), (1, .I a), (2, .I m), (3, .I b), (4, .fn (.func f) [] capt)], [(0, some ⟨7, rowsV (A ++ (X ++ (Y ++ B))), 0⟩)], 16⟩
  have hbn : b + B.length = n := by simp only [List.length_append] at hn; omega
  obtain ⟨F, hF⟩ : ∃ F, F = A ++ (Y ++ (X ++ B)) := ⟨_, rfl⟩
  rw [← hF]
  obtain ⟨i, hi⟩ : ∃ i, i = X.length := ⟨_, rfl⟩
  obtain ⟨j, hj⟩ : ∃ i, i = Y.length := ⟨_, rfl⟩
  have hw1 : IntKind.i64.wrap ((m : Int) - (a : Int)) = (i : Int) := by rw [w64 (by omega) (by omega)]; omega
  have hw2 : IntKind.i64.wrap ((b : Int) - (m : Int)) = (j : Int) := by rw [w64 (by omega) (by omega)]; omega
  refine awp_regc ⟨58, [(0, .rs 0 0 n), (2, .I m), (3, .I b), (4, .fn (.func f) [] capt), (10, .I i)], [(0, some ⟨7, rowsV (A ++ (X ++ (Y ++ B))), 0⟩)], 48⟩ rfl ?_ ?_
  · generalize rowsV (A ++ (X ++ (Y ++ B))) = Z at *
    simp [hw1]
    exact Le.keep rfl (Nat.le_refl _) (by simp) (by simp)
  refine awp_regc ⟨58, [(0, .rs 0 0 n), (2, .I m), (4, .fn (.func f) [] capt), (10, .I i), (11, .I j)], [(0, some ⟨7, rowsV (A ++ (X ++ (Y ++ B))), 0⟩)], 80⟩ rfl ?_ ?_
  · generalize rowsV (A ++ (X ++ (Y ++ B))) = Z at *
    simp [hw2]
    exact Le.keep rfl (Nat.le_refl _) (by simp) (by simp)
  refine awp_seq ?_
  refine awp_block ?_
  refine awp_loop (ι := (List Vch × List Vch × List Vch × List Vch) × Nat × Nat) (fun q => ⟨58, [(0, .rs 0 0 n), (2, .I m), (4, .fn (.func f) [] capt), (10, .I q.2.1), (11, .I q.2.2)], [(0, some ⟨7, rowsV (q.1.1 ++ (q.1.2.1 ++ (q.1.2.2.1 ++ q.1.2.2.2))), 0⟩)], 80⟩)
    (fun q => q.1.1.length + q.2.1 = m ∧ q.1.2.1.length = q.2.1 ∧ q.1.2.2.1.length = q.2.2 ∧ 0 < q.2.1 ∧ 0 < q.2.2 ∧ m + q.2.2 + q.1.2.2.2.length = n ∧ F = q.1.1 ++ (q.1.2.2.1 ++ (q.1.2.1 ++ q.1.2.2.2))) (fun q => q.2.1 + q.2.2) ((A, X, Y, B), i, j) ⟨by show A.length + i = m; omega, hi.symm, hj.symm, by show 0 < i; omega, by show 0 < j; omega, by show m + j + B.length = n; omega, hF⟩ (Le.refl _ _) ?_
  rintro ⟨⟨A, X, Y, B⟩, i, j⟩ ⟨h1, h2, h3, h4, h5, h6, h7⟩
  simp only at h1 h2 h3 h4 h5 h6 h7
  refine awp_seq ?_
  refine awp_regc ⟨58, [(0, .rs 0 0 n), (2, .I m), (4, .fn (.func f) [] capt), (10, .I i), (11, .I j), (20, .B (decide (i ≠ j)))], [(0, some ⟨7, rowsV (A ++ (X ++ (Y ++ B))), 0⟩)], 104⟩ rfl ?_ ?_
  · generalize rowsV (A ++ (X ++ (Y ++ B))) = Z at *
    simp
    exact Le.keep rfl (Nat.le_refl _) (by simp <;> rw [Bool.eq_iff_iff] <;> simp <;> omega) (by simp)
  have hwi : IntKind.i64.wrap ((m : Int) - (i : Int)) = ((m - i : Nat) : Int) := by rw [w64 (by omega) (by omega)]; omega
  refine awp_cond _ rfl (fun h => awp_skip ?_) fun h => awp_exit (hit ?_)
  · simp only [decide_eq_true_eq] at h
    refine awp_block ?_
    refine awp_regc ⟨58, [(0, .rs 0 0 n), (2, .I m), (4, .fn (.func f) [] capt), (10, .I i), (11, .I j), (23, .B (decide (j < i)))], [(0, some ⟨7, rowsV (A ++ (X ++ (Y ++ B))), 0⟩)], 128⟩ rfl ?_ ?_
    · generalize rowsV (A ++ (X ++ (Y ++ B))) = Z at *
      simp
      exact Le.keep rfl (Nat.le_refl _) (by simp) (by simp)
    refine awp_cond _ rfl (fun h8 => ?_) fun h8 => ?_
    · simp only [decide_eq_true_eq] at h8
      obtain ⟨X1, X2, rfl, hX1⟩ : ∃ X1 X2, X = X1 ++ X2 ∧ X1.length = j := ⟨X.take j, X.drop j, (List.take_append_drop j X).symm, by rw [List.length_take]; omega⟩
      rw [List.length_append] at h2
      have hsw := swapRangeV_ok f capt hs A X1 X2 Y B n (m - i) m j (by simp only [List.length_append]; omega) (by omega) hX1 h3 (by omega) hl
      have e1 : A ++ (X1 ++ X2 ++ (Y ++ B)) = A ++ (X1 ++ (X2 ++ (Y ++ B))) := by simp
      have e2 : A ++ (Y ++ (X2 ++ (X1 ++ B))) = (A ++ Y) ++ (X2 ++ (X1 ++ B)) := by simp
      rw [e2] at hsw
      rw [e1]
      have hf1 := rowsV_flat (A ++ (X1 ++ (X2 ++ (Y ++ B))))
      refine awp_regc ⟨58, [(0, .rs 0 0 n), (2, .I m), (4, .fn (.func f) [] capt), (10, .I i), (11, .I j)], [(0, some ⟨7, rowsV ((A ++ Y) ++ (X2 ++ (X1 ++ B))), 0⟩)], 192⟩ rfl ?_ ?_
      · have hf2 := rowsV_flat ((A ++ Y) ++ (X2 ++ (X1 ++ B)))
        generalize rowsV ((A ++ Y) ++ (X2 ++ (X1 ++ B))) = Z2 at *
        generalize rowsV (A ++ (X1 ++ (X2 ++ (Y ++ B)))) = Z at *
        simp [hwi]
        refine callM1 (i := 0) rfl (e' := ⟨7, Z, 0⟩) (by simp [convE, hf1]) hsw (by simp) ?_ ?_
        · simp [hs2, hs3, hs4]
        simp [hf2]
        exact Le.keep rfl (Nat.le_refl _) (by simp) (by simp)
      have hwj : IntKind.i64.wrap ((i : Int) - (j : Int)) = ((i - j : Nat) : Int) := by rw [w64 (by omega) (by omega)]; omega
      have hf2 := rowsV_flat ((A ++ Y) ++ (X2 ++ (X1 ++ B)))
      obtain ⟨Z, hZ⟩ : ∃ Z, Z = rowsV ((A ++ Y) ++ (X2 ++ (X1 ++ B))) := ⟨_, rfl⟩
      rw [← hZ] at hf2 ⊢
      refine awp_reg rfl ?_
      simp [hwj]
      refine ⟨A ++ Y, X2, X1, B, i - j, j, ⟨by rw [List.length_append]; omega, by omega, hX1, by omega, h5, by omega, by rw [h7]; simp⟩, by omega, ?_⟩
      exact Le.N1 hf2 rfl (by simp) (by simp [hZ]) rfl (by simp [hs2, hs3, hs4])
    · simp only [decide_eq_false_iff_not] at h8
      obtain ⟨Y1, Y2, rfl, hY1⟩ : ∃ X1 X2, Y = X1 ++ X2 ∧ X1.length = j - i := ⟨Y.take (j - i), Y.drop (j - i), (List.take_append_drop _ Y).symm, by rw [List.length_take]; omega⟩
      rw [List.length_append] at h3
      have hsw := swapRangeV_ok f capt hs A X Y1 Y2 B n (m - i) (m + j - i) i (by simp only [List.length_append]; omega) (by omega) h2 (by omega) (by omega) hl
      have e1 : A ++ (X ++ (Y1 ++ Y2 ++ B)) = A ++ (X ++ (Y1 ++ (Y2 ++ B))) := by simp
      rw [e1]
      have hf1 := rowsV_flat (A ++ (X ++ (Y1 ++ (Y2 ++ B))))
      have hwk : IntKind.i64.wrap ((m : Int) + (j : Int)) = ((m + j : Nat) : Int) := by rw [w64 (by omega) (by omega)]; omega
      have hwk2 : IntKind.i64.wrap (((m + j : Nat) : Int) - (i : Int)) = ((m + j - i : Nat) : Int) := by rw [w64 (by omega) (by omega)]; omega
      refine awp_regc ⟨58, [(0, .rs 0 0 n), (2, .I m), (4, .fn (.func f) [] capt), (10, .I i), (11, .I j)], [(0, some ⟨7, rowsV (A ++ (Y2 ++ (Y1 ++ (X ++ B)))), 0⟩)], 224⟩ rfl ?_ ?_
      · have hf2 := rowsV_flat (A ++ (Y2 ++ (Y1 ++ (X ++ B))))
        generalize rowsV (A ++ (Y2 ++ (Y1 ++ (X ++ B)))) = Z2 at *
        generalize rowsV (A ++ (X ++ (Y1 ++ (Y2 ++ B)))) = Z at *
        generalize m + j = mj at *
        generalize mj - i = mji at *
        generalize m - i = mi at *
        simp [hwi, hwk, hwk2]
        refine callM1 (i := 0) rfl (e' := ⟨7, Z, 0⟩) (by simp [convE, hf1]) hsw (by simp) ?_ ?_
        · simp [hs2, hs3, hs4]
        simp [hf2]
        exact Le.keep rfl (Nat.le_refl _) (by simp) (by simp)
      have hwj : IntKind.i64.wrap ((j : Int) - (i : Int)) = ((j - i : Nat) : Int) := by rw [w64 (by omega) (by omega)]; omega
      have hf2 := rowsV_flat (A ++ (Y2 ++ (Y1 ++ (X ++ B))))
      obtain ⟨Z, hZ⟩ : ∃ Z, Z = rowsV (A ++ (Y2 ++ (Y1 ++ (X ++ B)))) := ⟨_, rfl⟩
      rw [← hZ] at hf2 ⊢
      refine awp_reg rfl ?_
      simp [hwj]
      refine ⟨A, Y2, Y1, X ++ B, i, j - i, ⟨h1, by omega, hY1, h4, by omega, by rw [List.length_append]; omega, by rw [h7]; simp⟩, by omega, ?_⟩
      exact Le.N1 hf2 rfl (by simp) (by simp [hZ]) rfl (by simp [hs2, hs3, hs4])
  have hij : i = j := by simpa using h
  subst hij
  have hsw := swapRangeV_ok f capt hs A X [] Y B n (m - i) m i (by simp only [List.length_append, List.length_nil]; omega) (by omega) h2 h3 (by simp; omega) hl
  simp only [List.nil_append] at hsw
  rw [← h7] at hsw
  have hf1 := rowsV_flat (A ++ (X ++ (Y ++ B)))
  have hf2 := rowsV_flat F
  generalize rowsV F = Z2 at *
  generalize rowsV (A ++ (X ++ (Y ++ B))) = Z at *
  refine awp_run (s := ?s9) rfl ?o9 ?q9
  case o9 =>
    simp [hwi]
    refine callM1 (i := 0) rfl (e' := ⟨7, Z, 0⟩) (by simp [convE, hf1]) hsw (by simp) ?_ ?_
    · simp [hs2, hs3, hs4]
    simp [hf2]
    rfl
  exact ⟨.inl rfl, outV hf2 rfl⟩
end Go.Proofs.Ytnphfkceoklkkaa
