/- Texts of this claim, merged. -/
import Derived.Test.YtnphfkceoklkkaaGm12
set_option linter.unusedSimpArgs false
set_option linter.unusedVariables false
set_option linter.unusedSectionVars false
/- The law of graphs: its helpers. -/
namespace Go.Proofs.Ytnphfkceoklkkaa
open Go

theorem EqG.rfl' (a : Gr) : EqG a a := ⟨rfl, rfl, rfl⟩

theorem law11_same_ok (a b : Gr) (e f : Int) (hl : a.edges.length ≤ 140737488355328) (hl2 : a.gone.length ≤ 140737488355328) : ACalls Try.prog nlaw11_same [eG a, eG b, .I e, .I f] [] (.B (decide (e = f ∧ EqG a b))) [] := by
  refine slaw11_same.acalls (Nat.le_of_ble_eq_true rfl) (Nat.le_of_ble_eq_true rfl) (Nat.le_refl _) ?_
  show awp _ 0 _ _ ⟨17, [(0, eG a), (1, eG b), (2, .I e), (3, .I f)], [], 16⟩
  refine awp_regc ⟨17, [(2, .I e), (3, .I f), (4, .pv (gC a)), (5, .pv (gC b))], [], 16⟩ rfl ?_ ?_
  · simp
    exact Le.snap [16, 24] rfl rfl (by simp)
  refine awp_regc ⟨17, [(8, .B (decide (e = f ∧ EqG a b)))], [], 16⟩ rfl ?_ ?_
  · simp
    repeat' first
      | (refine callf nref11_Same rfl ?_; refine call0e (ref11_Same_ok a b hl hl2) rfl ?_; simp)
      | (refine gcase (fun hb => ?_) (fun hb => ?_) <;> (try rw [hb]) <;> (try simp at hb) <;> simp [*])
    all_goals exact Le.snap [] rfl rfl (by simp <;> exact wkB (by (try simp at *); grind))
  refine awp_ret ?_
  exact ⟨.inr rfl, RetOk.one (by simp)⟩

theorem withR_le (g : Gr) (e : Ed) (h : g.edges.length * 24 ≤ 140737488355000) (h2 : g.gone.length ≤ 140737488355328) : (withR g e).1.edges.length ≤ 140737488355328 ∧ (withR g e).1.gone.length ≤ 140737488355328 := by
  unfold withR
  repeat' split
  all_goals (simp [emptyG, plusE] <;> omega)

theorem withoutR_le (g : Gr) (f t : Int) (h : g.edges.length * 24 ≤ 140737488355000) (h2 : g.gone.length ≤ 140737488355328) : (withoutR g f t).1.edges.length ≤ 140737488355328 ∧ (withoutR g f t).1.gone.length ≤ 140737488355328 := by
  unfold withoutR
  repeat' split
  all_goals (simp [emptyG, minusE] <;> omega)

open Classical in
set_option maxRecDepth 100000 in
theorem law11_agree_ok (g : Gr) (x : Ed) (hl : g.edges.length * 24 ≤ 140737488355000) (hl2 : g.gone.length * 8 ≤ 140737488355328) : ACalls Try.prog nlaw11_agree [eG g, eE x] [] (.B true) [] := by
  refine slaw11_agree.acalls (Nat.le_of_ble_eq_true rfl) (Nat.le_of_ble_eq_true rfl) (Nat.le_refl _) ?_
  show awp _ 0 _ _ ⟨62, [(0, eG g), (1, eE x)], [], 16⟩
  have hw := withR_le g x hl (by omega)
  have hv := withoutR_le g x.f x.t hl (by omega)
  refine awp_regc ⟨62, [(2, .pv (gC g)), (3, .pv (eC x))], [], 16⟩ rfl ?_ ?_
  · simp
    exact Le.snap [16, 24] rfl rfl (by simp)
  refine awp_regc ⟨62, [(2, .pv (gC g)), (3, .pv (eC x)), (5, .pv (gC (withR g x).1)), (6, .I (withR g x).2)], [], 16⟩ rfl ?_ ?_
  · simp
    repeat' first
      | (refine callf ngraph_With rfl ?_; refine call0e (graph_With_ok g x (by omega) hl2) rfl ?_; simp)
    all_goals exact Le.snap [64] rfl rfl (by simp)
  refine awp_regc ⟨62, [(2, .pv (gC g)), (3, .pv (eC x)), (5, .pv (gC (withR g x).1)), (6, .I (withR g x).2), (7, .pv (gC (withR g x).1)), (8, .I (withR g x).2)], [], 16⟩ rfl ?_ ?_
  · simp
    repeat' first
      | (refine callf nref11_With rfl ?_; refine call0e (ref11_With_ok g x (by omega) hl2) rfl ?_; simp)
    all_goals exact Le.snap [64] rfl rfl (by simp)
  refine awp_regc ⟨62, [(2, .pv (gC g)), (3, .pv (eC x)), (5, .pv (gC (withR g x).1)), (6, .I (withR g x).2), (7, .pv (gC (withR g x).1)), (8, .I (withR g x).2), (9, .pv (gC (withoutR g x.f x.t).1)), (10, .I (withoutR g x.f x.t).2)], [], 16⟩ rfl ?_ ?_
  · simp
    repeat' first
      | (refine callf ngraph_Without rfl ?_; refine call0e (graph_Without_ok g x.f x.t (by omega) hl2) rfl ?_; simp)
    all_goals exact Le.snap [88] rfl rfl (by simp)
  refine awp_regc ⟨62, [(2, .pv (gC g)), (5, .pv (gC (withR g x).1)), (6, .I (withR g x).2), (7, .pv (gC (withR g x).1)), (8, .I (withR g x).2), (9, .pv (gC (withoutR g x.f x.t).1)), (10, .I (withoutR g x.f x.t).2), (11, .pv (gC (withoutR g x.f x.t).1)), (12, .I (withoutR g x.f x.t).2)], [], 16⟩ rfl ?_ ?_
  · simp
    repeat' first
      | (refine callf nref11_Without rfl ?_; refine call0e (ref11_Without_ok g x.f x.t (by omega) hl2) rfl ?_; simp)
    all_goals exact Le.snap [88] rfl rfl (by simp)
  refine awp_dregc ⟨62, [(4, .B true)], [], 16⟩ rfl ?_ ?_
  · simp
    repeat' first
      | (refine callf ngraph_Check rfl ?_; refine call0e (graph_Check_ok g (by omega) (by omega)) rfl ?_; simp)
      | (refine callf nref11_Check rfl ?_; refine call0e (ref11_Check_ok g (by omega) (by omega)) rfl ?_; simp)
      | (refine callf nlaw11_same rfl ?_; refine call0e (law11_same_ok _ _ _ _ (by first | exact hw.1 | exact hv.1) (by first | exact hw.2 | exact hv.2)) rfl ?_; simp)
      | (refine gcase (fun hb => ?_) (fun hb => ?_) <;> (try rw [hb]) <;> (try simp at hb) <;> simp [*])
    all_goals exact ⟨rfl, Le.snap [] rfl rfl (by simp <;> exact wkB (by (try simp at *); grind [EqG]))⟩
  refine awp_ret ?_
  exact ⟨.inr rfl, RetOk.one (by simp)⟩

abbrev gA : Gr := ⟨3, [⟨0, 2, 2⟩], []⟩
abbrev gN : Gr := ⟨3, [], []⟩

theorem gN_ok : GrOk gN := by
  refine ⟨⟨by decide, by decide, by decide, fun i h => absurd h (by simp)⟩, fun i h => absurd h (by simp)⟩

theorem gA_ok : GrOk gA := by
  refine ⟨⟨by decide, by decide, by decide, fun i h => absurd h (by simp)⟩, fun i h => ?_⟩
  obtain rfl : i = 0 := by simpa using h
  refine ⟨?_, ?_, ?_, fun h => by omega⟩
  · show Fits gA ⟨0, 2, 2⟩
    decide
  · show (1 : Int) ≤ 2
    decide
  · show (2 : Int) ≤ 3
    decide

theorem g65_bad : ¬ GrOk ⟨65, [], []⟩ := fun h => by have := h.1.2.1; simp at this

theorem withR_N : withR gN ⟨0, 2, 2⟩ = (gA, 0) := by
  have h1 : Fits gN ⟨0, 2, 2⟩ := by decide
  have h2 : ¬ AtE gN.edges (idxE gN.edges ⟨0, 2, 0⟩) 0 2 := by decide
  have h3 : plusE gN ⟨0, 2, 2⟩ = gA := rfl
  unfold withR
  simp only [gN_ok, h1, not_true_eq_false, if_false, h3]
  rw [if_neg (by decide), if_neg (by simpa using h2), if_neg (by decide)]

theorem withoutR_A : withoutR gA 0 2 = (gN, 0) := by
  have h2 : AtE gA.edges (idxE gA.edges ⟨0, 2, 0⟩) 0 2 := by decide
  have h3 : minusE gA 0 2 = gN := rfl
  unfold withoutR
  simp only [gA_ok, h2, not_true_eq_false, if_false, h3]

open Classical in
set_option maxRecDepth 100000 in
theorem law11_awake_ok : ACalls Try.prog nlaw11_awake [] [] (.B true) [] := by
  refine slaw11_awake.acalls (Nat.le_of_ble_eq_true rfl) (Nat.le_of_ble_eq_true rfl) (Nat.le_refl _) ?_
  show awp _ 0 _ _ ⟨64, [], [], 16⟩
  refine awp_seq ?_
  refine awp_run (s := ?s1) rfl ?o1 ?q1
  case o1 => simp; rfl
  refine awp_regc ⟨64, [(1, .pv (gC gA)), (2, .I 0)], [], 16⟩ rfl ?_ ?_
  · simp
    repeat' first
      | (refine callf ngraph_With rfl ?_; refine call0 (graph_With_ok gN ⟨0, 2, 2⟩ (by simp) (by simp)) (by simp; exact wkA3 (.refl _) (.nil _ _) (.nil _ _)) ?_; simp [withR_N])
    all_goals exact Le.snap [72] rfl rfl (by simp; exact .refl _)
  refine awp_regc ⟨64, [(1, .pv (gC gA)), (2, .I 0), (3, .pv (gC gN)), (4, .I 0)], [], 16⟩ rfl ?_ ?_
  · simp
    repeat' first
      | (refine callf ngraph_Without rfl ?_; refine call0e (graph_Without_ok gA 0 2 (by simp) (by simp)) rfl ?_; simp [withoutR_A])
    all_goals exact Le.snap [56] rfl rfl (by simp; exact .refl _)
  have hO : outs [⟨0, 2, 2⟩] 0 = [2] := rfl
  have hI : inns [⟨0, 2, 2⟩] 2 = [0] := rfl
  refine awp_regc ⟨64, [(1, .pv (gC gA)), (2, .I 0), (3, .pv (gC gN)), (4, .I 0), (5, .vs 1 false [[.I 2]])], [], 16⟩ rfl ?_ ?_
  · simp
    refine callN1 (graph_Out_ok gA 0 (by simp)) rfl ?_
    simp [hO]
    exact Le.snap [24] rfl rfl (by simp)
  refine awp_regc ⟨64, [(0, .B true)], [], 16⟩ rfl ?_ ?_
  · simp
    repeat' first
      | (refine callf ngraph_Check rfl ?_; refine call0e (graph_Check_ok gA (by simp) (by simp)) rfl ?_; simp [gA_ok])
      | (refine callf ngraph_Check rfl ?_; refine call0 (graph_Check_ok ⟨65, [], []⟩ (by simp) (by simp)) (by simp; exact wkA3 (.refl _) (.nil _ _) (.nil _ _)) ?_; simp [g65_bad])
      | (refine callf ngraph_In rfl ?_; refine callN1 (graph_In_ok gA 2 (by simp)) rfl ?_; simp [hI])
      | (refine gcase (fun hb => ?_) (fun hb => ?_) <;> (try rw [hb]) <;> (try simp at hb) <;> simp [*])
    all_goals exact Le.snap [] rfl rfl (by simp <;> exact wkB (by (try simp at *); grind))
  refine awp_ret ?_
  exact ⟨.inr rfl, RetOk.one (by simp)⟩

end Go.Proofs.Ytnphfkceoklkkaa

/- The law of an edge that comes and goes: the walk. -/
namespace Go.Proofs.Ytnphfkceoklkkaa
open Go

abbrev sorted (l : List Int) : List Int := l.mergeSort fun x y => decide (x ≤ y)

theorem sorted_len (l : List Int) : (sorted l).length = l.length := List.length_mergeSort ..
theorem mem_sorted {l : List Int} {x : Int} : x ∈ sorted l ↔ x ∈ l := List.mem_mergeSort

set_option maxRecDepth 100000 in
theorem law11_GraphUndone_ok (L : List Int) : ACalls Try.prog nlaw11_GraphUndone [ints L] [] (.B true) [] := by
  refine slaw11_GraphUndone.acalls (Nat.le_of_ble_eq_true rfl) (Nat.le_of_ble_eq_true rfl) (Nat.le_refl _) ?_
  show awp _ 0 _ _ ⟨124, [(0, ints L)], [], 16⟩
  refine awp_seq ?_
  refine awp_run (s := ?s1) rfl ?o1 ?q1
  case o1 => simp; rfl
  refine awp_seq ?_
  refine awp_regc ⟨124, [(0, ints L), (17, .B (decide (¬ L.length ≤ 400)))], [], 48⟩ rfl ?_ ?_
  · simp
    refine call0e (Light_ok L) rfl ?_
    simp
    exact Le.snap [] rfl rfl (by simp <;> exact wkB (by rw [Bool.eq_iff_iff]; simp))
  refine awp_cond _ rfl (fun h => ?_) fun h => awp_skip ?_
  · refine awp_seq ?_
    refine awp_run (s := ?s2) rfl ?o2 ?q2
    case o2 => simp; refine call0e (law11_awake_ok) rfl ?_; simp; rfl
    refine awp_ret ?_
    exact ⟨.inr rfl, RetOk.one (by simp)⟩
  have hl : L.length ≤ 400 := by simpa using h
  have hm := graphD_made L 0 (Nat.zero_le _)
  obtain ⟨g, hg⟩ : ∃ g, g = (graphD L 0).1 := ⟨_, rfl⟩
  obtain ⟨a, ha⟩ : ∃ a, a = (graphD L 0).2 := ⟨_, rfl⟩
  have hok := hm.ok
  have hlo := hm.lo
  have hhi := hm.hi
  have h500 := hok.1.2.2.1
  have hfew := hm.few
  have hal := hm.at_
  rw [← hg] at hok hlo hhi h500 hfew
  rw [← ha] at hal
  have hgr := Graph_ok L 0 hl (Nat.zero_le _)
  rw [← hg, ← ha] at hgr
  clear hm
  refine awp_regc ⟨124, [(3, .pt 56 0 0)], [(56, some (dice L 0))], 72⟩ rfl ?_ ?_
  · simp
    refine callN1 (Roll_ok L) rfl ?_
    simp [Function.comp_def]
    exact Le.keep rfl (Nat.le_refl _) (by simp) (by simp)
  refine awp_regc ⟨124, [(3, .pt 56 0 0), (4, .pv (gC g))], [(56, some (dice L a))], 104⟩ rfl ?_ ?_
  · simp
    refine callM1 (i := 56) rfl (e' := dice L 0) (by simp [Function.comp_def]) hgr (by simp) (by simp) ?_
    simp [Function.comp_def]
    refine Le.ents [(56, 56)] [88] rfl (by simp) (by simp) (by simp) (by simp) (by simp) (by simp) fun p hp => ?_
    simp at hp
    subst hp
    exact ⟨56, _, _, rfl, by simp, rfl, EntUp.eq (by simp [Function.comp_def]) (by simp)⟩
  have q1 := nextD_le (n := g.size) hal
  have q2 := nextD_le (n := g.size) q1
  have l3 := nextD_lt (L := L) (a := (nextD L (nextD L a g.size).2 g.size).2) (n := 3) (by omega)
  have hwv : IntKind.i64.wrap (1 + (nextD L (nextD L (nextD L a g.size).2 g.size).2 3).1) = 1 + (nextD L (nextD L (nextD L a g.size).2 g.size).2 3).1 := w64 (by omega) (by omega)
  obtain ⟨x, hx⟩ : ∃ x : Ed, x = ⟨(nextD L a g.size).1, (nextD L (nextD L a g.size).2 g.size).1, 1 + (nextD L (nextD L (nextD L a g.size).2 g.size).2 3).1⟩ := ⟨_, rfl⟩
  refine awp_dregc ⟨124, [(4, .pv (gC g)), (5, .pv (eC x))], [], 216⟩ rfl ?_ ?_
  · simp
    refine callM1 (i := 56) rfl (e' := dice L a) (by simp [Function.comp_def]) (Next1_ok L a g.size hl hal (by omega)) (by simp) (by simp) ?_
    simp [Function.comp_def]
    refine callM1 (i := 56) rfl (e' := dice L (nextD L a g.size).2) (by simp [Function.comp_def]) (Next1_ok L _ g.size hl q1 (by omega)) (by simp) (by simp) ?_
    simp [Function.comp_def]
    refine callM1 (i := 56) rfl (e' := dice L (nextD L (nextD L a g.size).2 g.size).2) (by simp [Function.comp_def]) (Next1_ok L _ 3 hl q2 (by omega)) (by simp) (by simp) ?_
    simp [Function.comp_def, hwv]
    exact ⟨rfl, Le.snap [200] rfl rfl (by simp [hx])⟩
  clear hx
  have hwr := graph_With_ok g x (by omega) (by omega)
  have hwl := withR_le g x (by omega) (by omega)
  refine awp_cut (ι := Unit) (fun _ => ⟨124, [(4, .pv (gC g))], [], 16⟩) (fun _ => True) ?_ fun _ _ => ?_
  · refine awp_regc ⟨124, [(4, .pv (gC g)), (5, .pv (eC x)), (6, .pv (gC (withR g x).1)), (7, .I (withR g x).2)], [], 16⟩ rfl ?_ ?_
    · simp
      refine call0e hwr rfl ?_
      simp
      exact Le.snap [264] rfl rfl (by simp)
    refine awp_regc ⟨124, [(4, .pv (gC g)), (5, .pv (eC x)), (6, .pv (gC (withR g x).1)), (42, .B (decide ((withR g x).2 = 0)))], [], 16⟩ rfl ?_ ?_
    · simp
      exact Le.snap [] rfl rfl (by simp <;> exact wkB (by rw [Bool.eq_iff_iff]; simp))
    refine awp_cond _ rfl (fun h => ?_) fun h => awp_skip ⟨(), trivial, Le.snap [] rfl rfl (by simp)⟩
    simp only [decide_eq_true_eq] at h
    obtain ⟨p1, p2, p3⟩ := plus_minus h
    have hwo := graph_Without_ok (withR g x).1 x.f x.t (by omega) (by
      have := (withR_ok h).2.2.2.2.2.1
      rw [this]
      show g.gone.length * 8 ≤ _
      omega)
    rw [p1] at hwo
    refine awp_regc ⟨124, [(4, .pv (gC g)), (6, .pv (gC (withR g x).1)), (8, .pv (gC g)), (9, .I 0)], [], 16⟩ rfl ?_ ?_
    · simp
      refine call0e hwo rfl ?_
      simp
      exact Le.snap [88] rfl rfl (by simp)
    have hw1 : IntKind.i64.wrap ((g.edges.length : Int) + 1) = (g.edges.length : Int) + 1 := w64 (by omega) (by omega)
    refine awp_regc ⟨124, [(4, .pv (gC g)), (74, .B false)], [], 16⟩ rfl ?_ ?_
    · simp
      repeat' first
        | (refine callf nref11_Same rfl ?_; refine call0e (ref11_Same_ok g g (by omega) (by omega)) rfl ?_; simp [EqG, hw1, p2])
        | (refine callf ngraph_Check rfl ?_; refine call0e (graph_Check_ok (withR g x).1 (by omega) (by omega)) rfl ?_; simp [p3])
        | (refine gcase (fun hb => ?_) (fun hb => ?_) <;> (try rw [hb]) <;> (try simp at hb) <;> simp [*])
      all_goals exact Le.snap [] rfl rfl (by simp <;> exact wkB (by (try simp at *); grind))
    refine awp_cond _ rfl (fun h => by cases h) fun h => awp_skip ⟨(), trivial, Le.snap [] rfl rfl (by simp)⟩
  clear hwr hwl hwv l3 q1 q2
  have z1 := lowF_zero hok
  have z2 := lowT_zero hok
  refine awp_regc ⟨124, [(4, .pv (gC g)), (10, .I 0), (11, .I 0)], [], 16⟩ rfl ?_ ?_
  · simp
    exact Le.snap [] rfl rfl (by simp)
  refine awp_seq ?_
  refine awp_regc ⟨124, [(4, .pv (gC g)), (10, .I 0), (11, .I 0), (12, .I 0)], [], 16⟩ rfl ?_ ?_
  · simp
    exact Le.snap [] rfl rfl (by simp)
  refine awp_block ?_
  refine awp_loop (ι := Nat) (fun k => ⟨124, [(4, .pv (gC g)), (10, .I (lowF g.edges k)), (11, .I (lowT g.edges k)), (12, .I k)], [], 16⟩) (fun k => (k : Int) ≤ g.size) (fun k => g.size.toNat - k) 0 (by show ((0 : Nat) : Int) ≤ g.size; omega) (Le.snap [] rfl rfl (by simp [z1, z2])) ?_
  intro k hk
  refine awp_seq ?_
  refine awp_regc ⟨124, [(4, .pv (gC g)), (10, .I (lowF g.edges k)), (11, .I (lowT g.edges k)), (12, .I k), (78, .B (decide ((k : Int) < g.size)))], [], 16⟩ rfl ?_ ?_
  · simp
    exact Le.snap [] rfl rfl (by simp)
  refine awp_cond _ rfl (fun h => awp_skip ?_) fun h => awp_exit (hit ?_)
  · simp only [decide_eq_true_eq] at h
    refine awp_cut (ι := Unit) (fun _ => ⟨124, [(4, .pv (gC g)), (10, .I (lowF g.edges (k + 1))), (11, .I (lowT g.edges (k + 1))), (12, .I k)], [], 16⟩) (fun _ => True) ?_ fun _ _ => ?_
    · refine awp_block ?_
      obtain ⟨S, hS⟩ : ∃ S, S = sorted (outs g.edges k) := ⟨_, rfl⟩
      have hSl : S.length = (outs g.edges k).length := by rw [hS, sorted_len]
      have hol := outs_le g.edges k
      have hil := inns_le g.edges k
      have hfl := lowF_le g.edges k
      have htl := lowT_le g.edges k
      have hwF : IntKind.i64.wrap ((lowF g.edges k : Int) + (S.length : Int)) = (lowF g.edges (k + 1) : Int) := by rw [lowF_succ, w64 (by omega) (by omega)]; omega
      have hwT : IntKind.i64.wrap ((lowT g.edges k : Int) + ((inns g.edges k).length : Int)) = (lowT g.edges (k + 1) : Int) := by rw [lowT_succ, w64 (by omega) (by omega)]; omega
      refine awp_regc ⟨124, [(4, .pv (gC g)), (10, .I (lowF g.edges k)), (11, .I (lowT g.edges k)), (12, .I k), (13, ints S)], [], 16⟩ rfl ?_ ?_
      · simp
        refine callN1 (graph_Out_ok g k (by omega)) rfl ?_
        simp [Function.comp_def]
        exact Le.snap [32] rfl rfl (by simp [Function.comp_def, hS, take_map_len, sorted_len]; exact wkE (congrArg _ (List.take_of_length_le (by rw [List.length_map]; exact Nat.le_of_eq (sorted_len _)))))
      refine awp_regc ⟨124, [(4, .pv (gC g)), (10, .I (lowF g.edges (k + 1))), (11, .I (lowT g.edges (k + 1))), (12, .I k), (13, ints S)], [], 16⟩ rfl ?_ ?_
      · simp [hwF]
        refine callN1 (graph_In_ok g k (by omega)) rfl ?_
        simp [Function.comp_def, hwF, hwT]
        exact Le.snap [] rfl rfl (by simp)
      refine awp_regc ⟨124, [(4, .pv (gC g)), (10, .I (lowF g.edges (k + 1))), (11, .I (lowT g.edges (k + 1))), (12, .I k), (13, ints S), (14, .I 0)], [], 16⟩ rfl ?_ ?_
      · simp
        exact Le.snap [] rfl rfl (by simp)
      refine awp_block ?_
      refine awp_loop (ι := Nat) (fun j => ⟨124, [(4, .pv (gC g)), (10, .I (lowF g.edges (k + 1))), (11, .I (lowT g.edges (k + 1))), (12, .I k), (13, ints S), (14, .I j)], [], 16⟩) (fun j => j ≤ S.length) (fun j => S.length - j) 0 (by simp) (Le.snap [] rfl rfl (by simp)) ?_
      intro j hj
      refine awp_seq ?_
      refine awp_regc ⟨124, [(4, .pv (gC g)), (10, .I (lowF g.edges (k + 1))), (11, .I (lowT g.edges (k + 1))), (12, .I k), (13, ints S), (14, .I j), (97, .B (decide (j < S.length)))], [], 16⟩ rfl ?_ ?_
      · simp
        exact Le.snap [] rfl rfl (by simp)
      refine awp_cond _ rfl (fun h2 => awp_skip ?_) fun h2 => awp_exit (hit ?_)
      · simp only [decide_eq_true_eq] at h2
        have hmem : (k : Int) ∈ sorted (inns g.edges S[j]) := by
          rw [mem_sorted]
          refine out_in ?_
          rw [← mem_sorted, ← hS]
          exact List.getElem_mem _
        refine awp_cut (ι := Unit) (fun _ => ⟨124, [(4, .pv (gC g)), (10, .I (lowF g.edges (k + 1))), (11, .I (lowT g.edges (k + 1))), (12, .I k), (13, ints S), (14, .I j)], [], 16⟩) (fun _ => True) ?_ fun _ _ => ?_
        · refine awp_block ?_
          have hil2 := inns_le g.edges S[j]
          refine awp_dregc ⟨124, [(4, .pv (gC g)), (10, .I (lowF g.edges (k + 1))), (11, .I (lowT g.edges (k + 1))), (12, .I k), (13, ints S), (14, .I j), (108, .B false)], [], 16⟩ rfl ?_ ?_
          · simp [h2]
            refine callN1 (graph_In_ok g S[j] (by omega)) rfl ?_
            simp [Function.comp_def]
            refine call0s [56] (has_ok (sorted (inns g.edges S[j])) k (by rw [sorted_len]; omega)) ?_ (.sc _) ?_
            · simp [Function.comp_def, take_map_len]
              exact List.take_of_length_le (by rw [List.length_map]; exact Nat.le_of_eq (sorted_len _))
            simp [hmem]
            exact ⟨rfl, Le.snap [] rfl rfl (by simp)⟩
          refine awp_cond _ rfl (fun h => by cases h) fun h => awp_skip ⟨(), trivial, Le.snap [] rfl rfl (by simp)⟩
        have hwj : IntKind.i64.wrap ((j : Int) + 1) = ((j + 1 : Nat) : Int) := by rw [w64 (by omega) (by omega)]; omega
        refine awp_reg rfl ?_
        simp [hwj]
        exact ⟨j + 1, by omega, by omega, Le.snap [] rfl rfl (by simp)⟩
      exact ⟨(), trivial, Le.snap [] rfl rfl (by simp)⟩
    have hwk : IntKind.i64.wrap ((k : Int) + 1) = ((k + 1 : Nat) : Int) := by rw [w64 (by omega) (by omega)]; omega
    refine awp_reg rfl ?_
    simp [hwk]
    exact ⟨k + 1, by omega, by omega, Le.snap [] rfl rfl (by simp)⟩
  simp only [decide_eq_false_iff_not] at h
  have e1 := lowF_all hok (k := k) (by omega)
  have e2 := lowT_all hok (k := k) (by omega)
  refine awp_regc ⟨124, [(2, .B true)], [], 16⟩ rfl ?_ ?_
  · simp [e1, e2]
    repeat' first
      | (refine callf nlaw11_awake rfl ?_; refine call0e (law11_awake_ok) rfl ?_; simp [e1, e2])
      | (refine gcase (fun hb => ?_) (fun hb => ?_) <;> (try rw [hb]) <;> (try simp at hb) <;> simp [*])
    all_goals exact Le.snap [] rfl rfl (by simp <;> exact wkB (by (try simp at *); grind))
  refine awp_ret ?_
  exact ⟨.inr rfl, RetOk.one (by simp)⟩

end Go.Proofs.Ytnphfkceoklkkaa

/- The law of made graphs: the walk. -/
namespace Go.Proofs.Ytnphfkceoklkkaa
open Go

theorem GrOk.pair {g : Gr} (h : GrOk g) : g.edges.Pairwise Bef := by
  rw [List.pairwise_iff_getElem]
  intro i j hi hj hij
  exact h.lt j i hi hj hij

theorem sorted_outs {g : Gr} (h : GrOk g) (key : Int) : sorted (outs g.edges key) = outs g.edges key := by
  refine List.mergeSort_of_pairwise (List.Pairwise.filterMap _ (fun a a' hb b h1 b' h2 => ?_) h.pair)
  by_cases e1 : a.f = key <;> simp [e1] at h1
  by_cases e2 : a'.f = key <;> simp [e2] at h2
  unfold Bef at hb
  simp
  omega

theorem sorted_inns {g : Gr} (h : GrOk g) (key : Int) : sorted (inns g.edges key) = inns g.edges key := by
  refine List.mergeSort_of_pairwise (List.Pairwise.filterMap _ (fun a a' hb b h1 b' h2 => ?_) h.pair)
  by_cases e1 : a.t = key <;> simp [e1] at h1
  by_cases e2 : a'.t = key <;> simp [e2] at h2
  unfold Bef at hb
  simp
  omega

theorem ents1 {st st' : St} {i j : Nat} {sn : List Nat} {e e' : Ent} (hsz : st'.sz = st.sz) (hh : st'.h = [(j, some e')]) (hj : j < st'.n) (hs : ∀ k ∈ sn, k ≠ i) (he : st.hp i = some e) (hee : convE [(i, j)] sn st.hp 4 e = e') (hr : e'.ro ≤ e'.rows.length) (ht : ∀ p ∈ st'.t, Wk (conv [(i, j)] sn st.hp 4 (st.get p.1)) p.2) : Le 0 st st' :=
  Le.ents [(i, j)] sn hsz (by simp) (by simp) (by simpa using hj) (by simpa using hs) (Nat.zero_le _) ht (fun p hp => by
    rw [hh] at hp
    simp at hp
    subst hp
    exact ⟨i, e, e', rfl, by simp, he, EntUp.eq hee hr⟩)

theorem Le.dc {st st' : St} {L : List Int} {a : Nat} (i j : Nat) (sn : List Nat) (hsz : st'.sz = st.sz) (hh : st'.h = [(j, some (dice L a))]) (hj : j < st'.n) (hs : ∀ k ∈ sn, k ≠ i) (he : st.hp i = some (dice L a)) (ht : ∀ p ∈ st'.t, Wk (conv [(i, j)] sn st.hp 4 (st.get p.1)) p.2) : Le 0 st st' :=
  ents1 hsz hh hj hs he (by simp [Function.comp_def]) (by simp) ht

set_option maxHeartbeats 4000000 in
set_option maxRecDepth 100000 in
theorem law11_GraphMade_ok (L : List Int) (n : Int) : ACalls Try.prog nlaw11_GraphMade [ints L, .I n] [] (.B true) [] := by
  refine slaw11_GraphMade.acalls (Nat.le_of_ble_eq_true rfl) (Nat.le_of_ble_eq_true rfl) (Nat.le_refl _) ?_
  show awp _ 0 _ _ ⟨182, [(0, ints L), (1, .I n)], [], 16⟩
  refine awp_seq ?_
  refine awp_run (s := ?s1) rfl ?o1 ?q1
  case o1 => simp; rfl
  refine awp_seq ?_
  refine awp_regc ⟨182, [(0, ints L), (1, .I n), (17, .B (decide (¬ L.length ≤ 400)))], [], 48⟩ rfl ?_ ?_
  · simp
    refine call0e (Light_ok L) rfl ?_
    simp
    exact Le.snap [] rfl rfl (by simp <;> exact wkB (by rw [Bool.eq_iff_iff]; simp))
  refine awp_cond _ rfl (fun h => ?_) fun h => awp_skip ?_
  · refine awp_seq ?_
    refine awp_run (s := ?s2) rfl ?o2 ?q2
    case o2 => simp; refine call0e (law11_awake_ok) rfl ?_; simp; rfl
    refine awp_ret ?_
    exact ⟨.inr rfl, RetOk.one (by simp)⟩
  have hl : L.length ≤ 400 := by simpa using h
  have hm := graphD_made L 0 (Nat.zero_le _)
  obtain ⟨g, hg⟩ : ∃ g, g = (graphD L 0).1 := ⟨_, rfl⟩
  obtain ⟨a, ha⟩ : ∃ a, a = (graphD L 0).2 := ⟨_, rfl⟩
  have hok := hm.ok
  have hlo := hm.lo
  have hhi := hm.hi
  have h500 := hok.1.2.2.1
  have hfew := hm.few
  have hal := hm.at_
  rw [← hg] at hok hlo hhi h500 hfew
  rw [← ha] at hal
  have hgr := Graph_ok L 0 hl (Nat.zero_le _)
  rw [← hg, ← ha] at hgr
  clear hm
  refine awp_regc ⟨182, [(1, .I n), (5, .pt 56 0 0)], [(56, some (dice L 0))], 72⟩ rfl ?_ ?_
  · simp
    refine callN1 (Roll_ok L) rfl ?_
    simp [Function.comp_def]
    exact Le.keep rfl (Nat.le_refl _) (by simp) (by simp)
  refine awp_regc ⟨182, [(1, .I n), (5, .pt 56 0 0), (6, .pv (gC g))], [(56, some (dice L a))], 104⟩ rfl ?_ ?_
  · simp
    refine callM1 (i := 56) rfl (e' := dice L 0) (by simp [Function.comp_def]) hgr (by simp) (by simp) ?_
    simp [Function.comp_def]
    exact Le.dc 56 56 [88] rfl rfl (by simp) (by simp) (by simp) (by simp)
  have q1 := nextD_le (n := g.size + 1) hal
  have q2 := nextD_le (n := 2) q1
  have q3 := nextD_le (n := g.size + 1) q2
  have q4 := nextD_le (n := 4) q3
  have l1 := nextD_lt (L := L) (a := a) (n := g.size + 1) (by omega)
  have l2 := nextD_lt (L := L) (a := (nextD L a (g.size + 1)).2) (n := 2) (by omega)
  have hw1 : IntKind.i64.wrap (g.size + 1) = g.size + 1 := w64 (by omega) (by omega)
  have hw2 : IntKind.i64.wrap ((nextD L a (g.size + 1)).1 - (nextD L (nextD L a (g.size + 1)).2 2).1) = (nextD L a (g.size + 1)).1 - (nextD L (nextD L a (g.size + 1)).2 2).1 := w64 (by omega) (by omega)
  obtain ⟨x, hx⟩ : ∃ x : Ed, x = ⟨(nextD L a (g.size + 1)).1 - (nextD L (nextD L a (g.size + 1)).2 2).1, (nextD L (nextD L (nextD L a (g.size + 1)).2 2).2 (g.size + 1)).1, ofD L (nextD L (nextD L (nextD L a (g.size + 1)).2 2).2 (g.size + 1)).2 [1, 3, 0, 4]⟩ := ⟨_, rfl⟩
  obtain ⟨b, hb⟩ : ∃ b, b = (nextD L (nextD L (nextD L (nextD L a (g.size + 1)).2 2).2 (g.size + 1)).2 4).2 := ⟨_, rfl⟩
  have hbl : b ≤ L.length := by rw [hb]; exact q4
  have hof := Of_ok L (nextD L (nextD L (nextD L a (g.size + 1)).2 2).2 (g.size + 1)).2 [1, 3, 0, 4] (by omega) q3 (by simp) (by simp)
  refine awp_dregc ⟨182, [(1, .I n), (5, .pt 56 0 0), (6, .pv (gC g)), (7, .pv (eC x))], [(56, some (dice L b))], 256⟩ rfl ?_ ?_
  · simp [hw1]
    refine callM1 (i := 56) rfl (e' := dice L a) (by simp [Function.comp_def]) (Next1_ok L a (g.size + 1) hl hal (by omega)) (by simp) (by simp) ?_
    simp [Function.comp_def]
    refine callM1 (i := 56) rfl (e' := dice L (nextD L a (g.size + 1)).2) (by simp [Function.comp_def]) (Next1_ok L _ 2 hl q1 (by omega)) (by simp) (by simp) ?_
    simp [Function.comp_def, hw1, hw2]
    refine callM1 (i := 56) rfl (e' := dice L (nextD L (nextD L a (g.size + 1)).2 2).2) (by simp [Function.comp_def]) (Next1_ok L _ (g.size + 1) hl q2 (by omega)) (by simp) (by simp) ?_
    simp [Function.comp_def]
    refine callM1s (i := 56) (j := 216) (by decide) (Nat.zero_le _) rfl rfl (e' := dice L (nextD L (nextD L (nextD L a (g.size + 1)).2 2).2 (g.size + 1)).2) (by simp [Function.comp_def]) hof (by simp) (by simp) ?_
    simp [Function.comp_def]
    refine ⟨rfl, ?_⟩
    exact Le.dc 56 56 [240] rfl rfl (by simp) (by simp) (by simp [hb]) (by simp [hx])
  clear hof hb hx hw2 l1 l2 q1 q2 q3 q4 hgr
  -- Out and In
  refine awp_seq ?_
  refine awp_regc ⟨182, [(1, .I n), (5, .pt 56 0 0), (6, .pv (gC g)), (7, .pv (eC x)), (8, .I (-1))], [(56, some (dice L b))], 264⟩ rfl ?_ ?_
  · simp
    exact Le.keep rfl (Nat.le_refl _) (by simp) (by simp)
  refine awp_block ?_
  refine awp_loop (ι := Nat) (fun j => ⟨182, [(1, .I n), (5, .pt 56 0 0), (6, .pv (gC g)), (7, .pv (eC x)), (8, .I ((j : Int) - 1))], [(56, some (dice L b))], 264⟩) (fun j => (j : Int) ≤ g.size + 2) (fun j => g.size.toNat + 2 - j) 0 (by show ((0 : Nat) : Int) ≤ g.size + 2; omega) (Le.refl _ _) ?_
  intro j hj
  refine awp_seq ?_
  refine awp_regc ⟨182, [(1, .I n), (5, .pt 56 0 0), (6, .pv (gC g)), (7, .pv (eC x)), (8, .I ((j : Int) - 1)), (43, .B (decide ((j : Int) - 1 ≤ g.size)))], [(56, some (dice L b))], 296⟩ rfl ?_ ?_
  · simp
    exact Le.keep rfl (Nat.le_refl _) (by simp) (by simp)
  refine awp_cond _ rfl (fun h => awp_skip ?_) fun h => awp_exit (hit ?_)
  · simp only [decide_eq_true_eq] at h
    have hwj : IntKind.i64.wrap ((j : Int) - 1 + 1) = ((j + 1 : Nat) : Int) - 1 := by rw [w64 (by omega) (by omega)]; omega
    generalize hkey : (j : Int) - 1 = key at *
    refine awp_cut (ι := Unit) (fun _ => ⟨182, [(1, .I n), (5, .pt 56 0 0), (6, .pv (gC g)), (7, .pv (eC x)), (8, .I key)], [(56, some (dice L b))], 264⟩) (fun _ => True) ?_ fun _ _ => ?_
    · refine awp_block ?_
      have hO := graph_Out_ok g key (by omega)
      have hI := graph_In_ok g key (by omega)
      have hso : ((outs g.edges key).mergeSort fun x y => decide (x ≤ y)) = outs g.edges key := sorted_outs hok key
      have hsi : ((inns g.edges key).mergeSort fun x y => decide (x ≤ y)) = inns g.edges key := sorted_inns hok key
      rw [hso] at hO
      rw [hsi] at hI
      have hol := outs_le g.edges key
      have hil := inns_le g.edges key
      refine awp_dregc ⟨182, [(1, .I n), (5, .pt 56 0 0), (6, .pv (gC g)), (7, .pv (eC x)), (8, .I key), (63, .B false)], [(56, some (dice L b))], 264⟩ rfl ?_ ?_
      · simp
        refine callN1 hO rfl ?_
        simp [Function.comp_def]
        refine callN1 (ref11_Out_ok g key (by omega)) rfl ?_
        simp [Function.comp_def]
        refine call0s [312, 336] (SameInts_ok (outs g.edges key) (outs g.edges key) (by omega)) (by simp [Function.comp_def, take_map_len]) (.sc _) ?_
        simp
        refine callN1 hI rfl ?_
        simp [Function.comp_def]
        refine callN1 (ref11_In_ok g key (by omega)) rfl ?_
        simp [Function.comp_def]
        refine call0s [384, 408] (SameInts_ok (inns g.edges key) (inns g.edges key) (by omega)) (by simp [Function.comp_def, take_map_len]) (.sc _) ?_
        simp
        exact ⟨rfl, Le.dc 56 56 [] rfl rfl (by simp) (by simp) rfl (by simp)⟩
      refine awp_cond _ rfl (fun h => by cases h) fun h => awp_skip ⟨(), trivial, Le.dc 56 56 [] rfl rfl (by simp) (by simp) rfl (by simp)⟩
    refine awp_reg rfl ?_
    simp [hwj]
    exact ⟨j + 1, by omega, by omega, Le.dc 56 56 [] rfl rfl (by simp) (by simp) rfl (by simp)⟩
  clear h
  -- the reference's answers
  refine awp_seq ?_
  refine awp_regc ⟨182, [(1, .I n), (5, .pt 56 0 0), (6, .pv (gC g)), (7, .pv (eC x)), (67, .B false)], [(56, some (dice L b))], 264⟩ rfl ?_ ?_
  · simp
    refine call0e (law11_agree_ok g x (by omega) (by omega)) rfl ?_
    simp
    exact Le.dc 56 56 [] rfl rfl (by simp) (by simp) rfl (by simp)
  refine awp_cond _ rfl (fun h => by cases h) fun h => awp_skip ?_
  -- levels
  refine awp_seq ?_
  refine awp_regc ⟨182, [(1, .I n), (5, .pt 56 0 0), (6, .pv (gC g)), (7, .pv (eC x)), (9, .I 0)], [(56, some (dice L b))], 264⟩ rfl ?_ ?_
  · simp
    exact Le.dc 56 56 [] rfl rfl (by simp) (by simp) rfl (by simp)
  refine awp_block ?_
  refine awp_loop (ι := Nat) (fun v => ⟨182, [(1, .I n), (5, .pt 56 0 0), (6, .pv (gC g)), (7, .pv (eC x)), (9, .I v)], [(56, some (dice L b))], 264⟩) (fun v => v ≤ 5) (fun v => 5 - v) 0 (by omega) (Le.refl _ _) ?_
  intro v hv
  refine awp_seq ?_
  refine awp_regc ⟨182, [(1, .I n), (5, .pt 56 0 0), (6, .pv (gC g)), (7, .pv (eC x)), (9, .I v), (69, .B (decide (v < 5)))], [(56, some (dice L b))], 264⟩ rfl ?_ ?_
  · simp
    exact Le.dc 56 56 [] rfl rfl (by simp) (by simp) rfl (by simp <;> exact wkB (by rw [Bool.eq_iff_iff]; simp; omega))
  refine awp_cond _ rfl (fun h => awp_skip ?_) fun h => awp_exit (hit ?_)
  · simp only [decide_eq_true_eq] at h
    have hwj : IntKind.i64.wrap ((v : Int) + 1) = ((v + 1 : Nat) : Int) := by rw [w64 (by omega) (by omega)]; omega
    refine awp_cut (ι := Unit) (fun _ => ⟨182, [(1, .I n), (5, .pt 56 0 0), (6, .pv (gC g)), (7, .pv (eC x)), (9, .I v)], [(56, some (dice L b))], 264⟩) (fun _ => True) ?_ fun _ _ => ?_
    · refine awp_block ?_
      have hle : (levelG g v).edges.length ≤ 500 := Nat.le_trans (List.length_filter_le _ _) h500
      have hle2 : (levelG g v).gone.length ≤ 1 := hfew
      refine awp_dregc ⟨182, [(1, .I n), (5, .pt 56 0 0), (6, .pv (gC g)), (7, .pv (eC x)), (9, .I v), (79, .B false)], [(56, some (dice L b))], 264⟩ rfl ?_ ?_
      · simp
        refine call0e (graph_Level_ok g v (by omega) (by omega)) rfl ?_
        simp
        refine call0e (ref11_Level_ok g v (by omega) (by omega)) rfl ?_
        simp
        refine call0e (ref11_Same_ok (levelG g v) (levelG g v) (by omega) (by omega)) rfl ?_
        simp [EqG]
        exact ⟨rfl, Le.dc 56 56 [] rfl rfl (by simp) (by simp) rfl (by simp)⟩
      refine awp_cond _ rfl (fun h => by cases h) fun h => awp_skip ⟨(), trivial, Le.dc 56 56 [] rfl rfl (by simp) (by simp) rfl (by simp)⟩
    refine awp_reg rfl ?_
    simp [hwj]
    exact ⟨v + 1, by omega, by omega, Le.dc 56 56 [] rfl rfl (by simp) (by simp) rfl (by simp)⟩
  -- one thing changed
  refine awp_regc ⟨182, [(1, .I n), (5, .pt 16 0 0), (6, .pv (gC g)), (7, .pv (eC x)), (10, .pt 17 0 0)], [(16, some (dice L b)), (17, some ⟨3, [[.I g.size, .rs 18 0 g.edges.length, .rs 19 0 g.gone.length]], 0⟩), (18, some ⟨3, rowsE g.edges, 0⟩), (19, some ⟨1, g.gone.map fun n => [AV.I n], 0⟩)], 24⟩ rfl ?_ ?_
  · simp
    refine callN2 (ref11_Copy_ok g (by omega) (by omega)) rfl ?_
    simp [Function.comp_def]
    refine Le.ents [(56, 16), (280, 17), (272, 18), (273, 19)] [] rfl (by simp) (by simp) (by simp) (by simp) (by simp) (by simp) fun p hp => ?_
    simp at hp
    rcases hp with rfl | rfl | rfl | rfl
    · exact ⟨56, _, _, rfl, by simp, rfl, EntUp.eq (by simp [Function.comp_def]) (by simp)⟩
    · exact ⟨280, _, _, rfl, by simp, rfl, EntUp.eq (by simp) (by simp)⟩
    · exact ⟨272, _, _, rfl, by simp, rfl, EntUp.eq (by simp [Function.comp_def]) (by simp)⟩
    · exact ⟨273, _, _, rfl, by simp, rfl, EntUp.eq (by simp [Function.comp_def]) (by simp)⟩
  refine awp_cut (ι := Gr) (fun o => ⟨182, [(6, .pv (gC g)), (7, .pv (eC x)), (10, .pv (gC o))], [], 16⟩) (fun o => o.edges.length ≤ 600 ∧ o.gone.length ≤ 600) ?_ ?_
  · have b1 := nextD_le (n := 6) hbl
    refine awp_regc ⟨182, [(1, .I n), (5, .pt 16 0 0), (6, .pv (gC g)), (7, .pv (eC x)), (10, .pt 17 0 0), (83, .I (nextD L b 6).1)], [(16, some (dice L (nextD L b 6).2)), (17, some ⟨3, [[.I g.size, .rs 18 0 g.edges.length, .rs 19 0 g.gone.length]], 0⟩), (18, some ⟨3, rowsE g.edges, 0⟩), (19, some ⟨1, g.gone.map fun n => [AV.I n], 0⟩)], 40⟩ rfl ?_ ?_
    · simp
      refine callM1 (i := 16) rfl (e' := dice L b) (by simp [Function.comp_def]) (Next1_ok L b 6 hl hbl (by omega)) (by simp) (by simp) ?_
      simp [Function.comp_def]
      exact Le.keep rfl (Nat.le_refl _) (by simp) (by simp)
    generalize (nextD L b 6).1 = c
    generalize (nextD L b 6).2 = p at b1 ⊢
    refine awp_block ?_
    refine awp_regc ⟨182, [(1, .I n), (5, .pt 16 0 0), (6, .pv (gC g)), (7, .pv (eC x)), (10, .pt 17 0 0), (83, .I c), (102, .B (decide (c = 0)))], [(16, some (dice L p)), (17, some ⟨3, [[.I g.size, .rs 18 0 g.edges.length, .rs 19 0 g.gone.length]], 0⟩), (18, some ⟨3, rowsE g.edges, 0⟩), (19, some ⟨1, g.gone.map fun n => [AV.I n], 0⟩)], 56⟩ rfl ?_ ?_
    · simp
      exact Le.keep rfl (Nat.le_refl _) (by simp <;> rw [Bool.eq_iff_iff] <;> simp) (by simp)
    refine awp_cond _ rfl (fun h => ?_) fun h => ?_
    · -- its size
      have hmod := modI_lt (n := n) (m := 70) (by omega)
      have hwm : IntKind.i64.wrap (modI n 70 - 2) = modI n 70 - 2 := w64 (by omega) (by omega)
      refine awp_reg rfl ?_
      simp
      refine call0e (Mod_ok n 70 (by omega)) rfl ?_
      simp [hwm, splice]
      exact ⟨⟨modI n 70 - 2, g.edges, g.gone⟩, ⟨by simp only; omega, by simp only; omega⟩, Le.snap [17, 18, 19] rfl rfl (by simp [Function.comp_def, take_map_len])⟩
    refine awp_regc ⟨182, [(1, .I n), (5, .pt 16 0 0), (6, .pv (gC g)), (7, .pv (eC x)), (10, .pt 17 0 0), (83, .I c), (108, .B (decide (c = 1)))], [(16, some (dice L p)), (17, some ⟨3, [[.I g.size, .rs 18 0 g.edges.length, .rs 19 0 g.gone.length]], 0⟩), (18, some ⟨3, rowsE g.edges, 0⟩), (19, some ⟨1, g.gone.map fun n => [AV.I n], 0⟩)], 72⟩ rfl ?_ ?_
    · simp
      exact Le.keep rfl (Nat.le_refl _) (by simp <;> rw [Bool.eq_iff_iff] <;> simp) (by simp)
    refine awp_cond _ rfl (fun h => ?_) fun h => ?_
    · -- who is gone
      refine awp_drw rfl ?_
      simp
      refine callM1 (i := 16) rfl (e' := dice L p) (by simp [Function.comp_def]) (Next1_ok L p 9 hl b1 (by omega)) (by simp) (by simp) ?_
      simp [Function.comp_def, List.replicate, splice, take_map_len]
      refine ⟨by omega, by omega, rfl, ⟨g.size, g.edges, g.gone ++ [(nextD L p 9).1]⟩, ⟨by simp only; omega, by simp; omega⟩, Le.snap [17, 18, 112] rfl rfl ?_⟩
      simp [Function.comp_def, take_map_len]
      have e1 : List.take (g.gone.length + 1) (List.map (fun x => [AV.I x]) g.gone ++ [[AV.I (nextD L p 9).1]]) = (g.gone ++ [(nextD L p 9).1]).map fun x => [AV.I x] := by
        rw [List.take_of_length_le (by simp)]
        simp
      rw [e1]
      exact .refl _
    refine awp_regc ⟨182, [(1, .I n), (5, .pt 16 0 0), (6, .pv (gC g)), (7, .pv (eC x)), (10, .pt 17 0 0), (83, .I c), (117, .B (decide (c = 2)))], [(16, some (dice L p)), (17, some ⟨3, [[.I g.size, .rs 18 0 g.edges.length, .rs 19 0 g.gone.length]], 0⟩), (18, some ⟨3, rowsE g.edges, 0⟩), (19, some ⟨1, g.gone.map fun n => [AV.I n], 0⟩)], 88⟩ rfl ?_ ?_
    · simp
      exact Le.keep rfl (Nat.le_refl _) (by simp <;> rw [Bool.eq_iff_iff] <;> simp) (by simp)
    refine awp_cond _ rfl (fun h => ?_) fun h => ?_
    · -- one edge more
      refine awp_reg rfl ?_
      simp [splice]
      refine ⟨by omega, by omega, ⟨g.size, g.edges ++ [x], g.gone⟩, ⟨by simp; omega, by simp only; omega⟩, Le.snap [17, 120, 19] rfl rfl ?_⟩
      simp [Function.comp_def, take_map_len]
      have e1 : List.take (g.edges.length + 1) (List.map (fun e : Ed => [AV.I e.f, AV.I e.t, AV.I e.v]) g.edges ++ [[AV.I x.f, AV.I x.t, AV.I x.v]]) = rowsE (g.edges ++ [x]) := by
        rw [List.take_of_length_le (by simp)]
        simp
      rw [e1]
      exact .refl _
    refine awp_regc ⟨182, [(1, .I n), (5, .pt 16 0 0), (6, .pv (gC g)), (7, .pv (eC x)), (10, .pt 17 0 0), (83, .I c), (125, .B (decide (c = 3)))], [(16, some (dice L p)), (17, some ⟨3, [[.I g.size, .rs 18 0 g.edges.length, .rs 19 0 g.gone.length]], 0⟩), (18, some ⟨3, rowsE g.edges, 0⟩), (19, some ⟨1, g.gone.map fun n => [AV.I n], 0⟩)], 104⟩ rfl ?_ ?_
    · simp
      exact Le.keep rfl (Nat.le_refl _) (by simp <;> rw [Bool.eq_iff_iff] <;> simp) (by simp)
    refine awp_cond _ rfl (fun h => ?_) fun h => ?_
    · -- the level of the first edge
      refine awp_regc ⟨182, [(1, .I n), (6, .pv (gC g)), (7, .pv (eC x)), (10, .pt 17 0 0), (130, .B (decide (0 < g.edges.length)))], [(17, some ⟨3, [[.I g.size, .rs 18 0 g.edges.length, .rs 19 0 g.gone.length]], 0⟩), (18, some ⟨3, rowsE g.edges, 0⟩), (19, some ⟨1, g.gone.map fun n => [AV.I n], 0⟩)], 136⟩ rfl ?_ ?_
      · simp
        exact Le.keep rfl (Nat.le_refl _) (by simp <;> rw [Bool.eq_iff_iff] <;> simp) (by simp)
      refine awp_cond _ rfl (fun h => ?_) fun h => awp_skip ?_
      · simp only [decide_eq_true_eq] at h
        obtain ⟨e0, rest, he⟩ : ∃ e0 rest, g.edges = e0 :: rest := by
          cases hh : g.edges with
          | nil => rw [hh] at h; simp at h
          | cons e0 rest => exact ⟨_, _, rfl⟩
        refine awp_reg rfl ?_
        have hel : g.edges.length = rest.length + 1 := by rw [he]; simp
        simp [he, splice]
        refine ⟨⟨g.size, ⟨e0.f, e0.t, n⟩ :: rest, g.gone⟩, ⟨by simp; omega, by simp only; omega⟩, Le.snap [17, 18, 19] rfl rfl ?_⟩
        simp [Function.comp_def, take_map_len]
        exact .refl _
      · exact ⟨g, ⟨by omega, by omega⟩, Le.snap [17, 18, 19] rfl rfl (by simp [Function.comp_def, take_map_len])⟩
    refine awp_regc ⟨182, [(1, .I n), (5, .pt 16 0 0), (6, .pv (gC g)), (7, .pv (eC x)), (10, .pt 17 0 0), (83, .I c), (136, .B (decide (c = 4)))], [(16, some (dice L p)), (17, some ⟨3, [[.I g.size, .rs 18 0 g.edges.length, .rs 19 0 g.gone.length]], 0⟩), (18, some ⟨3, rowsE g.edges, 0⟩), (19, some ⟨1, g.gone.map fun n => [AV.I n], 0⟩)], 120⟩ rfl ?_ ?_
    · simp
      exact Le.keep rfl (Nat.le_refl _) (by simp <;> rw [Bool.eq_iff_iff] <;> simp) (by simp)
    refine awp_cond _ rfl (fun h => ?_) fun h => ?_
    · -- a full one
      let o0 : Gr := ⟨64, g.edges, g.gone⟩
      refine awp_regc ⟨182, [(5, .pt 16 0 0), (6, .pv (gC g)), (7, .pv (eC x)), (10, .pt 17 0 0)], [(16, some (dice L p)), (17, some (rowG o0))], 24⟩ rfl ?_ ?_
      · simp [splice]
        refine Le.ents [(16, 16), (17, 17)] [18, 19] rfl (by simp) (by simp) (by simp) (by simp) (by simp) (by simp) fun p hp => ?_
        simp at hp
        rcases hp with rfl | rfl
        · exact ⟨16, _, _, rfl, by simp, rfl, EntUp.eq (by simp [Function.comp_def]) (by simp)⟩
        · exact ⟨17, _, _, rfl, by simp, rfl, EntUp.eq (by simp [Function.comp_def, take_map_len]; exact ⟨rfl, rfl, rfl⟩) (by simp)⟩
      refine awp_regc ⟨182, [(5, .pt 16 0 0), (6, .pv (gC g)), (7, .pv (eC x)), (10, .pt 17 0 0), (11, .I 0)], [(16, some (dice L p)), (17, some (rowG o0))], 24⟩ rfl ?_ ?_
      · simp
        refine Le.ents [(16, 16), (17, 17)] [] rfl (by simp) (by simp) (by simp) (by simp) (by simp) (by simp) fun p hp => ?_
        simp at hp
        rcases hp with rfl | rfl
        · exact ⟨16, _, _, rfl, by simp, rfl, EntUp.eq (by simp [Function.comp_def]) (by simp)⟩
        · exact ⟨17, _, _, rfl, by simp, rfl, EntUp.eq (by simp) (by simp)⟩
      refine awp_block ?_
      refine awp_loop (ι := Nat × Gr × Nat) (fun q => ⟨182, [(5, .pt 16 0 0), (6, .pv (gC g)), (7, .pv (eC x)), (10, .pt 17 0 0), (11, .I q.1)], [(16, some (dice L q.2.2)), (17, some (rowG q.2.1))], 24⟩) (fun q => q.1 ≤ 9 ∧ q.2.1.edges.length ≤ 500 ∧ q.2.1.gone.length ≤ 1 ∧ q.2.2 ≤ L.length) (fun q => 9 - q.1) (0, o0, p) ⟨by simp only; omega, h500, hfew, b1⟩ (Le.refl _ _) ?_
      rintro ⟨a1, o, p1⟩ ⟨ha1, ho1, ho2, hp1⟩
      simp only at ha1 ho1 ho2 hp1 ⊢
      refine awp_seq ?_
      refine awp_regc ⟨182, [(5, .pt 16 0 0), (6, .pv (gC g)), (7, .pv (eC x)), (10, .pt 17 0 0), (11, .I a1), (140, .B (decide (a1 < 9)))], [(16, some (dice L p1)), (17, some (rowG o))], 40⟩ rfl ?_ ?_
      · simp
        exact Le.keep rfl (Nat.le_refl _) (by simp <;> omega) (by simp)
      refine awp_cond _ rfl (fun h => awp_skip ?_) fun h => awp_exit (hit ?_)
      · simp only [decide_eq_true_eq] at h
        refine awp_cut (ι := Gr × Nat) (fun q => ⟨182, [(5, .pt 16 0 0), (6, .pv (gC g)), (7, .pv (eC x)), (10, .pt 17 0 0), (11, .I a1)], [(16, some (dice L q.2)), (17, some (rowG q.1))], 24⟩) (fun q => q.1.edges.length ≤ 500 ∧ q.1.gone.length ≤ 1 ∧ q.2 ≤ L.length) ?_ ?_
        · refine awp_block ?_
          refine awp_regc ⟨182, [(5, .pt 16 0 0), (6, .pv (gC g)), (7, .pv (eC x)), (10, .pt 17 0 0), (11, .I a1), (12, .I 0)], [(16, some (dice L p1)), (17, some (rowG o))], 48⟩ rfl ?_ ?_
          · simp
            exact Le.keep rfl (Nat.le_refl _) (by simp) (by simp)
          refine awp_block ?_
          refine awp_loop (ι := Nat × Gr × Nat) (fun q => ⟨182, [(5, .pt 16 0 0), (6, .pv (gC g)), (7, .pv (eC x)), (10, .pt 17 0 0), (11, .I a1), (12, .I q.1)], [(16, some (dice L q.2.2)), (17, some (rowG q.2.1))], 48⟩) (fun q => q.1 ≤ 64 ∧ q.2.1.edges.length ≤ 500 ∧ q.2.1.gone.length ≤ 1 ∧ q.2.2 ≤ L.length) (fun q => 64 - q.1) (0, o, p1) ⟨by simp only; omega, ho1, ho2, hp1⟩ (Le.refl _ _) ?_
          clear ho1 ho2 hp1 o p1
          rintro ⟨b', o, p1⟩ ⟨hb1, ho1, ho2, hp1⟩
          simp only at hb1 ho1 ho2 hp1 ⊢
          refine awp_seq ?_
          by_cases hb : b' < 64
          · have hbi : (b' : Int) < 64 := by omega
            have hr := nextD_lt (L := L) (a := p1) (n := 2) (by omega)
            have hp2 := nextD_le (n := 2) hp1
            have hwr : IntKind.i64.wrap (500 + (nextD L p1 2).1) = 500 + (nextD L p1 2).1 := w64 (by omega) (by omega)
            refine awp_dregc ⟨182, [(5, .pt 16 0 0), (6, .pv (gC g)), (7, .pv (eC x)), (10, .pt 17 0 0), (11, .I a1), (12, .I b'), (153, .B (decide ((o.edges.length : Int) < 500 + (nextD L p1 2).1)))], [(16, some (dice L (nextD L p1 2).2)), (17, some (rowG o))], 136⟩ rfl ?_ ?_
            · simp [hbi]
              refine callM1 (i := 16) rfl (e' := dice L p1) (by simp [Function.comp_def]) (Next1_ok L p1 2 hl hp1 (by omega)) (by simp) (by simp) ?_
              simp [hwr, Function.comp_def]
              exact ⟨rfl, Le.keep rfl (Nat.le_refl _) (by simp) (by simp)⟩
            generalize (nextD L p1 2).1 = r at hr
            generalize (nextD L p1 2).2 = p2 at hp2 ⊢
            refine awp_cond _ rfl (fun h3 => awp_skip ?_) fun h3 => awp_exit (hit ?_)
            · refine awp_cut (ι := Gr) (fun o' => ⟨182, [(5, .pt 16 0 0), (6, .pv (gC g)), (7, .pv (eC x)), (10, .pt 17 0 0), (11, .I a1), (12, .I b')], [(16, some (dice L p2)), (17, some (rowG o'))], 48⟩) (fun o' => o'.edges.length ≤ 500 ∧ o'.gone.length ≤ 1) ?_ ?_
              · refine awp_block ?_
                have hwith := ref11_With_ok o ⟨a1, b', 1⟩ (by omega) (by omega)
                have hwok := withR_ok (g := o) (e := ⟨a1, b', 1⟩)
                generalize withR o ⟨a1, b', 1⟩ = w at hwith hwok
                refine awp_regc ⟨182, [(5, .pt 16 0 0), (6, .pv (gC g)), (7, .pv (eC x)), (10, .pt 17 0 0), (11, .I a1), (12, .I b'), (13, .pv (gC w.1)), (14, .I w.2)], [(16, some (dice L p2)), (17, some (rowG o))], 224⟩ rfl ?_ ?_
                · simp
                  refine call0e hwith rfl ?_
                  simp
                  refine Le.ents [(16, 16), (17, 17)] [200] rfl (by simp) (by simp) (by simp) (by simp) (by simp) (by simp) fun p hp => ?_
                  simp at hp
                  rcases hp with rfl | rfl
                  · exact ⟨16, _, _, rfl, by simp, rfl, EntUp.eq (by simp [Function.comp_def]) (by simp)⟩
                  · exact ⟨17, _, _, rfl, by simp, rfl, EntUp.eq (by simp) (by simp)⟩
                refine awp_regc ⟨182, [(5, .pt 16 0 0), (6, .pv (gC g)), (7, .pv (eC x)), (10, .pt 17 0 0), (11, .I a1), (12, .I b'), (13, .pv (gC w.1)), (165, .B (decide (w.2 = 0)))], [(16, some (dice L p2)), (17, some (rowG o))], 240⟩ rfl ?_ ?_
                · simp
                  exact Le.keep rfl (Nat.le_refl _) (by simp <;> rw [Bool.eq_iff_iff] <;> simp) (by simp)
                refine awp_cond _ rfl (fun h4 => ?_) fun h4 => awp_skip ?_
                · simp only [decide_eq_true_eq] at h4
                  obtain ⟨_, _, _, _, w5, w6, w7⟩ := hwok h4
                  refine awp_reg rfl ?_
                  simp [splice]
                  have wl := w7.1.2.2.1
                  rw [← w6] at wl
                  have wg : w.1.gone = o.gone := by rw [w6]; rfl
                  refine ⟨w.1, ⟨wl, by rw [wg]; exact ho2⟩, Le.ents [(16, 16), (17, 17)] [] rfl (by simp) (by simp) (by simp) (by simp) (by simp) (by simp) fun p hp => ?_⟩
                  simp at hp
                  rcases hp with rfl | rfl
                  · exact ⟨16, _, _, rfl, by simp, rfl, EntUp.eq (by simp [Function.comp_def]) (by simp)⟩
                  · exact ⟨17, _, _, rfl, by simp, rfl, EntUp.eq (by simp) (by simp)⟩
                · refine ⟨o, ⟨ho1, ho2⟩, Le.ents [(16, 16), (17, 17)] [] rfl (by simp) (by simp) (by simp) (by simp) (by simp) (by simp) fun p hp => ?_⟩
                  simp at hp
                  rcases hp with rfl | rfl
                  · exact ⟨16, _, _, rfl, by simp, rfl, EntUp.eq (by simp [Function.comp_def]) (by simp)⟩
                  · exact ⟨17, _, _, rfl, by simp, rfl, EntUp.eq (by simp) (by simp)⟩
              rintro o' ⟨k1, k2⟩
              have hwb : IntKind.i64.wrap ((b' : Int) + 1) = ((b' + 1 : Nat) : Int) := by rw [w64 (by omega) (by omega)]; omega
              refine awp_reg rfl ?_
              simp [hwb]
              refine ⟨b' + 1, o', p2, ⟨by omega, k1, k2, hp2⟩, by omega, Le.ents [(16, 16), (17, 17)] [] rfl (by simp) (by simp) (by simp) (by simp) (by simp) (by simp) fun p hp => ?_⟩
              simp at hp
              rcases hp with rfl | rfl
              · exact ⟨16, _, _, rfl, by simp, rfl, EntUp.eq (by simp [Function.comp_def]) (by simp)⟩
              · exact ⟨17, _, _, rfl, by simp, rfl, EntUp.eq (by simp) (by simp)⟩
            · refine ⟨(o, p2), ⟨ho1, ho2, hp2⟩, Le.ents [(16, 16), (17, 17)] [] rfl (by simp) (by simp) (by simp) (by simp) (by simp) (by simp) fun p hp => ?_⟩
              simp at hp
              rcases hp with rfl | rfl
              · exact ⟨16, _, _, rfl, by simp, rfl, EntUp.eq (by simp [Function.comp_def]) (by simp)⟩
              · exact ⟨17, _, _, rfl, by simp, rfl, EntUp.eq (by simp) (by simp)⟩
          · have hbi : ¬ (b' : Int) < 64 := by omega
            refine awp_dregc ⟨182, [(5, .pt 16 0 0), (6, .pv (gC g)), (7, .pv (eC x)), (10, .pt 17 0 0), (11, .I a1), (12, .I b'), (153, .B false)], [(16, some (dice L p1)), (17, some (rowG o))], 136⟩ rfl ?_ ?_
            · simp [hbi]
              exact ⟨rfl, Le.keep rfl (Nat.le_refl _) (by simp) (by simp)⟩
            refine awp_cond _ rfl (fun h3 => by cases h3) fun h3 => awp_exit (hit ?_)
            refine ⟨(o, p1), ⟨ho1, ho2, hp1⟩, Le.ents [(16, 16), (17, 17)] [] rfl (by simp) (by simp) (by simp) (by simp) (by simp) (by simp) fun p hp => ?_⟩
            simp at hp
            rcases hp with rfl | rfl
            · exact ⟨16, _, _, rfl, by simp, rfl, EntUp.eq (by simp [Function.comp_def]) (by simp)⟩
            · exact ⟨17, _, _, rfl, by simp, rfl, EntUp.eq (by simp) (by simp)⟩
        rintro ⟨o2, p2⟩ ⟨i1, i2, i3⟩
        simp only at i1 i2 i3 ⊢
        have hwa : IntKind.i64.wrap ((a1 : Int) + 1) = ((a1 + 1 : Nat) : Int) := by rw [w64 (by omega) (by omega)]; omega
        refine awp_reg rfl ?_
        simp [hwa]
        refine ⟨a1 + 1, o2, p2, ⟨by omega, i1, i2, i3⟩, by omega, Le.ents [(16, 16), (17, 17)] [] rfl (by simp) (by simp) (by simp) (by simp) (by simp) (by simp) fun p hp => ?_⟩
        simp at hp
        rcases hp with rfl | rfl
        · exact ⟨16, _, _, rfl, by simp, rfl, EntUp.eq (by simp [Function.comp_def]) (by simp)⟩
        · exact ⟨17, _, _, rfl, by simp, rfl, EntUp.eq (by simp) (by simp)⟩
      exact ⟨o, ⟨by omega, by omega⟩, Le.snap [17] rfl rfl (by simp)⟩
    -- two edges change places
    refine awp_regc ⟨182, [(6, .pv (gC g)), (7, .pv (eC x)), (10, .pt 17 0 0), (87, .B (decide (1 < g.edges.length)))], [(17, some ⟨3, [[.I g.size, .rs 18 0 g.edges.length, .rs 19 0 g.gone.length]], 0⟩), (18, some ⟨3, rowsE g.edges, 0⟩), (19, some ⟨1, g.gone.map fun n => [AV.I n], 0⟩)], 152⟩ rfl ?_ ?_
    · simp
      exact Le.keep rfl (Nat.le_refl _) (by simp <;> omega) (by simp)
    refine awp_cond _ rfl (fun h => ?_) fun h => awp_skip ?_
    · simp only [decide_eq_true_eq] at h
      obtain ⟨e0, e1, rest, he⟩ : ∃ e0 e1 rest, g.edges = e0 :: e1 :: rest := by
        match hh : g.edges, h with
        | [], h => simp at h
        | [_], h => simp at h
        | e0 :: e1 :: rest, _ => exact ⟨_, _, _, rfl⟩
      have hel : g.edges.length = rest.length + 2 := by rw [he]; simp
      refine awp_drw rfl ?_
      simp [he, splice]
      refine ⟨by omega, by omega, by omega, rfl, ⟨g.size, e1 :: e0 :: rest, g.gone⟩, ⟨by simp; omega, by simp only; omega⟩, Le.snap [17, 18, 19] rfl rfl ?_⟩
      simp [Function.comp_def, take_map_len]
      exact .refl _
    · exact ⟨g, ⟨by omega, by omega⟩, Le.snap [17, 18, 19] rfl rfl (by simp [Function.comp_def, take_map_len])⟩
  rintro o ⟨i1, i2⟩
  refine awp_dregc ⟨182, [(4, .B true)], [], 16⟩ rfl ?_ ?_
  · simp
    refine call0e (law11_awake_ok) rfl ?_
    simp
    refine call0e (law11_agree_ok o x (by omega) (by omega)) rfl ?_
    simp
    refine call0e (graph_Same_ok g o (by omega) (by omega)) rfl ?_
    simp
    refine call0e (ref11_Same_ok g o (by omega) (by omega)) rfl ?_
    simp
    exact ⟨rfl, Le.snap [] rfl rfl (by simp)⟩
  refine awp_ret ?_
  exact ⟨.inr rfl, RetOk.one (by simp)⟩

end Go.Proofs.Ytnphfkceoklkkaa
