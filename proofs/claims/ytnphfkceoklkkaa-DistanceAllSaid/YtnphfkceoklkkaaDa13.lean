/- Texts of this claim, merged. -/
import Derived.Test.YtnphfkceoklkkaaDa12
set_option linter.unusedSimpArgs false
set_option linter.unusedVariables false
set_option linter.unusedSectionVars false
/- The law of graphs: its helpers. -/
namespace Go.Proofs.Ytnphfkceoklkkaa
open Go

theorem EqG.rfl' (a : Gr) : EqG a a := ⟨rfl, rfl, rfl⟩

theorem law11_same_ok (a b : Gr) (e f : Int) (hl : a.edges.length ≤ 140737488355328) (hl2 : a.gone.length ≤ 140737488355328) : ACalls Try.prog nlaw11_same [eG a, eG b, .I e, .I f] [] (.B (decide (e = f ∧ EqG a b))) [] := by
  refine slaw11_same.acalls (Nat.le_of_ble_eq_true rfl) (Nat.le_of_ble_eq_true rfl) (Nat.le_refl _) ?_
  show awp _ 0 _ _ ⟨17, [(0, eG a), (1, eG b), (2, .I e), (3, .I f)], [], 16⟩
  refine awp_regc ⟨17, [(2, .I e), (3, .I f), (4, .pv (gC a)), (5, .pv (gC b))], [], 16⟩ rfl ?_ ?_
  · simp
    exact Le.snap [16, 24] rfl rfl (by simp)
  refine awp_regc ⟨17, [(8, .B (decide (e = f ∧ EqG a b)))], [], 16⟩ rfl ?_ ?_
  · simp
    repeat' first
      | (refine callf nref11_Same rfl ?_; refine call0e (ref11_Same_ok a b hl hl2) rfl ?_; simp)
      | (refine gcase (fun hb => ?_) (fun hb => ?_) <;> (try rw [hb]) <;> (try simp at hb) <;> simp [*])
    all_goals exact Le.snap [] rfl rfl (by simp <;> exact wkB (by (try simp at *); grind))
  refine awp_ret ?_
  exact ⟨.inr rfl, RetOk.one (by simp)⟩

theorem withR_le (g : Gr) (e : Ed) (h : g.edges.length * 24 ≤ 140737488355000) (h2 : g.gone.length ≤ 140737488355328) : (withR g e).1.edges.length ≤ 140737488355328 ∧ (withR g e).1.gone.length ≤ 140737488355328 := by
  unfold withR
  repeat' split
  all_goals (simp [emptyG, plusE] <;> omega)

theorem withoutR_le (g : Gr) (f t : Int) (h : g.edges.length * 24 ≤ 140737488355000) (h2 : g.gone.length ≤ 140737488355328) : (withoutR g f t).1.edges.length ≤ 140737488355328 ∧ (withoutR g f t).1.gone.length ≤ 140737488355328 := by
  unfold withoutR
  repeat' split
  all_goals (simp [emptyG, minusE] <;> omega)

open Classical in
set_option maxRecDepth 100000 in
theorem law11_agree_ok (g : Gr) (x : Ed) (hl : g.edges.length * 24 ≤ 140737488355000) (hl2 : g.gone.length * 8 ≤ 140737488355328) : ACalls Try.prog nlaw11_agree [eG g, eE x] [] (.B true) [] := by
  refine slaw11_agree.acalls (Nat.le_of_ble_eq_true rfl) (Nat.le_of_ble_eq_true rfl) (Nat.le_refl _) ?_
  show awp _ 0 _ _ ⟨62, [(0, eG g), (1, eE x)], [], 16⟩
  have hw := withR_le g x hl (by omega)
  have hv := withoutR_le g x.f x.t hl (by omega)
  refine awp_regc ⟨62, [(2, .pv (gC g)), (3, .pv (eC x))], [], 16⟩ rfl ?_ ?_
  · simp
    exact Le.snap [16, 24] rfl rfl (by simp)
  refine awp_regc ⟨62, [(2, .pv (gC g)), (3, .pv (eC x)), (5, .pv (gC (withR g x).1)), (6, .I (withR g x).2)], [], 16⟩ rfl ?_ ?_
  · simp
    repeat' first
      | (refine callf ngraph_With rfl ?_; refine call0e (graph_With_ok g x (by omega) hl2) rfl ?_; simp)
    all_goals exact Le.snap [64] rfl rfl (by simp)
  refine awp_regc ⟨62, [(2, .pv (gC g)), (3, .pv (eC x)), (5, .pv (gC (withR g x).1)), (6, .I (withR g x).2), (7, .pv (gC (withR g x).1)), (8, .I (withR g x).2)], [], 16⟩ rfl ?_ ?_
  · simp
    repeat' first
      | (refine callf nref11_With rfl ?_; refine call0e (ref11_With_ok g x (by omega) hl2) rfl ?_; simp)
    all_goals exact Le.snap [64] rfl rfl (by simp)
  refine awp_regc ⟨62, [(2, .pv (gC g)), (3, .pv (eC x)), (5, .pv (gC (withR g x).1)), (6, .I (withR g x).2), (7, .pv (gC (withR g x).1)), (8, .I (withR g x).2), (9, .pv (gC (withoutR g x.f x.t).1)), (10, .I (withoutR g x.f x.t).2)], [], 16⟩ rfl ?_ ?_
  · simp
    repeat' first
      | (refine callf ngraph_Without rfl ?_; refine call0e (graph_Without_ok g x.f x.t (by omega) hl2) rfl ?_; simp)
    all_goals exact Le.snap [88] rfl rfl (by simp)
  refine awp_regc ⟨62, [(2, .pv (gC g)), (5, .pv (gC (withR g x).1)), (6, .I (withR g x).2), (7, .pv (gC (withR g x).1)), (8, .I (withR g x).2), (9, .pv (gC (withoutR g x.f x.t).1)), (10, .I (withoutR g x.f x.t).2), (11, .pv (gC (withoutR g x.f x.t).1)), (12, .I (withoutR g x.f x.t).2)], [], 16⟩ rfl ?_ ?_
  · simp
    repeat' first
      | (refine callf nref11_Without rfl ?_; refine call0e (ref11_Without_ok g x.f x.t (by omega) hl2) rfl ?_; simp)
    all_goals exact Le.snap [88] rfl rfl (by simp)
  refine awp_dregc ⟨62, [(4, .B true)], [], 16⟩ rfl ?_ ?_
  · simp
    repeat' first
      | (refine callf ngraph_Check rfl ?_; refine call0e (graph_Check_ok g (by omega) (by omega)) rfl ?_; simp)
      | (refine callf nref11_Check rfl ?_; refine call0e (ref11_Check_ok g (by omega) (by omega)) rfl ?_; simp)
      | (refine callf nlaw11_same rfl ?_; refine call0e (law11_same_ok _ _ _ _ (by first | exact hw.1 | exact hv.1) (by first | exact hw.2 | exact hv.2)) rfl ?_; simp)
      | (refine gcase (fun hb => ?_) (fun hb => ?_) <;> (try rw [hb]) <;> (try simp at hb) <;> simp [*])
    all_goals exact ⟨rfl, Le.snap [] rfl rfl (by simp <;> exact wkB (by (try simp at *); grind [EqG]))⟩
  refine awp_ret ?_
  exact ⟨.inr rfl, RetOk.one (by simp)⟩

abbrev gA : Gr := ⟨3, [⟨0, 2, 2⟩], []⟩
abbrev gN : Gr := ⟨3, [], []⟩

theorem gN_ok : GrOk gN := by
  refine ⟨⟨by decide, by decide, by decide, fun i h => absurd h (by simp)⟩, fun i h => absurd h (by simp)⟩

theorem gA_ok : GrOk gA := by
  refine ⟨⟨by decide, by decide, by decide, fun i h => absurd h (by simp)⟩, fun i h => ?_⟩
  obtain rfl : i = 0 := by simpa using h
  refine ⟨?_, ?_, ?_, fun h => by omega⟩
  · show Fits gA ⟨0, 2, 2⟩
    decide
  · show (1 : Int) ≤ 2
    decide
  · show (2 : Int) ≤ 3
    decide

theorem g65_bad : ¬ GrOk ⟨65, [], []⟩ := fun h => by have := h.1.2.1; simp at this

theorem withR_N : withR gN ⟨0, 2, 2⟩ = (gA, 0) := by
  have h1 : Fits gN ⟨0, 2, 2⟩ := by decide
  have h2 : ¬ AtE gN.edges (idxE gN.edges ⟨0, 2, 0⟩) 0 2 := by decide
  have h3 : plusE gN ⟨0, 2, 2⟩ = gA := rfl
  unfold withR
  simp only [gN_ok, h1, not_true_eq_false, if_false, h3]
  rw [if_neg (by decide), if_neg (by simpa using h2), if_neg (by decide)]

theorem withoutR_A : withoutR gA 0 2 = (gN, 0) := by
  have h2 : AtE gA.edges (idxE gA.edges ⟨0, 2, 0⟩) 0 2 := by decide
  have h3 : minusE gA 0 2 = gN := rfl
  unfold withoutR
  simp only [gA_ok, h2, not_true_eq_false, if_false, h3]

open Classical in
set_option maxRecDepth 100000 in
theorem law11_awake_ok : ACalls Try.prog nlaw11_awake [] [] (.B true) [] := by
  refine slaw11_awake.acalls (Nat.le_of_ble_eq_true rfl) (Nat.le_of_ble_eq_true rfl) (Nat.le_refl _) ?_
  show awp _ 0 _ _ ⟨64, [], [], 16⟩
  refine awp_seq ?_
  refine awp_run (s := ?s1) rfl ?o1 ?q1
  case o1 => simp; rfl
  refine awp_regc ⟨64, [(1, .pv (gC gA)), (2, .I 0)], [], 16⟩ rfl ?_ ?_
  · simp
    repeat' first
      | (refine callf ngraph_With rfl ?_; refine call0 (graph_With_ok gN ⟨0, 2, 2⟩ (by simp) (by simp)) (by simp; exact wkA3 (.refl _) (.nil _ _) (.nil _ _)) ?_; simp [withR_N])
    all_goals exact Le.snap [72] rfl rfl (by simp; exact .refl _)
  refine awp_regc ⟨64, [(1, .pv (gC gA)), (2, .I 0), (3, .pv (gC gN)), (4, .I 0)], [], 16⟩ rfl ?_ ?_
  · simp
    repeat' first
      | (refine callf ngraph_Without rfl ?_; refine call0e (graph_Without_ok gA 0 2 (by simp) (by simp)) rfl ?_; simp [withoutR_A])
    all_goals exact Le.snap [56] rfl rfl (by simp; exact .refl _)
  have hO : outs [⟨0, 2, 2⟩] 0 = [2] := rfl
  have hI : inns [⟨0, 2, 2⟩] 2 = [0] := rfl
  refine awp_regc ⟨64, [(1, .pv (gC gA)), (2, .I 0), (3, .pv (gC gN)), (4, .I 0), (5, .vs 1 false [[.I 2]])], [], 16⟩ rfl ?_ ?_
  · simp
    refine callN1 (graph_Out_ok gA 0 (by simp)) rfl ?_
    simp [hO]
    exact Le.snap [24] rfl rfl (by simp)
  refine awp_regc ⟨64, [(0, .B true)], [], 16⟩ rfl ?_ ?_
  · simp
    repeat' first
      | (refine callf ngraph_Check rfl ?_; refine call0e (graph_Check_ok gA (by simp) (by simp)) rfl ?_; simp [gA_ok])
      | (refine callf ngraph_Check rfl ?_; refine call0 (graph_Check_ok ⟨65, [], []⟩ (by simp) (by simp)) (by simp; exact wkA3 (.refl _) (.nil _ _) (.nil _ _)) ?_; simp [g65_bad])
      | (refine callf ngraph_In rfl ?_; refine callN1 (graph_In_ok gA 2 (by simp)) rfl ?_; simp [hI])
      | (refine gcase (fun hb => ?_) (fun hb => ?_) <;> (try rw [hb]) <;> (try simp at hb) <;> simp [*])
    all_goals exact Le.snap [] rfl rfl (by simp <;> exact wkB (by (try simp at *); grind))
  refine awp_ret ?_
  exact ⟨.inr rfl, RetOk.one (by simp)⟩

end Go.Proofs.Ytnphfkceoklkkaa

/- The law of an edge that comes and goes: the walk. -/
namespace Go.Proofs.Ytnphfkceoklkkaa
open Go

abbrev sorted (l : List Int) : List Int := l.mergeSort fun x y => decide (x ≤ y)

theorem sorted_len (l : List Int) : (sorted l).length = l.length := List.length_mergeSort ..
theorem mem_sorted {l : List Int} {x : Int} : x ∈ sorted l ↔ x ∈ l := List.mem_mergeSort

set_option maxRecDepth 100000 in
theorem law11_GraphUndone_ok (L : List Int) : ACalls Try.prog nlaw11_GraphUndone [ints L] [] (.B true) [] := by
  refine slaw11_GraphUndone.acalls (Nat.le_of_ble_eq_true rfl) (Nat.le_of_ble_eq_true rfl) (Nat.le_refl _) ?_
  show awp _ 0 _ _ ⟨124, [(0, ints L)], [], 16⟩
  refine awp_seq ?_
  refine awp_run (s := ?s1) rfl ?o1 ?q1
  case o1 => simp; rfl
  refine awp_seq ?_
  refine awp_regc ⟨124, [(0, ints L), (17, .B (decide (¬ L.length ≤ 400)))], [], 48⟩ rfl ?_ ?_
  · simp
    refine call0e (Light_ok L) rfl ?_
    simp
    exact Le.snap [] rfl rfl (by simp <;> exact wkB (by rw [Bool.eq_iff_iff]; simp))
  refine awp_cond _ rfl (fun h => ?_) fun h => awp_skip ?_
  · refine awp_seq ?_
    refine awp_run (s := ?s2) rfl ?o2 ?q2
    case o2 => simp; refine call0e (law11_awake_ok) rfl ?_; simp; rfl
    refine awp_ret ?_
    exact ⟨.inr rfl, RetOk.one (by simp)⟩
  have hl : L.length ≤ 400 := by simpa using h
  have hm := graphD_made L 0 (Nat.zero_le _)
  obtain ⟨g, hg⟩ : ∃ g, g = (graphD L 0).1 := ⟨_, rfl⟩
  obtain ⟨a, ha⟩ : ∃ a, a = (graphD L 0).2 := ⟨_, rfl⟩
  have hok := hm.ok
  have hlo := hm.lo
  have hhi := hm.hi
  have h500 := hok.1.2.2.1
  have hfew := hm.few
  have hal := hm.at_
  rw [← hg] at hok hlo hhi h500 hfew
  rw [← ha] at hal
  have hgr := Graph_ok L 0 hl (Nat.zero_le _)
  rw [← hg, ← ha] at hgr
  clear hm
  refine awp_regc ⟨124, [(3, .pt 56 0 0)], [(56, some (dice L 0))], 72⟩ rfl ?_ ?_
  · simp
    refine callN1 (Roll_ok L) rfl ?_
    simp [Function.comp_def]
    exact Le.keep rfl (Nat.le_refl _) (by simp) (by simp)
  refine awp_regc ⟨124, [(3, .pt 56 0 0), (4, .pv (gC g))], [(56, some (dice L a))], 104⟩ rfl ?_ ?_
  · simp
    refine callM1 (i := 56) rfl (e' := dice L 0) (by simp [Function.comp_def]) hgr (by simp) (by simp) ?_
    simp [Function.comp_def]
    refine Le.ents [(56, 56)] [88] rfl (by simp) (by simp) (by simp) (by simp) (by simp) (by simp) fun p hp => ?_
    simp at hp
    subst hp
    exact ⟨56, _, _, rfl, by simp, rfl, EntUp.eq (by simp [Function.comp_def]) (by simp)⟩
  have q1 := nextD_le (n := g.size) hal
  have q2 := nextD_le (n := g.size) q1
  have l3 := nextD_lt (L := L) (a := (nextD L (nextD L a g.size).2 g.size).2) (n := 3) (by omega)
  have hwv : IntKind.i64.wrap (1 + (nextD L (nextD L (nextD L a g.size).2 g.size).2 3).1) = 1 + (nextD L (nextD L (nextD L a g.size).2 g.size).2 3).1 := w64 (by omega) (by omega)
  obtain ⟨x, hx⟩ : ∃ x : Ed, x = ⟨(nextD L a g.size).1, (nextD L (nextD L a g.size).2 g.size).1, 1 + (nextD L (nextD L (nextD L a g.size).2 g.size).2 3).1⟩ := ⟨_, rfl⟩
  refine awp_dregc ⟨124, [(4, .pv (gC g)), (5, .pv (eC x))], [], 216⟩ rfl ?_ ?_
  · simp
    refine callM1 (i := 56) rfl (e' := dice L a) (by simp [Function.comp_def]) (Next1_ok L a g.size hl hal (by omega)) (by simp) (by simp) ?_
    simp [Function.comp_def]
    refine callM1 (i := 56) rfl (e' := dice L (nextD L a g.size).2) (by simp [Function.comp_def]) (Next1_ok L _ g.size hl q1 (by omega)) (by simp) (by simp) ?_
    simp [Function.comp_def]
    refine callM1 (i := 56) rfl (e' := dice L (nextD L (nextD L a g.size).2 g.size).2) (by simp [Function.comp_def]) (Next1_ok L _ 3 hl q2 (by omega)) (by simp) (by simp) ?_
    simp [Function.comp_def, hwv]
    exact ⟨rfl, Le.snap [200] rfl rfl (by simp [hx])⟩
  clear hx
  have hwr := graph_With_ok g x (by omega) (by omega)
  have hwl := withR_le g x (by omega) (by omega)
  refine awp_cut (ι := Unit) (fun _ => ⟨124, [(4, .pv (gC g))], [], 16⟩) (fun _ => True) ?_ fun _ _ => ?_
  · refine awp_regc ⟨124, [(4, .pv (gC g)), (5, .pv (eC x)), (6, .pv (gC (withR g x).1)), (7, .I (withR g x).2)], [], 16⟩ rfl ?_ ?_
    · simp
      refine call0e hwr rfl ?_
      simp
      exact Le.snap [264] rfl rfl (by simp)
    refine awp_regc ⟨124, [(4, .pv (gC g)), (5, .pv (eC x)), (6, .pv (gC (withR g x).1)), (42, .B (decide ((withR g x).2 = 0)))], [], 16⟩ rfl ?_ ?_
    · simp
      exact Le.snap [] rfl rfl (by simp <;> exact wkB (by rw [Bool.eq_iff_iff]; simp))
    refine awp_cond _ rfl (fun h => ?_) fun h => awp_skip ⟨(), trivial, Le.snap [] rfl rfl (by simp)⟩
    simp only [decide_eq_true_eq] at h
    obtain ⟨p1, p2, p3⟩ := plus_minus h
    have hwo := graph_Without_ok (withR g x).1 x.f x.t (by omega) (by
      have := (withR_ok h).2.2.2.2.2.1
      rw [this]
      show g.gone.length * 8 ≤ _
      omega)
    rw [p1] at hwo
    refine awp_regc ⟨124, [(4, .pv (gC g)), (6, .pv (gC (withR g x).1)), (8, .pv (gC g)), (9, .I 0)], [], 16⟩ rfl ?_ ?_
    · simp
      refine call0e hwo rfl ?_
      simp
      exact Le.snap [88] rfl rfl (by simp)
    have hw1 : IntKind.i64.wrap ((g.edges.length : Int) + 1) = (g.edges.length : Int) + 1 := w64 (by omega) (by omega)
    refine awp_regc ⟨124, [(4, .pv (gC g)), (74, .B false)], [], 16⟩ rfl ?_ ?_
    · simp
      repeat' first
        | (refine callf nref11_Same rfl ?_; refine call0e (ref11_Same_ok g g (by omega) (by omega)) rfl ?_; simp [EqG, hw1, p2])
        | (refine callf ngraph_Check rfl ?_; refine call0e (graph_Check_ok (withR g x).1 (by omega) (by omega)) rfl ?_; simp [p3])
        | (refine gcase (fun hb => ?_) (fun hb => ?_) <;> (try rw [hb]) <;> (try simp at hb) <;> simp [*])
      all_goals exact Le.snap [] rfl rfl (by simp <;> exact wkB (by (try simp at *); grind))
    refine awp_cond _ rfl (fun h => by cases h) fun h => awp_skip ⟨(), trivial, Le.snap [] rfl rfl (by simp)⟩
  clear hwr hwl hwv l3 q1 q2
  have z1 := lowF_zero hok
  have z2 := lowT_zero hok
  refine awp_regc ⟨124, [(4, .pv (gC g)), (10, .I 0), (11, .I 0)], [], 16⟩ rfl ?_ ?_
  · simp
    exact Le.snap [] rfl rfl (by simp)
  refine awp_seq ?_
  refine awp_regc ⟨124, [(4, .pv (gC g)), (10, .I 0), (11, .I 0), (12, .I 0)], [], 16⟩ rfl ?_ ?_
  · simp
    exact Le.snap [] rfl rfl (by simp)
  refine awp_block ?_
  refine awp_loop (ι := Nat) (fun k => ⟨124, [(4, .pv (gC g)), (10, .I (lowF g.edges k)), (11, .I (lowT g.edges k)), (12, .I k)], [], 16⟩) (fun k => (k : Int) ≤ g.size) (fun k => g.size.toNat - k) 0 (by show ((0 : Nat) : Int) ≤ g.size; omega) (Le.snap [] rfl rfl (by simp [z1, z2])) ?_
  intro k hk
  refine awp_seq ?_
  refine awp_regc ⟨124, [(4, .pv (gC g)), (10, .I (lowF g.edges k)), (11, .I (lowT g.edges k)), (12, .I k), (78, .B (decide ((k : Int) < g.size)))], [], 16⟩ rfl ?_ ?_
  · simp
    exact Le.snap [] rfl rfl (by simp)
  refine awp_cond _ rfl (fun h => awp_skip ?_) fun h => awp_exit (hit ?_)
  · simp only [decide_eq_true_eq] at h
    refine awp_cut (ι := Unit) (fun _ => ⟨124, [(4, .pv (gC g)), (10, .I (lowF g.edges (k + 1))), (11, .I (lowT g.edges (k + 1))), (12, .I k)], [], 16⟩) (fun _ => True) ?_ fun _ _ => ?_
    · refine awp_block ?_
      obtain ⟨S, hS⟩ : ∃ S, S = sorted (outs g.edges k) := ⟨_, rfl⟩
      have hSl : S.length = (outs g.edges k).length := by rw [hS, sorted_len]
      have hol := outs_le g.edges k
      have hil := inns_le g.edges k
      have hfl := lowF_le g.edges k
      have htl := lowT_le g.edges k
      have hwF : IntKind.i64.wrap ((lowF g.edges k : Int) + (S.length : Int)) = (lowF g.edges (k + 1) : Int) := by rw [lowF_succ, w64 (by omega) (by omega)]; omega
      have hwT : IntKind.i64.wrap ((lowT g.edges k : Int) + ((inns g.edges k).length : Int)) = (lowT g.edges (k + 1) : Int) := by rw [lowT_succ, w64 (by omega) (by omega)]; omega
      refine awp_regc ⟨124, [(4, .pv (gC g)), (10, .I (lowF g.edges k)), (11, .I (lowT g.edges k)), (12, .I k), (13, ints S)], [], 16⟩ rfl ?_ ?_
      · simp
        refine callN1 (graph_Out_ok g k (by omega)) rfl ?_
        simp [Function.comp_def]
        exact Le.snap [32] rfl rfl (by simp [Function.comp_def, hS, take_map_len, sorted_len]; exact wkE (congrArg _ (List.take_of_length_le (by rw [List.length_map]; exact Nat.le_of_eq (sorted_len _)))))
      refine awp_regc ⟨124, [(4, .pv (gC g)), (10, .I (lowF g.edges (k + 1))), (11, .I (lowT g.edges (k + 1))), (12, .I k), (13, ints S)], [], 16⟩ rfl ?_ ?_
      · simp [hwF]
        refine callN1 (graph_In_ok g k (by omega)) rfl ?_
        simp [Function.comp_def, hwF, hwT]
        exact Le.snap [] rfl rfl (by simp)
      refine awp_regc ⟨124, [(4, .pv (gC g)), (10, .I (lowF g.edges (k + 1))), (11, .I (lowT g.edges (k + 1))), (12, .I k), (13, ints S), (14, .I 0)], [], 16⟩ rfl ?_ ?_
      · simp
        exact Le.snap [] rfl rfl (by simp)
      refine awp_block ?_
      refine awp_loop (ι := Nat) (fun j => ⟨124, [(4, .pv (gC g)), (10, .I (lowF g.edges (k + 1))), (11, .I (lowT g.edges (k + 1))), (12, .I k), (13, ints S), (14, .I j)], [], 16⟩) (fun j => j ≤ S.length) (fun j => S.length - j) 0 (by simp) (Le.snap [] rfl rfl (by simp)) ?_
      intro j hj
      refine awp_seq ?_
      refine awp_regc ⟨124, [(4, .pv (gC g)), (10, .I (lowF g.edges (k + 1))), (11, .I (lowT g.edges (k + 1))), (12, .I k), (13, ints S), (14, .I j), (97, .B (decide (j < S.length)))], [], 16⟩ rfl ?_ ?_
      · simp
        exact Le.snap [] rfl rfl (by simp)
      refine awp_cond _ rfl (fun h2 => awp_skip ?_) fun h2 => awp_exit (hit ?_)
      · simp only [decide_eq_true_eq] at h2
        have hmem : (k : Int) ∈ sorted (inns g.edges S[j]) := by
          rw [mem_sorted]
          refine out_in ?_
          rw [← mem_sorted, ← hS]
          exact List.getElem_mem _
        refine awp_cut (ι := Unit) (fun _ => ⟨124, [(4, .pv (gC g)), (10, .I (lowF g.edges (k + 1))), (11, .I (lowT g.edges (k + 1))), (12, .I k), (13, ints S), (14, .I j)], [], 16⟩) (fun _ => True) ?_ fun _ _ => ?_
        · refine awp_block ?_
          have hil2 := inns_le g.edges S[j]
          refine awp_dregc ⟨124, [(4, .pv (gC g)), (10, .I (lowF g.edges (k + 1))), (11, .I (lowT g.edges (k + 1))), (12, .I k), (13, ints S), (14, .I j), (108, .B false)], [], 16⟩ rfl ?_ ?_
          · simp [h2]
            refine callN1 (graph_In_ok g S[j] (by omega)) rfl ?_
            simp [Function.comp_def]
            refine call0s [56] (has_ok (sorted (inns g.edges S[j])) k (by rw [sorted_len]; omega)) ?_ (.sc _) ?_
            · simp [Function.comp_def, take_map_len]
              exact List.take_of_length_le (by rw [List.length_map]; exact Nat.le_of_eq (sorted_len _))
            simp [hmem]
            exact ⟨rfl, Le.snap [] rfl rfl (by simp)⟩
          refine awp_cond _ rfl (fun h => by cases h) fun h => awp_skip ⟨(), trivial, Le.snap [] rfl rfl (by simp)⟩
        have hwj : IntKind.i64.wrap ((j : Int) + 1) = ((j + 1 : Nat) : Int) := by rw [w64 (by omega) (by omega)]; omega
        refine awp_reg rfl ?_
        simp [hwj]
        exact ⟨j + 1, by omega, by omega, Le.snap [] rfl rfl (by simp)⟩
      exact ⟨(), trivial, Le.snap [] rfl rfl (by simp)⟩
    have hwk : IntKind.i64.wrap ((k : Int) + 1) = ((k + 1 : Nat) : Int) := by rw [w64 (by omega) (by omega)]; omega
    refine awp_reg rfl ?_
    simp [hwk]
    exact ⟨k + 1, by omega, by omega, Le.snap [] rfl rfl (by simp)⟩
  simp only [decide_eq_false_iff_not] at h
  have e1 := lowF_all hok (k := k) (by omega)
  have e2 := lowT_all hok (k := k) (by omega)
  refine awp_regc ⟨124, [(2, .B true)], [], 16⟩ rfl ?_ ?_
  · simp [e1, e2]
    repeat' first
      | (refine callf nlaw11_awake rfl ?_; refine call0e (law11_awake_ok) rfl ?_; simp [e1, e2])
      | (refine gcase (fun hb => ?_) (fun hb => ?_) <;> (try rw [hb]) <;> (try simp at hb) <;> simp [*])
    all_goals exact Le.snap [] rfl rfl (by simp <;> exact wkB (by (try simp at *); grind))
  refine awp_ret ?_
  exact ⟨.inr rfl, RetOk.one (by simp)⟩

end Go.Proofs.Ytnphfkceoklkkaa

/- The law of made graphs: the walk. -/
namespace Go.Proofs.Ytnphfkceoklkkaa
open Go

theorem GrOk.pair {g : Gr} (h : GrOk g) : g.edges.Pairwise Bef := by
  rw [List.pairwise_iff_getElem]
  intro i j hi hj hij
  exact h.lt j i hi hj hij

theorem sorted_outs {g : Gr} (h : GrOk g) (key : Int) : sorted (outs g.edges key) = outs g.edges key := by
  refine List.mergeSort_of_pairwise (List.Pairwise.filterMap _ (fun a a' hb b h1 b' h2 => ?_) h.pair)
  by_cases e1 : a.f = key <;> simp [e1] at h1
  by_cases e2 : a'.f = key <;> simp [e2] at h2
  unfold Bef at hb
  simp
  omega

theorem sorted_inns {g : Gr} (h : GrOk g) (key : Int) : sorted (inns g.edges key) = inns g.edges key := by
  refine List.mergeSort_of_pairwise (List.Pairwise.filterMap _ (fun a a' hb b h1 b' h2 => ?_) h.pair)
  by_cases e1 : a.t = key <;> simp [e1] at h1
  by_cases e2 : a'.t = key <;> simp [e2] at h2
  unfold Bef at hb
  simp
  omega

theorem ents1 {st st' : St} {i j : Nat} {sn : List Nat} {e e' : Ent} (hsz : st'.sz = st.sz) (hh : st'.h = [(j, some e')]) (hj : j < st'.n) (hs : ∀ k ∈ sn, k ≠ i) (he : st.hp i = some e) (hee : convE [(i, j)] sn st.hp 4 e = e') (hr : e'.ro ≤ e'.rows.length) (ht : ∀ p ∈ st'.t, Wk (conv [(i, j)] sn st.hp 4 (st.get p.1)) p.2) : Le 0 st st' :=
  Le.ents [(i, j)] sn hsz (by simp) (by simp) (by simpa using hj) (by simpa using hs) (Nat.zero_le _) ht (fun p hp => by
    rw [hh] at hp
    simp at hp
    subst hp
    exact ⟨i, e, e', rfl, by simp, he, EntUp.eq hee hr⟩)

theorem Le.dc {st st' : St} {L : List Int} {a : Nat} (i j : Nat) (sn : List Nat) (hsz : st'.sz = st.sz) (hh : st'.h = [(j, some (dice L a))]) (hj : j < st'.n) (hs : ∀ k ∈ sn, k ≠ i) (he : st.hp i = some (dice L a)) (ht : ∀ p ∈ st'.t, Wk (conv [(i, j)] sn st.hp 4 (st.get p.1)) p.2) : Le 0 st st' :=
  ents1 hsz hh hj hs he (by simp [Function.comp_def]) (by simp) ht

set_option maxHeartbeats 4000000 in
set_option maxRecDepth 100000 in
theorem law11_GraphMade_ok (L : List Int) (n : Int) : ACalls Try.prog nlaw11_GraphMade [ints L, .I n] [] (.B true) [] := by
  refine slaw11_GraphMade.acalls (Nat.le_of_ble_eq_true rfl) (Nat.le_of_ble_eq_true rfl) (Nat.le_refl _) ?_
  show awp _ 0 _ _ ⟨182, [(0, ints L), (1, .I n)], [], 16⟩
  refine awp_seq ?_
  refine awp_run (s := ?s1) rfl ?o1 ?q1
  case o1 => simp; rfl
  refine awp_seq ?_
  refine awp_regc ⟨182, [(0, ints L), (1, .I n), (17, .B (decide (¬ L.length ≤ 400)))], [], 48⟩ rfl ?_ ?_
  · simp
    refine call0e (Light_ok L) rfl ?_
    simp
    exact Le.snap [] rfl rfl (by simp <;> exact wkB (by rw [Bool.eq_iff_iff]; simp))
  refine awp_cond _ rfl (fun h => ?_) fun h => awp_skip ?_
  · refine awp_seq ?_
    refine awp_run (s := ?s2) rfl ?o2 ?q2
    case o2 => simp; refine call0e (law11_awake_ok) rfl ?_; simp; rfl
    refine awp_ret ?_
    exact ⟨.inr rfl, RetOk.one (by simp)⟩
  have hl : L.length ≤ 400 := by simpa using h
  have hm := graphD_made L 0 (Nat.zero_le _)
  obtain ⟨g, hg⟩ : ∃ g, g = (graphD L 0).1 := ⟨_, rfl⟩
  obtain ⟨a, ha⟩ : ∃ a, a = (graphD L 0).2 := ⟨_, rfl⟩
  have hok := hm.ok
  have hlo := hm.lo
  have hhi := hm.hi
  have h500 := hok.1.2.2.1
  have hfew := hm.few
  have hal := hm.at_
  rw [← hg] at hok hlo hhi h500 hfew
  rw [← ha] at hal
  have hgr := Graph_ok L 0 hl (Nat.zero_le _)
  rw [← hg, ← ha] at hgr
  clear hm
  refine awp_regc ⟨182, [(1, .I n), (5, .pt 56 0 0)], [(56, some (dice L 0))], 72⟩ rfl ?_ ?_
  · simp
    refine callN1 (Roll_ok L) rfl ?_
    simp [Function.comp_def]
    exact Le.keep rfl (Nat.le_refl _) (by simp) (by simp)
  refine awp_regc ⟨182, [(1, .I n), (5, .pt 56 0 0), (6, .pv (gC g))], [(56, some (dice L a))], 104⟩ rfl ?_ ?_
  · simp
    refine callM1 (i := 56) rfl (e' := dice L 0) (by simp [Function.comp_def]) hgr (by simp) (by simp) ?_
    simp [Function.comp_def]
    exact Le.dc 56 56 [88] rfl rfl (by simp) (by simp) (by simp) (by simp)
  have q1 := nextD_le (n := g.size + 1) hal
  have q2 := nextD_le (n := 2) q1
  have q3 := nextD_le (n := g.size + 1) q2
  have q4 := nextD_le (n := 4) q3
  have l1 := nextD_lt (L := L) (a := a) (n := g.size + 1) (by omega)
  have l2 := nextD_lt (L := L) (a := (nextD L a (g.size + 1)).2) (n := 2) (by omega)
  have hw1 : IntKind.i64.wrap (g.size + 1) = g.size + 1 := w64 (by omega) (by omega)
  have hw2 : IntKind.i64.wrap ((nextD L a (g.size + 1)).1 - (nextD L (nextD L a (g.size + 1)).2 2).1) = (nextD L a (g.size + 1)).1 - (nextD L (nextD L a (g.size + 1)).2 2).1 := w64 (by omega) (by omega)
  obtain ⟨x, hx⟩ : ∃ x : Ed, x = ⟨(nextD L a (g.size + 1)).1 - (nextD L (nextD L a (g.size + 1)).2 2).1, (nextD L (nextD L (nextD L a (g.size + 1)).2 2).2 (g.size + 1)).1, ofD L (nextD L (nextD L (nextD L a (g.size + 1)).2 2).2 (g.size + 1)).2 [1, 3, 0, 4]⟩ := ⟨_, rfl⟩
  obtain ⟨b, hb⟩ : ∃ b, b = (nextD L (nextD L (nextD L (nextD L a (g.size + 1)).2 2).2 (g.size + 1)).2 4).2 := ⟨_, rfl⟩
  have hbl : b ≤ L.length := by rw [hb]; exact q4
  have hof := Of_ok L (nextD L (nextD L (nextD L a (g.size + 1)).2 2).2 (g.size + 1)).2 [1, 3, 0, 4] (by omega) q3 (by simp) (by simp)
  refine awp_dregc ⟨182, [(1, .I n), (5, .pt 56 0 0), (6, .pv (gC g)), (7, .pv (eC x))], [(56, some (dice L b))], 256⟩ rfl ?_ ?_
  · simp [hw1]
    refine callM1 (i := 56) rfl (e' := dice L a) (by simp [Function.comp_def]) (Next1_ok L a (g.size + 1) hl hal (by omega)) (by simp) (by simp) ?_
    simp [Function.comp_def]
    refine callM1 (i := 56) rfl (e' := dice L (nextD L a (g.size + 1)).2) (by simp [Function.comp_def]) (Next1_ok L _ 2 hl q1 (by omega)) (by simp) (by simp) ?_
    simp [Function.comp_def, hw1, hw2]
    refine callM1 (i := 56) rfl (e' := dice L (nextD L (nextD L a (g.size + 1)).2 2).2) (by simp [Function.comp_def]) (Next1_ok L _ (g.size + 1) hl q2 (by omega)) (by simp) (by simp) ?_
    simp [Function.comp_def]
    refine callM1s (i := 56) (j := 216) (by decide) (Nat.zero_le _) rfl rfl (e' := dice L (nextD L (nextD L (nextD L a (g.size + 1)).2 2).2 (g.size + 1)).2) (by simp [Function.comp_def]) hof (by simp) (by simp) ?_
    simp [Function.comp_def]
    refine ⟨rfl, ?_⟩
    exact Le.dc 56 56 [240] rfl rfl (by simp) (by simp) (by simp [hb]) (by simp [hx])
  clear hof hb hx hw2 l1 l2 q1 q2 q3 q4 hgr
  -- Out and In
  refine awp_seq ?_
  refine awp_regc ⟨182, [(1, .I n), (5, .pt 56 0 0), (6, .pv (gC g)), (7, .pv (eC x)), (8, .I (-1))], [(56, some (dice L b))], 264⟩ rfl ?_ ?_
  · simp
    exact Le.keep rfl (Nat.le_refl _) (by simp) (by simp)
  refine awp_block ?_
  refine awp_loop (ι := Nat) (fun j => ⟨182, [(1, .I n), (5, .pt 56 0 0), (6, .pv (gC g)), (7, .pv (eC x)), (8, .I ((j : Int) - 1))], [(56, some (dice L b))], 264⟩) (fun j => (j : Int) ≤ g.size + 2) (fun j => g.size.toNat + 2 - j) 0 (by show ((0 : Nat) : Int) ≤ g.size + 2; omega) (Le.refl _ _) ?_
  intro j hj
  refine awp_seq ?_
  refine awp_regc ⟨182, [(1, .I n), (5, .pt 56 0 0), (6, .pv (gC g)), (7, .pv (eC x)), (8, .I ((j : Int) - 1)), (43, .B (decide ((j : Int) - 1 ≤ g.size)))], [(56, some (dice L b))], 296⟩ rfl ?_ ?_
  · simp
    exact Le.keep rfl (Nat.le_refl _) (by simp) (by simp)
  refine awp_cond _ rfl (fun h => awp_skip ?_) fun h => awp_exit (hit ?_)
  · simp only [decide_eq_true_eq] at h
    have hwj : IntKind.i64.wrap ((j : Int) - 1 + 1) = ((j + 1 : Nat) : Int) - 1 := by rw [w64 (by omega) (by omega)]; omega
    generalize hkey : (j : Int) - 1 = key at *
    refine awp_cut (ι := Unit) (fun _ => ⟨182, [(1, .I n), (5, .pt 56 0 0), (6, .pv (gC g)), (7, .pv (eC x)), (8, .I key)], [(56, some (dice L b))], 264⟩) (fun _ => True) ?_ fun _ _ => ?_
    · refine awp_block ?_
      have hO := graph_Out_ok g key (by omega)
      have hI := graph_In_ok g key (by omega)
      have hso : ((outs g.edges key).mergeSort fun x y => decide (x ≤ y)) = outs g.edges key := sorted_outs hok key
      have hsi : ((inns g.edges key).mergeSort fun x y => decide (x ≤ y)) = inns g.edges key := sorted_inns hok key
      rw [hso] at hO
      rw [hsi] at hI
      have hol := outs_le g.edges key
      have hil := inns_le g.edges key
      refine awp_dregc ⟨182, [(1, .I n), (5, .pt 56 0 0), (6, .pv (gC g)), (7, .pv (eC x)), (8, .I key), (63, .B false)], [(56, some (dice L b))], 264⟩ rfl ?_ ?_
      · simp
        refine callN1 hO rfl ?_
        simp [Function.comp_def]
        refine callN1 (ref11_Out_ok g key (by omega)) rfl ?_
        simp [Function.comp_def]
        refine call0s [312, 336] (SameInts_ok (outs g.edges key) (outs g.edges key) (by omega)) (by simp [Function.comp_def, take_map_len]) (.sc _) ?_
        simp
        refine callN1 hI rfl ?_
        simp [Function.comp_def]
        refine callN1 (ref11_In_ok g key (by omega)) rfl ?_
        simp [Function.comp_def]
        refine call0s [384, 408] (SameInts_ok (inns g.edges key) (inns g.edges key) (by omega)) (by simp [Function.comp_def, take_map_len]) (.sc _) ?_
        simp
        exact ⟨rfl, Le.dc 56 56 [] rfl rfl (by simp) (by simp) rfl (by simp)⟩
      refine awp_cond _ rfl (fun h => by cases h) fun h => awp_skip ⟨(), trivial, Le.dc 56 56 [] rfl rfl (by simp) (by simp) rfl (by simp)⟩
    refine awp_reg rfl ?_
    simp [hwj]
    exact ⟨j + 1, by omega, by omega, Le.dc 56 56 [] rfl rfl (by simp) (by simp) rfl (by simp)⟩
  clear h
  -- the reference's answers
  refine awp_seq ?_
  refine awp_regc ⟨182, [(1, .I n), (5, .pt 56 0 0), (6, .pv (gC g)), (7, .pv (eC x)), (67, .B false)], [(56, some (dice L b))], 264⟩ rfl ?_ ?_
  · simp
    refine call0e (law11_agree_ok g x (by omega) (by omega)) rfl ?_
    simp
    exact Le.dc 56 56 [] rfl rfl (by simp) (by simp) rfl (by simp)
  refine awp_cond _ rfl (fun h => by cases h) fun h => awp_skip ?_
  -- levels
  refine awp_seq ?_
  refine awp_regc ⟨182, [(1, .I n), (5, .pt 56 0 0), (6, .pv (gC g)), (7, .pv (eC x)), (9, .I 0)], [(56, some (dice L b))], 264⟩ rfl ?_ ?_
  · simp
    exact Le.dc 56 56 [] rfl rfl (by simp) (by simp) rfl (by simp)
  refine awp_block ?_
  refine awp_loop (ι := Nat) (fun v => ⟨182, [(1, .I n), (5, .pt 56 0 0), (6, .pv (gC g)), (7, .pv (eC x)), (9, .I v)], [(56, some (dice L b))], 264⟩) (fun v => v ≤ 5) (fun v => 5 - v) 0 (by omega) (Le.refl _ _) ?_
  intro v hv
  refine awp_seq ?_
  refine awp_regc ⟨182, [(1, .I n), (5, .pt 56 0 0), (6, .pv (gC g)), (7, .pv (eC x)), (9, .I v), (69, .B (decide (v < 5)))], [(56, some (dice L b))], 264⟩ rfl ?_ ?_
  · simp
    exact Le.dc 56 56 [] rfl rfl (by simp) (by simp) rfl (by simp <;> exact wkB (by rw [Bool.eq_iff_iff]; simp; omega))
  refine awp_cond _ rfl (fun h => awp_skip ?_) fun h => awp_exit (hit ?_)
  · simp only [decide_eq_true_eq] at h
    have hwj : IntKind.i64.wrap ((v : Int) + 1) = ((v + 1 : Nat) : Int) := by rw [w64 (by omega) (by omega)]; omega
    refine awp_cut (ι := Unit) (fun _ => ⟨182, [(1, .I n), (5, .pt 56 0 0), (6, .pv (gC g)), (7, .pv (eC x)), (9, .I v)], [(56, some (dice L b))], 264⟩) (fun _ => True) ?_ fun _ _ => ?_
    · refine awp_block ?_
      have hle : (levelG g v).edges.length ≤ 500 := Nat.le_trans (List.length_filter_le _ _) h500
      have hle2 : (levelG g v).gone.length ≤ 1 := hfew
      refine awp_dregc ⟨182, [(1, .I n), (5, .pt 56 0 0), (6, .pv (gC g)), (7, .pv (eC x)), (9, .I v), (79, .B false)], [(56, some (dice L b))], 264⟩ rfl ?_ ?_
      · simp
        refine call0e (graph_Level_ok g v (by omega) (by omega)) rfl ?_
        simp
        refine call0e (ref11_Level_ok g v (by omega) (by omega)) rfl ?_
        simp
        refine call0e (ref11_Same_ok (levelG g v) (levelG g v) (by omega) (by omega)) rfl ?_
        simp [EqG]
        exact ⟨rfl, Le.dc 56 56 [] rfl rfl (by simp) (by simp) rfl (by simp)⟩
      refine awp_cond _ rfl (fun h => by cases h) fun h => awp_skip ⟨(), trivial, Le.dc 56 56 [] rfl rfl (by simp) (by simp) rfl (by simp)⟩
    refine awp_reg rfl ?_
    simp [hwj]
    exact ⟨v + 1, by omega, by omega, Le.dc 56 56 [] rfl rfl (by simp) (by simp) rfl (by simp)⟩
  -- one thing changed
  refine awp_regc ⟨182, [(1, .I n), (5, .pt 16 0 0), (6, .pv (gC g)), (7, .pv (eC x)), (10, .pt 17 0 0)], [(16, some (dice L b)), (17, some ⟨3, [[.I g.size, .rs 18 0 g.edges.length, .rs 19 0 g.gone.length]], 0⟩), (18, some ⟨3, rowsE g.edges, 0⟩), (19, some ⟨1, g.gone.map fun n => [AV.I n], 0⟩)], 24⟩ rfl ?_ ?_
  · simp
    refine callN2 (ref11_Copy_ok g (by omega) (by omega)) rfl ?_
    simp [Function.comp_def]
    refine Le.ents [(56, 16), (280, 17), (272, 18), (273, 19)] [] rfl (by simp) (by simp) (by simp) (by simp) (by simp) (by simp) fun p hp => ?_
    simp at hp
    rcases hp with rfl | rfl | rfl | rfl
    · exact ⟨56, _, _, rfl, by simp, rfl, EntUp.eq (by simp [Function.comp_def]) (by simp)⟩
    · exact ⟨280, _, _, rfl, by simp, rfl, EntUp.eq (by simp) (by simp)⟩
    · exact ⟨272, _, _, rfl, by simp, rfl, EntUp.eq (by simp [Function.comp_def]) (by simp)⟩
    · exact ⟨273, _, _, rfl, by simp, rfl, EntUp.eq (by simp [Function.comp_def]) (by simp)⟩
  refine awp_cut (ι := Gr) (fun o => ⟨182, [(6, .pv (gC g)), (7, .pv (eC x)), (10, .pv (gC o))], [], 16⟩) (fun o => o.edges.length ≤ 600 ∧ o.gone.length ≤ 600) ?_ ?_
  · have b1 := nextD_le (n := 6) hbl
    refine awp_regc ⟨182, [(1, .I n), (5, .pt 16 0 0), (6, .pv (gC g)), (7, .pv (eC x)), (10, .pt 17 0 0), (83, .I (nextD L b 6).1)], [(16, some (dice L (nextD L b 6).2)), (17, some ⟨3, [[.I g.size, .rs 18 0 g.edges.length, .rs 19 0 g.gone.length]], 0⟩), (18, some ⟨3, rowsE g.edges, 0⟩), (19, some ⟨1, g.gone.map fun n => [AV.I n], 0⟩)], 40⟩ rfl ?_ ?_
    · simp
      refine callM1 (i := 16) rfl (e' := dice L b) (by simp [Function.comp_def]) (Next1_ok L b 6 hl hbl (by omega)) (by simp) (by simp) ?_
      simp [Function.comp_def]
      exact Le.keep rfl (Nat.le_refl _) (by simp) (by simp)
    generalize (nextD L b 6).1 = c
    generalize (nextD L b 6).2 = p at b1 ⊢
    refine awp_block ?_
    refine awp_regc ⟨182, [(1, .I n), (5, .pt 16 0 0), (6, .pv (gC g)), (7, .pv (eC x)), (10, .pt 17 0 0), (83, .I c), (102, .B (decide (c = 0)))], [(16, some (dice L p)), (17, some ⟨3, [[.I g.size, .rs 18 0 g.edges.length, .rs 19 0 g.gone.length]], 0⟩), (18, some ⟨3, rowsE g.edges, 0⟩), (19, some ⟨1, g.gone.map fun n => [AV.I n], 0⟩)], 56⟩ rfl ?_ ?_
    · simp
      exact Le.keep rfl (Nat.le_refl _) (by simp <;> rw [Bool.eq_iff_iff] <;> simp) (by simp)
    refine awp_cond _ rfl (fun h => ?_) fun h => ?_
    · -- its size
      have hmod := modI_lt (n := n) (m := 70) (by omega)
      have hwm : IntKind.i64.wrap (modI n 70 - 2) = modI n 70 - 2 := w64 (by omega) (by omega)
      refine awp_reg rfl ?_
      simp
      refine call0e (Mod_ok n 70 (by omega)) rfl ?_
      simp [hwm, splice]
      exact ⟨⟨modI n 70 - 2, g.edges, g.gone⟩, ⟨by simp only; omega, by simp only; omega⟩, Le.snap [17, 18, 19] rfl rfl (by simp [Function.comp_def, take_map_len])⟩
    refine awp_regc ⟨182, [(1, .I n), (5, .pt 16 0 0), (6, .pv (gC g)), (7, .pv (eC x)), (10, .pt 17 0 0), (83, .I c), (108, .B (decide (c = 1)))], [(16, some (dice L p)), (17, some ⟨3, [[.I g.size, .rs 18 0 g.edges.length, .rs 19 0 g.gone.length]], 0⟩), (18, some ⟨3, rowsE g.edges, 0⟩), (19, some ⟨1, g.gone.map fun n => [AV.I n], 0⟩)], 72⟩ rfl ?_ ?_
    · simp
      exact Le.keep rfl (Nat.le_refl _) (by simp <;> rw [Bool.eq_iff_iff] <;> simp) (by simp)
    refine awp_cond _ rfl (fun h => ?_) fun h => ?_
    · -- who is gone
      refine awp_drw rfl ?_
      simp
      refine callM1 (i := 16) rfl (e' := dice L p) (by simp [Function.comp_def]) (Next1_ok L p 9 hl b1 (by omega)) (by simp) (by simp) ?_
      simp [Function.comp_def, List.replicate, splice, take_map_len]
      refine ⟨by omega, by omega, rfl, ⟨g.size, g.edges, g.gone ++ [(nextD L p 9).1]⟩, ⟨by simp only; omega, by simp; omega⟩, Le.snap [17, 18, 112] rfl rfl ?_⟩
      simp [Function.comp_def, take_map_len]
      have e1 : List.take (g.gone.length + 1) (List.map (fun x => [AV.I x]) g.gone ++ [[AV.I (nextD L p 9).1]]) = (g.gone ++ [(nextD L p 9).1]).map fun x => [AV.I x] := by
        rw [List.take_of_length_le (by simp)]
        simp
      rw [e1]
      exact .refl _
    refine awp_regc ⟨182, [(1, .I n), (5, .pt 16 0 0), (6, .pv (gC g)), (7, .pv (eC x)), (10, .pt 17 0 0), (83, .I c), (117, .B (decide (c = 2)))], [(16, some (dice L p)), (17, some ⟨3, [[.I g.size, .rs 18 0 g.edges.length, .rs 19 0 g.gone.length]], 0⟩), (18, some ⟨3, rowsE g.edges, 0⟩), (19, some ⟨1, g.gone.map fun n => [AV.I n], 0⟩)], 88⟩ rfl ?_ ?_
    · simp
      exact Le.keep rfl (Nat.le_refl _) (by simp <;> rw [Bool.eq_iff_iff] <;> simp) (by simp)
    refine awp_cond _ rfl (fun h => ?_) fun h => ?_
    · -- one edge more
      refine awp_reg rfl ?_
      simp [splice]
      refine ⟨by omega, by omega, ⟨g.size, g.edges ++ [x], g.gone⟩, ⟨by simp; omega, by simp only; omega⟩, Le.snap [17, 120, 19] rfl rfl ?_⟩
      simp [Function.comp_def, take_map_len]
      have e1 : List.take (g.edges.length + 1) (List.map (fun e : Ed => [AV.I e.f, AV.I e.t, AV.I e.v]) g.edges ++ [[AV.I x.f, AV.I x.t, AV.I x.v]]) = rowsE (g.edges ++ [x]) := by
        rw [List.take_of_length_le (by simp)]
        simp
      rw [e1]
      exact .refl _
    refine awp_regc ⟨182, [(1, .I n), (5, .pt 16 0 0), (6, .pv (gC g)), (7, .pv (eC x)), (10, .pt 17 0 0), (83, .I c), (125, .B (decide (c = 3)))], [(16, some (dice L p)), (17, some ⟨3, [[.I g.size, .rs 18 0 g.edges.length, .rs 19 0 g.gone.length]], 0⟩), (18, some ⟨3, rowsE g.edges, 0⟩), (19, some ⟨1, g.gone.map fun n => [AV.I n], 0⟩)], 104⟩ rfl ?_ ?_
    · simp
      exact Le.keep rfl (Nat.le_refl _) (by simp <;> rw [Bool.eq_iff_iff] <;> simp) (by simp)
    refine awp_cond _ rfl (fun h => ?_) fun h => ?_
    · -- the level of the first edge
      refine awp_regc ⟨182, [(1, .I n), (6, .pv (gC g)), (7, .pv (eC x)), (10, .pt 17 0 0), (130, .B (decide (0 < g.edges.length)))], [(17, some ⟨3, [[.I g.size, .rs 18 0 g.edges.length, .rs 19 0 g.gone.length]], 0⟩), (18, some ⟨3, rowsE g.edges, 0⟩), (19, some ⟨1, g.gone.map fun n => [AV.I n], 0⟩)], 136⟩ rfl ?_ ?_
      · simp
        exact Le.keep rfl (Nat.le_refl _) (by simp <;> rw [Bool.eq_iff_iff] <;> simp) (by simp)
      refine awp_cond _ rfl (fun h => ?_) fun h => awp_skip ?_
      · simp only [decide_eq_true_eq] at h
        obtain ⟨e0, rest, he⟩ : ∃ e0 rest, g.edges = e0 :: rest := by
          cases hh : g.edges with
          | nil => rw [hh] at h; simp at h
          | cons e0 rest => exact ⟨_, _, rfl⟩
        refine awp_reg rfl ?_
        have hel : g.edges.length = rest.length + 1 := by rw [he]; simp
        simp [he, splice]
        refine ⟨⟨g.size, ⟨e0.f, e0.t, n⟩ :: rest, g.gone⟩, ⟨by simp; omega, by simp only; omega⟩, Le.snap [17, 18, 19] rfl rfl ?_⟩
        simp [Function.comp_def, take_map_len]
        exact .refl _
      · exact ⟨g, ⟨by omega, by omega⟩, Le.snap [17, 18, 19] rfl rfl (by simp [Function.comp_def, take_map_len])⟩
    refine awp_regc ⟨182, [(1, .I n), (5, .pt 16 0 0), (6, .pv (gC g)), (7, .pv (eC x)), (10, .pt 17 0 0), (83, .I c), (136, .B (decide (c = 4)))], [(16, some (dice L p)), (17, some ⟨3, [[.I g.size, .rs 18 0 g.edges.length, .rs 19 0 g.gone.length]], 0⟩), (18, some ⟨3, rowsE g.edges, 0⟩), (19, some ⟨1, g.gone.map fun n => [AV.I n], 0⟩)], 120⟩ rfl ?_ ?_
    · simp
      exact Le.keep rfl (Nat.le_refl _) (by simp <;> rw [Bool.eq_iff_iff] <;> simp) (by simp)
    refine awp_cond _ rfl (fun h => ?_) fun h => ?_
    · -- a full one
      let o0 : Gr := ⟨64, g.edges, g.gone⟩
      refine awp_regc ⟨182, [(5, .pt 16 0 0), (6, .pv (gC g)), (7, .pv (eC x)), (10, .pt 17 0 0)], [(16, some (dice L p)), (17, some (rowG o0))], 24⟩ rfl ?_ ?_
      · simp [splice]
        refine Le.ents [(16, 16), (17, 17)] [18, 19] rfl (by simp) (by simp) (by simp) (by simp) (by simp) (by simp) fun p hp => ?_
        simp at hp
        rcases hp with rfl | rfl
        · exact ⟨16, _, _, rfl, by simp, rfl, EntUp.eq (by simp [Function.comp_def]) (by simp)⟩
        · exact ⟨17, _, _, rfl, by simp, rfl, EntUp.eq (by simp [Function.comp_def, take_map_len]; exact ⟨rfl, rfl, rfl⟩) (by simp)⟩
      refine awp_regc ⟨182, [(5, .pt 16 0 0), (6, .pv (gC g)), (7, .pv (eC x)), (10, .pt 17 0 0), (11, .I 0)], [(16, some (dice L p)), (17, some (rowG o0))], 24⟩ rfl ?_ ?_
      · simp
        refine Le.ents [(16, 16), (17, 17)] [] rfl (by simp) (by simp) (by simp) (by simp) (by simp) (by simp) fun p hp => ?_
        simp at hp
        rcases hp with rfl | rfl
        · exact ⟨16, _, _, rfl, by simp, rfl, EntUp.eq (by simp [Function.comp_def]) (by simp)⟩
        · exact ⟨17, _, _, rfl, by simp, rfl, EntUp.eq (by simp) (by simp)⟩
      refine awp_block ?_
      refine awp_loop (ι := Nat × Gr × Nat) (fun q => ⟨182, [(5, .pt 16 0 0), (6, .pv (gC g)), (7, .pv (eC x)), (10, .pt 17 0 0), (11, .I q.1)], [(16, some (dice L q.2.2)), (17, some (rowG q.2.1))], 24⟩) (fun q => q.1 ≤ 9 ∧ q.2.1.edges.length ≤ 500 ∧ q.2.1.gone.length ≤ 1 ∧ q.2.2 ≤ L.length) (fun q => 9 - q.1) (0, o0, p) ⟨by simp only; omega, h500, hfew, b1⟩ (Le.refl _ _) ?_
      rintro ⟨a1, o, p1⟩ ⟨ha1, ho1, ho2, hp1⟩
      simp only at ha1 ho1 ho2 hp1 ⊢
      refine awp_seq ?_
      refine awp_regc ⟨182, [(5, .pt 16 0 0), (6, .pv (gC g)), (7, .pv (eC x)), (10, .pt 17 0 0), (11, .I a1), (140, .B (decide (a1 < 9)))], [(16, some (dice L p1)), (17, some (rowG o))], 40⟩ rfl ?_ ?_
      · simp
        exact Le.keep rfl (Nat.le_refl _) (by simp <;> omega) (by simp)
      refine awp_cond _ rfl (fun h => awp_skip ?_) fun h => awp_exit (hit ?_)
      · simp only [decide_eq_true_eq] at h
        refine awp_cut (ι := Gr × Nat) (fun q => ⟨182, [(5, .pt 16 0 0), (6, .pv (gC g)), (7, .pv (eC x)), (10, .pt 17 0 0), (11, .I a1)], [(16, some (dice L q.2)), (17, some (rowG q.1))], 24⟩) (fun q => q.1.edges.length ≤ 500 ∧ q.1.gone.length ≤ 1 ∧ q.2 ≤ L.length) ?_ ?_
        · refine awp_block ?_
          refine awp_regc ⟨182, [(5, .pt 16 0 0), (6, .pv (gC g)), (7, .pv (eC x)), (10, .pt 17 0 0), (11, .I a1), (12, .I 0)], [(16, some (dice L p1)), (17, some (rowG o))], 48⟩ rfl ?_ ?_
          · simp
            exact Le.keep rfl (Nat.le_refl _) (by simp) (by simp)
          refine awp_block ?_
          refine awp_loop (ι := Nat × Gr × Nat) (fun q => ⟨182, [(5, .pt 16 0 0), (6, .pv (gC g)), (7, .pv (eC x)), (10, .pt 17 0 0), (11, .I a1), (12, .I q.1)], [(16, some (dice L q.2.2)), (17, some (rowG q.2.1))], 48⟩) (fun q => q.1 ≤ 64 ∧ q.2.1.edges.length ≤ 500 ∧ q.2.1.gone.length ≤ 1 ∧ q.2.2 ≤ L.length) (fun q => 64 - q.1) (0, o, p1) ⟨by simp only; omega, ho1, ho2, hp1⟩ (Le.refl _ _) ?_
          clear ho1 ho2 hp1 o p1
          rintro ⟨b', o, p1⟩ ⟨hb1, ho1, ho2, hp1⟩
          simp only at hb1 ho1 ho2 hp1 ⊢
          refine awp_seq ?_
          by_cases hb : b' < 64
          · have hbi : (b' : Int) < 64 := by omega
            have hr := nextD_lt (L := L) (a := p1) (n := 2) (by omega)
            have hp2 := nextD_le (n := 2) hp1
            have hwr : IntKind.i64.wrap (500 + (nextD L p1 2).1) = 500 + (nextD L p1 2).1 := w64 (by omega) (by omega)
            refine awp_dregc ⟨182, [(5, .pt 16 0 0), (6, .pv (gC g)), (7, .pv (eC x)), (10, .pt 17 0 0), (11, .I a1), (12, .I b'), (153, .B (decide ((o.edges.length : Int) < 500 + (nextD L p1 2).1)))], [(16, some (dice L (nextD L p1 2).2)), (17, some (rowG o))], 136⟩ rfl ?_ ?_
            · simp [hbi]
              refine callM1 (i := 16) rfl (e' := dice L p1) (by simp [Function.comp_def]) (Next1_ok L p1 2 hl hp1 (by omega)) (by simp) (by simp) ?_
              simp [hwr, Function.comp_def]
              exact ⟨rfl, Le.keep rfl (Nat.le_refl _) (by simp) (by simp)⟩
            generalize (nextD L p1 2).1 = r at hr
            generalize (nextD L p1 2).2 = p2 at hp2 ⊢
            refine awp_cond _ rfl (fun h3 => awp_skip ?_) fun h3 => awp_exit (hit ?_)
            · refine awp_cut (ι := Gr) (fun o' => ⟨182, [(5, .pt 16 0 0), (6, .pv (gC g)), (7, .pv (eC x)), (10, .pt 17 0 0), (11, .I a1), (12, .I b')], [(16, some (dice L p2)), (17, some (rowG o'))], 48⟩) (fun o' => o'.edges.length ≤ 500 ∧ o'.gone.length ≤ 1) ?_ ?_
              · refine awp_block ?_
                have hwith := ref11_With_ok o ⟨a1, b', 1⟩ (by omega) (by omega)
                have hwok := withR_ok (g := o) (e := ⟨a1, b', 1⟩)
                generalize withR o ⟨a1, b', 1⟩ = w at hwith hwok
                refine awp_regc ⟨182, [(5, .pt 16 0 0), (6, .pv (gC g)), (7, .pv (eC x)), (10, .pt 17 0 0), (11, .I a1), (12, .I b'), (13, .pv (gC w.1)), (14, .I w.2)], [(16, some (dice L p2)), (17, some (rowG o))], 224⟩ rfl ?_ ?_
                · simp
                  refine call0e hwith rfl ?_
                  simp
                  refine Le.ents [(16, 16), (17, 17)] [200] rfl (by simp) (by simp) (by simp) (by simp) (by simp) (by simp) fun p hp => ?_
                  simp at hp
                  rcases hp with rfl | rfl
                  · exact ⟨16, _, _, rfl, by simp, rfl, EntUp.eq (by simp [Function.comp_def]) (by simp)⟩
                  · exact ⟨17, _, _, rfl, by simp, rfl, EntUp.eq (by simp) (by simp)⟩
                refine awp_regc ⟨182, [(5, .pt 16 0 0), (6, .pv (gC g)), (7, .pv (eC x)), (10, .pt 17 0 0), (11, .I a1), (12, .I b'), (13, .pv (gC w.1)), (165, .B (decide (w.2 = 0)))], [(16, some (dice L p2)), (17, some (rowG o))], 240⟩ rfl ?_ ?_
                · simp
                  exact Le.keep rfl (Nat.le_refl _) (by simp <;> rw [Bool.eq_iff_iff] <;> simp) (by simp)
                refine awp_cond _ rfl (fun h4 => ?_) fun h4 => awp_skip ?_
                · simp only [decide_eq_true_eq] at h4
                  obtain ⟨_, _, _, _, w5, w6, w7⟩ := hwok h4
                  refine awp_reg rfl ?_
                  simp [splice]
                  have wl := w7.1.2.2.1
                  rw [← w6] at wl
                  have wg : w.1.gone = o.gone := by rw [w6]; rfl
                  refine ⟨w.1, ⟨wl, by rw [wg]; exact ho2⟩, Le.ents [(16, 16), (17, 17)] [] rfl (by simp) (by simp) (by simp) (by simp) (by simp) (by simp) fun p hp => ?_⟩
                  simp at hp
                  rcases hp with rfl | rfl
                  · exact ⟨16, _, _, rfl, by simp, rfl, EntUp.eq (by simp [Function.comp_def]) (by simp)⟩
                  · exact ⟨17, _, _, rfl, by simp, rfl, EntUp.eq (by simp) (by simp)⟩
                · refine ⟨o, ⟨ho1, ho2⟩, Le.ents [(16, 16), (17, 17)] [] rfl (by simp) (by simp) (by simp) (by simp) (by simp) (by simp) fun p hp => ?_⟩
                  simp at hp
                  rcases hp with rfl | rfl
                  · exact ⟨16, _, _, rfl, by simp, rfl, EntUp.eq (by simp [Function.comp_def]) (by simp)⟩
                  · exact ⟨17, _, _, rfl, by simp, rfl, EntUp.eq (by simp) (by simp)⟩
              rintro o' ⟨k1, k2⟩
              have hwb : IntKind.i64.wrap ((b' : Int) + 1) = ((b' + 1 : Nat) : Int) := by rw [w64 (by omega) (by omega)]; omega
              refine awp_reg rfl ?_
              simp [hwb]
              refine ⟨b' + 1, o', p2, ⟨by omega, k1, k2, hp2⟩, by omega, Le.ents [(16, 16), (17, 17)] [] rfl (by simp) (by simp) (by simp) (by simp) (by simp) (by simp) fun p hp => ?_⟩
              simp at hp
              rcases hp with rfl | rfl
              · exact ⟨16, _, _, rfl, by simp, rfl, EntUp.eq (by simp [Function.comp_def]) (by simp)⟩
              · exact ⟨17, _, _, rfl, by simp, rfl, EntUp.eq (by simp) (by simp)⟩
            · refine ⟨(o, p2), ⟨ho1, ho2, hp2⟩, Le.ents [(16, 16), (17, 17)] [] rfl (by simp) (by simp) (by simp) (by simp) (by simp) (by simp) fun p hp => ?_⟩
              simp at hp
              rcases hp with rfl | rfl
              · exact ⟨16, _, _, rfl, by simp, rfl, EntUp.eq (by simp [Function.comp_def]) (by simp)⟩
              · exact ⟨17, _, _, rfl, by simp, rfl, EntUp.eq (by simp) (by simp)⟩
          · have hbi : ¬ (b' : Int) < 64 := by omega
            refine awp_dregc ⟨182, [(5, .pt 16 0 0), (6, .pv (gC g)), (7, .pv (eC x)), (10, .pt 17 0 0), (11, .I a1), (12, .I b'), (153, .B false)], [(16, some (dice L p1)), (17, some (rowG o))], 136⟩ rfl ?_ ?_
            · simp [hbi]
              exact ⟨rfl, Le.keep rfl (Nat.le_refl _) (by simp) (by simp)⟩
            refine awp_cond _ rfl (fun h3 => by cases h3) fun h3 => awp_exit (hit ?_)
            refine ⟨(o, p1), ⟨ho1, ho2, hp1⟩, Le.ents [(16, 16), (17, 17)] [] rfl (by simp) (by simp) (by simp) (by simp) (by simp) (by simp) fun p hp => ?_⟩
            simp at hp
            rcases hp with rfl | rfl
            · exact ⟨16, _, _, rfl, by simp, rfl, EntUp.eq (by simp [Function.comp_def]) (by simp)⟩
            · exact ⟨17, _, _, rfl, by simp, rfl, EntUp.eq (by simp) (by simp)⟩
        rintro ⟨o2, p2⟩ ⟨i1, i2, i3⟩
        simp only at i1 i2 i3 ⊢
        have hwa : IntKind.i64.wrap ((a1 : Int) + 1) = ((a1 + 1 : Nat) : Int) := by rw [w64 (by omega) (by omega)]; omega
        refine awp_reg rfl ?_
        simp [hwa]
        refine ⟨a1 + 1, o2, p2, ⟨by omega, i1, i2, i3⟩, by omega, Le.ents [(16, 16), (17, 17)] [] rfl (by simp) (by simp) (by simp) (by simp) (by simp) (by simp) fun p hp => ?_⟩
        simp at hp
        rcases hp with rfl | rfl
        · exact ⟨16, _, _, rfl, by simp, rfl, EntUp.eq (by simp [Function.comp_def]) (by simp)⟩
        · exact ⟨17, _, _, rfl, by simp, rfl, EntUp.eq (by simp) (by simp)⟩
      exact ⟨o, ⟨by omega, by omega⟩, Le.snap [17] rfl rfl (by simp)⟩
    -- two edges change places
    refine awp_regc ⟨182, [(6, .pv (gC g)), (7, .pv (eC x)), (10, .pt 17 0 0), (87, .B (decide (1 < g.edges.length)))], [(17, some ⟨3, [[.I g.size, .rs 18 0 g.edges.length, .rs 19 0 g.gone.length]], 0⟩), (18, some ⟨3, rowsE g.edges, 0⟩), (19, some ⟨1, g.gone.map fun n => [AV.I n], 0⟩)], 152⟩ rfl ?_ ?_
    · simp
      exact Le.keep rfl (Nat.le_refl _) (by simp <;> omega) (by simp)
    refine awp_cond _ rfl (fun h => ?_) fun h => awp_skip ?_
    · simp only [decide_eq_true_eq] at h
      obtain ⟨e0, e1, rest, he⟩ : ∃ e0 e1 rest, g.edges = e0 :: e1 :: rest := by
        match hh : g.edges, h with
        | [], h => simp at h
        | [_], h => simp at h
        | e0 :: e1 :: rest, _ => exact ⟨_, _, _, rfl⟩
      have hel : g.edges.length = rest.length + 2 := by rw [he]; simp
      refine awp_drw rfl ?_
      simp [he, splice]
      refine ⟨by omega, by omega, by omega, rfl, ⟨g.size, e1 :: e0 :: rest, g.gone⟩, ⟨by simp; omega, by simp only; omega⟩, Le.snap [17, 18, 19] rfl rfl ?_⟩
      simp [Function.comp_def, take_map_len]
      exact .refl _
    · exact ⟨g, ⟨by omega, by omega⟩, Le.snap [17, 18, 19] rfl rfl (by simp [Function.comp_def, take_map_len])⟩
  rintro o ⟨i1, i2⟩
  refine awp_dregc ⟨182, [(4, .B true)], [], 16⟩ rfl ?_ ?_
  · simp
    refine call0e (law11_awake_ok) rfl ?_
    simp
    refine call0e (law11_agree_ok o x (by omega) (by omega)) rfl ?_
    simp
    refine call0e (graph_Same_ok g o (by omega) (by omega)) rfl ?_
    simp
    refine call0e (ref11_Same_ok g o (by omega) (by omega)) rfl ?_
    simp
    exact ⟨rfl, Le.snap [] rfl rfl (by simp)⟩
  refine awp_ret ?_
  exact ⟨.inr rfl, RetOk.one (by simp)⟩

end Go.Proofs.Ytnphfkceoklkkaa

/- slices.IndexFunc, DeleteFunc, ContainsFunc of numbers, by any function; lists.Where. -/
namespace Go.Proofs.Ytnphfkceoklkkaa
open Go

theorem IndexFuncI_ok (f : FuncId) (capt : List AV) (q : Int → Bool) (l : List Int) (hl : l.length ≤ 1099511627776) (hs : Still capt) (hc : ∀ e ∈ l, ACalls Try.prog f (AV.I e :: capt) [] (.B (q e)) []) : ACalls Try.prog nslices_IndexFunc_Lint_int [ints l, .fn (.func f) [] capt] [] (.I (idxQ l q)) [] := by
  have hs2 : ∀ ρ sn h, capt.map (conv ρ sn h 2) = capt := fun _ _ _ => hs _ _ _ 1
  have hs3 : ∀ ρ sn h, capt.map (conv ρ sn h 3) = capt := fun _ _ _ => hs _ _ _ 2
  have hs4 : ∀ ρ sn h, capt.map (conv ρ sn h 4) = capt := fun _ _ _ => hs _ _ _ 3
  refine sslices_IndexFunc_Lint_int.acalls (Nat.le_of_ble_eq_true rfl) (Nat.le_of_ble_eq_true rfl) (Nat.le_refl _) ?_
  show awp _ 0 _ _ ⟨19, [(0, ints l), (1, .fn (.func f) [] capt)], [], 16⟩
  refine awp_seq ?_
  refine awp_run (s := ?s1) rfl ?o1 ?q1
  case o1 => simp; rfl
  refine awp_seq ?_
  refine awp_seq ?_
  refine awp_run (s := ?s2) rfl ?o2 ?q2
  case o2 => simp; rfl
  refine awp_block ?_
  refine awp_loop (ι := Nat) (fun k => ⟨19, [(0, ints l), (1, .fn (.func f) [] capt), (7, .I l.length), (8, .I k)], [], 16⟩) (fun k => k ≤ l.length ∧ ∀ i, i < k → ∀ h : i < l.length, q l[i] = false) (fun k => l.length - k) (0) ?_ (Le.snap [] rfl rfl (by simp [hs2, hs3, hs4])) ?_
  · simp
  rintro k ⟨hk, hp⟩
  refine awp_seq ?_
  refine awp_run (s := ?s3) rfl ?o3 ?q3
  case o3 => simp; rfl
  refine awp_seq ?_
  refine awp_cond _ rfl (fun h4 => ?_) fun h4 => ?_
  · try simp at h4
    have hw2 : IntKind.i64.wrap ((k : Int) + 1) = (k : Int) + 1 := w64 (by omega) (by omega)
    have hck := hc l[k] (List.getElem_mem h4)
    refine awp_skip ?_
    refine awp_seq ?_
    refine awp_block ?_
    refine awp_seq ?_
    refine awp_run (s := ?s5) rfl ?o5 ?q5
    case o5 => simp [h4, hw2]; rfl
    refine awp_seq ?_
    refine awp_run (s := ?s6) rfl ?o6 ?q6
    case o6 =>
      simp [h4, hw2]
      refine call0e hck ?_ ?_
      · simp [hs2, hs3, hs4]
      simp [h4, hw2]; rfl
    refine awp_cond _ rfl (fun h7 => ?_) fun h7 => ?_
    · try simp at h7
      refine awp_seq ?_
      refine awp_run (s := ?s8) rfl ?o8 ?q8
      case o8 => simp [h4, hw2]; rfl
      refine awp_ret ?_
      exact ⟨.inr rfl, RetOk.one (by simp [idxQ_at h4 hp h7])⟩
    try simp at h7
    refine awp_skip ?_
    refine awp_run (s := ?s9) rfl ?o9 ?q9
    case o9 => simp [h4, hw2]; rfl
    refine ⟨k + 1, ⟨h4, fun i hi => ?_⟩, by omega, Le.snap [] rfl rfl (by simp [h4, hw2, hs2, hs3, hs4])⟩
    rcases Nat.lt_succ_iff_lt_or_eq.1 hi with h | rfl
    · exact hp i h
    · exact fun _ => h7
  try simp at h4
  have hall : ∀ i, i < l.length → ∀ h : i < l.length, q l[i] = false := fun i hi => hp i (by omega)
  refine awp_exit ?_
  refine hit ?_
  refine awp_seq ?_
  refine awp_run (s := ?s10) rfl ?o10 ?q10
  case o10 => simp; rfl
  refine awp_ret ?_
  exact ⟨.inr rfl, RetOk.one (by simp [idxQ_no hall])⟩

abbrev rowsI (l : List Int) : List (List AV) := l.map fun e => [AV.I e]

theorem filter_of_notI {l : List Int} {q : Int → Bool} (h : ∀ i, i < l.length → ∀ h : i < l.length, q l[i] = false) : l.filter (fun e => !q e) = l := by
  rw [List.filter_eq_self]
  intro x hx
  obtain ⟨i, hi, rfl⟩ := List.mem_iff_getElem.1 hx
  simp [h i hi hi]

theorem filter_take_succI (l : List Int) (q : Int → Bool) (j : Nat) (h : j < l.length) : (l.take (j + 1)).filter (fun e => !q e) = (l.take j).filter (fun e => !q e) ++ if q l[j] = true then [] else [l[j]] := by
  rw [← List.take_concat_get h, List.concat_eq_append, List.filter_append]
  congr 1
  cases hq : q l[j] <;> simp [hq]

set_option maxRecDepth 100000 in
theorem DeleteFuncI_ok (f : FuncId) (capt : List AV) (q : Int → Bool) (l : List Int) (n m : Nat) (hn : l.length = n) (hm : (l.filter fun e => !q e).length = m) (hl : n ≤ 1099511627776) (hs : Still capt) (hc : ∀ e ∈ l, ACalls Try.prog f (AV.I e :: capt) [] (.B (q e)) []) :
    ACalls Try.prog nslices_DeleteFunc_Lint_int [.rs 0 0 n, .fn (.func f) [] capt] [⟨1, rowsI l, 0⟩] (.rs 0 0 m) [some ⟨1, rowsI (l.filter fun e => !q e) ++ List.replicate (n - m) [.I 0], 0⟩] := by
  have hs2 : ∀ ρ sn h, capt.map (conv ρ sn h 2) = capt := fun _ _ _ => hs _ _ _ 1
  have hs3 : ∀ ρ sn h, capt.map (conv ρ sn h 3) = capt := fun _ _ _ => hs _ _ _ 2
  have hs4 : ∀ ρ sn h, capt.map (conv ρ sn h 4) = capt := fun _ _ _ => hs _ _ _ 3
  refine sslices_DeleteFunc_Lint_int.acalls (Nat.le_of_ble_eq_true rfl) (Nat.le_of_ble_eq_true rfl) (Nat.le_of_ble_eq_true rfl) ?_
  show awp _ 1 _ _ ⟨42, [(0, .rs 0 0 n), (1, .fn (.func f) [] capt)], [(0, some ⟨1, rowsI l, 0⟩)], 16⟩
  have hmn : m ≤ n := by rw [← hm, ← hn]; exact List.length_filter_le _ _
  refine awp_regc ⟨42, [(0, .rs 0 0 n), (1, .fn (.func f) [] capt)], [(0, some ⟨1, rowsI l, 0⟩)], 24⟩ rfl ?_ ?_
  · simp
    exact Le.keep rfl (Nat.le_refl _) (by simp) (by simp)
  refine awp_regc ⟨42, [(0, .rs 0 0 n), (1, .fn (.func f) [] capt), (5, .I (idxQ l q))], [(0, some ⟨1, rowsI l, 0⟩)], 56⟩ rfl ?_ ?_
  · simp
    refine call0s [0] (IndexFuncI_ok f capt q l (by omega) hs hc) ?_ (.sc _) ?_
    · simp [hs2, hs3, hs4, ← hn, Function.comp_def, take_map_len]
    simp
    exact Le.keep rfl (Nat.le_refl _) (by simp) (by simp)
  refine awp_seq ?_
  refine awp_regc ⟨42, [(0, .rs 0 0 n), (1, .fn (.func f) [] capt), (5, .I (idxQ l q)), (12, .B (decide (idxQ l q = -1)))], [(0, some ⟨1, rowsI l, 0⟩)], 72⟩ rfl ?_ ?_
  · simp
    exact Le.keep rfl (Nat.le_refl _) (by simp <;> rw [Bool.eq_iff_iff] <;> simp) (by simp)
  refine awp_cond _ rfl (fun h => ?_) fun h => awp_skip ?_
  · simp only [decide_eq_true_eq] at h
    have hno : ∀ i, i < l.length → ∀ h : i < l.length, q l[i] = false := by
      intro i hi _
      unfold idxQ at h
      split at h
      · omega
      · rename_i hnl
        have : l.findIdx q = l.length := by have := List.findIdx_le_length (xs := l) (p := q); omega
        rw [List.findIdx_eq_length] at this
        exact this _ (List.getElem_mem hi)
    have hf := filter_of_notI hno
    rw [hf] at hm ⊢
    obtain rfl : n = m := by omega
    refine awp_seq ?_
    refine awp_run (s := ?s1) rfl ?o1 ?q1
    case o1 => simp; rfl
    refine awp_ret ?_
    refine ⟨.inr rfl, ⟨[.rs 0 0 n], rfl, [], [], by simp [List.range, List.range.loop], by simp, by simp, ?_, ?_⟩⟩
    · simp [List.range, List.range.loop]
    · simp [List.range, List.range.loop, Function.comp_def]
  simp only [decide_eq_false_iff_not] at h
  obtain ⟨i0, hi0, hlt, hbef, hat⟩ : ∃ i0 : Nat, idxQ l q = i0 ∧ i0 < l.length ∧ (∀ i, i < i0 → ∀ h : i < l.length, q l[i] = false) ∧ ∀ h : i0 < l.length, q l[i0] = true := by
    unfold idxQ at h ⊢
    split at h
    · rename_i hlt
      refine ⟨l.findIdx q, by rw [if_pos hlt], hlt, fun i hi _ => ?_, fun h => List.findIdx_getElem (w := h)⟩
      simpa using List.not_of_lt_findIdx hi
    · omega
  rw [hi0]
  have hA0 : (l.take (i0 + 1)).filter (fun e => !q e) = l.take i0 := by
    rw [filter_take_succI l q i0 hlt, if_pos (hat hlt), List.append_nil]
    refine filter_of_notI fun i hi h => ?_
    rw [List.length_take] at hi
    simp only [List.getElem_take]
    exact hbef i (by omega) (by omega)
  have hw0 : IntKind.i64.wrap ((i0 : Int) + 1) = ((i0 + 1 : Nat) : Int) := by rw [w64 (by omega) (by omega)]; omega
  -- the state at the loop's head: j, what was kept, what lies between
  let C : Nat × List Int → St := fun p => ⟨42, [(0, .rs 0 0 n), (1, .fn (.func f) [] capt), (5, .I ((l.take p.1).filter fun e => !q e).length), (6, .I p.1)], [(0, some ⟨1, rowsI ((l.take p.1).filter (fun e => !q e) ++ p.2 ++ l.drop p.1), 0⟩)], 96⟩
  refine awp_seq ?_
  refine awp_regc (C (i0 + 1, [l[i0]])) rfl ?_ ?_
  · simp [hw0]
    refine Le.keep rfl (Nat.le_refl _) ?_ ?_
    · simp only [C, hA0]
      simp
      omega
    · simp only [C, hA0]
      simp
  refine awp_block ?_
  refine awp_loop C (fun p : Nat × List Int => p.1 ≤ n ∧ p.2 ≠ [] ∧ ((l.take p.1).filter fun e => !q e).length + p.2.length = p.1) (fun p : Nat × List Int => n - p.1) (i0 + 1, [l[i0]]) ?_ (Le.refl _ _) ?_
  · simp only [hA0]
    simp
    omega
  rintro ⟨j, M⟩ ⟨hj, hM, hlen⟩
  simp only at hj hM hlen ⊢
  obtain ⟨A, hA⟩ : ∃ A, A = (l.take j).filter fun e => !q e := ⟨_, rfl⟩
  rw [← hA] at hlen
  have hC : C (j, M) = ⟨42, [(0, .rs 0 0 n), (1, .fn (.func f) [] capt), (5, .I A.length), (6, .I j)], [(0, some ⟨1, rowsI (A ++ M ++ l.drop j), 0⟩)], 96⟩ := by subst hA; rfl
  rw [hC]
  refine awp_seq ?_
  refine awp_regc ⟨42, [(0, .rs 0 0 n), (1, .fn (.func f) [] capt), (5, .I A.length), (6, .I j), (19, .B (decide (j < n)))], [(0, some ⟨1, rowsI (A ++ M ++ l.drop j), 0⟩)], 128⟩ rfl ?_ ?_
  · simp
    exact Le.keep rfl (Nat.le_refl _) (by simp) (by simp)
  refine awp_cond _ rfl (fun h => awp_skip ?_) fun h => awp_exit (hit ?_)
  · simp only [decide_eq_true_eq] at h
    have hjl : j < l.length := by omega
    match M, hM, hlen with
    | m0 :: M1, _, hlen =>
    simp only [List.length_cons] at hlen
    have hnext := filter_take_succI l q j hjl
    rw [← hA] at hnext
    have hget : (rowsI (A ++ m0 :: M1 ++ l.drop j))[j]? = some [AV.I l[j]] := by
      rw [List.getElem?_map, List.getElem?_append_right (by simp; omega), List.getElem?_drop, show j + (j - (A ++ m0 :: M1).length) = j by simp; omega, List.getElem?_eq_getElem hjl]
      rfl
    have hget2 : (rowsI (A ++ m0 :: M1 ++ l.drop j))[A.length]? = some [AV.I m0] := by
      rw [List.getElem?_map, List.append_assoc, List.getElem?_append_right (by omega)]
      simp
    have hset : (rowsI (A ++ m0 :: M1 ++ l.drop j)).set A.length [AV.I l[j]] = rowsI ((A ++ [l[j]]) ++ (M1 ++ [l[j]]) ++ l.drop (j + 1)) := by
      have e1 : l.drop j = l[j] :: l.drop (j + 1) := List.drop_eq_getElem_cons hjl
      rw [e1]
      simp [rowsI, List.set_append]
    have hmore : A ++ m0 :: M1 ++ l.drop j = A ++ (m0 :: M1 ++ [l[j]]) ++ l.drop (j + 1) := by
      have e1 : l.drop j = l[j] :: l.drop (j + 1) := List.drop_eq_getElem_cons hjl
      rw [e1]
      simp
    generalize hrows : rowsI (A ++ m0 :: M1 ++ l.drop j) = R at *
    have hRl : R.length = n := by rw [← hrows]; simp; omega
    have hck := hc l[j] (List.getElem_mem hjl)
    generalize hv : l[j] = v at *
    refine awp_cut (ι := List Int × List Int) (fun p => ⟨42, [(0, .rs 0 0 n), (1, .fn (.func f) [] capt), (5, .I p.1.length), (6, .I j)], [(0, some ⟨1, rowsI (p.1 ++ p.2 ++ l.drop (j + 1)), 0⟩)], 272⟩)
      (fun p => p.1 = (l.take (j + 1)).filter (fun e => !q e) ∧ p.2 ≠ [] ∧ p.1.length + p.2.length = j + 1) ?_ ?_
    · refine awp_block ?_
      refine awp_regc ⟨42, [(0, .rs 0 0 n), (1, .fn (.func f) [] capt), (5, .I A.length), (6, .I j), (7, .I v)], [(0, some ⟨1, R, 0⟩)], 168⟩ rfl ?_ ?_
      · simp [h, hget]
        exact Le.keep rfl (Nat.le_refl _) (by simp) (by simp)
      refine awp_regc ⟨42, [(0, .rs 0 0 n), (1, .fn (.func f) [] capt), (5, .I A.length), (6, .I j), (7, .I v), (29, .B (!q v))], [(0, some ⟨1, R, 0⟩)], 200⟩ rfl ?_ ?_
      · simp
        refine call0e hck ?_ ?_
        · simp [hs2, hs3, hs4]
        simp
        exact Le.keep rfl (Nat.le_refl _) (by simp) (by simp)
      refine awp_cond _ rfl (fun h5 => ?_) fun h5 => awp_skip ?_
      · simp only [Bool.not_eq_true'] at h5
        rw [h5] at hnext
        refine awp_regc ⟨42, [(0, .rs 0 0 n), (1, .fn (.func f) [] capt), (5, .I A.length), (6, .I j)], [(0, some ⟨1, rowsI ((A ++ [v]) ++ (M1 ++ [v]) ++ l.drop (j + 1)), 0⟩)], 240⟩ rfl ?_ ?_
        · simp [hget2, show A.length < n by omega, splice, hset]
          exact Le.keep rfl (Nat.le_refl _) (by simp) (by simp)
        have hwA : IntKind.i64.wrap ((A.length : Int) + 1) = ((A.length + 1 : Nat) : Int) := by rw [w64 (by omega) (by omega)]; omega
        refine awp_reg rfl ?_
        simp [hwA]
        refine ⟨A ++ [v], M1 ++ [v], ⟨by rw [hnext]; simp, by simp, by simp; omega⟩, Le.keep rfl (Nat.le_of_ble_eq_true rfl) (by simp) (by simp)⟩
      · simp only [Bool.not_eq_false'] at h5
        rw [h5] at hnext
        refine ⟨(A, m0 :: M1 ++ [v]), ⟨by rw [hnext]; simp, by simp, by simp; omega⟩, Le.keep rfl (Nat.le_of_ble_eq_true rfl) (by simp) ?_⟩
        rw [← hmore, hrows]
        simp
    rintro ⟨A', M'⟩ ⟨p1, p2, p3⟩
    simp only at p1 p2 p3 ⊢
    have hwj : IntKind.i64.wrap ((j : Int) + 1) = ((j + 1 : Nat) : Int) := by rw [w64 (by omega) (by omega)]; omega
    refine awp_reg rfl ?_
    simp [hwj]
    refine ⟨j + 1, M', ⟨by omega, p2, by rw [← p1]; omega⟩, by omega, ?_⟩
    have hD : C (j + 1, M') = ⟨42, [(0, .rs 0 0 n), (1, .fn (.func f) [] capt), (5, .I A'.length), (6, .I ((j + 1 : Nat) : Int))], [(0, some ⟨1, rowsI (A' ++ M' ++ l.drop (j + 1)), 0⟩)], 96⟩ := by rw [p1]
    rw [hD]
    refine Le.ents [(0, 0)] [] rfl (by simp) (by simp) (by simp) (by simp) (by simp) (by simp [hs2, hs3, hs4]) fun p hp => ?_
    simp at hp
    subst hp
    exact ⟨0, _, _, rfl, by simp, rfl, EntUp.eq (by simp [Function.comp_def]) (by simp)⟩
  simp only [decide_eq_false_iff_not] at h
  obtain rfl : j = n := by omega
  have hd : l.drop j = [] := List.drop_eq_nil_of_le (by omega)
  have ht : l.take j = l := List.take_of_length_le (by omega)
  rw [ht] at hA
  rw [hd, List.append_nil]
  rw [← hA] at hm ⊢
  subst hm
  have hAM : (rowsI (A ++ M)).take A.length = rowsI A := by simp [rowsI]
  have hAd : (rowsI (A ++ M)).drop (A.length + (j - A.length)) = [] := List.drop_eq_nil_of_le (by simp; omega)
  have hAl : (rowsI (A ++ M)).length = j := by simp; omega
  generalize rowsI (A ++ M) = R at *
  refine awp_regc ⟨42, [(0, .rs 0 0 j), (5, .I A.length)], [(0, some ⟨1, rowsI A ++ List.replicate (j - A.length) [.I 0], 0⟩)], 160⟩ rfl ?_ ?_
  · simp
    refine ⟨by omega, by omega, ?_⟩
    rw [hAM, hAd]
    exact Le.keep rfl (Nat.le_refl _) (by simp) (by simp)
  refine awp_seq ?_
  refine awp_run (s := ?s2) rfl ?o2 ?q2
  case o2 =>
    simp
    refine ⟨by omega, ?_⟩
    rfl
  refine awp_ret ?_
  refine ⟨.inr rfl, ⟨[.rs 0 0 A.length], rfl, [], [], by simp [List.range, List.range.loop], by simp, by simp, ?_, ?_⟩⟩
  · simp [List.range, List.range.loop]
  · simp [List.range, List.range.loop, Function.comp_def]

theorem ContainsFuncI_ok (f : FuncId) (capt : List AV) (q : Int → Bool) (l : List Int) (hl : l.length ≤ 1099511627776) (hs : Still capt) (hc : ∀ e ∈ l, ACalls Try.prog f (AV.I e :: capt) [] (.B (q e)) []) : ACalls Try.prog nslices_ContainsFunc_Lint_int [ints l, .fn (.func f) [] capt] [] (.B (l.any q)) [] := by
  have hs2 : ∀ ρ sn h, capt.map (conv ρ sn h 2) = capt := fun _ _ _ => hs _ _ _ 1
  have hs3 : ∀ ρ sn h, capt.map (conv ρ sn h 3) = capt := fun _ _ _ => hs _ _ _ 2
  have hs4 : ∀ ρ sn h, capt.map (conv ρ sn h 4) = capt := fun _ _ _ => hs _ _ _ 3
  refine sslices_ContainsFunc_Lint_int.acalls (Nat.le_of_ble_eq_true rfl) (Nat.le_of_ble_eq_true rfl) (Nat.le_refl _) ?_
  show awp _ 0 _ _ ⟨9, [(0, ints l), (1, .fn (.func f) [] capt)], [], 16⟩
  refine awp_seq ?_
  refine awp_run (s := ?s1) rfl ?o1 ?q1
  case o1 => simp; rfl
  have hi : decide (0 ≤ idxQ l q) = l.any q := by
    unfold idxQ
    by_cases h : l.findIdx q < l.length
    · rw [if_pos h]
      have := List.findIdx_getElem (w := h)
      have h2 : l.any q = true := List.any_eq_true.2 ⟨_, List.getElem_mem h, this⟩
      rw [h2]
      simp
    · rw [if_neg h]
      have : l.findIdx q = l.length := by have := List.findIdx_le_length (xs := l) (p := q); omega
      rw [List.findIdx_eq_length] at this
      have h2 : l.any q = false := by
        rw [List.any_eq_false]
        intro x hx
        simp [this x hx]
      rw [h2]
      simp
  refine awp_regc ⟨9, [(4, .B (l.any q))], [], 16⟩ rfl ?_ ?_
  · simp
    refine call0e (IndexFuncI_ok f capt q l hl hs hc) ?_ ?_
    · simp [hs2, hs3, hs4]
    simp
    exact Le.snap [] rfl rfl (by simp; exact wkB hi)
  refine awp_ret ?_
  exact ⟨.inr rfl, RetOk.one (by simp)⟩

/-- The numbers from 0 to n - 1 for which q holds. -/
def whereQ (n : Nat) (q : Int → Bool) : List Int := ((List.range n).map fun (i : Nat) => (i : Int)).filter q

theorem whereQ_succ (n : Nat) (q : Int → Bool) : whereQ (n + 1) q = whereQ n q ++ if q n = true then [(n : Int)] else [] := by
  unfold whereQ
  rw [List.range_succ, List.map_append, List.filter_append]
  congr 1
  cases hq : q n <;> simp [hq]

theorem whereQ_le (n : Nat) (q : Int → Bool) : (whereQ n q).length ≤ n := by
  unfold whereQ
  have := List.length_filter_le q ((List.range n).map fun (i : Nat) => (i : Int))
  simpa using this

set_option maxRecDepth 100000 in
theorem Where_ok (f : FuncId) (capt : List AV) (q : Int → Bool) (N : Int) (hN : N ≤ 1000000) (hs : Still capt) (hc : ∀ k : Nat, (k : Int) < N → ACalls Try.prog f (AV.I k :: capt) [] (.B (q k)) []) :
    ACalls Try.prog nlists_Where [.I N, .fn (.func f) [] capt] [] (.rs 0 0 (whereQ N.toNat q).length) [some ⟨1, rowsI (whereQ N.toNat q), 0⟩] := by
  have hs2 : ∀ ρ sn h, capt.map (conv ρ sn h 2) = capt := fun _ _ _ => hs _ _ _ 1
  have hs3 : ∀ ρ sn h, capt.map (conv ρ sn h 3) = capt := fun _ _ _ => hs _ _ _ 2
  have hs4 : ∀ ρ sn h, capt.map (conv ρ sn h 4) = capt := fun _ _ _ => hs _ _ _ 3
  refine slists_Where.acalls (Nat.le_of_ble_eq_true rfl) (Nat.le_of_ble_eq_true rfl) (Nat.zero_le _) ?_
  show awp _ 0 _ _ ⟨20, [(0, .I N), (1, .fn (.func f) [] capt)], [], 16⟩
  refine awp_seq ?_
  refine awp_run (s := ?s0) rfl ?o0 ?q0
  case o0 => simp; rfl
  refine awp_seq ?_
  refine awp_run (s := ?s1) rfl ?o1 ?q1
  case o1 => simp; rfl
  refine awp_seq ?_
  refine awp_seq ?_
  refine awp_run (s := ?s2) rfl ?o2 ?q2
  case o2 => simp; rfl
  refine awp_block ?_
  let C : Nat → St := fun k => ⟨20, [(1, .fn (.func f) [] capt), (5, .rs 16 0 (whereQ k q).length), (7, .I N), (8, .I k)], [(16, some ⟨1, rowsI (whereQ k q), 0⟩)], 24⟩
  refine awp_loop C (fun k => k ≤ N.toNat) (fun k => N.toNat - k) 0 (Nat.zero_le _) (Le.lst [] [] [(16, 1)] rfl (by simp) (by simp) (by simp) (by simp [C]) (by simp) (by simp) (by simp) (by simp [C, Up, whereQ, hs2, hs3, hs4]) (by simp [C, whereQ])) ?_
  intro k hk
  have hwl := whereQ_le k q
  have hCk : C k = ⟨20, [(1, .fn (.func f) [] capt), (5, .rs 16 0 (whereQ k q).length), (7, .I N), (8, .I k)], [(16, some ⟨1, rowsI (whereQ k q), 0⟩)], 24⟩ := rfl
  rw [hCk]
  refine awp_regc ⟨20, [(1, .fn (.func f) [] capt), (5, .rs 16 0 (whereQ k q).length), (7, .I N), (8, .I k), (9, .B (decide ((k : Int) < N)))], [(16, some ⟨1, rowsI (whereQ k q), 0⟩)], 32⟩ rfl ?_ ?_
  · simp
    exact Le.keep rfl (Nat.le_refl _) (by simp) (by simp)
  refine awp_seq ?_
  refine awp_cond _ rfl (fun h => awp_skip ?_) fun h => awp_exit (hit ?_)
  · simp only [decide_eq_true_eq] at h
    have hck := hc k h
    have hnext := whereQ_succ k q
    have hw2 : IntKind.i64.wrap ((k : Int) + 1) = ((k + 1 : Nat) : Int) := by rw [w64 (by omega) (by omega)]; omega
    refine awp_cut (ι := Unit) (fun _ => ⟨20, [(1, .fn (.func f) [] capt), (5, .rs 16 0 (whereQ (k + 1) q).length), (7, .I N), (8, .I k)], [(16, some ⟨1, rowsI (whereQ (k + 1) q), 0⟩)], 24⟩) (fun _ => True) ?_ fun _ _ => ?_
    · rw [hnext]
      generalize whereQ k q = W at *
      refine awp_block ?_
      refine awp_seq ?_
      refine awp_run (s := ?s3) rfl ?o3 ?q3
      case o3 => simp; rfl
      refine awp_regc ⟨20, [(1, .fn (.func f) [] capt), (5, .rs 16 0 W.length), (6, .I k), (7, .I N), (8, .I k), (13, .B (q k))], [(16, some ⟨1, rowsI W, 0⟩)], 72⟩ rfl ?_ ?_
      · simp
        refine call0e hck ?_ ?_
        · simp [hs2, hs3, hs4]
        simp
        exact Le.keep rfl (Nat.le_refl _) (by simp) (by simp)
      refine awp_cond _ rfl (fun h5 => ?_) fun h5 => awp_skip ?_
      · rw [if_pos h5]
        refine awp_reg rfl ?_
        simp [List.replicate]
        refine ⟨by omega, by omega, ents1 (i := 96) (sn := []) rfl rfl (by simp) (by simp) rfl (by simp [Function.comp_def, take_map_len]) (by simp) (by simp [hs2, hs3, hs4])⟩
      · rw [if_neg (by simp [h5]), List.append_nil]
        exact ⟨(), trivial, ents1 (i := 16) (sn := []) rfl rfl (by simp) (by simp) rfl (by simp [Function.comp_def]) (by simp) (by simp [hs2, hs3, hs4])⟩
    refine awp_reg rfl ?_
    simp [hw2]
    exact ⟨k + 1, by omega, by omega, ents1 (i := 16) (sn := []) rfl rfl (by simp [C]) (by simp) rfl (by simp [Function.comp_def]) (by simp) (by simp [C, hs2, hs3, hs4])⟩
  simp only [decide_eq_false_iff_not] at h
  obtain rfl : k = N.toNat := by omega
  generalize whereQ N.toNat q = W at *
  refine awp_seq ?_
  refine awp_run (s := ?s9) rfl ?o9 ?q9
  case o9 => simp; rfl
  refine awp_ret ?_
  exact ⟨.inr rfl, RetOk.out [16] [] rfl (by simp) (by simp) (by simp) (by simp [Function.comp_def])⟩

end Go.Proofs.Ytnphfkceoklkkaa

/- slices.Repeat of one number. -/
namespace Go.Proofs.Ytnphfkceoklkkaa
open Go

theorem wu64 {x : Int} (h1 : 0 ≤ x) (h2 : x < 18446744073709551616) : IntKind.u64.wrap x = x := by rw [IntKind.wrap_u64]; omega

theorem and32 (n : Nat) (h : n < 4294967296) : binV .and (.int .u64 (n : Int)) (.int .u64 4294967295) = some (.int .u64 (n : Int)) := by
  have e : (BitVec.ofInt 64 (n : Int) &&& BitVec.ofInt 64 4294967295).toNat = n := by
    have h1 : (BitVec.ofInt 64 (n : Int)).toNat = n := by
      rw [BitVec.toNat_ofInt]
      omega
    have h2 : (BitVec.ofInt 64 (4294967295 : Int)).toNat = 2 ^ 32 - 1 := rfl
    rw [BitVec.toNat_and, h1, h2, Nat.and_two_pow_sub_one_eq_mod]
    omega
  show some (Value.int .u64 (IntKind.u64.wrap ((BitVec.ofInt 64 (n : Int) &&& BitVec.ofInt 64 4294967295).toNat : Int))) = _
  rw [e, wu64 (by omega) (by omega)]

theorem shr32 (n : Nat) (h : n < 4294967296) : binV .shr (.int .u64 (n : Int)) (.int .u64 32) = some (.int .u64 0) := by
  show (if (0 : Int) ≤ 32 then some (Value.int .u64 ((n : Int).fdiv (2 ^ (min (32 : Int).toNat 64)))) else none) = _
  rw [if_pos (by omega)]
  congr 2
  have : (2 : Int) ^ (min (32 : Int).toNat 64) = 4294967296 := rfl
  rw [this, Int.fdiv_eq_ediv_of_nonneg _ (by omega)]
  omega

abbrev U (n : Int) : AV := .sc (.int .u64 n)

theorem Mul64_ok (n : Nat) (h : n < 4294967296) : ACalls Try.prog nmath_bits_Mul64 [U 1, U n] [] (.tup [U 0, U n]) [] := by
  refine smath_bits_Mul64.acalls (Nat.le_of_ble_eq_true rfl) (Nat.le_of_ble_eq_true rfl) (Nat.le_refl _) ?_
  show awp _ 0 _ _ ⟨51, [(0, U 1), (1, U n)], [], 16⟩
  have a1 : binV .and (.int .u64 1) (.int .u64 4294967295) = some (.int .u64 1) := and32 1 (by omega)
  have a0 : binV .and (.int .u64 0) (.int .u64 4294967295) = some (.int .u64 0) := and32 0 (by omega)
  have an := and32 n h
  have s1 : binV .shr (.int .u64 1) (.int .u64 32) = some (.int .u64 0) := shr32 1 (by omega)
  have s0 : binV .shr (.int .u64 0) (.int .u64 32) = some (.int .u64 0) := shr32 0 (by omega)
  have sn := shr32 n h
  have m1 : ∀ a : Int, binV .mul (.int .u64 0) (.int .u64 a) = some (.int .u64 0) := fun a => by
    show some (Value.int .u64 (IntKind.u64.wrap (0 * a))) = _
    rw [Int.zero_mul]
    rfl
  have m2 : binV .mul (.int .u64 1) (.int .u64 (n : Int)) = some (.int .u64 (n : Int)) := by
    show some (Value.int .u64 (IntKind.u64.wrap (1 * (n : Int)))) = _
    rw [Int.one_mul, wu64 (by omega) (by omega)]
  have m3 : binV .mul (.int .u64 1) (.int .u64 0) = some (.int .u64 0) := rfl
  have d0 : binV .add (.int .u64 0) (.int .u64 0) = some (.int .u64 0) := rfl
  refine awp_seq ?_
  refine awp_run (s := ?z1) rfl ?p1 ?r1
  case p1 => simp; rfl
  refine awp_seq ?_
  refine awp_run (s := ?z2) rfl ?p2 ?r2
  case p2 => simp [-binV, a1]; rfl
  refine awp_seq ?_
  refine awp_run (s := ?z3) rfl ?p3 ?r3
  case p3 => simp [-binV, s1]; rfl
  refine awp_seq ?_
  refine awp_run (s := ?z4) rfl ?p4 ?r4
  case p4 => simp [-binV, an]; rfl
  refine awp_seq ?_
  refine awp_run (s := ?z5) rfl ?p5 ?r5
  case p5 => simp [-binV, sn]; rfl
  refine awp_seq ?_
  refine awp_run (s := ?z6) rfl ?p6 ?r6
  case p6 => simp [-binV, m2]; rfl
  refine awp_seq ?_
  refine awp_run (s := ?z7) rfl ?p7 ?r7
  case p7 => simp [-binV, m1, sn, d0]; rfl
  refine awp_seq ?_
  refine awp_run (s := ?z8) rfl ?p8 ?r8
  case p8 => simp [-binV, a0]; rfl
  refine awp_seq ?_
  refine awp_run (s := ?z9) rfl ?p9 ?r9
  case p9 => simp [-binV, s0]; rfl
  refine awp_seq ?_
  refine awp_run (s := ?z10) rfl ?p10 ?r10
  case p10 => simp [-binV, m3, d0]; rfl
  refine awp_seq ?_
  refine awp_run (s := ?z11) rfl ?p11 ?r11
  case p11 => simp [-binV, m1, d0, s0]; rfl
  refine awp_seq ?_
  refine awp_run (s := ?z12) rfl ?p12 ?r12
  case p12 => simp [-binV, m2]; rfl
  refine awp_ret ?_
  exact ⟨.inr rfl, RetOk.out [] [] rfl (by simp) (by simp) (by simp) (by simp)⟩

theorem Mul_ok (n : Nat) (h : n < 4294967296) : ACalls Try.prog nmath_bits_Mul [U 1, U n] [] (.tup [U 0, U n]) [] := by
  refine smath_bits_Mul.acalls (Nat.le_of_ble_eq_true rfl) (Nat.le_of_ble_eq_true rfl) (Nat.le_refl _) ?_
  show awp _ 0 _ _ ⟨30, [(0, U 1), (1, U n)], [], 16⟩
  refine awp_seq ?_
  refine awp_run (s := ?z1) rfl ?p1 ?r1
  case p1 => simp; rfl
  refine awp_seq ?_
  refine awp_cond _ rfl (fun h => by cases h) fun _ => awp_skip ?_
  refine awp_seq ?_
  refine awp_run (s := ?z2) rfl ?p2 ?r2
  case p2 => simp; refine call0e (Mul64_ok n h) rfl ?_; simp; rfl
  refine awp_seq ?_
  refine awp_run (s := ?z3) rfl ?p3 ?r3
  case p3 => simp; rfl
  refine awp_ret ?_
  exact ⟨.inr rfl, RetOk.out [] [] rfl (by simp) (by simp) (by simp) (by simp)⟩

set_option maxRecDepth 100000 in
theorem Repeat_ok (v : Int) (n : Nat) (hn : n ≤ 1000000) : ACalls Try.prog nslices_Repeat_Lint_int [ints [v], .I n] [] (.rs 0 0 n) [some ⟨1, List.replicate n [AV.I v], 0⟩] := by
  refine sslices_Repeat_Lint_int.acalls (Nat.le_of_ble_eq_true rfl) (Nat.le_of_ble_eq_true rfl) (Nat.zero_le _) ?_
  show awp _ 0 _ _ ⟨48, [(0, ints [v]), (1, .I n)], [], 16⟩
  have hu1 : IntKind.u64.wrap 1 = 1 := rfl
  have hun : IntKind.u64.wrap (n : Int) = n := wu64 (by omega) (by omega)
  have hin : IntKind.i64.wrap (n : Int) = n := w64 (by omega) (by omega)
  refine awp_seq ?_
  refine awp_run (s := ?z1) rfl ?p1 ?r1
  case p1 => simp; rfl
  refine awp_seq ?_
  refine awp_regc ⟨48, [(0, ints [v]), (1, .I n), (10, .B false)], [], 40⟩ rfl ?_ ?_
  · simp
    exact Le.keep rfl (Nat.le_refl _) (by simp) (by simp)
  refine awp_cond _ rfl (fun h => by cases h) fun _ => awp_skip ?_
  refine awp_regc ⟨48, [(0, ints [v]), (1, .I n), (5, U 0), (6, U n)], [], 128⟩ rfl ?_ ?_
  · simp [hu1, hun]
    refine call0e (Mul_ok n (by omega)) rfl ?_
    simp
    exact Le.keep rfl (Nat.le_refl _) (by simp) (by simp)
  refine awp_seq ?_
  refine awp_regc ⟨48, [(0, ints [v]), (1, .I n), (5, U 0), (6, U n), (26, .B false)], [], 176⟩ rfl ?_ ?_
  · simp
    exact Le.keep rfl (Nat.le_refl _) (by simp; omega) (by simp)
  refine awp_cond _ rfl (fun h => by cases h) fun _ => awp_skip ?_
  refine awp_regc ⟨48, [(0, ints [v]), (7, .rs 192 0 n)], [(192, some ⟨1, List.replicate n [.I 0], 0⟩)], 208⟩ rfl ?_ ?_
  · simp [hin]
    exact ⟨by omega, by omega, Le.keep rfl (Nat.le_refl _) (by simp) (by simp)⟩
  let R : Nat → List (List AV) := fun m => List.replicate m [AV.I v] ++ List.replicate (n - m) [AV.I 0]
  have hRl : ∀ m, m ≤ n → (R m).length = n := fun m hm => by simp [R]; omega
  refine awp_regc ⟨48, [(7, .rs 192 0 n), (8, .I (min 1 n : Nat))], [(192, some ⟨1, R (min 1 n), 0⟩)], 240⟩ rfl ?_ ?_
  · simp
    refine Le.keep rfl (Nat.le_refl _) (by simp) ?_
    cases n with
    | zero => simp [R]
    | succ n => simp [R, List.replicate]
  refine awp_seq ?_
  refine awp_block ?_
  refine awp_loop (ι := Nat) (fun m => ⟨48, [(7, .rs 192 0 n), (8, .I m)], [(192, some ⟨1, R m, 0⟩)], 240⟩) (fun m => m ≤ n ∧ (m = 0 → n = 0)) (fun m => n - m) (min 1 n) ⟨by omega, by omega⟩ (Le.refl _ _) ?_
  rintro m ⟨hm, hm0⟩
  refine awp_seq ?_
  refine awp_regc ⟨48, [(7, .rs 192 0 n), (8, .I m), (37, .B (decide (m < n)))], [(192, some ⟨1, R m, 0⟩)], 272⟩ rfl ?_ ?_
  · simp
    exact Le.keep rfl (Nat.le_refl _) (by simp) (by simp)
  refine awp_cond _ rfl (fun h => awp_skip ?_) fun h => awp_exit (hit ?_)
  · simp only [decide_eq_true_eq] at h
    obtain ⟨k, hk⟩ : ∃ k, k = min m (n - m) := ⟨_, rfl⟩
    have hw : IntKind.i64.wrap ((m : Int) + (k : Int)) = ((m + k : Nat) : Int) := by rw [w64 (by omega) (by omega)]; omega
    have ht : (R m).take m = List.replicate m [AV.I v] := by simp [R]
    have hd : (R m).drop (m + k) = List.replicate (n - (m + k)) [AV.I 0] := by
      simp only [R]
      rw [List.drop_append, List.drop_eq_nil_of_le (by simp), List.nil_append, List.drop_replicate]
      simp
      omega
    have hl := hRl m hm
    have hnew : List.replicate m [AV.I v] ++ (List.replicate k [AV.I v] ++ List.replicate (n - (m + k)) [AV.I 0]) = R (m + k) := by
      simp only [R]
      rw [← List.append_assoc, List.replicate_append_replicate]
    refine awp_block ?_
    refine awp_drw rfl ?_
    generalize R m = X at *
    simp [hl, ht]
    refine ⟨by omega, by omega, _, ⟨by omega, rfl⟩, rfl, m + k, ⟨by omega, by omega⟩, by omega, ?_⟩
    have e1 : min (List.replicate m (([AV.I v] : List AV))).length (n - m) = k := by simp [hk]
    rw [e1, hw, hd, List.take_replicate, show min k m = k by omega, hnew]
    exact ents1 (i := 192) (sn := []) rfl rfl (by simp) (by simp) rfl (by simp [R]) (by simp) (by simp)
  obtain rfl : m = n := by simp at h; omega
  refine awp_seq ?_
  refine awp_run (s := ?z9) rfl ?p9 ?r9
  case p9 => simp; rfl
  refine awp_ret ?_
  exact ⟨.inr rfl, RetOk.out [192] [] rfl (by simp) (by simp) (by simp) (by simp [R])⟩

end Go.Proofs.Ytnphfkceoklkkaa

/- Distances from seeds, by rounds. -/
namespace Go.Proofs.Ytnphfkceoklkkaa
open Go

def startK (g : Gr) (S : List Int) (k : Int) : Bool := S.contains k && !g.gone.contains k

/-- Distances as far as n rounds find them; -1: not reached by then. -/
def dl (g : Gr) (S : List Int) : Nat → Int → Int
  | 0, k => if startK g S k = true then 0 else -1
  | n + 1, k => if 0 ≤ dl g S n k then dl g S n k else if g.edges.any (fun e => decide (e.t = k) && decide (dl g S n e.f = n)) = true then (n : Int) + 1 else -1

/-- Keys of a graph. -/
def Key (g : Gr) (k : Int) : Prop := 0 ≤ k ∧ k < g.size

variable {g : Gr} {S : List Int}

theorem dl_range (n : Nat) (k : Int) : -1 ≤ dl g S n k ∧ dl g S n k ≤ n := by
  induction n with
  | zero => unfold dl; split <;> omega
  | succ n ih => unfold dl; split <;> (try split) <;> omega

theorem dl_keep {n : Nat} {k : Int} (h : 0 ≤ dl g S n k) : dl g S (n + 1) k = dl g S n k := by
  rw [dl, if_pos h]

theorem dl_mono {n m : Nat} {k : Int} (hnm : n ≤ m) (h : 0 ≤ dl g S n k) : dl g S m k = dl g S n k := by
  induction m with
  | zero => obtain rfl : n = 0 := by omega
            rfl
  | succ m ih =>
    rcases Nat.lt_or_ge n (m + 1) with h1 | h1
    · have := ih (by omega)
      rw [dl_keep (by omega), this]
    · obtain rfl : n = m + 1 := by omega
      rfl

/-- What a round finds was not there before, or is new. -/
theorem dl_new {n : Nat} {k : Int} (h : 0 ≤ dl g S (n + 1) k) (h2 : ¬ 0 ≤ dl g S n k) : dl g S (n + 1) k = n + 1 ∧ ∃ e ∈ g.edges, e.t = k ∧ dl g S n e.f = n := by
  rw [dl, if_neg h2] at h ⊢
  split at h
  · rename_i ha
    rw [if_pos ha]
    rw [List.any_eq_true] at ha
    obtain ⟨e, he, ha⟩ := ha
    simp at ha
    exact ⟨rfl, e, he, ha.1, ha.2⟩
  · omega

/-- A distance is found in its own round. -/
theorem dl_at {n : Nat} {k : Int} (h : 0 ≤ dl g S n k) : dl g S (dl g S n k).toNat k = dl g S n k := by
  induction n with
  | zero =>
    have := dl_range (g := g) (S := S) 0 k
    have e : dl g S 0 k = 0 := by omega
    rw [e]; exact e
  | succ n ih =>
    by_cases h2 : 0 ≤ dl g S n k
    · rw [dl_keep h2]; exact ih h2
    · obtain ⟨e, _⟩ := dl_new h h2
      rw [e]
      have : ((n : Int) + 1).toNat = n + 1 := by omega
      rw [this]; exact e

/-- One edge further. -/
theorem dl_edge {n : Nat} {e : Ed} (he : e ∈ g.edges) (h : 0 ≤ dl g S n e.f) : 0 ≤ dl g S (n + 1) e.t ∧ dl g S (n + 1) e.t ≤ dl g S n e.f + 1 := by
  have hat := dl_at h
  have hr := dl_range (g := g) (S := S) n e.f
  obtain ⟨m, hm⟩ : ∃ m : Nat, dl g S n e.f = m := ⟨(dl g S n e.f).toNat, by omega⟩
  rw [hm] at hat hr ⊢
  simp at hat
  have key : 0 ≤ dl g S (m + 1) e.t ∧ dl g S (m + 1) e.t ≤ m + 1 := by
    have hr2 := dl_range (g := g) (S := S) (m + 1) e.t
    refine ⟨?_, by omega⟩
    rw [dl]
    split
    · assumption
    · rw [if_pos]
      · omega
      · rw [List.any_eq_true]
        exact ⟨e, he, by simp [hat]⟩
  have := dl_mono (g := g) (S := S) (n := m + 1) (m := n + 1) (by omega) key.1
  rw [this]
  exact key

theorem dl_key (h : GrOk g) {n : Nat} {k : Int} (hk : 0 ≤ dl g S (n + 1) k) (h0 : ¬ 0 ≤ dl g S 0 k) : Key g k := by
  induction n with
  | zero =>
    obtain ⟨_, e, he, rfl, _⟩ := dl_new hk h0
    have := h.fits e he
    exact ⟨this.2.2.1, by have := this.2.2.2.1; omega⟩
  | succ n ih =>
    by_cases h2 : 0 ≤ dl g S (n + 1) k
    · exact ih h2
    · obtain ⟨_, e, he, rfl, _⟩ := dl_new hk h2
      have := h.fits e he
      exact ⟨this.2.2.1, by have := this.2.2.2.1; omega⟩

/-- Nothing new: nothing new ever. -/
theorem dl_stop (h : GrOk g) {n : Nat} (hn : ∀ k, Key g k → dl g S n k ≠ n) : ∀ (m : Nat), n ≤ m → ∀ k, Key g k → dl g S m k = dl g S n k ∧ dl g S m k ≠ m := by
  intro m
  induction m with
  | zero =>
    intro hm k hk
    obtain rfl : n = 0 := by omega
    exact ⟨rfl, hn k hk⟩
  | succ m ih =>
    intro hm k hk
    rcases Nat.lt_or_ge n (m + 1) with h1 | h1
    · have ihm := ih (by omega)
      have e : dl g S (m + 1) k = dl g S m k := by
        by_cases h2 : 0 ≤ dl g S m k
        · exact dl_keep h2
        · have hr := dl_range (g := g) (S := S) m k
          by_cases h3 : 0 ≤ dl g S (m + 1) k
          · obtain ⟨_, e, he, _, h5⟩ := dl_new h3 h2
            have hf := h.fits e he
            exact absurd h5 (ihm e.f ⟨hf.1, by have := hf.2.1; omega⟩).2
          · have hr2 := dl_range (g := g) (S := S) (m + 1) k
            omega
      have hr := dl_range (g := g) (S := S) m k
      rw [e, (ihm k hk).1]
      refine ⟨rfl, ?_⟩
      rw [(ihm k hk).1] at hr
      omega
    · obtain rfl : n = m + 1 := by omega
      exact ⟨rfl, hn k hk⟩

/-- How many keys n rounds reach. -/
def reach (g : Gr) (S : List Int) (n : Nat) : Nat := (List.range g.size.toNat).countP fun (i : Nat) => decide (0 ≤ dl g S n (i : Int))

theorem countP_lt {α : Type} {p q : α → Bool} : ∀ {l : List α}, (∀ x ∈ l, p x = true → q x = true) → (∃ x ∈ l, q x = true ∧ p x = false) → l.countP p < l.countP q
  | [], _, h => by obtain ⟨_, h, _⟩ := h; simp at h
  | a :: l, h1, h2 => by
    have hle : l.countP p ≤ l.countP q := List.countP_mono_left fun x hx => h1 x (List.mem_cons_of_mem _ hx)
    simp only [List.countP_cons]
    obtain ⟨x, hx, hq, hp⟩ := h2
    rcases List.mem_cons.1 hx with rfl | hx
    · rw [hq, hp]
      simp
      omega
    · have ih := countP_lt (fun x hx => h1 x (List.mem_cons_of_mem _ hx)) ⟨x, hx, hq, hp⟩
      have ha := h1 a List.mem_cons_self
      cases hpa : p a <;> cases hqa : q a <;> simp_all <;> omega

theorem reach_grows {n : Nat} {k : Int} (hk : Key g k) (h : dl g S (n + 1) k = n + 1) : reach g S n < reach g S (n + 1) := by
  refine countP_lt (fun i _ hi => ?_) ⟨k.toNat, by simp; have := hk.1; have := hk.2; omega, ?_, ?_⟩
  · simp at hi ⊢
    rw [dl_keep hi]; exact hi
  · have e : ((k.toNat : Nat) : Int) = k := by have := hk.1; omega
    simp [e, h]
    omega
  · have e : ((k.toNat : Nat) : Int) = k := by have := hk.1; omega
    simp only [e, decide_eq_false_iff_not]
    intro h2
    rw [dl_keep h2] at h
    have := dl_range (g := g) (S := S) n k
    omega

/-- Before a distance there are all lesser ones. -/
theorem dl_pred (h : GrOk g) {n : Nat} {k : Int} (hd : dl g S (n + 1) k = n + 1) : ∃ k', Key g k' ∧ dl g S n k' = n := by
  have h2 : ¬ 0 ≤ dl g S n k := by
    intro h2
    rw [dl_keep h2] at hd
    have := dl_range (g := g) (S := S) n k
    omega
  obtain ⟨_, e, he, _, h5⟩ := dl_new (by omega) h2
  have hf := h.fits e he
  exact ⟨e.f, ⟨hf.1, by have := hf.2.1; omega⟩, h5⟩

theorem reach_ge (h : GrOk g) : ∀ {n : Nat} {k : Int}, Key g k → dl g S n k = n → n + 1 ≤ reach g S n
  | 0, k, hk, hd => by
    have : 0 < reach g S 0 := List.countP_pos_iff.2 ⟨k.toNat, by simp; have := hk.1; have := hk.2; omega, by
      have e : ((k.toNat : Nat) : Int) = k := by have := hk.1; omega
      simp [e]
      omega⟩
    omega
  | n + 1, k, hk, hd => by
    have hd' : dl g S (n + 1) k = (n : Int) + 1 := by simpa using hd
    obtain ⟨k', hk', h'⟩ := dl_pred h hd'
    have := reach_ge h hk' h'
    have := reach_grows hk hd'
    omega

theorem reach_le (n : Nat) : reach g S n ≤ g.size.toNat := by
  have := List.countP_le_length (p := fun (i : Nat) => decide (0 ≤ dl g S n (i : Int))) (l := List.range g.size.toNat)
  simpa [reach] using this

/-- Distances are less than the number of keys. -/
theorem dl_few (h : GrOk g) {n : Nat} {k : Int} (hk : Key g k) (hd : dl g S n k = n) : (n : Int) < g.size := by
  have h1 := reach_ge h hk hd
  have h2 := reach_le (g := g) (S := S) n
  omega

/-- The distance of a key. -/
def dist (g : Gr) (S : List Int) (k : Int) : Int := dl g S g.size.toNat k

theorem dist_stop (h : GrOk g) {n : Nat} (hn : ∀ k, Key g k → dl g S n k ≠ n) (k : Int) (hk : Key g k) : dl g S n k = dist g S k := by
  unfold dist
  rcases Nat.le_total n g.size.toNat with h1 | h1
  · exact ((dl_stop h hn _ h1 k hk).1).symm
  · have hN : ∀ k, Key g k → dl g S g.size.toNat k ≠ g.size.toNat := by
      intro k hk hd
      have := dl_few h hk hd
      omega
    exact (dl_stop h hN _ h1 k hk).1

theorem dist_range (k : Int) : -1 ≤ dist g S k ∧ dist g S k ≤ g.size.toNat := dl_range _ _

theorem dist_lt (h : GrOk g) {k : Int} (hk : Key g k) : dist g S k < g.size ∨ g.size ≤ 0 := by
  have h1 := dist_range (g := g) (S := S) k
  by_cases h2 : dist g S k = g.size.toNat
  · have := dl_few h hk h2
    omega
  · have := hk.1; have := hk.2; omega

theorem dist_zero (h : GrOk g) {k : Int} : dist g S k = 0 ↔ startK g S k = true := by
  unfold dist
  constructor
  · intro hd
    have := dl_at (g := g) (S := S) (n := g.size.toNat) (k := k) (by omega)
    rw [hd] at this
    simp at this
    rw [dl] at this
    split at this
    · assumption
    · omega
  · intro hs
    have h0 : dl g S 0 k = 0 := by rw [dl, if_pos hs]
    rw [dl_mono (Nat.zero_le _) (by omega), h0]

/-- An edge leads at most one further. -/
theorem dist_edge (h : GrOk g) {e : Ed} (he : e ∈ g.edges) (hf : 0 ≤ dist g S e.f) : 0 ≤ dist g S e.t ∧ dist g S e.t ≤ dist g S e.f + 1 := by
  have hfit := h.fits e he
  have h1 := dl_edge (S := S) he hf
  have hN : ∀ k, Key g k → dl g S g.size.toNat k ≠ g.size.toNat := by
    intro k hk hd
    have := dl_few h hk hd
    omega
  have h2 := (dl_stop h hN (g.size.toNat + 1) (by omega) e.t ⟨hfit.2.2.1, by have := hfit.2.2.2.1; omega⟩).1
  rw [h2] at h1
  exact h1

/-- A key that is reached, and is no seed, has one before it. -/
theorem dist_pred (h : GrOk g) {k : Int} {n : Nat} (hd : dist g S k = (n : Int) + 1) : ∃ e ∈ g.edges, e.t = k ∧ dist g S e.f = n := by
  have hat := dl_at (g := g) (S := S) (n := g.size.toNat) (k := k) (by show 0 ≤ dist g S k; omega)
  have hd' : dl g S g.size.toNat k = (n : Int) + 1 := hd
  rw [hd'] at hat
  have e1 : ((n : Int) + 1).toNat = n + 1 := by omega
  rw [e1] at hat
  have h2 : ¬ 0 ≤ dl g S n k := by
    intro h2
    rw [dl_keep h2] at hat
    have := dl_range (g := g) (S := S) n k
    omega
  obtain ⟨_, e, he, h4, h5⟩ := dl_new (by omega) h2
  refine ⟨e, he, h4, ?_⟩
  have hr := dist_range (g := g) (S := S) k
  have : dist g S e.f = dl g S n e.f := dl_mono (by omega) (by omega)
  omega

end Go.Proofs.Ytnphfkceoklkkaa

/- Distances: the program's functions. -/
namespace Go.Proofs.Ytnphfkceoklkkaa
open Go

section
variable {P : Program} {np id : Nat} {h : Nat → Option Ent} {K : AV → List Nat → List (Nat × Option Ent) → Prop} {f : FuncId} {first capt args args' : List AV} {res : AV}
/-- A call that is handed one array to keep, reads others, and hands back nothing that hangs on those. -/
theorem callM1r {i : Nat} (sn : List Nat) {e e' : Ent} {hs' : List (Option Ent)} (hij : ∀ j ∈ sn, j ≠ i) (hi : h i = some e) (hee : convE [(i, 0)] sn h 4 e = e') (hc : ACalls P f args' [e'] res hs') (h8 : hs'.length ≤ 9) (he : (first ++ args ++ capt).map (conv [(i, 0)] sn h 4) = args')
    (hp : Plain res) (hpe : ∀ e, some e ∈ hs' → PlainE e)
    (hk : K (conv (swp [i] id) [] (fun _ => none) 4 res) (i :: sn) ((hs'.zipIdx.map fun (e, k) => ((i :: (List.range 8).map (id + ·)).getD k 0, e.map (convE (swp [i] id) [] (fun _ => none) 4))) ++ [])) : aK P np id .call (.fn (.func f) first capt :: args) h K :=
  ⟨[i], sn, false, args', [e'], res, hs', by simp, by simpa using hij, by simp, by rw [show [i].zipIdx = [(i, 0)] from rfl, he]; exact wkL_refl _, by rw [show [i].zipIdx = [(i, 0)] from rfl]; simpa [hi] using hee, hc, by simpa using h8, .inr ⟨hp, hpe⟩, by simpa [swp] using hk⟩

/-- A call that reads arrays and makes one. -/
theorem callN1s {j : Nat} {e ej : Ent} (hnp : np ≤ j) (hj : h j = some ej) (hc : ACalls P f args' [] res [some e]) (he : (first ++ args ++ capt).map (conv [] [j] h 4) = args')
    (hk : K (conv (swp [] id) [] (fun _ => none) 4 res) [j] [(id, some (convE (swp [] id) [] (fun _ => none) 4 e)), (j, some { ej with ro := ej.rows.length })]) : aK P np id .call (.fn (.func f) first capt :: args) h K :=
  ⟨[], [j], true, args', [], res, [some e], by simp, by simp, by simpa using hnp, by rw [List.zipIdx_nil, he]; exact wkL_refl _, rfl, hc, by simp, .inl rfl, by simpa [swp, hj] using hk⟩
end

theorem plainE_rows {l : List Int} {z : Nat} : PlainE ⟨1, rowsI l ++ List.replicate z [AV.I 0], 0⟩ := by
  intro row hrow x hx
  simp only [List.mem_append, List.mem_map, List.mem_replicate] at hrow
  rcases hrow with ⟨y, _, rfl⟩ | ⟨_, rfl⟩
  · simp at hx; subst hx; exact .sc _
  · simp at hx; subst hx; exact .sc _

theorem start_ok (g : Gr) (S : List Int) (k : Int) (hS : S.length ≤ 1099511627776) (hg : g.gone.length ≤ 1099511627776) : ACalls Try.prog ndistance_start [eG g, ints S, .I k] [] (.B (startK g S k)) [] := by
  refine sdistance_start.acalls (Nat.le_of_ble_eq_true rfl) (Nat.le_of_ble_eq_true rfl) (Nat.le_refl _) ?_
  show awp _ 0 _ _ ⟨17, [(0, eG g), (1, ints S), (2, .I k)], [], 16⟩
  refine awp_regc ⟨17, [(1, ints S), (2, .I k), (3, .pv (gC g))], [], 16⟩ rfl ?_ ?_
  · simp
    exact Le.snap [16] rfl rfl (by simp)
  refine awp_regc ⟨17, [(6, .B (startK g S k))], [], 16⟩ rfl ?_ ?_
  · simp
    refine callf nslices_Contains_Lint_int rfl ?_
    refine call0e (contains_ok S k (by omega)) rfl ?_
    simp
    refine gcase (fun hb => ?_) (fun hb => ?_)
    · simp [hb]
      refine callf nslices_Contains_Lint_int rfl ?_
      refine call0e (contains_ok g.gone k (by omega)) rfl ?_
      simp [hb]
      exact Le.snap [] rfl rfl (by simp [startK] <;> exact wkB (by simp_all))
    · simp [hb]
      exact Le.snap [] rfl rfl (by simp [startK] <;> exact wkB (by simp_all))
  refine awp_ret ?_
  exact ⟨.inr rfl, RetOk.one (by simp)⟩

theorem All_c1_ok (g : Gr) (S : List Int) (k : Int) (hS : S.length ≤ 1099511627776) (hg : g.gone.length ≤ 1099511627776) : ACalls Try.prog ndistance_All_c1 [.I k, .pv (gC g), .pv [ints S]] [] (.B (startK g S k)) [] := by
  refine sdistance_All_c1.acalls (Nat.le_of_ble_eq_true rfl) (Nat.le_of_ble_eq_true rfl) (Nat.le_refl _) ?_
  show awp _ 0 _ _ ⟨9, [(0, .I k), (1, .pv (gC g)), (2, .pv [ints S])], [], 16⟩
  refine awp_seq ?_
  refine awp_run (s := ?s0) rfl ?o0 ?q0
  case o0 => simp; rfl
  refine awp_seq ?_
  refine awp_run (s := ?s1) rfl ?o1 ?q1
  case o1 => simp; refine call0e (start_ok g S k hS hg) rfl ?_; simp; rfl
  refine awp_ret ?_
  exact ⟨.inr rfl, RetOk.one (by simp)⟩

/-- Out of range, or reached. -/
def offQ (D : List Int) (x : Int) : Bool := !decide (0 ≤ x ∧ x < D.length) || decide (0 ≤ D.getD x.toNat 0)

theorem All_c2_ok (D : List Int) (x : Int) (hD : D.length ≤ 1000000) : ACalls Try.prog ndistance_All_c2 [.I x, .pv [ints D]] [] (.B (offQ D x)) [] := by
  refine sdistance_All_c2.acalls (Nat.le_of_ble_eq_true rfl) (Nat.le_of_ble_eq_true rfl) (Nat.le_refl _) ?_
  show awp _ 0 _ _ ⟨17, [(0, .I x), (1, .pv [ints D])], [], 16⟩
  have hw : IntKind.i64.wrap ((D.length : Int) - 1) = (D.length : Int) - 1 := w64 (by omega) (by omega)
  refine awp_seq ?_
  refine awp_run (s := ?s0) rfl ?o0 ?q0
  case o0 => simp; rfl
  refine awp_regc ⟨17, [(3, .B (offQ D x))], [], 16⟩ rfl ?_ ?_
  · simp [hw]
    refine callf nlists_In rfl ?_
    refine call0e (lists_In_ok ..) rfl ?_
    simp
    by_cases hx : 0 ≤ x ∧ x < D.length
    · obtain ⟨k, rfl⟩ : ∃ k : Nat, x = k := ⟨x.toNat, by omega⟩
      have hk : k < D.length := by omega
      have hb : (!decide (0 ≤ (k : Int)) || !decide ((k : Int) ≤ (D.length : Int) - 1)) = false := by simp; omega
      have ho : offQ D k = decide (0 ≤ D[k]) := by
        unfold offQ
        rw [decide_eq_true hx]
        simp [hk]
      rw [hb, ho]
      simp [hk]
      exact Le.snap [] rfl rfl (by simp)
    · have hb : (!decide (0 ≤ x) || !decide (x ≤ (D.length : Int) - 1)) = true := by simp; omega
      have ho : offQ D x = true := by
        unfold offQ
        rw [decide_eq_false hx]
        rfl
      rw [hb, ho]
      simp
      exact Le.snap [] rfl rfl (by simp)
  refine awp_ret ?_
  exact ⟨.inr rfl, RetOk.one (by simp)⟩

/-- The list of all distances. -/
def distL (g : Gr) (S : List Int) : List Int := (List.range g.size.toNat).map fun (i : Nat) => dist g S (i : Int)

/-- Distances less than d. -/
def outL (g : Gr) (S : List Int) (d : Nat) : List Int := (List.range g.size.toNat).map fun (i : Nat) => if 0 ≤ dl g S d i ∧ dl g S d i < d then dl g S d i else -1

/-- .. and those of F. -/
def outP (g : Gr) (S : List Int) (d : Nat) (F : List Int) : List Int := (List.range g.size.toNat).map fun (i : Nat) => if 0 ≤ dl g S d i ∧ dl g S d i < d then dl g S d i else if (i : Int) ∈ F then (d : Int) else -1

theorem outP_nil (g : Gr) (S : List Int) (d : Nat) : outP g S d [] = outL g S d := by
  unfold outP outL
  simp

theorem outP_full {g : Gr} {S : List Int} (d : Nat) (F : List Int) (hF : ∀ x, x ∈ F ↔ Key g x ∧ dl g S d x = d) : outP g S d F = outL g S (d + 1) := by
  unfold outP outL
  refine List.map_congr_left fun i hi => ?_
  simp at hi
  have hkey : Key g i := ⟨by omega, by omega⟩
  have hr := dl_range (g := g) (S := S) d i
  have hr2 := dl_range (g := g) (S := S) (d + 1) i
  have hm : (i : Int) ∈ F ↔ dl g S d i = d := by rw [hF]; exact ⟨fun h => h.2, fun h => ⟨hkey, h⟩⟩
  simp only [hm]
  by_cases h0 : 0 ≤ dl g S d i
  · have e := dl_keep h0
    rw [e]
    by_cases h1 : dl g S d i < d
    · rw [if_pos ⟨h0, h1⟩, if_pos ⟨h0, by omega⟩]
    · have h2 : dl g S d i = d := by omega
      rw [if_neg (by omega), if_pos h2, if_pos ⟨h0, by omega⟩, h2]
  · rw [if_neg (by omega), if_neg (by omega)]
    by_cases h3 : 0 ≤ dl g S (d + 1) i
    · have := (dl_new h3 h0).1
      rw [if_neg (by omega)]
    · rw [if_neg (by omega)]

theorem outP_len (g : Gr) (S : List Int) (d : Nat) (F : List Int) : (outP g S d F).length = g.size.toNat := by simp [outP]
theorem outL_len (g : Gr) (S : List Int) (d : Nat) : (outL g S d).length = g.size.toNat := by simp [outL]

theorem outP_get {g : Gr} {S : List Int} {d : Nat} {F : List Int} {k : Nat} (hk : k < g.size.toNat) (hd : dl g S d k = d) : (outP g S d F)[k]'(by rw [outP_len]; exact hk) = if (k : Int) ∈ F then (d : Int) else -1 := by
  unfold outP
  simp only [List.getElem_map, List.getElem_range]
  rw [if_neg (by omega)]

theorem outP_at {g : Gr} {S : List Int} {d : Nat} (F : List Int) {i : Nat} (hi : i < g.size.toNat) : (outP g S d F)[i]? = some (if 0 ≤ dl g S d i ∧ dl g S d i < d then dl g S d i else if (i : Int) ∈ F then (d : Int) else -1) := by
  simp [outP, hi]

theorem outP_set {g : Gr} {S : List Int} {d : Nat} {F : List Int} {k : Nat} (hk : k < g.size.toNat) (hd : dl g S d k = d) : (outP g S d F).set k d = outP g S d (F ++ [(k : Int)]) := by
  apply List.ext_getElem?
  intro i
  by_cases hi : i < g.size.toNat
  · rw [outP_at _ hi, List.getElem?_set]
    by_cases hki : k = i
    · subst hki
      rw [if_pos rfl, if_pos (by rw [outP_len]; exact hk), if_neg (by omega), if_pos (by simp)]
    · rw [if_neg hki, outP_at _ hi]
      have : (i : Int) ∈ F ++ [(k : Int)] ↔ (i : Int) ∈ F := by
        simp
        omega
      simp only [this]
  · rw [List.getElem?_eq_none (by rw [List.length_set, outP_len]; omega), List.getElem?_eq_none (by rw [outP_len]; omega)]

theorem outP_mem {g : Gr} {S : List Int} {d : Nat} {F F' : List Int} (h : ∀ x, x ∈ F ↔ x ∈ F') : outP g S d F = outP g S d F' := by
  unfold outP
  simp only [h]

theorem countP_add {l : List Ed} {F : List Int} {x : Int} (hx : x ∉ F) : (l.countP fun e => decide (e.f ∈ F ++ [x])) = (l.countP fun e => decide (e.f ∈ F)) + (outs l x).length := by
  rw [outs_count]
  induction l with
  | nil => rfl
  | cons e l ih =>
    have e1 : decide (e.f ∈ F ++ [x]) = (decide (e.f ∈ F) || decide (e.f = x)) := by simp
    simp only [List.countP_cons, ih, e1]
    by_cases h1 : e.f ∈ F <;> by_cases h2 : e.f = x
    · rw [h2] at h1; exact absurd h1 hx
    all_goals
      simp only [hx, h1, h2, decide_true, decide_false, Bool.or_true, Bool.or_false, Bool.true_or, Bool.false_or, if_true, Bool.false_eq_true, if_false]
      omega

end Go.Proofs.Ytnphfkceoklkkaa
