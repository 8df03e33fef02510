/- Texts of this claim, merged. -/
import Derived.Test.YtnphfkceoklkkaaVf9
import Derived.Shelf.Sort.Plain
import Derived.Test.YtnphfkceoklkkaaProg
import Derived.Shelf.Slices.In.SortNone
set_option linter.unusedSimpArgs false
set_option linter.unusedVariables false
set_option linter.unusedSectionVars false
/- The reference's answer: a graph with an edge. -/
namespace Go.Proofs.Ytnphfkceoklkkaa
open Go

theorem take_map_len {α β : Type} (f : α → β) (l : List α) : List.take l.length (List.map f l) = List.map f l := List.take_of_length_le (by simp)

def emptyG : Gr := ⟨0, [], []⟩

/-- A graph with one edge more. -/
def plusE (g : Gr) (e : Ed) : Gr := ⟨g.size, g.edges.take (idxE g.edges ⟨e.f, e.t, 0⟩) ++ e :: g.edges.drop (idxE g.edges ⟨e.f, e.t, 0⟩), g.gone⟩

open Classical in
noncomputable def withR (g : Gr) (e : Ed) : Gr × Int :=
  if ¬ GrOk g then (emptyG, 14) else if ¬ Fits g e then (emptyG, 4) else if ¬ (1 ≤ e.v ∧ e.v ≤ 3) then (emptyG, 2)
  else if AtE g.edges (idxE g.edges ⟨e.f, e.t, 0⟩) e.f e.t then (emptyG, 19) else if g.edges.length = 500 then (emptyG, 3) else (plusE g e, 0)

open Classical in
theorem ref11_With_ok (g : Gr) (e : Ed) (hl : g.edges.length * 24 ≤ 140737488355328) (hl2 : g.gone.length * 8 ≤ 140737488355328) : ACalls Try.prog nref11_With [eG g, eE e] [] (.tup [eG (withR g e).1, .I (withR g e).2]) [] := by
  refine sref11_With.acalls (Nat.le_of_ble_eq_true rfl) (Nat.le_of_ble_eq_true rfl) (Nat.le_refl _) ?_
  show awp _ 0 _ _ ⟨103, [(0, eG g), (1, eE e)], [], 16⟩
  refine awp_regc ⟨103, [(2, .pv (gC g)), (3, .pv (eC e)), (4, .pt 32 0 0)], [(32, some ⟨3, [[.I 0, .nilS, .nilS]], 0⟩)], 40⟩ rfl ?_ ?_
  · simp
    exact Le.var1 32 [16, 24] rfl rfl (Nat.le_of_ble_eq_true rfl) (by decide) rfl (by simp) (by simp) (by simp)
  refine awp_seq ?_
  refine awp_seq ?_
  refine awp_run (s := ?s1) rfl ?o1 ?q1
  case o1 => simp; refine call0e (ref11_Check_ok g (by omega) (by omega)) rfl ?_; simp; rfl
  refine awp_cond _ rfl (fun h2 => ?_) fun h2 => ?_
  · have hg : ¬ GrOk g := by
      intro hg
      simp [hg] at h2
    refine awp_seq ?_
    refine awp_run (s := ?s3) rfl ?o3 ?q3
    case o3 => simp; rfl
    refine awp_ret ?_
    refine ⟨.inr rfl, ?_⟩
    show RetOk [(4, some (true, 3)), (5, none)] 0 _ _ _
    refine RetOk.out (vs := [.agg [.I 0, .nilS, .nilS], .I 14]) [] [] (by simp) (by simp) (by simp) ?_ (by simp)
    have hr : withR g e = (emptyG, 14) := by grind [withR]
    simp [hr, emptyG]
    exact wkT2 (wkA3 (.refl _) (.nil _ _) (.nil _ _)) (.refl _)
  have hg : GrOk g := by
    rcases Classical.em (GrOk g) with h | h
    · exact h
    · simp [h] at h2
  refine awp_skip ?_
  refine awp_seq ?_
  refine awp_run (s := ?s4) rfl ?o4 ?q4
  case o4 => simp; refine call0e (ref11_index_ok g _ _ (by omega)) rfl ?_; simp; rfl
  refine awp_seq ?_
  refine awp_block ?_
  refine awp_regc ⟨103, [(2, .pv (gC g)), (3, .pv (eC e)), (4, .pt 32 0 0), (6, .I (idxE g.edges ⟨e.f, e.t, 0⟩)), (7, .B (decide (AtE g.edges (idxE g.edges ⟨e.f, e.t, 0⟩) e.f e.t))), (22, .B (decide (¬ Fits g e)))], [(32, some ⟨3, [[.I 0, .nilS, .nilS]], 0⟩)], 40⟩ rfl ?_ ?_
  · simp
    repeat' first
      | (refine callf nref11_Has rfl ?_; refine call0e (has_ok _ _ (by omega)) rfl ?_; simp)
      | (refine gcase (fun hb => ?_) (fun hb => ?_) <;> (try rw [hb]) <;> (try simp at hb) <;> simp [*])
    all_goals exact Le.var1 32 [] rfl rfl (Nat.le_of_ble_eq_true rfl) (by decide) rfl (by simp) (by simp) (by simp <;> exact wkB (by (try simp at *); grind [Fits]))
  refine awp_cond _ rfl (fun h5 => ?_) fun h5 => ?_
  · try simp at h5
    refine awp_seq ?_
    refine awp_run (s := ?s6) rfl ?o6 ?q6
    case o6 => simp; rfl
    refine awp_ret ?_
    refine ⟨.inr rfl, ?_⟩
    show RetOk [(4, some (true, 3)), (5, none)] 0 _ _ _
    refine RetOk.out (vs := [.agg [.I 0, .nilS, .nilS], .I 4]) [] [] (by simp) (by simp) (by simp) ?_ (by simp)
    have hr : withR g e = (emptyG, 4) := by grind [withR]
    simp [hr, emptyG]
    exact wkT2 (wkA3 (.refl _) (.nil _ _) (.nil _ _)) (.refl _)
  try simp at h5
  refine awp_regc ⟨103, [(2, .pv (gC g)), (3, .pv (eC e)), (4, .pt 32 0 0), (6, .I (idxE g.edges ⟨e.f, e.t, 0⟩)), (7, .B (decide (AtE g.edges (idxE g.edges ⟨e.f, e.t, 0⟩) e.f e.t))), (67, .B (decide (¬ (1 ≤ e.v ∧ e.v ≤ 3))))], [(32, some ⟨3, [[.I 0, .nilS, .nilS]], 0⟩)], 40⟩ rfl ?_ ?_
  · simp
    repeat' first
      | (refine gcase (fun hb => ?_) (fun hb => ?_) <;> (try rw [hb]) <;> (try simp at hb) <;> simp [*])
    all_goals exact Le.var1 32 [] rfl rfl (Nat.le_of_ble_eq_true rfl) (by decide) rfl (by simp) (by simp) (by simp <;> exact wkB (by (try simp at *); grind [Fits]))
  refine awp_cond _ rfl (fun h7 => ?_) fun h7 => ?_
  · try simp at h7
    refine awp_seq ?_
    refine awp_run (s := ?s8) rfl ?o8 ?q8
    case o8 => simp; rfl
    refine awp_ret ?_
    refine ⟨.inr rfl, ?_⟩
    show RetOk [(4, some (true, 3)), (5, none)] 0 _ _ _
    refine RetOk.out (vs := [.agg [.I 0, .nilS, .nilS], .I 2]) [] [] (by simp) (by simp) (by simp) ?_ (by simp)
    have hr : withR g e = (emptyG, 2) := by grind [withR]
    simp [hr, emptyG]
    exact wkT2 (wkA3 (.refl _) (.nil _ _) (.nil _ _)) (.refl _)
  try simp at h7
  refine awp_seq ?_
  refine awp_run (s := ?s9) rfl ?o9 ?q9
  case o9 => simp; rfl
  refine awp_cond _ rfl (fun h10 => ?_) fun h10 => ?_
  · try simp at h10
    refine awp_seq ?_
    refine awp_run (s := ?s11) rfl ?o11 ?q11
    case o11 => simp; rfl
    refine awp_ret ?_
    refine ⟨.inr rfl, ?_⟩
    show RetOk [(4, some (true, 3)), (5, none)] 0 _ _ _
    refine RetOk.out (vs := [.agg [.I 0, .nilS, .nilS], .I 19]) [] [] (by simp) (by simp) (by simp) ?_ (by simp)
    have hr : withR g e = (emptyG, 19) := by grind [withR]
    simp [hr, emptyG]
    exact wkT2 (wkA3 (.refl _) (.nil _ _) (.nil _ _)) (.refl _)
  try simp at h10
  refine awp_seq ?_
  refine awp_run (s := ?s12) rfl ?o12 ?q12
  case o12 => simp; rfl
  refine awp_cond _ rfl (fun h13 => ?_) fun h13 => ?_
  · try simp at h13
    refine awp_seq ?_
    refine awp_run (s := ?s14) rfl ?o14 ?q14
    case o14 => simp; rfl
    refine awp_ret ?_
    refine ⟨.inr rfl, ?_⟩
    show RetOk [(4, some (true, 3)), (5, none)] 0 _ _ _
    refine RetOk.out (vs := [.agg [.I 0, .nilS, .nilS], .I 3]) [] [] (by simp) (by simp) (by simp) ?_ (by simp)
    have hr : withR g e = (emptyG, 3) := by grind [withR]
    simp [hr, emptyG]
    exact wkT2 (wkA3 (.refl _) (.nil _ _) (.nil _ _)) (.refl _)
  try simp at h13
  refine awp_skip ?_
  have hle := idxE_le g.edges ⟨e.f, e.t, 0⟩
  refine awp_seq ?_
  refine awp_run (s := ?s20) rfl ?o20 ?q20
  case o20 => simp; refine callN2 (ref11_Copy_ok g hl hl2) rfl ?_; simp [Function.comp_def]; rfl
  have h500 : g.edges.length ≤ 500 := hg.1.2.2.1
  have hmin : min (idxE g.edges ⟨e.f, e.t, 0⟩) g.edges.length = idxE g.edges ⟨e.f, e.t, 0⟩ := Nat.min_eq_left hle
  have hr : withR g e = (plusE g e, 0) := by grind [withR]
  rw [hr]
  unfold plusE
  generalize idxE g.edges ⟨e.f, e.t, 0⟩ = k at *
  have htk : List.take (k + 1) (List.take k (List.map (fun e : Ed => [AV.I e.f, AV.I e.t, AV.I e.v]) g.edges) ++ [[AV.I e.f, AV.I e.t, AV.I e.v]]) = List.take k (List.map (fun e : Ed => [AV.I e.f, AV.I e.t, AV.I e.v]) g.edges) ++ [[AV.I e.f, AV.I e.t, AV.I e.v]] := List.take_of_length_le (by simp; exact Nat.min_le_left _ _)
  obtain ⟨E, hE⟩ : ∃ E, E = g.edges.take k ++ e :: g.edges.drop k := ⟨_, rfl⟩
  have hEl : k + 1 + (g.edges.length - k) = E.length := by subst hE; simp; omega
  have hrows : List.take k (List.map (fun e : Ed => [AV.I e.f, AV.I e.t, AV.I e.v]) g.edges) ++ [AV.I e.f, AV.I e.t, AV.I e.v] :: List.drop k (List.map (fun e : Ed => [AV.I e.f, AV.I e.t, AV.I e.v]) g.edges) = E.map fun e : Ed => [AV.I e.f, AV.I e.t, AV.I e.v] := by subst hE; simp [List.map_take, List.map_drop]
  rw [← hE]
  refine awp_seq ?_
  refine awp_drun (s := ?s15) (tr := ?t15) rfl ?o15 ?r15 ?q15
  case o15 =>
    simp [hmin, hle, htk, hEl, hrows]
    repeat' apply And.intro
    all_goals first | omega | rfl
  case r15 => rfl
  refine awp_seq ?_
  refine awp_run (s := ?s16) rfl ?o16 ?q16
  case o16 => simp; rfl
  refine awp_ret ?_
  refine ⟨.inr rfl, ?_⟩
  show RetOk [(4, some (true, 3)), (5, none)] 0 _ _ _
  refine RetOk.out (vs := [.agg [.I g.size, .rs 224 0 E.length, .rs 105 0 g.gone.length], .I 0]) [] [224, 105] (by simp) (by simp) (by simp) ?_ (by simp)
  simp [Function.comp_def, take_map_len]

end Go.Proofs.Ytnphfkceoklkkaa

/- The reference's answer: a graph without an edge. -/
namespace Go.Proofs.Ytnphfkceoklkkaa
open Go

theorem k_slvl1 {P : Program} {np id : Nat} {h : Nat → Option Ent} {K : AV → List Nat → List (Nat × Option Ent) → Prop} {s s' : Nat} {f : Bool} {rows : List (List AV)} {k : Nat} : aK P np id (.slc s true false false) [.vs s' f rows, .sc (.int .i64 ((k : Int) + 1))] h K = (k + 1 ≤ rows.length ∧ s' = s ∧ K (.vs s f (rows.drop (k + 1))) [] []) := by
  have := k_slvl (P := P) (np := np) (id := id) (h := h) (K := K) (s := s) (s' := s') (f := f) (rows := rows) (k := k + 1)
  rw [← this]
  rfl

/-- A graph with one edge less. -/
def minusE (g : Gr) (f t : Int) : Gr := ⟨g.size, g.edges.take (idxE g.edges ⟨f, t, 0⟩) ++ g.edges.drop (idxE g.edges ⟨f, t, 0⟩ + 1), g.gone⟩

open Classical in
noncomputable def withoutR (g : Gr) (f t : Int) : Gr × Int :=
  if ¬ GrOk g then (emptyG, 14) else if ¬ AtE g.edges (idxE g.edges ⟨f, t, 0⟩) f t then (emptyG, 19) else (minusE g f t, 0)

open Classical in
theorem ref11_Without_ok (g : Gr) (f t : Int) (hl : g.edges.length * 24 ≤ 140737488355328) (hl2 : g.gone.length * 8 ≤ 140737488355328) : ACalls Try.prog nref11_Without [eG g, .I f, .I t] [] (.tup [eG (withoutR g f t).1, .I (withoutR g f t).2]) [] := by
  refine sref11_Without.acalls (Nat.le_of_ble_eq_true rfl) (Nat.le_of_ble_eq_true rfl) (Nat.le_refl _) ?_
  show awp _ 0 _ _ ⟨40, [(0, eG g), (1, .I f), (2, .I t)], [], 16⟩
  refine awp_regc ⟨40, [(1, .I f), (2, .I t), (3, .pv (gC g)), (6, .pt 24 0 0)], [(24, some ⟨3, [[.I 0, .nilS, .nilS]], 0⟩)], 32⟩ rfl ?_ ?_
  · simp
    exact Le.var1 24 [16] rfl rfl (Nat.le_of_ble_eq_true rfl) (by decide) rfl (by simp) (by simp) (by simp)
  refine awp_seq ?_
  refine awp_seq ?_
  refine awp_run (s := ?s1) rfl ?o1 ?q1
  case o1 => simp; refine call0e (ref11_Check_ok g (by omega) (by omega)) rfl ?_; simp; rfl
  refine awp_cond _ rfl (fun h2 => ?_) fun h2 => ?_
  · have hg : ¬ GrOk g := by
      intro hg
      simp [hg] at h2
    refine awp_seq ?_
    refine awp_run (s := ?s3) rfl ?o3 ?q3
    case o3 => simp; rfl
    refine awp_ret ?_
    refine ⟨.inr rfl, ?_⟩
    show RetOk [(6, some (true, 3)), (7, none)] 0 _ _ _
    refine RetOk.out (vs := [.agg [.I 0, .nilS, .nilS], .I 14]) [] [] (by simp) (by simp) (by simp) ?_ (by simp)
    have hr : withoutR g f t = (emptyG, 14) := by grind [withoutR]
    simp [hr, emptyG]
    exact wkT2 (wkA3 (.refl _) (.nil _ _) (.nil _ _)) (.refl _)
  have hg : GrOk g := by
    rcases Classical.em (GrOk g) with h | h
    · exact h
    · simp [h] at h2
  refine awp_skip ?_
  refine awp_seq ?_
  refine awp_run (s := ?s4) rfl ?o4 ?q4
  case o4 => simp; refine call0e (ref11_index_ok g _ _ (by omega)) rfl ?_; simp; rfl
  refine awp_seq ?_
  refine awp_seq ?_
  refine awp_run (s := ?s5) rfl ?o5 ?q5
  case o5 => simp; rfl
  refine awp_cond _ rfl (fun h6 => ?_) fun h6 => ?_
  · try simp at h6
    refine awp_seq ?_
    refine awp_run (s := ?s7) rfl ?o7 ?q7
    case o7 => simp; rfl
    refine awp_ret ?_
    refine ⟨.inr rfl, ?_⟩
    show RetOk [(6, some (true, 3)), (7, none)] 0 _ _ _
    refine RetOk.out (vs := [.agg [.I 0, .nilS, .nilS], .I 19]) [] [] (by simp) (by simp) (by simp) ?_ (by simp)
    have hr : withoutR g f t = (emptyG, 19) := by grind [withoutR]
    simp [hr, emptyG]
    exact wkT2 (wkA3 (.refl _) (.nil _ _) (.nil _ _)) (.refl _)
  try simp at h6
  refine awp_skip ?_
  have h500 : g.edges.length ≤ 500 := hg.1.2.2.1
  have hr : withoutR g f t = (minusE g f t, 0) := by grind [withoutR]
  rw [hr]
  unfold minusE
  have hle : idxE g.edges ⟨f, t, 0⟩ + 1 ≤ g.edges.length := by
    obtain ⟨h, _⟩ := h6
    omega
  clear h6 hr
  generalize idxE g.edges ⟨f, t, 0⟩ = k at *
  have hle' : k ≤ g.edges.length := by omega
  have hw : IntKind.i64.wrap ((k : Int) + 1) = (k : Int) + 1 := w64 (by omega) (by omega)
  have hmin : min k g.edges.length = k := Nat.min_eq_left hle'
  obtain ⟨E, hE⟩ : ∃ E, E = g.edges.take k ++ g.edges.drop (k + 1) := ⟨_, rfl⟩
  have hEl : k + (g.edges.length - (k + 1)) = E.length := by subst hE; simp; omega
  have hrows : List.take k (List.map (fun e : Ed => [AV.I e.f, AV.I e.t, AV.I e.v]) g.edges) ++ List.drop (k + 1) (List.map (fun e : Ed => [AV.I e.f, AV.I e.t, AV.I e.v]) g.edges) = E.map fun e : Ed => [AV.I e.f, AV.I e.t, AV.I e.v] := by subst hE; simp [List.map_take, List.map_drop]
  have htk : List.take k (List.take k (List.map (fun e : Ed => [AV.I e.f, AV.I e.t, AV.I e.v]) g.edges)) = List.take k (List.map (fun e : Ed => [AV.I e.f, AV.I e.t, AV.I e.v]) g.edges) := List.take_of_length_le (by simp; exact Nat.min_le_left _ _)
  rw [← hE]
  refine awp_seq ?_
  refine awp_run (s := ?s20) rfl ?o20 ?q20
  case o20 => simp; refine callN2 (ref11_Copy_ok g hl hl2) rfl ?_; simp [Function.comp_def]; rfl
  refine awp_seq ?_
  refine awp_drun (s := ?s15) (tr := ?t15) rfl ?o15 ?r15 ?q15
  case o15 =>
    simp [hmin, hle, hle', htk, hEl, hrows, hw, k_slvl1]
    repeat' apply And.intro
    all_goals first | omega | rfl
  case r15 => rfl
  refine awp_seq ?_
  refine awp_run (s := ?s16) rfl ?o16 ?q16
  case o16 => simp; rfl
  refine awp_ret ?_
  refine ⟨.inr rfl, ?_⟩
  show RetOk [(6, some (true, 3)), (7, none)] 0 _ _ _
  refine RetOk.out (vs := [.agg [.I g.size, .rs 256 0 E.length, .rs 153 0 g.gone.length], .I 0]) [] [256, 153] (by simp) (by simp) (by simp) ?_ (by simp)
  simp [Function.comp_def, take_map_len]

end Go.Proofs.Ytnphfkceoklkkaa

/-
  DERIVED: THE SHELF's CONTRACTS AT THIS DUMP, IN PLAIN WORDS (tools/lay-plain.mjs out of 'YtnphfkceoklkkaaShelf.lean', which tools/lay-shelf.mjs wrote): THE SAME DECLARATIONS UNDER THE SAME NAMES: 'import', 'namespace', 'open', 'def', 'theorem' AND NOTHING ELSE: no command of the shelf's: FOR A HAND-IN. Each laying: the table of numbers ('.._ren') and one theorem, a field a fact of the dump's own or the kernel's comparison; each contract: ONE APPLICATION.
-/
namespace Go.Proofs
open Go.Shelf
def Try.lays189_ren : Go.Shelf.Ren := ⟨fun | 189 => 70 | 125 => 127 | 257 => 126 | 128 => 160 | 129 => 161 | 294 => 151 | 295 => 152 | 296 => 153 | 297 => 154 | 298 => 155 | 299 => 156 | 216 => 157 | 300 => 158 | 301 => 159 | 328 => 172 | 329 => 173 | 330 => 174 | 331 => 175 | 332 => 176 | 215 => 137 | 343 => 180 | n => n, fun | 28 => 22 | 3 => 3 | 46 => 128 | 0 => 0 | 51 => 142 | 53 => 144 | 4 => 4 | 183 => 155 | 182 => 154 | 131 => 94 | 5 => 5 | 9 => 9 | 218 => 171 | 222 => 175 | 228 => 178 | 229 => 179 | n => n, fun | n => n⟩
theorem Try.lays189 : Go.Proofs.Lays.n189 Try.prog Try.lays189_ren := {
  mixed := by kernel_rfl
  f125 := Try.func127.trans (congrArg some (by kernel_rfl))
  f128 := Try.func160.trans (congrArg some (by kernel_rfl))
  f129 := Try.func161.trans (congrArg some (by kernel_rfl))
  f189 := Try.func70.trans (congrArg some (by kernel_rfl))
  f215 := Try.func137.trans (congrArg some (by kernel_rfl))
  f216 := Try.func157.trans (congrArg some (by kernel_rfl))
  f257 := Try.func126.trans (congrArg some (by kernel_rfl))
  f294 := Try.func151.trans (congrArg some (by kernel_rfl))
  f295 := Try.func152.trans (congrArg some (by kernel_rfl))
  f296 := Try.func153.trans (congrArg some (by kernel_rfl))
  f297 := Try.func154.trans (congrArg some (by kernel_rfl))
  f298 := Try.func155.trans (congrArg some (by kernel_rfl))
  f299 := Try.func156.trans (congrArg some (by kernel_rfl))
  f300 := Try.func158.trans (congrArg some (by kernel_rfl))
  f301 := Try.func159.trans (congrArg some (by kernel_rfl))
  f328 := Try.func172.trans (congrArg some (by kernel_rfl))
  f329 := Try.func173.trans (congrArg some (by kernel_rfl))
  f330 := Try.func174.trans (congrArg some (by kernel_rfl))
  f331 := Try.func175.trans (congrArg some (by kernel_rfl))
  f332 := Try.func176.trans (congrArg some (by kernel_rfl))
  f343 := Try.func180.trans (congrArg some (by kernel_rfl))
  t0 := Try.underlying0
  a0 := Try.isAgg0
  z0 := Try.sizeOf0
  v0 := Try.zeroValue0
  t3 := Try.underlying3
  a3 := Try.isAgg3
  z3 := Try.sizeOf3
  v3 := Try.zeroValue3
  t4 := Try.underlying4
  a4 := Try.isAgg4
  z4 := Try.sizeOf4
  v4 := Try.zeroValue4
  t5 := Try.underlying5
  a5 := Try.isAgg5
  z5 := Try.sizeOf5
  v5 := Try.zeroValue5
  t9 := Try.underlying9
  a9 := Try.isAgg9
  z9 := Try.sizeOf9
  v9 := Try.zeroValue9
  t28 := Try.underlying22
  a28 := Try.isAgg22
  z28 := Try.sizeOf22
  v28 := Try.zeroValue22
  t46 := Try.underlying128
  a46 := Try.isAgg128
  z46 := Try.sizeOf128
  v46 := Try.zeroValue128
  t51 := Try.underlying142
  a51 := Try.isAgg142
  z51 := Try.sizeOf142
  v51 := Try.zeroValue142
  t53 := Try.underlying144
  a53 := Try.isAgg144
  z53 := Try.sizeOf144
  v53 := Try.zeroValue144
  t131 := Try.underlying94
  a131 := Try.isAgg94
  z131 := Try.sizeOf94
  v131 := Try.zeroValue94
  t182 := Try.underlying154
  a182 := Try.isAgg154
  z182 := Try.sizeOf154
  v182 := Try.zeroValue154
  t183 := Try.underlying155
  a183 := Try.isAgg155
  z183 := Try.sizeOf155
  v183 := Try.zeroValue155
  t218 := Try.underlying171
  a218 := Try.isAgg171
  z218 := Try.sizeOf171
  v218 := Try.zeroValue171
  t222 := Try.underlying175
  a222 := Try.isAgg175
  z222 := Try.sizeOf175
  v222 := Try.zeroValue175
  t228 := Try.underlying178
  a228 := Try.isAgg178
  z228 := Try.sizeOf178
  v228 := Try.zeroValue178
  t229 := Try.underlying179
  a229 := Try.isAgg179
  z229 := Try.sizeOf179
  v229 := Try.zeroValue179 }
end Go.Proofs

/- The library's sort of ints: the shelf's contract, as one of the value-level machine. -/
namespace Go.Proofs.Ytnphfkceoklkkaa
open Go

def iRows (l : List Int) : List (List AV) := l.map fun n => [AV.I n]

theorem Src.body {P : Program} {f : FuncId} {af : AFun} (s : Src P f af) : ∃ fn c, P.funcs[f]? = some fn ∧ fn.body = some c ∧ fn.name ≠ "runtime.NumGoroutine" := by
  obtain ⟨_, fn, hf, hc, hn⟩ := s
  unfold compF at hc
  cases hb : fn.body with
  | none => rw [hb] at hc; cases hc
  | some c => exact ⟨fn, c, hf, hb, hn⟩

theorem sort_some (zs : List Int) (h0 : zs ≠ []) (hl : zs.length < 4611686018427387904) :
    ACalls Try.prog nslices_Sort_Lint_int [.rs 0 0 zs.length] [{ s := 1, rows := iRows zs }] (.tup []) ([{ s := 1, rows := iRows (zs.mergeSort fun x y => decide (x ≤ y)) }].map some) := by
  refine ⟨sslices_Sort_Lint_int.body, by simp, fun T M w vs htok hhs hdom hrep => ?_⟩
  have hpos : 0 < zs.length := List.length_pos_iff.2 h0
  obtain ⟨hsz, hr⟩ := hrep
  have hr0 := hr 0 (by simp)
  simp only [List.getD_cons_zero] at hr0
  have hvs : vs = #[vs.getD 0 undef] := by
    apply Array.ext
    · simpa using hsz
    · intro i h1 h2
      have : i = 0 := by simp at h2; omega
      subst this
      simp [Array.getD, h1]
  rw [hvs]
  generalize vs.getD 0 undef = v at hr0
  cases hr0 with
  | rs _ _ _ _ cap a g hg hlc hn hb =>
  obtain ⟨g', hg', ent⟩ := hhs.ent 0 _ rfl
  rw [hg] at hg'
  obtain rfl := Option.some.inj hg'
  have hrl : (iRows zs).length = zs.length := by simp [iRows]
  cases hblk : g.blk with
  | none =>
    have := ent.none hblk
    simp [iRows] at this
    exact absurd this h0
  | some b =>
  obtain ⟨hcap, c0, t0, f0, hc0, hle0⟩ := hb b hblk
  obtain ⟨cells, ty, hw, htb, hlen, hrows⟩ := ent.blk b hblk
  have ha : a = some ⟨b, g.base + 0 * g.s, none⟩ := by
    rcases hcap with h | h
    · omega
    · exact h
  subst ha
  simp only [Nat.zero_mul, Nat.add_zero] at *
  have hcell : ∀ i, (hi : i < zs.length) → cells[g.base + i]? = some (.int .i64 zs[i]) := by
    intro i hi
    obtain ⟨u, hu, _, hru⟩ := hrows i 0 (by rw [hrl]; exact hi) (by decide)
    simp only [Nat.mul_one, Nat.add_zero] at hu
    rw [hu]
    have : ((iRows zs).getD i []).getD 0 .dead = .I zs[i] := by simp [iRows, List.getD, hi]
    rw [this] at hru
    cases hru
    rfl
  have hb' : b < w.heap.size := (Array.getElem?_eq_some_iff.1 hw).1
  refine (Any.slices_Sort_int Try.lays189 b g.base cap zs w ?_ hb' hl).mono ?_
  · intro j hj
    have hj' : j < zs.length := by simpa using hj
    constructor
    · show w.cell? _ = _
      unfold World.cell?
      simp only [hw]
      rw [hcell j hj']
      simp [hj']
    · unfold World.frozen?
      simp only [hw]
      simp
  · rintro e w' ⟨rfl, n, os, rfl⟩
    have hsl : (zs.mergeSort fun x y => decide (x ≤ y)).length = zs.length := List.length_mergeSort zs
    generalize (zs.mergeSort fun x y => decide (x ≤ y)) = ys at hsl
    have hh : ∀ b', b' < w.heap.size → (Go.Sort.grow (Go.Sort.putRow (Value.int .i64) (Go.Sort.ahead w n) b g.base ys.toArray) os).heap[b']? = if b' = b then some (.cells (Go.Sort.putCells (Value.int .i64) g.base ys.toArray cells) ty (0, 0)) else w.heap[b']? := by
      intro b' hb1
      have hsz' : (w.heap.modify b (Go.Sort.onCells (Go.Sort.putCells (Value.int .i64) g.base ys.toArray))).size = w.heap.size := Array.size_modify
      show ((w.heap.modify b (Go.Sort.onCells (Go.Sort.putCells (Value.int .i64) g.base ys.toArray))) ++ os)[b']? = _
      rw [Array.getElem?_append_left (by rw [hsz']; exact hb1), Array.getElem?_modify]
      by_cases hbb : b = b'
      · subst hbb
        rw [if_pos rfl, if_pos rfl, hw]
        rfl
      · rw [if_neg hbb, if_neg (Ne.symm hbb)]
    have hput : ∀ o, (o < g.base ∨ g.base + ys.length ≤ o) → (Go.Sort.putCells (Value.int .i64) g.base ys.toArray cells)[o]? = cells[o]? := by
      intro o ho
      unfold Go.Sort.putCells
      rw [Array.getElem?_mapIdx]
      cases hc : cells[o]? with
      | none => rfl
      | some u =>
        simp only [Option.map_some]
        rw [if_neg]
        simp
        omega
    have hput2 : ∀ i, (hi : i < ys.length) → (Go.Sort.putCells (Value.int .i64) g.base ys.toArray cells)[g.base + i]? = some (.int .i64 ys[i]) := by
      intro i hi
      unfold Go.Sort.putCells
      rw [Array.getElem?_mapIdx, hcell i (by omega)]
      simp only [Option.map_some]
      rw [if_pos (by simp; omega)]
      simp [hi]
    have hcs : (Go.Sort.putCells (Value.int .i64) g.base ys.toArray cells).size = cells.size := by
      unfold Go.Sort.putCells
      exact Array.size_mapIdx
    have hbig : w.heap.size ≤ (Go.Sort.grow (Go.Sort.putRow (Value.int .i64) (Go.Sort.ahead w n) b g.base ys.toArray) os).heap.size := by
      show w.heap.size ≤ ((w.heap.modify b _) ++ os).size
      rw [Array.size_append, Array.size_modify]
      omega
    have htb' : T b ≤ g.base := by simpa using htb
    generalize hw' : (Go.Sort.grow (Go.Sort.putRow (Value.int .i64) (Go.Sort.ahead w n) b g.base ys.toArray) os) = w' at hh hbig
    have hlt : ∀ b' o, w.heap[b']? = some o → b' < w.heap.size := fun b' o h => (Array.getElem?_eq_some_iff.1 h).1
    have hpr : Pres T w T w' := by
      refine ⟨fun _ => Nat.le_refl _, fun b' cs' ty' fz' h => ?_⟩
      rw [hh b' (hlt _ _ h)]
      by_cases hbb : b' = b
      · subst hbb
        rw [hw] at h
        cases h
        exact ⟨_, _, if_pos rfl, hcs, fun o ho => hput o (.inl (by omega))⟩
      · exact ⟨cs', fz', by rw [if_neg hbb]; exact h, rfl, fun _ _ => rfl⟩
    rw [hpOut_some]
    refine ⟨_, T, M, rfl, .tup M [] #[] rfl (fun i hi => by simp at hi), ⟨fun id e he => ?_, fun id id' e e' g1 g2 b' h1 h2 h3 h4 h5 h6 => ?_⟩, ⟨fun b' hb1 => ?_, fun _ _ _ => rfl, fun _ _ => rfl, ?_, ?_, ?_, hbig, fun b' hb1 hb2 => ?_, hpr, fun k g1 b' hk hg1 _ => ?_⟩⟩
    · have hid : id = 0 := by
        cases id with
        | zero => rfl
        | succ k => simp [hpOf] at he
      subst hid
      simp only [hpOf, List.getElem?_cons_zero, Option.some.injEq] at he
      subst he
      refine ⟨g, hg, ⟨ent.s, Nat.zero_le _, fun row hr => ?_, fun hn => (by rw [hblk] at hn; cases hn), fun b' hb1 => ?_⟩⟩
      · simp [iRows] at hr
        obtain ⟨x, _, rfl⟩ := hr
        rfl
      · rw [hblk] at hb1
        obtain rfl := Option.some.inj hb1
        refine ⟨_, ty, by rw [hh _ hb', if_pos rfl], by simpa using htb', by simp [iRows, hcs, hsl]; simpa [iRows] using hlen, fun i j hi hj => ?_⟩
        have hi' : i < ys.length := by simpa [iRows] using hi
        have hj' : j = 0 := by simp at hj; omega
        subst hj'
        refine ⟨.int .i64 ys[i], by simpa using hput2 i hi', rfl, ?_⟩
        have : ((iRows ys).getD i []).getD 0 .dead = .I ys[i] := by simp [iRows, List.getD, hi']
        rw [this]
        exact .sc _ _ rfl
    · have h0 : ∀ id e, hpOf [({ s := 1, rows := iRows ys } : Ent)] id = some e → id = 0 := by
        intro id e he
        cases id with
        | zero => rfl
        | succ k => simp [hpOf] at he
      rw [h0 _ _ h1, h0 _ _ h2]
    · obtain ⟨c1, ty1, fz1, h1, h2⟩ := htok b' hb1
      obtain ⟨c2, fz2, h3, h4, _⟩ := hpr.cell b' c1 ty1 fz1 h1
      exact ⟨c2, ty1, fz2, h3, by omega⟩
    · rw [← hw']; rfl
    · rw [← hw']; rfl
    · rw [← hw']; rfl
    · rw [hh b' hb1, if_neg]
      intro hbb
      exact hb2 ⟨0, g, by simp, hg, by rw [hblk, hbb]⟩
    · rw [hdom k hk] at hg1
      cases hg1

end Go.Proofs.Ytnphfkceoklkkaa

/- The library's sort of ints: of none too. -/
namespace Go.Proofs.Ytnphfkceoklkkaa
open Go

theorem After.refl {n : Nat} {T : Nat → Nat} {M : GM} {w : World} (htok : TOk T w) (hdom : ∀ k, n ≤ k → M k = none) : After n T M w T M w :=
  ⟨htok, fun _ _ _ => rfl, fun _ _ => rfl, rfl, rfl, rfl, Nat.le_refl _, fun _ _ _ => rfl, ⟨fun _ => Nat.le_refl _, fun _ cells _ fz h => ⟨cells, fz, h, rfl, fun _ _ => rfl⟩⟩, fun k g b hk h => by rw [hdom k hk] at h; cases h⟩

theorem arr1 {vs : Array Value} (h : vs.size = 1) : vs = #[vs.getD 0 undef] := by
  apply Array.ext
  · simpa using h
  · intro i h1 h2
    have : i = 0 := by simp at h2; omega
    subst this
    simp [Array.getD, h1]

theorem sort_nil : ACalls Try.prog nslices_Sort_Lint_int [.nilS] [] (.tup []) [] := by
  refine ⟨sslices_Sort_Lint_int.body, by simp, fun T M w vs htok hhs hdom hrep => ?_⟩
  obtain ⟨hsz, hr⟩ := hrep
  have hr0 := hr 0 (by simp)
  simp only [List.getD_cons_zero] at hr0
  rw [arr1 hsz]
  generalize vs.getD 0 undef = v at hr0
  cases hr0
  refine (Any.slices_Sort_int_none Try.lays189 none 0 w).mono ?_
  rintro e w' ⟨rfl, rfl⟩
  exact ⟨_, T, M, rfl, .tup M [] #[] rfl (fun i hi => by simp at hi), by rw [show ([] : List (Option Ent)) = List.map some [] from rfl, hpOut_some]; exact hhs, After.refl htok hdom⟩

theorem sort_ok (zs : List Int) (hl : zs.length < 4611686018427387904) :
    ACalls Try.prog nslices_Sort_Lint_int [.rs 0 0 zs.length] [{ s := 1, rows := iRows zs }] (.tup []) ([{ s := 1, rows := iRows (zs.mergeSort fun x y => decide (x ≤ y)) }].map some) := by
  by_cases h0 : zs = []
  · subst h0
    refine ⟨sslices_Sort_Lint_int.body, by simp, fun T M w vs htok hhs hdom hrep => ?_⟩
    obtain ⟨hsz, hr⟩ := hrep
    have hr0 := hr 0 (by simp)
    simp only [List.getD_cons_zero] at hr0
    rw [arr1 hsz]
    generalize vs.getD 0 undef = v at hr0
    cases hr0 with
    | rs _ _ _ _ cap a g hg hlc hn hb =>
    refine (Any.slices_Sort_int_none Try.lays189 a cap w).mono ?_
    rintro e w' ⟨rfl, rfl⟩
    exact ⟨_, T, M, rfl, .tup M [] #[] rfl (fun i hi => by simp at hi), by rw [hpOut_some]; simpa using hhs, After.refl htok hdom⟩
  · exact sort_some zs h0 hl

end Go.Proofs.Ytnphfkceoklkkaa

/- From where, and to where, edges lead. -/
namespace Go.Proofs.Ytnphfkceoklkkaa
open Go

def outs (l : List Ed) (key : Int) : List Int := l.filterMap fun e => if e.f = key then some e.t else none

theorem outs_succ (l : List Ed) (key : Int) (k : Nat) (h : k < l.length) : outs (l.take (k + 1)) key = outs (l.take k) key ++ if l[k].f = key then [l[k].t] else [] := by
  unfold outs
  rw [← List.take_concat_get h, List.concat_eq_append, List.filterMap_append]
  congr 1
  by_cases hc : l[k].f = key <;> simp [hc]

theorem outs_le (l : List Ed) (key : Int) : (outs l key).length ≤ l.length := List.length_filterMap_le _ _

theorem graph_Out_ok (g : Gr) (key : Int) (hl : g.edges.length ≤ 1099511627776) : ACalls Try.prog ngraph_Out [eG g, .I key] [] (.rs 0 0 (outs g.edges key).length) [some ⟨1, ((outs g.edges key).mergeSort fun x y => decide (x ≤ y)).map fun n => [AV.I n], 0⟩] := by
  refine sgraph_Out.acalls (Nat.le_of_ble_eq_true rfl) (Nat.le_of_ble_eq_true rfl) (Nat.zero_le _) ?_
  show awp _ 0 _ _ ⟨28, [(0, eG g), (1, .I key)], [], 16⟩
  refine awp_seq ?_
  refine awp_run (s := ?s0) rfl ?o0 ?q0
  case o0 => simp; rfl
  refine awp_seq ?_
  refine awp_run (s := ?s1) rfl ?o1 ?q1
  case o1 => simp; rfl
  refine awp_seq ?_
  refine awp_seq ?_
  refine awp_run (s := ?s2) rfl ?o2 ?q2
  case o2 => simp; rfl
  refine awp_block ?_
  refine awp_loop (ι := Nat) (fun k => ⟨28, [(1, .I key), (5, .rs 16 0 (outs (g.edges.take k) key).length), (9, eEs g.edges), (10, .I g.edges.length), (11, .I k)], [(16, some ⟨1, (outs (g.edges.take k) key).map fun n => [AV.I n], 0⟩)], 24⟩) (fun k => k ≤ g.edges.length) (fun k => g.edges.length - k) (0) ?_ (Le.lst [] [] [(16, 1)] rfl (by simp) (by simp) (by simp) (by simp) (by simp) (by simp) (by simp) (by simp [Up, outs]) (by simp [outs])) ?_
  · simp
  rintro k hk
  have hol : (outs (g.edges.take k) key).length ≤ k := Nat.le_trans (outs_le _ _) (by simp; exact Nat.min_le_left _ _)
  refine awp_seq ?_
  refine awp_run (s := ?s3) rfl ?o3 ?q3
  case o3 => simp; rfl
  refine awp_seq ?_
  refine awp_cond _ rfl (fun h4 => ?_) fun h4 => ?_
  · try simp at h4
    have hw2 : IntKind.i64.wrap ((k : Int) + 1) = (k : Int) + 1 := w64 (by omega) (by omega)
    have hwp : 0 < k → IntKind.i64.wrap ((k : Int) - 1) = ((k - 1 : Nat) : Int) := fun h => by rw [w64 (by omega) (by omega)]; omega
    have hkp : k - 1 < g.edges.length := by omega
    refine awp_skip ?_
    refine awp_seq ?_
    refine awp_block ?_
    refine awp_regc ⟨28, [(1, .I key), (5, .rs 16 0 (outs (g.edges.take k) key).length), (7, .pv (eC g.edges[k])), (9, eEs g.edges), (10, .I g.edges.length), (11, .I k)], [(16, some ⟨1, (outs (g.edges.take k) key).map fun n => [AV.I n], 0⟩)], 24⟩ rfl ?_ ?_
    · simp [h4, hw2, hwp, hkp]
      exact Le.var1 16 [48] rfl rfl (Nat.le_of_ble_eq_true rfl) (by decide) rfl (by simp [Function.comp_def]) (by simp) (by simp [h4, hw2, hwp, hkp])
    refine awp_seq ?_
    refine awp_run (s := ?s5) rfl ?o5 ?q5
    case o5 => simp [h4, hw2, hwp, hkp]; rfl
    refine awp_cond _ rfl (fun h6 => ?_) fun h6 => ?_
    · try simp at h6
      refine awp_run (s := ?s7) rfl ?o7 ?q7
      case o7 =>
        simp [h4, hw2, hwp, hkp, List.replicate]
        refine ⟨by omega, by omega, ?_⟩
        rfl
      refine awp_run (s := ?s8) rfl ?o8 ?q8
      case o8 => simp [h4, hw2, hwp, hkp]; rfl
      have hs := outs_succ g.edges key k h4
      rw [if_pos h6] at hs
      refine ⟨k + 1, h4, by omega, Le.ren1 88 16 [] rfl rfl (Nat.le_of_ble_eq_true rfl) (by decide) rfl (by simp [hs, Function.comp_def, take_map_len]) (by simp) (by simp [hs, hw2])⟩
    try simp at h6
    refine awp_skip ?_
    refine awp_run (s := ?s9) rfl ?o9 ?q9
    case o9 => simp [h4, hw2, hwp, hkp]; rfl
    have hs := outs_succ g.edges key k h4
    rw [if_neg h6, List.append_nil] at hs
    refine ⟨k + 1, h4, by omega, Le.var1 16 [] rfl rfl (Nat.le_of_ble_eq_true rfl) (by decide) rfl (by simp [hs, Function.comp_def, take_map_len]) (by simp) (by simp [hs, hw2])⟩
  try simp at h4
  have hkl : k = g.edges.length := by omega
  subst hkl
  have hol2 := outs_le g.edges key
  refine awp_exit ?_
  refine hit ?_
  refine awp_seq ?_
  refine awp_run (s := ?s10) rfl ?o10 ?q10
  case o10 =>
    simp
    refine callM1 (i := 16) rfl (e' := ⟨1, iRows (outs g.edges key), 0⟩) (by simp [iRows, Function.comp_def]) (sort_ok (outs g.edges key) (by omega)) (by simp) (by simp) ?_
    simp [iRows, Function.comp_def]
    rfl
  refine awp_seq ?_
  refine awp_run (s := ?s11) rfl ?o11 ?q11
  case o11 => simp; rfl
  refine awp_ret ?_
  exact ⟨.inr rfl, RetOk.out [16] [] rfl (by simp) (by simp) (by simp) (by simp [Function.comp_def])⟩

def inns (l : List Ed) (key : Int) : List Int := l.filterMap fun e => if e.t = key then some e.f else none

theorem inns_succ (l : List Ed) (key : Int) (k : Nat) (h : k < l.length) : inns (l.take (k + 1)) key = inns (l.take k) key ++ if l[k].t = key then [l[k].f] else [] := by
  unfold inns
  rw [← List.take_concat_get h, List.concat_eq_append, List.filterMap_append]
  congr 1
  by_cases hc : l[k].t = key <;> simp [hc]

theorem inns_le (l : List Ed) (key : Int) : (inns l key).length ≤ l.length := List.length_filterMap_le _ _

theorem graph_In_ok (g : Gr) (key : Int) (hl : g.edges.length ≤ 1099511627776) : ACalls Try.prog ngraph_In [eG g, .I key] [] (.rs 0 0 (inns g.edges key).length) [some ⟨1, ((inns g.edges key).mergeSort fun x y => decide (x ≤ y)).map fun n => [AV.I n], 0⟩] := by
  refine sgraph_In.acalls (Nat.le_of_ble_eq_true rfl) (Nat.le_of_ble_eq_true rfl) (Nat.zero_le _) ?_
  show awp _ 0 _ _ ⟨28, [(0, eG g), (1, .I key)], [], 16⟩
  refine awp_seq ?_
  refine awp_run (s := ?s0) rfl ?o0 ?q0
  case o0 => simp; rfl
  refine awp_seq ?_
  refine awp_run (s := ?s1) rfl ?o1 ?q1
  case o1 => simp; rfl
  refine awp_seq ?_
  refine awp_seq ?_
  refine awp_run (s := ?s2) rfl ?o2 ?q2
  case o2 => simp; rfl
  refine awp_block ?_
  refine awp_loop (ι := Nat) (fun k => ⟨28, [(1, .I key), (5, .rs 16 0 (inns (g.edges.take k) key).length), (9, eEs g.edges), (10, .I g.edges.length), (11, .I k)], [(16, some ⟨1, (inns (g.edges.take k) key).map fun n => [AV.I n], 0⟩)], 24⟩) (fun k => k ≤ g.edges.length) (fun k => g.edges.length - k) (0) ?_ (Le.lst [] [] [(16, 1)] rfl (by simp) (by simp) (by simp) (by simp) (by simp) (by simp) (by simp) (by simp [Up, inns]) (by simp [inns])) ?_
  · simp
  rintro k hk
  have hol : (inns (g.edges.take k) key).length ≤ k := Nat.le_trans (inns_le _ _) (by simp; exact Nat.min_le_left _ _)
  refine awp_seq ?_
  refine awp_run (s := ?s3) rfl ?o3 ?q3
  case o3 => simp; rfl
  refine awp_seq ?_
  refine awp_cond _ rfl (fun h4 => ?_) fun h4 => ?_
  · try simp at h4
    have hw2 : IntKind.i64.wrap ((k : Int) + 1) = (k : Int) + 1 := w64 (by omega) (by omega)
    have hwp : 0 < k → IntKind.i64.wrap ((k : Int) - 1) = ((k - 1 : Nat) : Int) := fun h => by rw [w64 (by omega) (by omega)]; omega
    have hkp : k - 1 < g.edges.length := by omega
    refine awp_skip ?_
    refine awp_seq ?_
    refine awp_block ?_
    refine awp_regc ⟨28, [(1, .I key), (5, .rs 16 0 (inns (g.edges.take k) key).length), (7, .pv (eC g.edges[k])), (9, eEs g.edges), (10, .I g.edges.length), (11, .I k)], [(16, some ⟨1, (inns (g.edges.take k) key).map fun n => [AV.I n], 0⟩)], 24⟩ rfl ?_ ?_
    · simp [h4, hw2, hwp, hkp]
      exact Le.var1 16 [48] rfl rfl (Nat.le_of_ble_eq_true rfl) (by decide) rfl (by simp [Function.comp_def]) (by simp) (by simp [h4, hw2, hwp, hkp])
    refine awp_seq ?_
    refine awp_run (s := ?s5) rfl ?o5 ?q5
    case o5 => simp [h4, hw2, hwp, hkp]; rfl
    refine awp_cond _ rfl (fun h6 => ?_) fun h6 => ?_
    · try simp at h6
      refine awp_run (s := ?s7) rfl ?o7 ?q7
      case o7 =>
        simp [h4, hw2, hwp, hkp, List.replicate]
        refine ⟨by omega, by omega, ?_⟩
        rfl
      refine awp_run (s := ?s8) rfl ?o8 ?q8
      case o8 => simp [h4, hw2, hwp, hkp]; rfl
      have hs := inns_succ g.edges key k h4
      rw [if_pos h6] at hs
      refine ⟨k + 1, h4, by omega, Le.ren1 88 16 [] rfl rfl (Nat.le_of_ble_eq_true rfl) (by decide) rfl (by simp [hs, Function.comp_def, take_map_len]) (by simp) (by simp [hs, hw2])⟩
    try simp at h6
    refine awp_skip ?_
    refine awp_run (s := ?s9) rfl ?o9 ?q9
    case o9 => simp [h4, hw2, hwp, hkp]; rfl
    have hs := inns_succ g.edges key k h4
    rw [if_neg h6, List.append_nil] at hs
    refine ⟨k + 1, h4, by omega, Le.var1 16 [] rfl rfl (Nat.le_of_ble_eq_true rfl) (by decide) rfl (by simp [hs, Function.comp_def, take_map_len]) (by simp) (by simp [hs, hw2])⟩
  try simp at h4
  have hkl : k = g.edges.length := by omega
  subst hkl
  have hol2 := inns_le g.edges key
  refine awp_exit ?_
  refine hit ?_
  refine awp_seq ?_
  refine awp_run (s := ?s10) rfl ?o10 ?q10
  case o10 =>
    simp
    refine callM1 (i := 16) rfl (e' := ⟨1, iRows (inns g.edges key), 0⟩) (by simp [iRows, Function.comp_def]) (sort_ok (inns g.edges key) (by omega)) (by simp) (by simp) ?_
    simp [iRows, Function.comp_def]
    rfl
  refine awp_seq ?_
  refine awp_run (s := ?s11) rfl ?o11 ?q11
  case o11 => simp; rfl
  refine awp_ret ?_
  exact ⟨.inr rfl, RetOk.out [16] [] rfl (by simp) (by simp) (by simp) (by simp [Function.comp_def])⟩


end Go.Proofs.Ytnphfkceoklkkaa

/- The search for an edge. -/
namespace Go.Proofs.Ytnphfkceoklkkaa
open Go

@[simp] theorem conv_fn {ρ : List (Nat × Nat)} {sn : List Nat} {h : Nat → Option Ent} {n : Nat} {f : Fn} {a b : List AV} : conv ρ sn h (n + 1) (.fn f a b) = .fn f (a.map (conv ρ sn h n)) (b.map (conv ρ sn h n)) := (rfl)

theorem BinarySearch_ok (l : List Ed) (e : Ed) (hl : l.length ≤ 1099511627776) (hm : ∀ (i j : Nat) (hi : i < l.length) (hj : j < l.length), i ≤ j → Bef l[j] e → Bef l[i] e) : ACalls Try.prog nslices_BinarySearchFunc_Lapi_Edge_api_Edge_api_Edge [eEs l, eE e, .fn (.func ngraph_compare) [] []] [] (.tup [.I (idxE l e), .B (decide (AtE l (idxE l e) e.f e.t))]) [] := by
  refine sslices_BinarySearchFunc_Lapi_Edge_api_Edge_api_Edge.acalls (Nat.le_of_ble_eq_true rfl) (Nat.le_of_ble_eq_true rfl) (Nat.le_refl _) ?_
  show awp _ 0 _ _ ⟨49, [(0, eEs l), (1, eE e), (2, .fn (.func ngraph_compare) [] [])], [], 16⟩
  refine awp_regc ⟨49, [(0, eEs l), (2, .fn (.func ngraph_compare) [] []), (4, .pv (eC e))], [], 16⟩ rfl ?_ ?_
  · simp
    exact Le.snap [16] rfl rfl (by simp)
  refine awp_seq ?_
  refine awp_run (s := ?s1) rfl ?o1 ?q1
  case o1 => simp; rfl
  refine awp_seq ?_
  refine awp_run (s := ?s2) rfl ?o2 ?q2
  case o2 => simp; rfl
  refine awp_seq ?_
  refine awp_block ?_
  refine awp_loop (ι := Nat × Nat) (fun p => ⟨49, [(0, eEs l), (2, .fn (.func ngraph_compare) [] []), (4, .pv (eC e)), (8, .I l.length), (9, .I p.1), (10, .I p.2)], [], 16⟩) (fun p => p.1 ≤ p.2 ∧ p.2 ≤ l.length ∧ (∀ q, q < p.1 → BefAt l e q) ∧ ∀ q (h : q < l.length), p.2 ≤ q → ¬ Bef l[q] e) (fun p => p.2 - p.1) ((0, l.length)) ?_ (Le.snap [] rfl rfl (by simp)) ?_
  · simp
    intro q h h2
    omega
  rintro ⟨i, j⟩ ⟨hij, hjn, hlo, hhi⟩
  simp only at hij hjn hlo hhi
  refine awp_seq ?_
  refine awp_seq ?_
  refine awp_run (s := ?s3) rfl ?o3 ?q3
  case o3 => simp; rfl
  refine awp_cond _ rfl (fun h4 => ?_) fun h4 => ?_
  · try simp at h4
    refine awp_skip ?_
    refine awp_block ?_
    have hw : IntKind.i64.wrap ((i : Int) + (j : Int)) = (i : Int) + (j : Int) := w64 (by omega) (by omega)
    have hu : IntKind.u64.wrap ((i : Int) + (j : Int)) = (i : Int) + (j : Int) := by rw [IntKind.wrap_u64]; omega
    have hd : Int.fdiv ((i : Int) + (j : Int)) 2 = (((i + j) / 2 : Nat) : Int) := by rw [Int.fdiv_eq_ediv_of_nonneg _ (by decide)]; omega
    have hw3 : IntKind.i64.wrap (((i + j) / 2 : Nat) : Int) = (((i + j) / 2 : Nat) : Int) := w64 (by omega) (by omega)
    refine awp_regc ⟨49, [(0, eEs l), (2, .fn (.func ngraph_compare) [] []), (4, .pv (eC e)), (8, .I l.length), (9, .I i), (10, .I j), (11, .I ((i + j) / 2 : Nat))], [], 16⟩ rfl ?_ ?_
    · simp [hw, hu, hd, hw3, IntKind.bits, -Int.natCast_ediv, -Int.natCast_add]
      exact Le.snap [] rfl rfl (by simp [hw, hu, hd, hw3])
    obtain ⟨m, hmd⟩ : ∃ m, m = (i + j) / 2 := ⟨_, rfl⟩
    rw [← hmd]
    have hml : m < l.length := by omega
    have hm1 : IntKind.i64.wrap ((m : Int) + 1) = (m : Int) + 1 := w64 (by omega) (by omega)
    refine awp_seq ?_
    refine awp_drun (s := ?s6) (tr := ?t6) rfl ?o6 ?r6 ?q6
    case o6 => simp [hml]; refine call0e (graph_compare_ok l[m] e) rfl ?_; simp; constructor <;> rfl
    case r6 => rfl
    refine awp_cond _ rfl (fun h7 => ?_) fun h7 => ?_
    · simp only [decide_eq_true_eq, decide_eq_false_iff_not, cmpE_lt] at h7
      refine awp_run (s := ?s8) rfl ?o8 ?q8
      case o8 => simp; rfl
      refine ⟨(m + 1, j), ⟨by simp only; omega, hjn, fun q hq hql => ?_, hhi⟩, by simp only; omega, Le.snap [] rfl rfl (by simp [hm1])⟩
      exact hm q m hql hml (by simp only at hq; omega) h7
    simp only [decide_eq_true_eq, decide_eq_false_iff_not, cmpE_lt] at h7
    refine awp_run (s := ?s9) rfl ?o9 ?q9
    case o9 => simp; rfl
    refine ⟨(i, m), ⟨by simp only; omega, by simp only; omega, hlo, fun q hql hq hb => ?_⟩, by simp only; omega, Le.snap [] rfl rfl (by simp)⟩
    exact h7 (hm m q hml hql hq hb)
  try simp at h4
  refine awp_exit ?_
  refine hit ?_
  have hji : j = i := by omega
  subst hji
  rw [idxE_of hjn hlo (fun h => hhi _ h (Nat.le_refl _))]
  refine awp_dregc ⟨49, [(6, .I j), (7, .B (decide (AtE l j e.f e.t)))], [], 16⟩ rfl ?_ ?_
  · simp
    repeat' first
      | (refine callf ngraph_compare rfl ?_; refine call0e (graph_compare_ok _ e) rfl ?_; simp)
      | (refine gcase (fun hb => ?_) (fun hb => ?_) <;> (try rw [hb]) <;> (try simp at hb) <;> simp [*])
    all_goals exact ⟨rfl, Le.snap [] rfl rfl (by simp <;> exact wkB (by (try simp at *); grind [AtE, cmpE_eq]))⟩
  refine awp_ret ?_
  exact ⟨.inr rfl, RetOk.out [] [] rfl (by simp) (by simp) (by simp) (by simp)⟩

end Go.Proofs.Ytnphfkceoklkkaa
