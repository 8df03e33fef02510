/- Texts of this claim, merged. -/
import Derived.Test.YtlhjelookgjmpaaGreatRc11
import Derived.Test.YtlhjelookgjmpaaGreatRc9
import Derived.Test.YtlhjelookgjmpaaGreatRc10
import Derived.Test.YtlhjelookgjmpaaGreatRc7
set_option linter.unusedSimpArgs false
set_option linter.unusedVariables false
set_option linter.unusedSectionVars false
namespace Go.Proofs.YtlhjelookgjmpaaGreat
open Go
theorem take_msort {β : Type} (f : Int → β) (l : List Int) (r : Int → Int → Bool) : List.take l.length (List.map f (l.mergeSort r)) = List.map f (l.mergeSort r) := List.take_of_length_le (by simp [List.length_mergeSort])
def WalkAt (g : Gr) (order w : List Int) (i : Nat) : Prop := ∀ h : i < w.length, (w[i] ∈ order ∧ w[i] ∉ w.take i) ∧ (0 < i → w[i] ∈ outs g.edges w[i - 1])
def WalkC (g : Gr) (seeds order w : List Int) : Prop := (∃ k, w.head? = some k ∧ k ∈ seeds) ∧ ∀ i, WalkAt g order w i
theorem nodup_take {w : List Int} : w.Nodup ↔ ∀ i (h : i < w.length), w[i] ∉ w.take i := by
  constructor
  · intro h1 i h hm
    obtain ⟨j, hj, e⟩ := List.getElem_of_mem hm
    rw [List.getElem_take] at e
    have hj' : j < i := by rw [List.length_take] at hj; omega
    exact (List.pairwise_iff_getElem.1 h1) j i (by omega) h hj' e
  · intro h
    refine List.pairwise_iff_getElem.2 fun i j hi hj hij e => ?_
    refine h j hj ?_
    rw [← e]
    exact List.mem_take_iff_getElem.2 ⟨i, by omega, rfl⟩
theorem walkC_iff {g : Gr} {lv : Int} {seeds order w : List Int} : WalkC (levelG g lv) seeds order w ↔ WalkP g lv seeds order w := by
  unfold WalkC WalkP WalkAt
  rw [nodup_take]
  simp only [mem_outs_level]
  constructor
  · rintro ⟨h0, h⟩
    refine ⟨h0, fun k hk => ?_, fun i hi => (h i hi).1.2, fun i hi => (h (i + 1) hi).2 (Nat.succ_pos _)⟩
    obtain ⟨i, hi, rfl⟩ := List.getElem_of_mem hk
    exact (h i hi).1.1
  · rintro ⟨h0, h1, h2, h3⟩
    refine ⟨h0, fun i hi => ⟨⟨h1 _ (List.getElem_mem hi), h2 i hi⟩, fun hp => ?_⟩⟩
    obtain ⟨j, rfl⟩ : ∃ j, i = j + 1 := ⟨i - 1, by omega⟩
    exact h3 j hi
open Classical in
theorem engine_walks_ok (g : Gr) (seeds caps order w : List Int) (hg : g.edges.length ≤ 1099511627776) (hs : seeds.length ≤ 140737488355328) (ho : order.length ≤ 140737488355328) (hw : w.length ≤ 140737488355328) :
    ACalls Tryz.prog nchecker_engine_walks [eEng g seeds caps order, ints w] [] (.B (decide (WalkC g seeds order w))) [] := by
  refine schecker_engine_walks.acalls (Nat.le_of_ble_eq_true rfl) (Nat.le_of_ble_eq_true rfl) (Nat.le_refl _) ?_
  show awp _ 0 _ _ ⟨53, [(0, eEng g seeds caps order), (1, ints w)], [], 16⟩
  refine rx (s := ?s1) [1, 2] [] [16] rfl ?o1 ?q1
  case o1 => simp; rfl
  refine awp_seq ?_
  refine rx (s := ?s2) [1, 2, 7, 8, 9] [] [] rfl ?o2 ?q2
  case o2 => simp; rfl
  refine awp_block ?_
  refine awp_loop (ι := Nat) (fun i => ⟨53, [(1, ints w), (2, .pv (xC g seeds caps order)), (7, ints w), (8, .I w.length), (9, .I i)], [], 56⟩) (fun i => i ≤ w.length ∧ ∀ k, k < i → WalkAt g order w k) (fun i => w.length - i) 0 (by simp) (Le.go [] [] rfl rfl (by simp) (by simp)) ?_
  rintro i ⟨hi, hp⟩
  refine rx (s := ?s3) [1, 2, 7, 8, 9, 10] [] [] rfl ?o3 ?q3
  case o3 => simp; rfl
  refine awp_seq ?_
  refine awp_cond _ rfl (fun h4 => ?_) fun h4 => ?_
  · simp at h4
    have hw1 : IntKind.i64.wrap ((i : Int) + 1) = (i : Int) + 1 := w64 (by omega) (by omega)
    have hwp : 0 < i → IntKind.i64.wrap ((i : Int) - 1) = ((i - 1 : Nat) : Int) := fun h => by rw [w64 (by omega) (by omega)]; omega
    have h4' : i - 1 < w.length := by omega
    have htl : (w.take i).length ≤ 140737488355328 := by rw [List.length_take]; omega
    have hc := contains_ok (w.take i) w[i] htl
    have hol : (outs g.edges w[i - 1]).length ≤ g.edges.length := List.length_filterMap_le ..
    have hc2 := contains_ok (sorted (outs g.edges w[i - 1])) w[i] (by rw [sorted_len]; omega)
    refine awp_skip ?_
    refine awp_seq ?_
    refine awp_block ?_
    refine rx (s := ?s5) [1, 2, 5, 6, 7, 8, 9] [] [] rfl ?o5 ?q5
    case o5 => simp [h4]; rfl
    refine awp_seq ?_
    refine awp_regc ⟨53, [(1, ints w), (2, .pv (xC g seeds caps order)), (5, .I i), (6, .I w[i]), (7, ints w), (8, .I w.length), (9, .I i), (25, .B (decide (¬ (w[i] ∈ order ∧ w[i] ∉ w.take i))))], [], 200⟩ rfl ?_ ?_
    · simp
      have hco := contains_ok order w[i] ho
      refine call0e hco (by simp) ?_
      simp
      refine gcase (fun hb => ?_) (fun hb => ?_) <;> (try rw [hb]) <;> (try simp at hb) <;> simp [hb, hi]
      · exact Le.snap [] rfl rfl (by simp <;> exact wkB (by (try simp at *); grind))
      · refine call0e hc (by simp) ?_
        simp
        exact Le.snap [] rfl rfl (by simp <;> exact wkB (by (try simp at *); grind))
    refine awp_cond _ rfl (fun h7 => ?_) fun h7 => ?_
    · refine rx (s := ?s8) [4] [] [] rfl ?o8 ?q8
      case o8 => simp; rfl
      refine awp_ret ?_
      have hn : ¬ WalkC g seeds order w := fun h => by simp at h7; rcases h7 with h7 | h7; exact h7 (h.2 i h4).1.1; exact (h.2 i h4).1.2 h7
      exact ⟨.inr rfl, RetOk.one (by simp [hn])⟩
    simp at h7
    refine awp_skip ?_
    refine awp_dregc ⟨53, [(1, ints w), (2, .pv (xC g seeds caps order)), (7, ints w), (8, .I w.length), (9, .I i), (40, .B (decide (¬ (0 < i → w[i] ∈ outs g.edges w[i - 1]))))], [], 320⟩ rfl ?_ ?_
    · simp
      refine gcase (fun hb => ?_) (fun hb => ?_) <;> (try rw [hb]) <;> (try simp at hb) <;> simp [hb, h4', hwp]
      · refine callN1 (graph_Out_ok ⟨g.size, g.edges, g.gone⟩ w[i - 1] hg) (by simp) ?_
        simp [Function.comp_def]
        refine call0s [280] hc2 (by simp [take_msort]) (.sc _) ?_
        simp
        exact ⟨rfl, Le.snap [] rfl rfl (by simp <;> exact wkB (by (try simp at *); grind))⟩
      · exact ⟨rfl, Le.snap [] rfl rfl (by simp <;> exact wkB (by (try simp at *); grind))⟩
    refine awp_cond _ rfl (fun h10 => ?_) fun h10 => ?_
    · refine rx (s := ?s11) [4] [] [] rfl ?o11 ?q11
      case o11 => simp; rfl
      refine awp_ret ?_
      have hn : ¬ WalkC g seeds order w := fun h => by simp at h10; exact h10.2 ((h.2 i h4).2 h10.1)
      exact ⟨.inr rfl, RetOk.one (by simp [hn])⟩
    simp at h10
    refine awp_skip ?_
    refine awp_reg rfl ?_
    simp [hw1]
    refine ⟨i + 1, ⟨h4, fun k hk => ?_⟩, by omega, Le.go [] [] rfl rfl (by simp) (by simp)⟩
    rcases Nat.lt_succ_iff_lt_or_eq.1 hk with h | rfl
    · exact hp k h
    · intro h
      exact ⟨h7, h10⟩
  simp at h4
  refine awp_exit ?_
  refine hit ?_
  refine awp_dregc ⟨53, [(4, .B (decide (WalkC g seeds order w)))], [], 160⟩ rfl ?_ ?_
  · simp
    have hall : ∀ i, WalkAt g order w i := fun k hk => hp k (by omega) hk
    cases w with
    | nil =>
      simp
      refine ⟨rfl, Le.snap [] rfl rfl (by simp [WalkC])⟩
    | cons a w =>
      simp
      refine callf nslices_Contains_Lint_int rfl ?_
      refine call0e (contains_ok seeds a hs) (by simp) ?_
      simp
      refine ⟨rfl, Le.snap [] rfl rfl (by simp [WalkC, hall])⟩
  refine awp_ret ?_
  exact ⟨.inr rfl, RetOk.one (by simp)⟩
end Go.Proofs.YtlhjelookgjmpaaGreat
namespace Go.Proofs.YtlhjelookgjmpaaGreat
open Go Go.RowKit Go.Shelf Go.Maps Go.Sort
theorem arr2 {vs : Array Value} (h : vs.size = 2) : vs = #[vs.getD 0 undef, vs.getD 1 undef] := by
  apply Array.ext
  · simpa using h
  · intro i h1 h2
    have : i = 0 ∨ i = 1 := by simp at h2; omega
    rcases this with rfl | rfl <;> simp [Array.getD, h1] <;> intro h3 <;> omega
theorem encZ_one (x : Int) : (encZ x : Value) = .int .i64 x := rfl
theorem AppendSeq_ok (l : List Int) (hl : l.length ≤ 1099511627776) : ACalls Tryz.prog nslices_AppendSeq_Lint_int [.nilS, .fn (.func nslices_Values_Lint_int_c1) [] [.pv [ints l]]] [] (.rs 0 0 l.length) [some ⟨1, rowsI l, 0⟩] := by
  refine ⟨⟨_, _, Tryz.func124, rfl, by decide⟩, by simp, fun T M w vs htok hhs hdom hrep => ?_⟩
  obtain ⟨hsz, hr⟩ := hrep
  have hr0 := hr 0 (by simp)
  have hr1 := hr 1 (by simp)
  simp only [List.getD_cons_zero, List.getD_cons_succ] at hr0 hr1
  rw [arr2 hsz]
  generalize vs.getD 0 undef = v0 at hr0
  generalize vs.getD 1 undef = v1 at hr1
  cases hr0
  cases hr1 with
  | fn _ _ _ _ us ws hx hy h h' =>
  have hus : us = #[] := by simpa using hx
  subst hus
  have hws := arr1 (vs := ws) hy
  have hc0 := h' 0 (by simp)
  simp only [List.getD_cons_zero] at hc0
  rw [hws]
  generalize ws.getD 0 undef = u at hc0
  cases hc0 with
  | pv _ _ Bs B0 cells ty fz c hb ht hcc ho hh =>
  have hB := hcc 0 (by simp)
  have hv := hh 0 (by simp)
  simp only [List.getD_cons_zero, Nat.add_zero] at hB hv
  have hBl : Bs < w.heap.size := (Array.getElem?_eq_some_iff.1 hb).1
  generalize c 0 = sv at hB hv
  cases hv with
  | vs _ _ _ _ a cap cc hf hle hw hbb h1 hcv =>
  have hlen : (l.map fun n => [AV.I n]).length = l.length := by simp
  rw [hlen] at hB
  have hcell : ∃ b off, (l ≠ [] → a = some ⟨b, off, none⟩ ∧ b < w.heap.size) ∧ ∀ j (h : j < l.length), w.cell? ⟨b, off + j, none⟩ = some (.int .i64 l[j]) := by
    by_cases h0 : l = []
    · exact ⟨0, 0, fun h => absurd h0 h, fun j hj => by subst h0; simp at hj⟩
    · obtain ⟨b, off, cs, ty', fz', ha, hwb, _, hrow⟩ := hbb (by simpa using h0)
      refine ⟨b, off, fun _ => ⟨ha, (Array.getElem?_eq_some_iff.1 hwb).1⟩, fun j hj => ?_⟩
      have h2 := hrow j 0 (by simpa using hj) (by decide)
      have h3 := hcv j 0 (by simpa using hj) (by decide)
      have e : ((l.map fun n => [AV.I n]).getD j []).getD 0 .dead = .I l[j] := by simp [List.getD, hj]
      rw [e] at h3
      have h4 := rep_sc h3 rfl
      rw [h4] at h2
      simp only [World.cell?, hwb]
      simpa using h2
  obtain ⟨b, off, hab, hcs⟩ := hcell
  rw [← callsIn_wide (n := 2)]
  refine (appendSeqV_in Fence.wide 2 trivial trivial rfl (by omega) Bs B0 b off cap a l (fun h => (hab h).1) hl w ?_ hBl (fun h => (hab h).2) hcs).mono ?_
  · simp only [World.cell?, hb]
    exact hB
  rintro e w' ⟨v, rfl, ⟨_, hown⟩, hbel⟩
  have hpr : Pres T w T w' := ⟨fun _ => Nat.le_refl _, fun b' cs' ty' fz' h => ⟨cs', fz', by rw [hbel.block b' (Array.getElem?_eq_some_iff.1 h).1]; exact h, rfl, fun _ _ => rfl⟩⟩
  have hT0 : ∀ b', w.heap.size ≤ b' → T b' = 0 := fun b' hb' => by
    rcases Nat.eq_zero_or_pos (T b') with e | e
    · exact e
    · obtain ⟨cells, ty, fz, h1, _⟩ := htok b' e
      have := (Array.getElem?_eq_some_iff.1 h1).1
      omega
  have htok' : TOk T w' := fun b' hb' => by
    obtain ⟨cells, ty, fz, h1, h2⟩ := htok b' hb'
    exact ⟨cells, ty, fz, by rw [hbel.block b' (Array.getElem?_eq_some_iff.1 h1).1]; exact h1, h2⟩
  have fin : ∀ g : GE, (∀ b, g.blk = some b → w.heap.size ≤ b) → EntOk T w' (fun k => if k = 0 then some g else none) ⟨1, rowsI l, 0⟩ g → Rep T w' (fun k => if k = 0 then some g else none) (.rs 0 0 l.length) v →
      ∃ v' T' M', Ending.returned v = .returned v' ∧ Rep T' w' M' (.rs 0 0 l.length) v' ∧ HsOk T' w' M' (hpOut [some ⟨1, rowsI l, 0⟩]) ∧ After 0 T M w T' M' w' := by
    intro g hg ent hv
    refine ⟨v, T, _, rfl, hv, ?_, ⟨htok', fun _ _ _ => rfl, fun k hk => absurd hk (Nat.not_lt_zero k), hbel.os, hbel.tape, hbel.output, hbel.size, fun b' hb' _ => hbel.block b' hb', hpr, fun k g1 b1 _ h1 h2 => ?_⟩⟩
    · rw [show ([some ⟨1, rowsI l, 0⟩] : List (Option Ent)) = List.map some [⟨1, rowsI l, 0⟩] from rfl, hpOut_some]
      have z : ∀ id e, hpOf [(⟨1, rowsI l, 0⟩ : Ent)] id = some e → id = 0 ∧ e = ⟨1, rowsI l, 0⟩ := by
        intro id e he
        cases id with
        | zero => simp [hpOf] at he; exact ⟨rfl, he.symm⟩
        | succ k => simp [hpOf] at he
      refine ⟨fun id e he => ?_, fun id id' e e' _ _ _ h1 h2 _ _ _ _ => by rw [(z _ _ h1).1, (z _ _ h2).1]⟩
      obtain ⟨rfl, rfl⟩ := z _ _ he
      exact ⟨g, rfl, ent⟩
    · by_cases hk : k = 0
      · subst hk
        simp at h1
        subst h1
        exact .inr (hg b1 h2)
      · simp [hk] at h1
  have hwide : ∀ row ∈ rowsI l, row.length = 1 := by intro row hr; simp at hr; obtain ⟨x, _, rfl⟩ := hr; rfl
  rcases hown with ⟨rfl, h0⟩ | ⟨g, cp, cur, rfl, hg, hgw, hle2, hcm, hcsz, htk⟩
  · have h0' : l = [] := List.length_eq_zero_iff.1 h0
    subst h0'
    exact fin ⟨none, 0, 1⟩ (by simp) ⟨rfl, Nat.zero_le _, hwide, fun _ => rfl, fun b' hb' => by cases hb'⟩ (.rs _ _ _ _ _ _ _ rfl (Nat.le_refl _) (fun _ => ⟨rfl, rfl⟩) fun b' hb' => by cases hb')
  · refine fin ⟨some g, 0, 1⟩ (fun b' hb' => by cases hb'; exact hg) ⟨rfl, Nat.zero_le _, hwide, (fun hn => by cases hn), fun b' hb' => ?_⟩ (.rs _ _ _ _ cp _ _ rfl hle2 (fun hn => by cases hn) fun b' hb' => ?_)
    · obtain rfl := Option.some.inj hb'
      refine ⟨cur, 3, hgw, by rw [hT0 g hg]; exact Nat.zero_le _, by simp; omega, fun i j hi hj => ?_⟩
      have hi' : i < l.length := by simpa using hi
      obtain rfl : j = 0 := by simpa using hj
      refine ⟨.int .i64 l[i], ?_, rfl, ?_⟩
      · have : (cur.toList.take (l.length * 1))[i]? = (l.map encZ)[i]? := by rw [htk]
        rw [List.getElem?_take, if_pos (by omega)] at this
        simpa [hi', encZ_one] using this
      · have e : ((rowsI l).getD i []).getD 0 .dead = .I l[i] := by simp [List.getD, hi']
        rw [e]
        exact .sc _ _ rfl
    · obtain rfl := Option.some.inj hb'
      exact ⟨.inr (by simp), cur, 3, (0, 0), hgw, by simp; omega⟩
end Go.Proofs.YtlhjelookgjmpaaGreat
namespace Go.Proofs.YtlhjelookgjmpaaGreat
open Go
section
variable {P : Program} {np id : Nat} {h : Nat → Option Ent} {K : AV → List Nat → List (Nat × Option Ent) → Prop} {f : FuncId} {first capt args args' : List AV} {res : AV}
theorem call0k (sn : List Nat) (hnp : ∀ i ∈ sn, np ≤ i) (hc : ACalls P f args' [] res []) (hw : (first ++ args ++ capt).map (conv [] sn h 4) = args')
    (hk : K (conv (((List.range 8).map (id + ·)).zipIdx.map fun (a, b) => (b, a)) [] (fun _ => none) 4 res) sn (sn.filterMap fun i => (h i).map fun e => (i, some { e with ro := e.rows.length }))) : aK P np id .call (.fn (.func f) first capt :: args) h K :=
  ⟨[], sn, true, args', [], res, [], by simp, by simp, fun _ => hnp, by rw [List.zipIdx_nil, hw]; exact wkL_refl _, rfl, hc, by simp, .inl rfl, by simpa using hk⟩
end
abbrev seqF (l : List Int) : AV := .fn (.func nslices_Values_Lint_int_c1) [] [.pv [ints l]]
theorem Values_ok (l : List Int) : ACalls Tryz.prog nslices_Values_Lint_int [ints l] [] (seqF l) [] := by
  refine sslices_Values_Lint_int.acalls (Nat.le_of_ble_eq_true rfl) (Nat.le_of_ble_eq_true rfl) (Nat.le_refl _) ?_
  show awp _ 0 _ _ ⟨4, [(0, ints l)], [], 16⟩
  refine rk (s := ?s1) [1] [16] rfl ?o1 ?q1
  case o1 => simp; rfl
  refine rk (s := ?s2) [2] [16] rfl ?o2 ?q2
  case o2 => simp; rfl
  refine awp_ret ?_
  exact ⟨.inr rfl, RetOk.out [] [16] rfl (by simp) (by simp) (by simp) (by simp)⟩
theorem Collect_ok (l : List Int) (hl : l.length ≤ 1099511627776) : ACalls Tryz.prog nslices_Collect_int [seqF l] [] (.rs 0 0 l.length) [some ⟨1, rowsI l, 0⟩] := by
  refine sslices_Collect_int.acalls (Nat.le_of_ble_eq_true rfl) (Nat.le_of_ble_eq_true rfl) (Nat.zero_le _) ?_
  show awp _ 0 _ _ ⟨5, [(0, seqF l)], [], 16⟩
  refine rk (s := ?s1) [0] [] rfl ?o1 ?q1
  case o1 => simp; rfl
  refine rk (s := ?s2) [2] [32] rfl ?o2 ?q2
  case o2 =>
    simp
    refine callN1 (AppendSeq_ok l hl) (by simp) ?_
    simp [Function.comp_def]
    rfl
  refine awp_ret ?_
  exact ⟨.inr rfl, RetOk.out [32] [] rfl (by simp) (by simp) (by simp) (by simp [Function.comp_def])⟩
theorem Sorted_ok (l : List Int) (hl : l.length ≤ 1099511627776) : ACalls Tryz.prog nslices_Sorted_int [seqF l] [] (.rs 0 0 l.length) [some ⟨1, rowsI (sorted l), 0⟩] := by
  refine sslices_Sorted_int.acalls (Nat.le_of_ble_eq_true rfl) (Nat.le_of_ble_eq_true rfl) (Nat.zero_le _) ?_
  show awp _ 0 _ _ ⟨9, [(0, seqF l)], [], 16⟩
  refine rk (s := ?s1) [0] [] rfl ?o1 ?q1
  case o1 => simp; rfl
  refine rk (s := ?s2) [3] [32] rfl ?o2 ?q2
  case o2 =>
    simp
    refine callN1 (Collect_ok l hl) (by simp) ?_
    simp [Function.comp_def]
    rfl
  refine rk (s := ?s3) [3] [32] rfl ?o3 ?q3
  case o3 =>
    simp
    refine callM1 (i := 32) rfl (e' := ⟨1, iRows l, 0⟩) (by simp [Function.comp_def, iRows]) (sort_ok l (by omega)) (by simp) (by simp) ?_
    simp [Function.comp_def, iRows]
    rfl
  refine rk (s := ?s4) [2] [32] rfl ?o4 ?q4
  case o4 => simp; rfl
  refine awp_ret ?_
  exact ⟨.inr rfl, RetOk.out [32] [] rfl (by simp) (by simp) (by simp) (by simp [Function.comp_def])⟩
end Go.Proofs.YtlhjelookgjmpaaGreat
namespace Go.Proofs.YtlhjelookgjmpaaGreat
open Go
abbrev pathsV (P : List (List Int)) : AV := .vs 1 false (P.map fun w => [ints w])
def cnt (f : Int → Int) : List AV := (List.range 64).map fun (k : Nat) => AV.I (f (k : Int))
theorem cnt_len (f : Int → Int) : (cnt f).length = 64 := by simp [cnt]
theorem cnt_zero : cnt (fun _ => 0) = List.replicate 64 (AV.I 0) := by simp [cnt, List.map_const']
theorem cnt_drop (f : Int → Int) {k : Nat} (hk : k < 64) : (cnt f).drop k = AV.I (f k) :: (cnt f).drop (k + 1) := by
  rw [List.drop_eq_getElem_cons (by rw [cnt_len]; exact hk)]
  simp [cnt]
theorem cnt_splice (f : Int → Int) {k : Nat} (hk : k < 64) (v : Int) : splice (cnt f) k [AV.I v] = cnt fun j => if j = k then v else f j := by
  apply List.ext_getElem?
  intro i
  unfold splice
  rcases Nat.lt_trichotomy i k with h | h | h
  · rw [List.append_assoc, List.getElem?_append_left (by simp [cnt_len]; omega), List.getElem?_take, if_pos h]
    simp [cnt, show i < 64 by omega, show ¬ ((i : Int) = k) by omega]
  · subst h
    rw [List.append_assoc, List.getElem?_append_right (by simp [cnt_len]; omega), List.getElem?_append_left (by simp [cnt_len]; omega)]
    simp [cnt, cnt_len, hk, Nat.min_eq_left (Nat.le_of_lt hk)]
  · rw [List.getElem?_append_right (by simp [cnt_len]; omega)]
    by_cases h2 : i < 64
    · simp [cnt, cnt_len, h2, Nat.min_eq_left (Nat.le_of_lt hk), show ¬ ((i : Int) = k) by omega]
      rw [List.getElem?_range (by omega)]
      simp
      congr 1
      omega
    · simp [cnt, cnt_len, Nat.min_eq_left (Nat.le_of_lt hk)]
      rw [List.getElem?_eq_none (by simp; omega), List.getElem?_eq_none (by simp; omega)]
      rfl
theorem cnt_set (f : Int → Int) {k : Nat} (hk : k < 64) (v : Int) : List.take k (cnt f) ++ AV.I v :: List.drop (k + 1) (cnt f) = cnt fun j => if j = k then v else f j := by
  have := cnt_splice f hk v
  simpa [splice] using this
@[simp] theorem conv_cnt {ρ : List (Nat × Nat)} {sn : List Nat} {h : Nat → Option Ent} {f : Int → Int} : (cnt f).map (conv ρ sn h 4) = cnt f := by
  unfold cnt
  rw [List.map_map]
  rfl
@[simp] theorem entUp_cnt {nl : List (Nat × Nat)} {f : Int → Int} : EntUp nl ⟨64, [cnt f], 0⟩ ⟨64, [cnt f], 0⟩ := EntUp.rfl' (Nat.zero_le _)
theorem begC_succ (P : List (List Int)) (i : Nat) (h : i < P.length) (k : Int) : begC (P.take (i + 1)) k = begC (P.take i) k + if P[i].head? = some k then 1 else 0 := by
  unfold begC
  rw [List.take_succ_eq_append_getElem h, List.countP_append]
  simp [List.countP_cons]
theorem useC_succ (P : List (List Int)) (i : Nat) (h : i < P.length) (k : Int) : useC (P.take (i + 1)) k = useC (P.take i) k + P[i].dropLast.count k := by
  unfold useC
  rw [List.take_succ_eq_append_getElem h, List.flatMap_append, List.count_append]
  simp
theorem begC_len (P : List (List Int)) (k : Int) : begC P k ≤ P.length := List.countP_le_length
theorem useC_len {P : List (List Int)} {m : Nat} (h : ∀ w ∈ P, w.length ≤ m) (k : Int) : useC P k ≤ m * P.length := by
  unfold useC
  refine Nat.le_trans List.count_le_length ?_
  induction P with
  | nil => simp
  | cons w P ih =>
    rw [List.flatMap_cons, List.length_append, List.length_cons, Nat.mul_add, Nat.mul_one]
    have h1 := ih fun x hx => h x (List.mem_cons_of_mem _ hx)
    have h2 := h w (List.mem_cons_self ..)
    rw [List.length_dropLast]
    omega
theorem count_take_succ (l : List Int) (j : Nat) (h : j < l.length) (k : Int) : (l.take (j + 1)).count k = (l.take j).count k + if l[j] = k then 1 else 0 := by
  rw [List.take_succ_eq_append_getElem h, List.count_append]
  simp [List.count_cons]
theorem lasts_succ (P : List (List Int)) (i : Nat) (h : i < P.length) (hne : P[i] ≠ []) : lasts (P.take (i + 1)) = lasts (P.take i) ++ [P[i].getLast hne] := by
  unfold lasts
  rw [List.take_succ_eq_append_getElem h, List.filterMap_append]
  simp [List.getLast?_eq_some_getLast hne]
end Go.Proofs.YtlhjelookgjmpaaGreat
namespace Go.Proofs.YtlhjelookgjmpaaGreat
open Go
def ServesE (g : Gr) (seeds order caps : List Int) (P : List (List Int)) (ends : List Int) : Prop :=
  (∀ w ∈ P, WalkC g seeds order w) ∧ RoomP caps P ∧ srt (lasts P) = srt ends
def capAt (caps : List Int) (P : List (List Int)) (k : Nat) : Prop := ∀ h : k < caps.length, (begC P k : Int) ≤ caps[k] ∧ (useC P k : Int) ≤ max 0 (caps[k] - 1)
theorem roomP_iff {c : List Int} {P : List (List Int)} : RoomP c P ↔ ∀ k, capAt c P k := Iff.rfl
set_option maxRecDepth 100000 in
set_option maxHeartbeats 2000000 in
open Classical in
theorem engine_serve_ok (g : Gr) (seeds caps order : List Int) (P : List (List Int)) (ends : List Int) (hg : g.edges.length ≤ 500) (hs : seeds.length ≤ 140737488355328) (ho : order.length ≤ 140737488355328)
    (ho64 : ∀ k ∈ order, 0 ≤ k ∧ k < 64) (hc64 : caps.length ≤ 64) (hcb : ∀ c ∈ caps, 0 ≤ c ∧ c ≤ 1000) (hP : P.length ≤ 100000) (hPw : ∀ w ∈ P, w.length ≤ 100000) (hE : ends.length ≤ 1099511627776) :
    ACalls Tryz.prog nchecker_engine_serve [eEng g seeds caps order, pathsV P, ints ends] [] (.B (decide (ServesE g seeds order caps P ends))) [] := by
  refine schecker_engine_serve.acalls (Nat.le_of_ble_eq_true rfl) (Nat.le_of_ble_eq_true rfl) (Nat.le_refl _) ?_
  show awp _ 0 _ _ ⟨89, [(0, eEng g seeds caps order), (1, pathsV P), (2, ints ends)], [], 16⟩
  refine rx (s := ?s1) [1, 2, 3] [] [16] rfl ?o1 ?q1
  case o1 => simp; rfl
  refine awp_regc ⟨89, [(1, pathsV P), (2, ints ends), (3, .pv (xC g seeds caps order)), (7, .pt 32 0 0), (8, .pt 40 0 0)], [(32, some ⟨64, [cnt fun _ => 0], 0⟩), (40, some ⟨64, [cnt fun _ => 0], 0⟩)], 48⟩ rfl ?_ ?_
  · rw [cnt_zero]
    simp
    exact Le.keep rfl (Nat.le_refl _) (by simp) (by simp [List.replicate])
  refine rk (s := ?s3) [1, 2, 3, 7, 8, 9] [32, 40] rfl ?o3 ?q3
  case o3 => simp; rfl
  refine awp_seq ?_
  refine rk (s := ?s4) [2, 3, 7, 8, 9, 16, 17, 18] [32, 40] rfl ?o4 ?q4
  case o4 => simp; rfl
  refine awp_block ?_
  let B : Nat → Int → Int := fun i k => begC (P.take i) k
  let U : Nat → Int → Int := fun i k => useC (P.take i) k
  let L : Nat → List Int := fun i => lasts (P.take i)
  have hB0 : B 0 = fun _ => 0 := by funext k; simp [B, begC]
  have hU0 : U 0 = fun _ => 0 := by funext k; simp [U, useC]
  have hL0 : L 0 = [] := by simp [L, lasts]
  refine awp_loop (ι := Nat) (fun i => ⟨89, [(2, ints ends), (3, .pv (xC g seeds caps order)), (7, .pt 32 0 0), (8, .pt 40 0 0), (9, .rs 16 0 i), (16, pathsV P), (17, .I P.length), (18, .I i)], [(32, some ⟨64, [cnt (B i)], 0⟩), (40, some ⟨64, [cnt (U i)], 0⟩), (16, some ⟨1, rowsI (L i), 0⟩)], 80⟩)
    (fun i => i ≤ P.length ∧ ∀ w ∈ P.take i, WalkC g seeds order w) (fun i => P.length - i) 0 (by simp) (Le.lst [(32, 32), (40, 40)] [] [(16, 1)] rfl (by simp) (by simp) (by simp) (by simp) (by simp) (by simp) (by simp) (by simp [Up]) (by simp [hB0, hU0, hL0])) ?_
  rintro i ⟨hi, hp⟩
  have hLl : (L i).length = i := by
    have h1 := lasts_len (P := P.take i) fun w hw => by obtain ⟨k, hk, _⟩ := (hp w hw).1; rintro rfl; simp at hk
    rw [List.length_take, Nat.min_eq_left hi] at h1
    exact h1
  refine rk (s := ?s5) [2, 3, 7, 8, 9, 16, 17, 18, 19] [32, 40, 16] rfl ?o5 ?q5
  case o5 => simp; rfl
  refine awp_seq ?_
  refine awp_cond _ rfl (fun h6 => ?_) fun h6 => ?_
  · simp at h6
    have hw1 : IntKind.i64.wrap ((i : Int) + 1) = (i : Int) + 1 := w64 (by omega) (by omega)
    refine awp_skip ?_
    refine awp_seq ?_
    refine awp_block ?_
    obtain ⟨w, hwd⟩ : ∃ w, w = P[i] := ⟨_, rfl⟩
    have hwl : w.length ≤ 100000 := by rw [hwd]; exact hPw _ (List.getElem_mem h6)
    refine rk (s := ?s7) [2, 3, 7, 8, 9, 11, 16, 17, 18] [32, 40, 16] rfl ?o7 ?q7
    case o7 => simp [h6, ← hwd]; rfl
    refine awp_seq ?_
    refine rk (s := ?s8) [2, 3, 7, 8, 9, 11, 16, 17, 18, 25] [32, 40, 16] rfl ?o8 ?q8
    case o8 =>
      simp
      refine call0e (engine_walks_ok g seeds caps order w (by omega) hs ho (by omega)) (by simp) ?_
      simp
      rfl
    refine awp_cond _ rfl (fun h9 => ?_) fun h9 => ?_
    · refine rk (s := ?s10) [6] [] rfl ?o10 ?q10
      case o10 => simp; rfl
      refine awp_ret ?_
      have hn : ¬ ServesE g seeds order caps P ends := fun h => by simp at h9; exact h9 (hwd ▸ h.1 _ (List.getElem_mem h6))
      exact ⟨.inr rfl, RetOk.one (by simp [hn])⟩
    simp at h9
    have hk64 : ∀ j (h : j < w.length), 0 ≤ w[j] ∧ w[j] < 64 := fun j h => ho64 _ (h9.2 j h).1.1
    have hne : w ≠ [] := by obtain ⟨k, hk, _⟩ := h9.1; rintro rfl; simp at hk
    have hpos : 0 < w.length := List.length_pos_iff.2 hne
    obtain ⟨k0, hk0, hk0'⟩ : ∃ k0 : Nat, w[0] = k0 ∧ k0 < 64 := ⟨w[0].toNat, by have := hk64 0 hpos; omega, by have := hk64 0 hpos; omega⟩
    have hhd : w.head? = some (k0 : Int) := by rw [List.head?_eq_getElem?, List.getElem?_eq_getElem hpos, hk0]
    have hBle : B i k0 ≤ 100000 := by
      have := begC_len (P.take i) k0
      have := List.length_take_le i P
      simp only [B]
      omega
    have hB0' : 0 ≤ B i k0 := by simp only [B]; omega
    have hwB : IntKind.i64.wrap (B i k0 + 1) = B i k0 + 1 := w64 (by omega) (by omega)
    have hBn : (fun j => if j = (k0 : Int) then B i k0 + 1 else B i j) = B (i + 1) := by
      funext j
      simp only [B]
      rw [begC_succ P i h6 j, ← hwd, hhd]
      by_cases h : j = (k0 : Int)
      · subst h; simp
      · simp [h, Ne.symm h]
    have hd1 := cnt_drop (B i) hk0'
    have hs1 := cnt_set (B i) hk0' (B i k0 + 1)
    rw [hBn] at hs1
    refine awp_skip ?_
    refine awp_regc ⟨89, [(2, ints ends), (3, .pv (xC g seeds caps order)), (7, .pt 32 0 0), (8, .pt 40 0 0), (9, .rs 16 0 i), (11, ints w), (16, pathsV P), (17, .I P.length), (18, .I i)], [(32, some ⟨64, [cnt (B (i + 1))], 0⟩), (40, some ⟨64, [cnt (U i)], 0⟩), (16, some ⟨1, rowsI (L i), 0⟩)], 208⟩ rfl ?_ ?_
    · simp [hpos, hk0, hk0', hd1, hwB, cnt_len, hs1]
      refine ⟨by omega, by omega, ?_⟩
      exact Le.keep rfl (Nat.le_refl _) (by simp) (by simp)
    obtain ⟨d, hd⟩ : ∃ d, d = w.dropLast := ⟨_, rfl⟩
    have hdl : d.length = w.length - 1 := by rw [hd, List.length_dropLast]
    have hdt : ∀ f : Int → List AV, List.take (w.length - 1) (List.map f w) = List.map f d := fun f => by rw [← List.map_take, hd, List.dropLast_eq_take]
    have hwm : IntKind.i64.wrap ((w.length : Int) - 1) = ((w.length - 1 : Nat) : Int) := by rw [w64 (by omega) (by omega)]; omega
    refine awp_seq ?_
    refine awp_regc ⟨89, [(2, ints ends), (3, .pv (xC g seeds caps order)), (7, .pt 32 0 0), (8, .pt 40 0 0), (9, .rs 16 0 i), (11, ints w), (16, pathsV P), (17, .I P.length), (18, .I i), (37, ints d), (38, .I d.length), (39, .I 0)], [(32, some ⟨64, [cnt (B (i + 1))], 0⟩), (40, some ⟨64, [cnt (U i)], 0⟩), (16, some ⟨1, rowsI (L i), 0⟩)], 264⟩ rfl ?_ ?_
    · simp [hwm, hdt, hdl]
      exact Le.keep rfl (Nat.le_refl _) (by simp) (by simp)
    refine awp_block ?_
    let V : Nat → Int → Int := fun j k => U i k + ((d.take j).count k : Nat)
    have hV0 : V 0 = U i := by funext k; simp [V]
    refine awp_loop (ι := Nat) (fun j => ⟨89, [(2, ints ends), (3, .pv (xC g seeds caps order)), (7, .pt 32 0 0), (8, .pt 40 0 0), (9, .rs 16 0 i), (11, ints w), (16, pathsV P), (17, .I P.length), (18, .I i), (37, ints d), (38, .I d.length), (39, .I j)], [(32, some ⟨64, [cnt (B (i + 1))], 0⟩), (40, some ⟨64, [cnt (V j)], 0⟩), (16, some ⟨1, rowsI (L i), 0⟩)], 264⟩)
      (fun j => j ≤ d.length) (fun j => d.length - j) 0 (Nat.zero_le _) (Le.keep rfl (Nat.le_refl _) (by simp) (by simp [hV0])) ?_
    intro j hj
    refine rk (s := ?s13) [2, 3, 7, 8, 9, 11, 16, 17, 18, 37, 38, 39, 40] [32, 40, 16] rfl ?o13 ?q13
    case o13 => simp; rfl
    refine awp_seq ?_
    refine awp_cond _ rfl (fun h14 => ?_) fun h14 => ?_
    · simp at h14
      have hw2 : IntKind.i64.wrap ((j : Int) + 1) = (j : Int) + 1 := w64 (by omega) (by omega)
      have hdj : d[j] = w[j]'(by omega) := by simp [hd]
      obtain ⟨k1, hk1, hk1'⟩ : ∃ k1 : Nat, d[j] = k1 ∧ k1 < 64 := ⟨d[j].toNat, by have := hk64 j (by omega); omega, by have := hk64 j (by omega); omega⟩
      have hVle : 0 ≤ V j k1 ∧ V j k1 ≤ 100000000000000 := by
        have h1 := useC_len (P := P.take i) (m := 100000) (fun x hx => hPw x (List.mem_of_mem_take hx)) k1
        have h2 := List.length_take_le' i P
        have h3 : (d.take j).count (k1 : Int) ≤ d.length := Nat.le_trans List.count_le_length (List.length_take_le' j d)
        have h4 : 100000 * (P.take i).length ≤ 100000 * P.length := Nat.mul_le_mul_left _ h2
        have h5 : 100000 * P.length ≤ 100000 * 100000 := Nat.mul_le_mul_left _ hP
        simp only [V, U]
        omega
      have hwV : IntKind.i64.wrap (V j k1 + 1) = V j k1 + 1 := w64 (by omega) (by omega)
      have hVn : (fun k => if k = (k1 : Int) then V j k1 + 1 else V j k) = V (j + 1) := by
        funext k
        simp only [V]
        rw [count_take_succ d j h14 k, hk1]
        by_cases h : k = (k1 : Int)
        · subst h; simp; omega
        · simp [h, Ne.symm h]
      have hd2 := cnt_drop (V j) hk1'
      have hs2 := cnt_set (V j) hk1' (V j k1 + 1)
      rw [hVn] at hs2
      refine awp_skip ?_
      refine awp_seq ?_
      refine awp_block ?_
      refine rk (s := ?s15) [2, 3, 7, 8, 9, 11, 13, 16, 17, 18, 37, 38, 39] [32, 40, 16] rfl ?o15 ?q15
      case o15 => simp [h14, hk1]; rfl
      refine awp_run (s := ?s16) rfl ?o16 ?q16
      case o16 =>
        simp [hk1', hd2, hwV, cnt_len, hs2]
        refine ⟨by omega, by omega, ?_⟩
        rfl
      refine awp_run (s := ?s17) rfl ?o17 ?q17
      case o17 => simp [hw2]; rfl
      exact ⟨j + 1, by omega, by omega, Le.go [(32, 32), (40, 40), (16, 16)] [] rfl rfl (by simp) (by simp)⟩
    simp at h14
    obtain rfl : j = d.length := by omega
    have hVe : V d.length = U (i + 1) := by
      funext k
      simp only [V, U]
      rw [useC_succ P i h6 k, ← hwd, ← hd, List.take_of_length_le (Nat.le_refl _)]
      simp
    have hLn : L (i + 1) = L i ++ [w.getLast hne] := by
      have := lasts_succ P i h6 (hwd ▸ hne)
      simp only [L]
      rw [this]
      congr 3
      exact hwd.symm
    have hgl : w[w.length - 1]'(by omega) = w.getLast hne := (List.getLast_eq_getElem hne).symm
    have hti : ∀ f : Int → List AV, List.take i (List.map f (L i)) = List.map f (L i) := fun f => List.take_of_length_le (by simp [hLl])
    refine awp_exit ?_
    refine hit ?_
    refine awp_run (s := ?s18) rfl ?o18 ?q18
    case o18 =>
      simp [hwm, hne, show w.length - 1 < w.length by omega, hgl, hLl, hti]
      refine ⟨by omega, by omega, ?_⟩
      rfl
    refine awp_run (s := ?s19) rfl ?o19 ?q19
    case o19 => simp [hw1]; rfl
    refine ⟨i + 1, ⟨h6, fun x hx => ?_⟩, by omega, Le.go [(32, 32), (40, 40), (336, 16)] [] rfl rfl (by simp) (by simp [hVe, hLn])⟩
    rw [List.take_succ_eq_append_getElem h6] at hx
    rcases List.mem_append.1 hx with hx | hx
    · exact hp x hx
    · rw [List.mem_singleton] at hx
      rw [hx, ← hwd]
      exact h9
  simp at h6
  obtain rfl : i = P.length := by omega
  have hBP : ∀ k, B P.length k = begC P k := fun k => by simp [B]
  have hUP : ∀ k, U P.length k = useC P k := fun k => by simp [U]
  have hLP : L P.length = lasts P := by simp [L]
  have hpP : ∀ w ∈ P, WalkC g seeds order w := fun w hw => hp w (by simpa using hw)
  rw [hLP] at hLl ⊢
  refine awp_exit ?_
  refine hit ?_
  refine awp_seq ?_
  refine rk (s := ?s20) [2, 7, 8, 9, 60, 61, 62] [32, 40, 16] rfl ?o20 ?q20
  case o20 => simp; rfl
  refine awp_block ?_
  refine awp_loop (ι := Nat) (fun k => ⟨89, [(2, ints ends), (7, .pt 32 0 0), (8, .pt 40 0 0), (9, .rs 16 0 P.length), (60, ints caps), (61, .I caps.length), (62, .I k)], [(32, some ⟨64, [cnt (B P.length)], 0⟩), (40, some ⟨64, [cnt (U P.length)], 0⟩), (16, some ⟨1, rowsI (lasts P), 0⟩)], 120⟩)
    (fun k => k ≤ caps.length ∧ ∀ x, x < k → capAt caps P x) (fun k => caps.length - k) 0 (by simp) (Le.keep rfl (Nat.le_refl _) (by simp) (by simp)) ?_
  rintro k ⟨hk, hq⟩
  refine rk (s := ?s21) [2, 7, 8, 9, 60, 61, 62, 63] [32, 40, 16] rfl ?o21 ?q21
  case o21 => simp; rfl
  refine awp_seq ?_
  refine awp_cond _ rfl (fun h7 => ?_) fun h7 => ?_
  · simp at h7
    have hw3 : IntKind.i64.wrap ((k : Int) + 1) = (k : Int) + 1 := w64 (by omega) (by omega)
    have hck := hcb _ (List.getElem_mem h7)
    have hwc : IntKind.i64.wrap (caps[k] - 1) = caps[k] - 1 := w64 (by omega) (by omega)
    have hd3 := cnt_drop (B P.length) (k := k) (by omega)
    have hd4 := cnt_drop (U P.length) (k := k) (by omega)
    rw [hBP] at hd3
    rw [hUP] at hd4
    have hk64' : k < 64 := by omega
    have hcp : capAt caps P k ↔ ((begC P k : Int) ≤ caps[k] ∧ (useC P k : Int) ≤ max 0 (caps[k] - 1)) := ⟨fun h => h h7, fun h _ => h⟩
    refine awp_skip ?_
    refine awp_seq ?_
    refine awp_block ?_
    refine rk (s := ?s22) [2, 7, 8, 9, 14, 15, 60, 61, 62] [32, 40, 16] rfl ?o22 ?q22
    case o22 => simp [h7]; rfl
    refine awp_regc ⟨89, [(2, ints ends), (7, .pt 32 0 0), (8, .pt 40 0 0), (9, .rs 16 0 P.length), (60, ints caps), (61, .I caps.length), (62, .I k), (80, .B (decide (¬ capAt caps P k)))], [(32, some ⟨64, [cnt (B P.length)], 0⟩), (40, some ⟨64, [cnt (U P.length)], 0⟩), (16, some ⟨1, rowsI (lasts P), 0⟩)], 280⟩ rfl ?_ ?_
    · simp [hk64', hd3, hd4, cnt_len]
      refine ⟨by omega, ?_⟩
      refine gcase (fun hb => ?_) (fun hb => ?_) <;> (try rw [hb]) <;> (try simp at hb) <;> simp [hb, hk64', hd3, hd4, cnt_len, hwc]
      · exact Le.go [(32, 32), (40, 40), (16, 16)] [] rfl rfl (by simp <;> exact wkB (by rw [Bool.eq_iff_iff]; simp [hcp]; omega)) (by simp)
      · refine ⟨by omega, ?_⟩
        exact Le.go [(32, 32), (40, 40), (16, 16)] [] rfl rfl (by simp <;> exact wkB (by rw [Bool.eq_iff_iff]; simp [hcp, hb]; split <;> omega)) (by simp)
    refine awp_cond _ rfl (fun h8 => ?_) fun h8 => ?_
    · refine rk (s := ?s23) [6] [] rfl ?o23 ?q23
      case o23 => simp; rfl
      refine awp_ret ?_
      have hn : ¬ ServesE g seeds order caps P ends := fun h => by simp at h8; exact h8 (roomP_iff.1 h.2.1 k)
      exact ⟨.inr rfl, RetOk.one (by simp [hn])⟩
    simp at h8
    refine awp_skip ?_
    refine awp_run (s := ?s24) rfl ?o24 ?q24
    case o24 => simp [hw3]; rfl
    refine ⟨k + 1, ⟨h7, fun x hx => ?_⟩, by omega, Le.go [(32, 32), (40, 40), (16, 16)] [] rfl rfl (by simp) (by simp)⟩
    rcases Nat.lt_succ_iff_lt_or_eq.1 hx with h | rfl
    · exact hq x h
    · exact h8
  simp at h7
  have hroom : RoomP caps P := roomP_iff.2 fun x hx => hq x (by omega) hx
  have hll : (lasts P).length ≤ 1099511627776 := by omega
  have htl : ∀ f : Int → List AV, List.take P.length (List.map f (lasts P)) = List.map f (lasts P) := fun f => List.take_of_length_le (by simp [hLl])
  have htl2 : ∀ (f : Int → List AV) (r : Int → Int → Bool), List.take P.length (List.map f ((lasts P).mergeSort r)) = List.map f ((lasts P).mergeSort r) := fun f r => List.take_of_length_le (by simp [List.length_mergeSort, hLl])
  refine awp_exit ?_
  refine hit ?_
  refine rx (s := ?s25) [6] [] [] rfl ?o25 ?q25
  case o25 =>
    simp
    refine call0k [16] (by simp) (Values_ok (lasts P)) (by simp [htl, hLl]) ?_
    simp [htl, hLl]
    refine callN1 (Sorted_ok (lasts P) hll) (by simp) ?_
    simp [Function.comp_def]
    refine call0e (Values_ok ends) (by simp) ?_
    simp
    refine callN1 (Sorted_ok ends hE) (by simp) ?_
    simp [Function.comp_def]
    refine call0s [144, 168] (EqualI_ok (sorted (lasts P)) (sorted ends) (by rw [sorted_len]; omega)) (by simp [hLl, htl2, take_msort]) (.sc _) ?_
    simp
    rfl
  refine awp_ret ?_
  have hfin : ServesE g seeds order caps P ends ↔ sorted (lasts P) = sorted ends := ⟨fun h => h.2.2, fun h => ⟨hpP, hroom, h⟩⟩
  exact ⟨.inr rfl, RetOk.one (by simp [hfin])⟩
end Go.Proofs.YtlhjelookgjmpaaGreat
namespace Go.Proofs.YtlhjelookgjmpaaGreat
open Go
section
variable {P : Program} {np id : Nat} {h : Nat → Option Ent} {K : AV → List Nat → List (Nat × Option Ent) → Prop} {s s' l k : Nat} {f : Bool} {rows : List (List AV)}
@[simp] theorem k_slvlh2 : aK P np id (.slc s true true false) [.vs s' f rows, .sc (.int .i64 (l : Int)), .sc (.int .i64 (k : Int))] h K = (l ≤ k ∧ k ≤ rows.length ∧ s' = s ∧ K (.vs s false ((rows.drop l).take (k - l))) [] []) := by
  rw [k_slc]
  refine propext ⟨?_, ?_⟩
  · rintro ⟨l', r, m, n, h1, h2, h4, h5, h6, h7, h3, h10, h8, h9⟩
    simp at h4 h1
    subst h1
    obtain ⟨rfl, rfl⟩ : l = l' ∧ k = r := by omega
    exact ⟨h2, h3, h8, by simpa using h9⟩
  · rintro ⟨h1, h2, h3, h4⟩
    exact ⟨l, k, 0, rows.length, rfl, h1, by simp, (fun h => by cases h), (fun h => by cases h), (fun h => by cases h), h2, (fun h => by cases h), h3, by simpa using h4⟩
end
theorem sub_first {k : Int} {l : List Int} : ∀ {s : List Int}, (k :: l).Sublist s ↔ k ∈ s ∧ l.Sublist (s.drop (s.idxOf k + 1))
  | [] => by simp
  | x :: s => by
    rw [sub_cons_iff]
    by_cases h : x = k
    · subst h
      simp [List.idxOf_cons_self]
    · rw [if_neg h, sub_first]
      have hb : (x == k) = false := by simpa using h
      simp [List.idxOf_cons, Ne.symm h, hb]
theorem takeWhile_idx (key : Int) : ∀ (o : List Int), aheadO o key = o.take (o.idxOf key)
  | [] => rfl
  | x :: o => by
    rw [aheadO_cons]
    by_cases h : x = key
    · subst h
      simp [List.idxOf_cons_self]
    · rw [if_neg h, takeWhile_idx key o]
      have hb : (x == key) = false := by simpa using h
      simp [List.idxOf_cons, hb]
open Classical in
theorem engine_before_ok (g : Gr) (seeds caps order l : List Int) (key : Int) (ho : order.length ≤ 1000000) (hl : l.length ≤ 140737488355328) (hk : key ∈ order) :
    ACalls Tryz.prog nchecker_engine_before [eEng g seeds caps order, ints l, .I key] [] (.B (decide (BeforeP order l key))) [] := by
  refine schecker_engine_before.acalls (Nat.le_of_ble_eq_true rfl) (Nat.le_of_ble_eq_true rfl) (Nat.le_refl _) ?_
  show awp _ 0 _ _ ⟨36, [(0, eEng g seeds caps order), (1, ints l), (2, .I key)], [], 16⟩
  obtain ⟨e, he⟩ : ∃ e, e = order.idxOf key := ⟨_, rfl⟩
  have hel : e < order.length := by rw [he]; exact List.idxOf_lt_length_of_mem hk
  have hix : idxI order key = e := by unfold idxI; rw [if_pos hk, he]
  have hidx := slices_Index_Lint_int_ok order key (by omega)
  rw [hix] at hidx
  have hA : aheadO order key = order.take e := by rw [takeWhile_idx, he]
  refine rx (s := ?s1) [1, 2, 3] [] [16] rfl ?o1 ?q1
  case o1 => simp; rfl
  refine rx (s := ?s2) [1, 2, 3, 7] [] [] rfl ?o2 ?q2
  case o2 => simp; rfl
  refine rx (s := ?s3) [1, 3, 7, 8] [] [] rfl ?o3 ?q3
  case o3 => simp; refine call0e hidx (by simp) ?_; simp; rfl
  refine awp_seq ?_
  refine rx (s := ?s4) [3, 7, 8, 16, 17, 18] [] [] rfl ?o4 ?q4
  case o4 => simp; rfl
  refine awp_block ?_
  refine awp_loop (ι := Nat × Nat) (fun p => ⟨36, [(3, .pv (xC g seeds caps order)), (7, .I p.2), (8, .I e), (16, ints l), (17, .I l.length), (18, .I p.1)], [], 104⟩)
    (fun p => p.1 ≤ l.length ∧ p.2 ≤ e ∧ (BeforeP order l key ↔ (l.drop p.1).Sublist ((order.take e).drop p.2))) (fun p => l.length - p.1) (0, 0) ⟨Nat.zero_le _, Nat.zero_le _, by unfold BeforeP; rw [hA]; simp⟩ (Le.go [] [] rfl rfl (by simp) (by simp)) ?_
  rintro ⟨i, a⟩ ⟨hi, ha, hq⟩
  simp only at hi ha hq
  refine rx (s := ?s5) [3, 7, 8, 16, 17, 18, 19] [] [] rfl ?o5 ?q5
  case o5 => simp; rfl
  refine awp_seq ?_
  refine awp_cond _ rfl (fun h6 => ?_) fun h6 => ?_
  · simp at h6
    have hw1 : IntKind.i64.wrap ((i : Int) + 1) = (i : Int) + 1 := w64 (by omega) (by omega)
    rw [List.drop_eq_getElem_cons h6, sub_first] at hq
    obtain ⟨s, hs⟩ : ∃ s, s = (order.take e).drop a := ⟨_, rfl⟩
    have hsl : s.length = e - a := by rw [hs]; simp; omega
    have hmap : ∀ f : Int → List AV, List.take (e - a) (List.drop a (List.map f order)) = List.map f s := fun f => by
      rw [hs, List.drop_take, List.map_take, List.map_drop]
    have hidx2 := slices_Index_Lint_int_ok s l[i] (by omega)
    rw [← hs] at hq
    refine awp_skip ?_
    refine awp_seq ?_
    refine awp_block ?_
    refine rx (s := ?s7) [3, 7, 8, 10, 16, 17, 18] [] [] rfl ?o7 ?q7
    case o7 => simp [h6]; rfl
    refine rx (s := ?s8) [3, 7, 8, 11, 16, 17, 18] [] [] rfl ?o8 ?q8
    case o8 =>
      simp [ha, show e ≤ order.length by omega]
      refine call0e hidx2 (by simp [hmap]) ?_
      simp
      rfl
    refine awp_seq ?_
    refine rx (s := ?s9) [3, 7, 8, 11, 16, 17, 18, 30] [] [] rfl ?o9 ?q9
    case o9 => simp; rfl
    refine awp_cond _ rfl (fun h10 => ?_) fun h10 => ?_
    · simp at h10
      refine rx (s := ?s11) [6] [] [] rfl ?o11 ?q11
      case o11 => simp; rfl
      refine awp_ret ?_
      have hn : ¬ BeforeP order l key := fun h => by
        have hm := (hq.1 h).1
        unfold idxI at h10
        rw [if_pos hm] at h10
        omega
      exact ⟨.inr rfl, RetOk.one (by simp [hn])⟩
    simp at h10
    have hm : l[i] ∈ s := by
      unfold idxI at h10
      split at h10
      · assumption
      · omega
    have hil : s.idxOf l[i] < s.length := List.idxOf_lt_length_of_mem hm
    have hii : idxI s l[i] = (s.idxOf l[i] : Int) := by unfold idxI; rw [if_pos hm]
    obtain ⟨q, hq'⟩ : ∃ q, q = s.idxOf l[i] := ⟨_, rfl⟩
    rw [← hq'] at hii hil
    have hw2 : IntKind.i64.wrap (idxI s l[i] + 1) = (q : Int) + 1 := by rw [hii, w64 (by omega) (by omega)]
    have hw3 : IntKind.i64.wrap ((a : Int) + ((q : Int) + 1)) = (a : Int) + ((q : Int) + 1) := w64 (by omega) (by omega)
    refine awp_skip ?_
    refine awp_run (s := ?s12) rfl ?o12 ?q12
    case o12 => simp [hw2, hw3]; rfl
    refine awp_run (s := ?s13) rfl ?o13 ?q13
    case o13 => simp [hw1]; rfl
    refine ⟨(i + 1, a + (q + 1)), ⟨by simp only; omega, by simp only; omega, ?_⟩, by simp only; omega, Le.go [] [] rfl rfl (by simp [hw3]) (by simp)⟩
    simp only
    rw [hq, ← hq', hs, List.drop_drop]
    simp only [← hs, hm, true_and]
  simp at h6
  obtain rfl : i = l.length := by omega
  have hy : BeforeP order l key := hq.2 (by simp)
  refine awp_exit ?_
  refine hit ?_
  refine rx (s := ?s14) [6] [] [] rfl ?o14 ?q14
  case o14 => simp; rfl
  refine awp_ret ?_
  exact ⟨.inr rfl, RetOk.one (by simp [hy])⟩
end Go.Proofs.YtlhjelookgjmpaaGreat
namespace Go.Proofs.YtlhjelookgjmpaaGreat
open Go
def PathsE (g : Gr) (p : Pol) (P : List (List Int)) (ends : List Int) : Prop :=
  ServesE (levelG g p.lv) p.seeds (ordL (levelG g p.lv) p.seeds) (capsL g p) P ends
def PathsC (g : Gr) (p : Pol) (P : List (List Int)) (ends : List Int) : Prop := (GrOk g ∧ PolOk g.size p) ∧ Diff ends g.size ∧ PathsE g p P ends
theorem capsL_bound {g : Gr} {p : Pol} {n : Int} (hp : PolOk n p) : ∀ c ∈ capsL g p, 0 ≤ c ∧ c ≤ 1000 := by
  intro c hc
  obtain ⟨d, _, rfl⟩ := List.mem_map.1 hc
  exact capOf_bound hp d
theorem ordL_len {g : Gr} {S : List Int} (hg : 0 ≤ g.size) : (ordL g S).length ≤ g.size.toNat := by
  have h := nodup_sub_len (a := ordL g S) (b := (List.range g.size.toNat).map fun (i : Nat) => (i : Int)) (ordL_nodup g S) fun x hx => by
    have := ordL_range hx
    exact List.mem_map.2 ⟨x.toNat, List.mem_range.2 (by omega), by show ((x.toNat : Nat) : Int) = x; omega⟩
  simpa using h
open Classical in
theorem checker_Paths_ok (g : Gr) (p : Pol) (P : List (List Int)) (ends : List Int) (hl : g.edges.length ≤ 140737488355328) (hl2 : g.gone.length ≤ 140737488355328) (hs : p.seeds.length ≤ 1099511627776) (ht : p.table.length ≤ 140737488355328)
    (hN : g.size < 20) (hP : P.length ≤ 100000) (hPw : ∀ w ∈ P, w.length ≤ 100000) (hE : ends.length ≤ 1099511627776) :
    ACalls Tryz.prog nchecker_Paths [eG g, eP p, pathsV P, ints ends] [] (.B (decide (PathsC g p P ends))) [] := by
  refine schecker_Paths.acalls (Nat.le_of_ble_eq_true rfl) (Nat.le_of_ble_eq_true rfl) (Nat.le_refl _) ?_
  show awp _ 0 _ _ ⟨27, [(0, eG g), (1, eP p), (2, pathsV P), (3, ints ends)], [], 16⟩
  have hchk := capacity_Check_ok g p hl hl2 (by omega) ht
  have hdiff := checker_different_ok ends g.size (by omega)
  refine rx (s := ?s1) [2, 3, 4, 5] [] [16, 24] rfl ?o1 ?q1
  case o1 => simp; rfl
  refine awp_regc ⟨27, [(8, .B (decide (PathsC g p P ends)))], [], 184⟩ rfl ?_ ?_
  · by_cases hg : GrOk g
    · by_cases hp : PolOk g.size p
      · rw [if_pos hg, if_pos hp] at hchk
        have hof := checker_of_ok g p hg hN hs
        have hsrv := engine_serve_ok (levelG g p.lv) p.seeds (capsL g p) (ordL (levelG g p.lv) p.seeds) P ends (hg.level p.lv).edges_le (by omega)
          (by have := ordL_len (g := levelG g p.lv) (S := p.seeds) hg.1.1; have : (levelG g p.lv).size = g.size := rfl; omega)
          (fun k hk => by have := ordL_range hk; have : (levelG g p.lv).size = g.size := rfl; omega) (by rw [capsL_len]; omega) (capsL_bound hp) hP hPw hE
        simp
        refine call0e hchk (by simp) ?_
        simp
        refine call0e hdiff (by simp) ?_
        simp
        by_cases hd : Diff ends g.size
        · simp [hd]
          refine call0e hof (by simp) ?_
          simp
          refine call0e hsrv (by simp) ?_
          simp
          exact Le.snap [] rfl rfl (by simp [PathsC, hg, hp, hd, PathsE])
        · simp [hd]
          exact Le.snap [] rfl rfl (by simp [PathsC, hd])
      · rw [if_pos hg, if_neg hp] at hchk
        simp
        refine call0e hchk (by simp) ?_
        simp
        exact Le.snap [] rfl rfl (by simp [PathsC, hp])
    · rw [if_neg hg] at hchk
      simp
      refine call0e hchk (by simp) ?_
      simp
      exact Le.snap [] rfl rfl (by simp [PathsC, hg])
  refine awp_ret ?_
  exact ⟨.inr rfl, RetOk.one (by simp)⟩
theorem has24_ok (l : List Int) (n : Int) (hl : l.length ≤ 140737488355328) : ACalls Tryz.prog nref24_Has [ints l, .I n] [] (.B (decide (n ∈ l))) [] := by
  refine sref24_Has.acalls (Nat.le_of_ble_eq_true rfl) (Nat.le_of_ble_eq_true rfl) (Nat.le_refl _) ?_
  show awp _ 0 _ _ ⟨18, [(0, ints l), (1, .I n)], [], 16⟩
  refine rx (s := ?s1) [0, 1] [] [] rfl ?o1 ?q1
  case o1 => simp; rfl
  refine awp_seq ?_
  refine rx (s := ?s2) [0, 1, 5] [] [] rfl ?o2 ?q2
  case o2 => simp; rfl
  refine awp_block ?_
  refine awp_loop (ι := Nat) (fun i => ⟨18, [(0, ints l), (1, .I n), (5, .I i)], [], 32⟩) (fun i => i ≤ l.length ∧ n ∉ l.take i) (fun i => l.length - i) 0 (by simp) (Le.go [] [] rfl rfl (by simp) (by simp)) ?_
  rintro i ⟨hi, hp⟩
  refine awp_seq ?_
  refine rx (s := ?s3) [0, 1, 5, 9] [] [] rfl ?o3 ?q3
  case o3 => simp; rfl
  refine awp_cond _ rfl (fun h4 => ?_) fun h4 => ?_
  · simp at h4
    have hw : IntKind.i64.wrap ((i : Int) + 1) = (i : Int) + 1 := w64 (by omega) (by omega)
    refine awp_skip ?_
    refine awp_seq ?_
    refine awp_block ?_
    refine rx (s := ?s5) [0, 1, 5, 17] [] [] rfl ?o5 ?q5
    case o5 => simp [h4]; rfl
    refine awp_cond _ rfl (fun h7 => ?_) fun h7 => ?_
    · simp at h7
      refine rx (s := ?s8) [4] [] [] rfl ?o8 ?q8
      case o8 => simp; rfl
      refine awp_ret ?_
      have hm : n ∈ l := h7 ▸ List.getElem_mem h4
      exact ⟨.inr rfl, RetOk.one (by simp [hm])⟩
    simp at h7
    refine awp_skip ?_
    refine awp_reg rfl ?_
    simp [hw]
    refine ⟨i + 1, ⟨h4, ?_⟩, by omega, Le.go [] [] rfl rfl (by simp) (by simp)⟩
    rw [List.take_succ_eq_append_getElem h4, List.mem_append, List.mem_singleton]
    exact fun h => h.elim hp fun e => h7 e.symm
  simp at h4
  have hn : n ∉ l := by rw [List.take_of_length_le (by omega)] at hp; exact hp
  refine awp_exit ?_
  refine hit ?_
  refine rx (s := ?s9) [4] [] [] rfl ?o9 ?q9
  case o9 => simp; rfl
  refine awp_ret ?_
  exact ⟨.inr rfl, RetOk.one (by simp [hn])⟩
def joinN (a : List Int) (k : Nat) : List Int := ((List.range k).map Int.ofNat).filter fun x => decide (x ∈ a)
theorem joinN_succ (a : List Int) (k : Nat) : joinN a (k + 1) = joinN a k ++ if (k : Int) ∈ a then [(k : Int)] else [] := by
  unfold joinN
  rw [List.range_succ, List.map_append, List.filter_append]
  congr 1
  by_cases h : (k : Int) ∈ a
  · rw [if_pos h]
    simp [h]
  · rw [if_neg h]
    simp [h]
theorem joinN_len (a : List Int) (k : Nat) : (joinN a k).length ≤ k := by
  refine Nat.le_trans (List.length_filter_le ..) (by simp)
theorem join24_ok (a b : List Int) (ha : a.length ≤ 140737488355328) (hb : b.length ≤ 140737488355328) : ACalls Tryz.prog nref24_Join [ints a, ints b] [] (.rs 0 0 (joinL (a ++ b)).length) [some ⟨1, rowsI (joinL (a ++ b)), 0⟩] := by
  refine sref24_Join.acalls (Nat.le_of_ble_eq_true rfl) (Nat.le_of_ble_eq_true rfl) (Nat.zero_le _) ?_
  show awp _ 0 _ _ ⟨24, [(0, ints a), (1, ints b)], [], 16⟩
  refine rx (s := ?s1) [0, 1] [] [] rfl ?o1 ?q1
  case o1 => simp; rfl
  refine rx (s := ?s2) [0, 1, 5] [] [] rfl ?o2 ?q2
  case o2 => simp; rfl
  refine awp_seq ?_
  refine rx (s := ?s3) [0, 1, 5, 6] [] [] rfl ?o3 ?q3
  case o3 => simp; rfl
  refine awp_block ?_
  obtain ⟨J, hJ0, hJs, hJl, hJN⟩ : ∃ J : Nat → List Int, J 0 = [] ∧ (∀ k : Nat, J (k + 1) = J k ++ if (k : Int) ∈ a ++ b then [(k : Int)] else []) ∧ (∀ k, (J k).length ≤ k) ∧ J 64 = joinL (a ++ b) :=
    ⟨joinN (a ++ b), rfl, joinN_succ _, joinN_len _, rfl⟩
  refine awp_loop (ι := Nat) (fun i => ⟨24, [(0, ints a), (1, ints b), (5, .rs 16 0 (J i).length), (6, .I i)], [(16, some ⟨1, rowsI (J i), 0⟩)], 40⟩) (fun i => i ≤ 64) (fun i => 64 - i) 0 (by omega) (Le.lst [] [] [(16, 1)] rfl (by simp) (by simp) (by simp) (by simp) (by simp) (by simp) (by simp) (by simp [Up, hJ0]) (by simp [hJ0])) ?_
  intro i hi
  have hJi := hJl i
  have hti : ∀ f : Int → List AV, List.take (J i).length (List.map f (J i)) = List.map f (J i) := fun f => List.take_of_length_le (by simp)
  refine awp_seq ?_
  refine rk (s := ?s4) [0, 1, 5, 6, 8] [16] rfl ?o4 ?q4
  case o4 => simp; rfl
  refine awp_cond _ rfl (fun h5 => ?_) fun h5 => ?_
  · simp at h5
    have hw : IntKind.i64.wrap ((i : Int) + 1) = (i : Int) + 1 := w64 (by omega) (by omega)
    refine awp_skip ?_
    refine awp_cut (ι := Unit) (fun _ => ⟨24, [(0, ints a), (1, ints b), (5, .rs 16 0 (J (i + 1)).length), (6, .I i)], [(16, some ⟨1, rowsI (J (i + 1)), 0⟩)], 200⟩) (fun _ => True) ?_ fun _ _ => ?_
    · refine awp_block ?_
      refine awp_regc ⟨24, [(0, ints a), (1, ints b), (5, .rs 16 0 (J i).length), (6, .I i), (18, .B (decide ((i : Int) ∈ a ++ b)))], [(16, some ⟨1, rowsI (J i), 0⟩)], 120⟩ rfl ?_ ?_
      · simp
        refine call0e (has24_ok a i ha) (by simp) ?_
        simp
        refine gcase (fun hb' => ?_) (fun hb' => ?_) <;> (try rw [hb']) <;> (try simp at hb') <;> simp [hb']
        · exact Le.keep rfl (Nat.le_refl _) (by simp [hb']) (by simp)
        · refine call0e (has24_ok b i hb) (by simp) ?_
          simp
          exact Le.keep rfl (Nat.le_refl _) (by simp [hb']) (by simp)
      refine awp_cond _ rfl (fun h6 => ?_) fun h6 => ?_
      · rw [decide_eq_true_eq] at h6
        refine awp_run (s := ?s7) rfl ?o7 ?q7
        case o7 => simp [hti]; refine ⟨by omega, by omega, ?_⟩; rfl
        exact ⟨(), trivial, Le.go [(144, 16)] [] rfl rfl (by simp [hJs, h6]) (by simp [hJs, h6, Function.comp_def])⟩
      · rw [decide_eq_false_iff_not] at h6
        refine awp_skip ?_
        exact ⟨(), trivial, Le.go [(16, 16)] [] rfl rfl (by simp [hJs, h6]) (by simp [hJs, h6, Function.comp_def])⟩
    refine awp_run (s := ?s8) rfl ?o8 ?q8
    case o8 => simp [hw]; rfl
    exact ⟨i + 1, by omega, by omega, Le.go [(16, 16)] [] rfl rfl (by simp) (by simp [Function.comp_def])⟩
  simp at h5
  obtain rfl : i = 64 := by omega
  refine awp_exit ?_
  refine hit ?_
  refine rk (s := ?s9) [4] [16] rfl ?o9 ?q9
  case o9 => simp; rfl
  refine awp_ret ?_
  exact ⟨.inr rfl, RetOk.out [16] [] rfl (by simp) (by simp) (by simp [hJN]) (by simp [Function.comp_def, hJN])⟩
end Go.Proofs.YtlhjelookgjmpaaGreat
namespace Go.Proofs.YtlhjelookgjmpaaGreat
open Go
abbrev nC (n : Net) : List AV := [.I n.nodes, eEs n.arcs]
abbrev eN (n : Net) : AV := .agg (nC n)
theorem IndexFuncA_ok (f : FuncId) (capt : List AV) (q : Ed → Bool) (l : List Ed) (hl : l.length ≤ 1099511627776) (hs : Still capt) (hc : ∀ e ∈ l, ACalls Tryz.prog f (eE e :: capt) [] (.B (q e)) []) : ACalls Tryz.prog nslices_IndexFunc_Lapi_Arc_api_Arc [eEs l, .fn (.func f) [] capt] [] (.I (idxQ l q)) [] := by
  have hs2 : ∀ ρ sn h, capt.map (conv ρ sn h 2) = capt := fun _ _ _ => hs _ _ _ 1
  have hs3 : ∀ ρ sn h, capt.map (conv ρ sn h 3) = capt := fun _ _ _ => hs _ _ _ 2
  have hs4 : ∀ ρ sn h, capt.map (conv ρ sn h 4) = capt := fun _ _ _ => hs _ _ _ 3
  refine sslices_IndexFunc_Lapi_Arc_api_Arc.acalls (Nat.le_of_ble_eq_true rfl) (Nat.le_of_ble_eq_true rfl) (Nat.le_refl _) ?_
  show awp _ 0 _ _ ⟨19, [(0, eEs l), (1, .fn (.func f) [] capt)], [], 16⟩
  refine awp_seq ?_
  refine awp_run (s := ?s1) rfl ?o1 ?q1
  case o1 => simp; rfl
  refine awp_seq ?_
  refine awp_seq ?_
  refine awp_run (s := ?s2) rfl ?o2 ?q2
  case o2 => simp; rfl
  refine awp_block ?_
  refine awp_loop (ι := Nat) (fun k => ⟨19, [(0, eEs l), (1, .fn (.func f) [] capt), (7, .I l.length), (8, .I k)], [], 16⟩) (fun k => k ≤ l.length ∧ ∀ i, i < k → ∀ h : i < l.length, q l[i] = false) (fun k => l.length - k) (0) ?_ (Le.snap [] rfl rfl (by simp [hs2, hs3, hs4])) ?_
  · simp
  rintro k ⟨hk, hp⟩
  refine awp_seq ?_
  refine awp_run (s := ?s3) rfl ?o3 ?q3
  case o3 => simp; rfl
  refine awp_seq ?_
  refine awp_cond _ rfl (fun h4 => ?_) fun h4 => ?_
  · try simp at h4
    have hw2 : IntKind.i64.wrap ((k : Int) + 1) = (k : Int) + 1 := w64 (by omega) (by omega)
    have hck := hc l[k] (List.getElem_mem h4)
    refine awp_skip ?_
    refine awp_seq ?_
    refine awp_block ?_
    refine awp_seq ?_
    refine awp_run (s := ?s5) rfl ?o5 ?q5
    case o5 => simp [h4, hw2]; rfl
    refine awp_seq ?_
    refine awp_run (s := ?s6) rfl ?o6 ?q6
    case o6 =>
      simp [h4, hw2]
      refine call0e hck ?_ ?_
      · simp [hs2, hs3, hs4]
      simp [h4, hw2]; rfl
    refine awp_cond _ rfl (fun h7 => ?_) fun h7 => ?_
    · try simp at h7
      refine awp_seq ?_
      refine awp_run (s := ?s8) rfl ?o8 ?q8
      case o8 => simp [h4, hw2]; rfl
      refine awp_ret ?_
      exact ⟨.inr rfl, RetOk.one (by simp [idxQ_at h4 hp h7])⟩
    try simp at h7
    refine awp_skip ?_
    refine awp_run (s := ?s9) rfl ?o9 ?q9
    case o9 => simp [h4, hw2]; rfl
    refine ⟨k + 1, ⟨h4, fun i hi => ?_⟩, by omega, Le.snap [] rfl rfl (by simp [h4, hw2, hs2, hs3, hs4])⟩
    rcases Nat.lt_succ_iff_lt_or_eq.1 hi with h | rfl
    · exact hp i h
    · exact fun _ => h7
  try simp at h4
  have hall : ∀ i, i < l.length → ∀ h : i < l.length, q l[i] = false := fun i hi => hp i (by omega)
  refine awp_exit ?_
  refine hit ?_
  refine awp_seq ?_
  refine awp_run (s := ?s10) rfl ?o10 ?q10
  case o10 => simp; rfl
  refine awp_ret ?_
  exact ⟨.inr rfl, RetOk.one (by simp [idxQ_no hall])⟩
theorem ContainsFuncA_ok (f : FuncId) (capt : List AV) (q : Ed → Bool) (l : List Ed) (hl : l.length ≤ 1099511627776) (hs : Still capt) (hc : ∀ e ∈ l, ACalls Tryz.prog f (eE e :: capt) [] (.B (q e)) []) : ACalls Tryz.prog nslices_ContainsFunc_Lapi_Arc_api_Arc [eEs l, .fn (.func f) [] capt] [] (.B (l.any q)) [] := by
  have hs2 : ∀ ρ sn h, capt.map (conv ρ sn h 2) = capt := fun _ _ _ => hs _ _ _ 1
  have hs3 : ∀ ρ sn h, capt.map (conv ρ sn h 3) = capt := fun _ _ _ => hs _ _ _ 2
  have hs4 : ∀ ρ sn h, capt.map (conv ρ sn h 4) = capt := fun _ _ _ => hs _ _ _ 3
  refine sslices_ContainsFunc_Lapi_Arc_api_Arc.acalls (Nat.le_of_ble_eq_true rfl) (Nat.le_of_ble_eq_true rfl) (Nat.le_refl _) ?_
  show awp _ 0 _ _ ⟨9, [(0, eEs l), (1, .fn (.func f) [] capt)], [], 16⟩
  refine awp_seq ?_
  refine awp_run (s := ?s1) rfl ?o1 ?q1
  case o1 => simp; rfl
  have hi : decide (0 ≤ idxQ l q) = l.any q := by
    unfold idxQ
    by_cases h : l.findIdx q < l.length
    · rw [if_pos h]
      have := List.findIdx_getElem (w := h)
      have h2 : l.any q = true := List.any_eq_true.2 ⟨_, List.getElem_mem h, this⟩
      rw [h2]
      simp
    · rw [if_neg h]
      have : l.findIdx q = l.length := by have := List.findIdx_le_length (xs := l) (p := q); omega
      rw [List.findIdx_eq_length] at this
      have h2 : l.any q = false := by
        rw [List.any_eq_false]
        intro x hx
        simp [this x hx]
      rw [h2]
      simp
  refine awp_regc ⟨9, [(4, .B (l.any q))], [], 16⟩ rfl ?_ ?_
  · simp
    refine call0e (IndexFuncA_ok f capt q l hl hs hc) ?_ ?_
    · simp [hs2, hs3, hs4]
    simp
    exact Le.snap [] rfl rfl (by simp; exact wkB hi)
  refine awp_ret ?_
  exact ⟨.inr rfl, RetOk.one (by simp)⟩
theorem flow_Check_c1_ok (n : Net) (a : Ed) (h2 : 2 ≤ n.nodes) (h3 : n.nodes ≤ 130) : ACalls Tryz.prog nflow_Check_c1 [eE a, .pv (nC n)] [] (.B (!decide (ArcOk n.nodes a))) [] := by
  refine sflow_Check_c1.acalls (Nat.le_of_ble_eq_true rfl) (Nat.le_of_ble_eq_true rfl) (Nat.le_refl _) ?_
  show awp _ 0 _ _ ⟨43, [(0, eE a), (1, .pv (nC n))], [], 16⟩
  have hw : IntKind.i64.wrap (n.nodes - 1) = n.nodes - 1 := w64 (by omega) (by omega)
  refine rx (s := ?s1) [1, 2] [] [16] rfl ?o1 ?q1
  case o1 => simp; rfl
  refine awp_regc ⟨43, [(3, .B (!decide (ArcOk n.nodes a)))], [], 400⟩ rfl ?_ ?_
  · simp [hw]
    repeat' first
      | (refine callf nlists_In rfl ?_; refine call0e (lists_In_ok ..) rfl ?_; simp [hw])
      | (refine gcase (fun hb => ?_) (fun hb => ?_) <;> (try rw [hb]) <;> (try simp at hb) <;> simp [hb, hw])
    all_goals exact Le.snap [] rfl rfl (by simp <;> exact wkB (by (try simp at *); grind [ArcOk]))
  refine awp_ret ?_
  exact ⟨.inr rfl, RetOk.one (by simp)⟩
end Go.Proofs.YtlhjelookgjmpaaGreat
namespace Go.Proofs.YtlhjelookgjmpaaGreat
open Go
theorem flow_Check_ok (n : Net) (hl : n.arcs.length ≤ 1099511627776) : ACalls Tryz.prog nflow_Check [eN n] [] (.I (if NetVal n then 0 else 16)) [] := by
  refine sflow_Check.acalls (Nat.le_of_ble_eq_true rfl) (Nat.le_of_ble_eq_true rfl) (Nat.le_refl _) ?_
  show awp _ 0 _ _ ⟨21, [(0, eN n)], [], 16⟩
  refine rx (s := ?s1) [1] [] [16] rfl ?o1 ?q1
  case o1 => simp; rfl
  refine rx (s := ?s2) [1, 3] [] [] rfl ?o2 ?q2
  case o2 => simp; rfl
  refine awp_seq ?_
  refine awp_regc ⟨21, [(20, .B (!decide (NetVal n)))], [], 300⟩ rfl ?_ ?_
  · by_cases h2 : 2 ≤ n.nodes ∧ n.nodes ≤ 130
    · have hcf := ContainsFuncA_ok nflow_Check_c1 [.pv (nC n)] (fun a => !decide (ArcOk n.nodes a)) n.arcs hl (fun ρ sn h k => by simp) (fun e _ => flow_Check_c1_ok n e h2.1 h2.2)
      simp
      refine call0e (lists_In_ok ..) rfl ?_
      simp [h2]
      by_cases h3 : n.arcs.length ≤ 1200
      · simp [show ¬ (1200 < n.arcs.length) by omega, show ¬ (1200 < (n.arcs.length : Int)) by omega]
        refine call0e hcf (by simp) ?_
        simp
        refine Le.snap [] rfl rfl (by simp <;> exact wkB (by rw [Bool.eq_iff_iff]; simp [NetVal, h2, h3]))
      · simp [show (1200 < n.arcs.length) by omega, show (1200 < (n.arcs.length : Int)) by omega]
        refine Le.snap [] rfl rfl (by simp [NetVal, h3])
    · simp
      refine call0e (lists_In_ok ..) rfl ?_
      have h2' : (decide (2 ≤ n.nodes) && decide (n.nodes ≤ 130)) = false := by simpa using fun h => by omega
      simp [h2']
      have hn : ¬ NetVal n := fun h => h2 ⟨h.1, h.2.1⟩
      refine Le.snap [] rfl rfl (by simp [hn])
  refine awp_cond _ rfl (fun h7 => ?_) fun h7 => ?_
  · simp at h7
    refine rx (s := ?s8) [2] [] [] rfl ?o8 ?q8
    case o8 => simp; rfl
    refine awp_ret ?_
    exact ⟨.inr rfl, RetOk.one (by simp [h7])⟩
  simp at h7
  refine awp_skip ?_
  refine rx (s := ?s9) [2] [] [] rfl ?o9 ?q9
  case o9 => simp; rfl
  refine awp_ret ?_
  exact ⟨.inr rfl, RetOk.one (by simp [h7])⟩
def NetPre (n : Net) : Prop := (2 ≤ n.nodes ∧ n.nodes ≤ 130) ∧ n.arcs.length ≤ 1200
def ArcAt (n : Net) (i : Nat) : Prop := ∀ h : i < n.arcs.length, ArcOk n.nodes n.arcs[i]
theorem netVal_iff {n : Net} : NetVal n ↔ NetPre n ∧ ∀ i, ArcAt n i := by
  unfold NetVal NetPre ArcAt
  constructor
  · rintro ⟨a, b, c, d⟩
    exact ⟨⟨⟨a, b⟩, c⟩, fun i h => d _ (List.getElem_mem h)⟩
  · rintro ⟨⟨⟨a, b⟩, c⟩, d⟩
    exact ⟨a, b, c, fun x hx => by obtain ⟨i, hi, rfl⟩ := List.getElem_of_mem hx; exact d i hi⟩
set_option maxRecDepth 100000 in
open Classical in
theorem ref15_Check_ok (n : Net) (hl : n.arcs.length ≤ 1099511627776) : ACalls Tryz.prog nref15_Check [eN n] [] (.I (if NetVal n then 0 else 16)) [] := by
  refine sref15_Check.acalls (Nat.le_of_ble_eq_true rfl) (Nat.le_of_ble_eq_true rfl) (Nat.le_refl _) ?_
  show awp _ 0 _ _ ⟨80, [(0, eN n)], [], 16⟩
  refine rx (s := ?s1) [1] [] [16] rfl ?o1 ?q1
  case o1 => simp; rfl
  refine awp_seq ?_
  refine awp_regc ⟨80, [(1, .pv (nC n)), (18, .B (!decide (NetPre n)))], [], 300⟩ rfl ?_ ?_
  · simp
    repeat' first
      | (refine gcase (fun hb => ?_) (fun hb => ?_) <;> (try rw [hb]) <;> (try simp at hb) <;> simp [hb])
    all_goals exact Le.snap [] rfl rfl (by simp <;> exact wkB (by (try simp at *); grind [NetPre]))
  refine awp_cond _ rfl (fun h3 => ?_) fun h3 => ?_
  · simp at h3
    refine rx (s := ?s4) [2] [] [] rfl ?o4 ?q4
    case o4 => simp; rfl
    refine awp_ret ?_
    exact ⟨.inr rfl, RetOk.one (by simp [netVal_iff, h3])⟩
  simp at h3
  refine awp_skip ?_
  refine awp_seq ?_
  refine rx (s := ?s5) [1, 3] [] [] rfl ?o5 ?q5
  case o5 => simp; rfl
  refine awp_block ?_
  refine awp_loop (ι := Nat) (fun i => ⟨80, [(1, .pv (nC n)), (3, .I i)], [], 308⟩) (fun i => i ≤ n.arcs.length ∧ ∀ k, k < i → ArcAt n k) (fun i => n.arcs.length - i) 0 (by simp) (Le.go [] [] rfl rfl (by simp) (by simp)) ?_
  rintro i ⟨hi, hp⟩
  refine awp_seq ?_
  refine rx (s := ?s6) [1, 3, 23] [] [] rfl ?o6 ?q6
  case o6 => simp; rfl
  refine awp_cond _ rfl (fun h7 => ?_) fun h7 => ?_
  · simp at h7
    have hw : IntKind.i64.wrap ((i : Int) + 1) = (i : Int) + 1 := w64 (by omega) (by omega)
    refine awp_skip ?_
    refine awp_seq ?_
    refine awp_block ?_
    refine awp_regc ⟨80, [(1, .pv (nC n)), (3, .I i), (4, .pv (eC n.arcs[i]))], [], 408⟩ rfl ?_ ?_
    · simp [h7]
      exact Le.snap [388] rfl rfl (by simp)
    refine awp_regc ⟨80, [(1, .pv (nC n)), (3, .I i), (79, .B (!decide (ArcAt n i)))], [], 900⟩ rfl ?_ ?_
    · simp
      have hat : ArcAt n i ↔ ArcOk n.nodes n.arcs[i] := ⟨fun h => h h7, fun h _ => h⟩
      repeat' first
        | (refine gcase (fun hb => ?_) (fun hb => ?_) <;> (try rw [hb]) <;> (try simp at hb) <;> simp [hb])
      all_goals exact Le.snap [] rfl rfl (by simp <;> exact wkB (by (try simp at *); simp only [hat]; grind [ArcOk]))
    refine awp_cond _ rfl (fun h9 => ?_) fun h9 => ?_
    · refine rx (s := ?s10) [2] [] [] rfl ?o10 ?q10
      case o10 => simp; rfl
      refine awp_ret ?_
      have hn : ¬ NetVal n := fun h => by simp at h9; exact h9 ((netVal_iff.1 h).2 i)
      exact ⟨.inr rfl, RetOk.one (by simp [hn])⟩
    simp at h9
    refine awp_skip ?_
    refine awp_run (s := ?s11) rfl ?o11 ?q11
    case o11 => simp; rfl
    refine ⟨i + 1, ⟨h7, fun k hk => ?_⟩, by omega, Le.go [] [] rfl rfl (by simp [hw]) (by simp)⟩
    rcases Nat.lt_succ_iff_lt_or_eq.1 hk with h | rfl
    · exact hp k h
    · exact h9
  simp at h7
  have hy : NetVal n := netVal_iff.2 ⟨h3, fun k hk => hp k (by omega) hk⟩
  refine awp_exit ?_
  refine hit ?_
  refine rx (s := ?s12) [2] [] [] rfl ?o12 ?q12
  case o12 => simp; rfl
  refine awp_ret ?_
  exact ⟨.inr rfl, RetOk.one (by simp [hy])⟩
end Go.Proofs.YtlhjelookgjmpaaGreat
namespace Go.Proofs.YtlhjelookgjmpaaGreat
open Go
variable {g : Gr} {S : List Int} {key : Int}
end Go.Proofs.YtlhjelookgjmpaaGreat
namespace Go.Proofs.YtlhjelookgjmpaaGreat
open Go
abbrev rowsB (l : List Bool) : List (List AV) := l.map fun b => [AV.B b]
variable {g : Gr} {S : List Int} {key : Int}
end Go.Proofs.YtlhjelookgjmpaaGreat
namespace Go.Proofs.YtlhjelookgjmpaaGreat
open Go
section
variable {P : Program} {np id : Nat} {h : Nat → Option Ent} {K : AV → List Nat → List (Nat × Option Ent) → Prop}
theorem k_slr {s i off len : Nat} (l : Nat) {e : Ent} (he : h i = some e) (hs : e.s = s) (hl : l ≤ len) (hK : K (.rs i (off + l) (len - l)) [i] []) : aK P np id (.slc s true false false) [.rs i off len, .sc (.int .i64 l)] h K := by
  rw [k_slc]
  exact ⟨l, len, 0, len, rfl, hl, rfl, by simp, by simp, by simp, Nat.le_refl _, rfl, ⟨e, he, hs⟩, hK⟩
theorem k_slh {s i off len : Nat} (r : Nat) {e : Ent} (he : h i = some e) (hs : e.s = s) (hr : r ≤ len) (hK : K (.rs i off r) [i] []) : aK P np id (.slc s false true false) [.rs i off len, .sc (.int .i64 r)] h K := by
  rw [k_slc]
  exact ⟨0, r, 0, len, rfl, Nat.zero_le _, rfl, by simp, by simp, by simp, hr, rfl, ⟨e, he, hs⟩, hK⟩
end
structure BSt where
  D : List Int
  b : List Int
  Z : List Int
  off : Nat
  q : Nat
structure BInv (N : Nat) (A : List Ed) (f : List Int) (s : BSt) (m : Nat) : Prop where
  bfs : Bfs N A f s.D s.b
  z : s.off + s.q = s.Z.length
  d : m + s.q = s.D.length
  same : s.Z.drop s.off = s.D.drop m
section
variable {N : Nat} {A : List Ed} {f : List Int}
theorem tryS_fwd {i : Nat} {k : Int} {D b : List Int} (hi : i < A.length) (hf : i < f.length) : tryS A f k (i, false) (D, b) = if A[i].f = k ∧ f[i] < A[i].v ∧ A[i].t ∉ D then (D ++ [A[i].t], b.set A[i].t.toNat ((i : Int) + 1)) else (D, b) := by
  have he : arcD A i = A[i] := by unfold arcD; rw [List.getD_eq_getElem?_getD, List.getElem?_eq_getElem hi, Option.getD_some]
  have hg : f.getD i 0 = f[i] := by rw [List.getD_eq_getElem?_getD, List.getElem?_eq_getElem hf, Option.getD_some]
  unfold tryS stF stT roomS encS
  simp only [Bool.false_eq_true, if_false, he, hg, Int.sub_pos]
theorem tryS_bwd {i : Nat} {k : Int} {D b : List Int} (hi : i < A.length) (hf : i < f.length) : tryS A f k (i, true) (D, b) = if A[i].t = k ∧ 0 < f[i] ∧ A[i].f ∉ D then (D ++ [A[i].f], b.set A[i].f.toNat (-((i : Int) + 1))) else (D, b) := by
  have he : arcD A i = A[i] := by unfold arcD; rw [List.getD_eq_getElem?_getD, List.getElem?_eq_getElem hi, Option.getD_some]
  have hg : f.getD i 0 = f[i] := by rw [List.getD_eq_getElem?_getD, List.getElem?_eq_getElem hf, Option.getD_some]
  unfold tryS stF stT roomS encS
  simp only [if_true, he, hg]
theorem BInv.more {s : BSt} {m : Nat} (h : BInv N A f s m) {x : Int} {b' : List Int} (hb : Bfs N A f (s.D ++ [x]) b') : BInv N A f ⟨s.D ++ [x], b', s.Z.drop s.off ++ [x], 0, s.q + 1⟩ m := by
  have h1 := h.z
  have h2 := h.d
  refine ⟨hb, ?_, ?_, ?_⟩
  · simp only [List.length_append, List.length_drop, List.length_singleton]; omega
  · simp only [List.length_append, List.length_singleton]; omega
  · simp only [List.drop_zero]
    rw [h.same, List.drop_append_of_le_length (by omega)]
theorem BInv.pop {s : BSt} {m : Nat} (h : BInv N A f s m) (hq : 0 < s.q) : BInv N A f { s with off := s.off + 1, q := s.q - 1 } (m + 1) := by
  have h1 := h.z
  have h2 := h.d
  refine ⟨h.bfs, by simp only; omega, by simp only; omega, ?_⟩
  simp only
  rw [← List.drop_drop, h.same, List.drop_drop]
theorem BInv.head {s : BSt} {m : Nat} (h : BInv N A f s m) (hq : 0 < s.q) : ∃ hm : m < s.D.length, s.Z[s.off]? = some s.D[m] := by
  have h1 := h.z
  have h2 := h.d
  refine ⟨by omega, ?_⟩
  have e : (s.Z.drop s.off)[0]? = (s.D.drop m)[0]? := by rw [h.same]
  rw [List.getElem?_drop, List.getElem?_drop, Nat.add_zero, Nat.add_zero] at e
  rw [e, List.getElem?_eq_getElem (by omega)]
end
set_option maxRecDepth 100000 in
set_option maxHeartbeats 4000000 in
theorem Residual_a (N : Nat) (A : List Ed) (f : List Int) (hn : NetVal ⟨N, A⟩) (hf : f.length = A.length) :
    ∃ x : List Int × List Int, (Bfs N A f x.1 x.2 ∧ ClosedS A f x.1) ∧ ACalls Tryz.prog nref15_Residual [eN ⟨N, A⟩, ints f] [] (.rs 0 0 N) [some ⟨1, rowsI x.2, 0⟩] := by
  refine sref15_Residual.acallsX (args := [eN ⟨N, A⟩, ints f]) (hs := []) (fun x => .rs 0 0 N) (fun x => [some ⟨1, rowsI x.2, 0⟩]) (fun x : List Int × List Int => Bfs N A f x.1 x.2 ∧ ClosedS A f x.1) (Nat.le_of_ble_eq_true rfl) (Nat.le_of_ble_eq_true rfl) (fun _ => by simp) ?_
  show awp _ 0 _ _ ⟨112, [(0, eN ⟨N, A⟩), (1, ints f)], [], 16⟩
  obtain ⟨hn0, hn1, hal, hav⟩ := hn
  simp only at hn0 hn1 hal hav
  refine rx (s := ?s1) [1, 2] [] [16] rfl ?o1 ?q1
  case o1 => simp; rfl
  refine awp_regc ⟨112, [(1, ints f), (2, .pv (nC ⟨N, A⟩)), (5, .rs 48 0 N)], [(48, some ⟨1, rowsI (List.replicate N 0), 0⟩)], 56⟩ rfl ?_ ?_
  · simp
    refine ⟨by omega, by omega, ?_⟩
    exact Le.go [(48, 48)] [] rfl rfl (by simp) (by simp)
  refine awp_regc ⟨112, [(1, ints f), (2, .pv (nC ⟨N, A⟩)), (5, .rs 48 0 N), (6, .rs 80 0 N)], [(48, some ⟨1, rowsI (List.replicate N 0), 0⟩), (80, some ⟨1, rowsB (List.replicate N false), 0⟩)], 88⟩ rfl ?_ ?_
  · simp
    refine ⟨by omega, ?_⟩
    exact Le.go [(48, 48), (72, 80)] [] rfl rfl (by simp) (by simp)
  have hmf := marksL_first (N := N) (by omega)
  refine awp_regc ⟨112, [(1, ints f), (2, .pv (nC ⟨N, A⟩)), (5, .rs 48 0 N), (6, .rs 80 0 N)], [(48, some ⟨1, rowsI (List.replicate N 0), 0⟩), (80, some ⟨1, rowsB (marksL N [0]), 0⟩)], 112⟩ rfl ?_ ?_
  · have h0 : 0 < N := by omega
    simp [h0, splice]
    exact Le.go [(48, 48), (80, 80)] [] rfl rfl (by simp) (by simp [← hmf])
  refine awp_regc ⟨112, [(1, ints f), (2, .pv (nC ⟨N, A⟩)), (5, .rs 48 0 N), (6, .rs 80 0 N), (7, .rs 120 0 1)], [(48, some ⟨1, rowsI (List.replicate N 0), 0⟩), (80, some ⟨1, rowsB (marksL N [0]), 0⟩), (120, some ⟨1, rowsI [0], 0⟩)], 136⟩ rfl ?_ ?_
  · simp
    exact Le.go [(48, 48), (80, 80), (112, 120)] [] rfl rfl (by simp) (by simp)
  refine awp_seq ?_
  refine awp_block ?_
  refine awp_loop (ι := BSt × Nat) (fun s => ⟨112, [(1, ints f), (2, .pv (nC ⟨N, A⟩)), (5, .rs 48 0 N), (6, .rs 80 0 N), (7, .rs 120 s.1.off s.1.q)], [(48, some ⟨1, rowsI s.1.b, 0⟩), (80, some ⟨1, rowsB (marksL N s.1.D), 0⟩), (120, some ⟨1, rowsI s.1.Z, 0⟩)], 136⟩)
    (fun s => BInv N A f s.1 s.2 ∧ ClosedM A f s.1.D s.2) (fun s => N - s.2) (⟨[0], List.replicate N 0, [0], 0, 1⟩, 0)
    ⟨⟨Bfs.start (by omega), rfl, rfl, rfl⟩, fun s _ h => by simp at h⟩ (Le.go [(48, 48), (80, 80), (120, 120)] [] rfl rfl (by simp) (by simp)) ?_
  rintro ⟨s, m⟩ ⟨hb, hcl⟩
  simp only at hb hcl
  have hfew := hb.bfs.few
  have hbd := hb.d
  have hbz := hb.z
  refine awp_seq ?_
  refine rk (s := ?s6) [1, 2, 5, 6, 7, 22] [48, 80, 120] rfl ?o6 ?q6
  case o6 => simp; rfl
  refine awp_cond _ rfl (fun h7 => ?_) fun h7 => ?_
  · simp at h7
    obtain ⟨hmD, hk⟩ := hb.head h7
    have hoff : s.off < s.Z.length := by omega
    obtain ⟨k, hkd⟩ : ∃ k, k = s.D[m] := ⟨_, rfl⟩
    rw [← hkd] at hk
    have hkD : k ∈ s.D := hkd ▸ List.getElem_mem hmD
    refine awp_skip ?_
    refine awp_block ?_
    refine rk (s := ?s8) [1, 2, 5, 6, 7, 8] [48, 80, 120] rfl ?o8 ?q8
    case o8 => simp [hk, h7]; rfl
    refine awp_regc ⟨112, [(1, ints f), (2, .pv (nC ⟨N, A⟩)), (5, .rs 48 0 N), (6, .rs 80 0 N), (7, .rs 120 (s.off + 1) (s.q - 1)), (8, .I k)], [(48, some ⟨1, rowsI s.b, 0⟩), (80, some ⟨1, rowsB (marksL N s.D), 0⟩), (120, some ⟨1, rowsI s.Z, 0⟩)], 300⟩ rfl ?_ ?_
    · simp
      refine k_slr 1 (i := 120) rfl rfl h7 ?_
      simp
      exact Le.go [(48, 48), (80, 80), (120, 120)] [] rfl rfl (by simp) (by simp)
    have hpop := hb.pop h7
    refine rk (s := ?s10) [1, 2, 5, 6, 7, 8, 9] [48, 80, 120] rfl ?o10 ?q10
    case o10 => simp; rfl
    refine awp_block ?_
    refine awp_loop (ι := BSt × Nat) (fun s => ⟨112, [(1, ints f), (2, .pv (nC ⟨N, A⟩)), (5, .rs 48 0 N), (6, .rs 80 0 N), (7, .rs 120 s.1.off s.1.q), (8, .I k), (9, .I s.2)], [(48, some ⟨1, rowsI s.1.b, 0⟩), (80, some ⟨1, rowsB (marksL N s.1.D), 0⟩), (120, some ⟨1, rowsI s.1.Z, 0⟩)], 400⟩)
      (fun t => BInv N A f t.1 (m + 1) ∧ t.2 ≤ A.length ∧ ClosedI A f t.1.D k t.2 ∧ ∃ l, t.1.D = s.D ++ l) (fun t => A.length - t.2) ({ s with off := s.off + 1, q := s.q - 1 }, 0)
      ⟨hpop, Nat.zero_le _, fun s h => by omega, [], by simp⟩ (Le.go [(48, 48), (80, 80), (120, 120)] [] rfl rfl (by simp) (by simp)) ?_
    rintro ⟨t, i⟩ ⟨ht, hi, htc, l, htl⟩
    simp only at ht hi htc htl
    refine awp_seq ?_
    refine rk (s := ?s11) [1, 2, 5, 6, 7, 8, 9, 32] [48, 80, 120] rfl ?o11 ?q11
    case o11 => simp; rfl
    refine awp_cond _ rfl (fun h12 => ?_) fun h12 => ?_
    · simp at h12
      have hif : i < f.length := by omega
      have hw : IntKind.i64.wrap ((i : Int) + 1) = (i : Int) + 1 := w64 (by omega) (by omega)
      have hw2 : IntKind.i64.wrap (-((i : Int) + 1)) = -((i : Int) + 1) := w64 (by omega) (by omega)
      obtain ⟨e, he⟩ : ∃ e, e = A[i] := ⟨_, rfl⟩
      obtain ⟨v, hv⟩ : ∃ v, v = f[i] := ⟨_, rfl⟩
      have hfwd := fun (D b : List Int) => tryS_fwd (k := k) (D := D) (b := b) h12 hif
      have hbwd := fun (D b : List Int) => tryS_bwd (k := k) (D := D) (b := b) h12 hif
      rw [← he, ← hv] at hfwd hbwd
      have heo := hav _ (List.getElem_mem h12)
      rw [← he] at heo
      obtain ⟨e1, e2, e3, e4, _⟩ := heo
      have hg1 : A[i]? = some e := by rw [List.getElem?_eq_getElem h12, he]
      have hg2 : f[i]? = some v := by rw [List.getElem?_eq_getElem hif, hv]
      have hkt : k ∈ t.D := by rw [htl]; exact List.mem_append_left _ hkD
      refine awp_skip ?_
      refine awp_cut (ι := BSt) (fun u => ⟨112, [(1, ints f), (2, .pv (nC ⟨N, A⟩)), (5, .rs 48 0 N), (6, .rs 80 0 N), (7, .rs 120 u.off u.q), (8, .I k), (9, .I i)], [(48, some ⟨1, rowsI u.b, 0⟩), (80, some ⟨1, rowsB (marksL N u.D), 0⟩), (120, some ⟨1, rowsI u.Z, 0⟩)], 2000⟩)
        (fun u => BInv N A f u (m + 1) ∧ ClosedI A f u.D k (i + 1) ∧ ∃ l, u.D = t.D ++ l) ?_ fun u hu => ?_
      · refine awp_block ?_
        refine awp_regc ⟨112, [(1, ints f), (2, .pv (nC ⟨N, A⟩)), (5, .rs 48 0 N), (6, .rs 80 0 N), (7, .rs 120 t.off t.q), (8, .I k), (9, .I i), (10, .pv (eC e))], [(48, some ⟨1, rowsI t.b, 0⟩), (80, some ⟨1, rowsB (marksL N t.D), 0⟩), (120, some ⟨1, rowsI t.Z, 0⟩)], 600⟩ rfl ?_ ?_
        · simp [h12, ← he]
          exact Le.go [(48, 48), (80, 80), (120, 120)] [480] rfl rfl (by simp) (by simp)
        refine awp_cut (ι := BSt) (fun u => ⟨112, [(1, ints f), (2, .pv (nC ⟨N, A⟩)), (5, .rs 48 0 N), (6, .rs 80 0 N), (7, .rs 120 u.off u.q), (8, .I k), (9, .I i), (10, .pv (eC e))], [(48, some ⟨1, rowsI u.b, 0⟩), (80, some ⟨1, rowsB (marksL N u.D), 0⟩), (120, some ⟨1, rowsI u.Z, 0⟩)], 1000⟩)
          (fun u => BInv N A f u (m + 1) ∧ (u.D, u.b) = tryS A f k (i, false) (t.D, t.b)) ?_ fun u hu => ?_
        · have hmk : (marksL N t.D)[e.t.toNat]? = some (decide (e.t ∈ t.D)) := marksL_get e3 (by omega)
          have hlt : e.t.toNat < N := by omega
          have hlt2 : e.t < (N : Int) := by omega
          refine awp_dregc ⟨112, [(1, ints f), (2, .pv (nC ⟨N, A⟩)), (5, .rs 48 0 N), (6, .rs 80 0 N), (7, .rs 120 t.off t.q), (8, .I k), (9, .I i), (10, .pv (eC e)), (60, .B (decide (e.f = k ∧ v < e.v ∧ e.t ∉ t.D)))], [(48, some ⟨1, rowsI t.b, 0⟩), (80, some ⟨1, rowsB (marksL N t.D), 0⟩), (120, some ⟨1, rowsI t.Z, 0⟩)], 800⟩ rfl ?_ ?_
          · by_cases hm : e.t ∈ t.D
            · rw [decide_eq_true hm] at hmk
              simp
              repeat' first
                | (refine gcase (fun hb => ?_) (fun hb => ?_) <;> (try rw [hb]) <;> (try simp at hb) <;> simp [hb, hmk, hg2, e3, hlt2, hif, ← hv])
              all_goals exact ⟨rfl, Le.go [(48, 48), (80, 80), (120, 120)] [] rfl rfl (by simp [hb, hm]) (by simp)⟩
            · rw [decide_eq_false hm] at hmk
              simp
              repeat' first
                | (refine gcase (fun hb => ?_) (fun hb => ?_) <;> (try rw [hb]) <;> (try simp at hb) <;> simp [hb, hmk, hg2, e3, hlt2, hif, ← hv])
              all_goals exact ⟨rfl, Le.go [(48, 48), (80, 80), (120, 120)] [] rfl rfl (by simp [hm]) (by simp)⟩
          refine awp_cond _ rfl (fun h15 => ?_) fun h15 => ?_
          · rw [decide_eq_true_eq] at h15
            have hs1 := hfwd t.D t.b
            rw [if_pos h15] at hs1
            have hbk : ∃ y, t.b[e.t.toNat]? = some y := ⟨_, List.getElem?_eq_getElem (by rw [ht.bfs.len]; omega)⟩
            obtain ⟨y, hy⟩ := hbk
            have hbl : e.t.toNat < t.b.length := by rw [ht.bfs.len]; omega
            have hbt : ∀ g : Int → List AV, List.take t.q (List.drop t.off (List.map g t.Z)) = List.map g (t.Z.drop t.off) := fun g => by rw [← List.map_drop, List.take_of_length_le (by have := ht.z; simp; omega)]
            have htz := ht.z
            have htd := ht.d
            have hms := marksL_set (D := t.D) e3 hlt2
            have hbu : Bfs N A f (t.D ++ [e.t]) (t.b.set e.t.toNat ((i : Int) + 1)) := by
              have h3 := tryS_ok (A := A) (f := f) (k := k) (s := (i, false)) (st := (t.D, t.b)) ht.bfs hkt h12 (by unfold stT arcD; rw [List.getD_eq_getElem?_getD, hg1]; exact e3) (by unfold stT arcD; rw [List.getD_eq_getElem?_getD, hg1]; exact hlt2)
              rw [hs1] at h3
              exact h3
            have hfw := hbu.few
            rw [List.length_append, List.length_singleton] at hfw
            refine awp_dregc ⟨112, [(1, ints f), (2, .pv (nC ⟨N, A⟩)), (5, .rs 48 0 N), (6, .rs 80 0 N), (7, .rs 120 t.off t.q), (8, .I k), (9, .I i), (10, .pv (eC e))], [(48, some ⟨1, rowsI (t.b.set e.t.toNat ((i : Int) + 1)), 0⟩), (80, some ⟨1, rowsB (marksL N (t.D ++ [e.t])), 0⟩), (120, some ⟨1, rowsI t.Z, 0⟩)], 900⟩ rfl ?_ ?_
            · simp [hmk, e3, hlt2, hw, hy, splice]
              exact ⟨rfl, Le.go [(48, 48), (80, 80), (120, 120)] [] rfl rfl (by simp) (by simp [← hms, Function.comp_def])⟩
            refine awp_reg rfl ?_
            simp [hbt]
            exact ⟨by omega, by omega, by omega, ⟨t.D ++ [e.t], t.b.set e.t.toNat ((i : Int) + 1), t.Z.drop t.off ++ [e.t], 0, t.q + 1⟩, ⟨ht.more hbu, hs1.symm⟩, Le.go [(48, 48), (80, 80), (932, 120)] [] rfl rfl (by simp) (by simp [Function.comp_def])⟩
          · rw [decide_eq_false_iff_not] at h15
            have hs1 := hfwd t.D t.b
            rw [if_neg h15] at hs1
            refine awp_skip ?_
            exact ⟨t, ⟨ht, hs1.symm⟩, Le.go [(48, 48), (80, 80), (120, 120)] [] rfl rfl (by simp) (by simp)⟩
        obtain ⟨hu1, hu2⟩ := hu
        have hku : k ∈ u.D := by
          obtain ⟨l1, e1⟩ := tryS_sub (A := A) (f := f) (k := k) (s := (i, false)) (st := (t.D, t.b))
          rw [← hu2] at e1
          simp only at e1
          rw [e1]
          exact List.mem_append_left _ hkt
        have hul : ∃ l, u.D = t.D ++ l := by
          obtain ⟨l1, e1⟩ := tryS_sub (A := A) (f := f) (k := k) (s := (i, false)) (st := (t.D, t.b))
          rw [← hu2] at e1
          exact ⟨l1, e1⟩
        have hcl2 : ClosedI A f (tryS A f k (i, true) (u.D, u.b)).1 k (i + 1) := by
          rw [hu2]
          exact ClosedI.try2 (st := (t.D, t.b)) htc
        have hmk : (marksL N u.D)[e.f.toNat]? = some (decide (e.f ∈ u.D)) := marksL_get e1 (by omega)
        have hlt : e.f.toNat < N := by omega
        have hlt2 : e.f < (N : Int) := by omega
        have hub := hbwd u.D u.b
        refine awp_regc ⟨112, [(1, ints f), (2, .pv (nC ⟨N, A⟩)), (5, .rs 48 0 N), (6, .rs 80 0 N), (7, .rs 120 u.off u.q), (8, .I k), (9, .I i), (10, .pv (eC e)), (94, .B (decide (e.t = k ∧ 0 < v ∧ e.f ∉ u.D)))], [(48, some ⟨1, rowsI u.b, 0⟩), (80, some ⟨1, rowsB (marksL N u.D), 0⟩), (120, some ⟨1, rowsI u.Z, 0⟩)], 1200⟩ rfl ?_ ?_
        · by_cases hm : e.f ∈ u.D
          · rw [decide_eq_true hm] at hmk
            simp
            repeat' first
              | (refine gcase (fun hb => ?_) (fun hb => ?_) <;> (try rw [hb]) <;> (try simp at hb) <;> simp [hb, hmk, hg2, e1, hlt2, hif, ← hv])
            all_goals exact Le.go [(48, 48), (80, 80), (120, 120)] [] rfl rfl (by simp [hb, hm]) (by simp)
          · rw [decide_eq_false hm] at hmk
            simp
            repeat' first
              | (refine gcase (fun hb => ?_) (fun hb => ?_) <;> (try rw [hb]) <;> (try simp at hb) <;> simp [hb, hmk, hg2, e1, hlt2, hif, ← hv])
            all_goals exact Le.go [(48, 48), (80, 80), (120, 120)] [] rfl rfl (by simp [hm]) (by simp)
        refine awp_cond _ rfl (fun h15 => ?_) fun h15 => ?_
        · rw [decide_eq_true_eq] at h15
          rw [if_pos h15] at hub
          obtain ⟨y, hy⟩ : ∃ y, u.b[e.f.toNat]? = some y := ⟨_, List.getElem?_eq_getElem (by rw [hu1.bfs.len]; omega)⟩
          have hbt : ∀ g : Int → List AV, List.take u.q (List.drop u.off (List.map g u.Z)) = List.map g (u.Z.drop u.off) := fun g => by rw [← List.map_drop, List.take_of_length_le (by have := hu1.z; simp; omega)]
          have htz := hu1.z
          have htd := hu1.d
          have hms := marksL_set (D := u.D) e1 hlt2
          have hbu : Bfs N A f (u.D ++ [e.f]) (u.b.set e.f.toNat (-((i : Int) + 1))) := by
            have h3 := tryS_ok (A := A) (f := f) (k := k) (s := (i, true)) (st := (u.D, u.b)) hu1.bfs hku h12 (by unfold stT arcD; rw [List.getD_eq_getElem?_getD, hg1]; exact e1) (by unfold stT arcD; rw [List.getD_eq_getElem?_getD, hg1]; exact hlt2)
            rw [hub] at h3
            exact h3
          have hfw := hbu.few
          rw [List.length_append, List.length_singleton] at hfw
          refine awp_dregc ⟨112, [(1, ints f), (2, .pv (nC ⟨N, A⟩)), (5, .rs 48 0 N), (6, .rs 80 0 N), (7, .rs 120 u.off u.q), (8, .I k), (9, .I i), (10, .pv (eC e))], [(48, some ⟨1, rowsI (u.b.set e.f.toNat (-((i : Int) + 1))), 0⟩), (80, some ⟨1, rowsB (marksL N (u.D ++ [e.f])), 0⟩), (120, some ⟨1, rowsI u.Z, 0⟩)], 1400⟩ rfl ?_ ?_
          · simp [hmk, e1, hlt2, hw, hw2, hy, splice]
            exact ⟨rfl, Le.go [(48, 48), (80, 80), (120, 120)] [] rfl rfl (by simp) (by simp [← hms, Function.comp_def])⟩
          refine awp_reg rfl ?_
          simp [hbt]
          rw [hub] at hcl2
          refine ⟨by omega, by omega, by omega, ⟨u.D ++ [e.f], u.b.set e.f.toNat (-((i : Int) + 1)), u.Z.drop u.off ++ [e.f], 0, u.q + 1⟩, ⟨hu1.more hbu, hcl2, ?_⟩, Le.go [(48, 48), (80, 80), (1432, 120)] [] rfl rfl (by simp) (by simp [Function.comp_def])⟩
          obtain ⟨l1, e1⟩ := hul
          exact ⟨l1 ++ [e.f], by simp only [e1, List.append_assoc]⟩
        · rw [decide_eq_false_iff_not] at h15
          rw [if_neg h15] at hub
          rw [hub] at hcl2
          refine awp_skip ?_
          exact ⟨u, ⟨hu1, hcl2, hul⟩, Le.go [(48, 48), (80, 80), (120, 120)] [] rfl rfl (by simp) (by simp)⟩
      obtain ⟨hu1, hu2, l2, hu3⟩ := hu
      refine awp_run (s := ?s30) rfl ?o30 ?q30
      case o30 => simp; rfl
      exact ⟨(u, i + 1), ⟨hu1, h12, hu2, l ++ l2, by rw [hu3, htl, List.append_assoc]⟩, Nat.sub_lt_sub_left h12 (Nat.lt_succ_self i), Le.go [(48, 48), (80, 80), (120, 120)] [] rfl rfl (by simp [hw]) (by simp)⟩
    simp at h12
    obtain rfl : i = A.length := by omega
    refine awp_exit ?_
    refine hit ?_
    rw [hkd] at htc
    refine ⟨(t, m + 1), ⟨ht, ClosedM.next hmD hcl htc htl⟩, ?_, Le.go [(48, 48), (80, 80), (120, 120)] [] rfl rfl (by simp) (by simp)⟩
    simp only
    omega
  simp at h7
  have hmD : m = s.D.length := by omega
  refine awp_exit ?_
  refine hit ?_
  refine rk (s := ?s23) [4] [48] rfl ?o23 ?q23
  case o23 => simp; rfl
  refine awp_ret ?_
  exact PostX.mk (.inr rfl) (s.D, s.b) ⟨hb.bfs, by rw [hmD] at hcl; exact hcl.all⟩ (RetOk.out [48] [] rfl (by simp) (by simp) (by simp) (by simp [Function.comp_def]))
end Go.Proofs.YtlhjelookgjmpaaGreat
namespace Go.Proofs.YtlhjelookgjmpaaGreat
open Go
theorem nodup_rev {α : Type} {l : List α} (h : l.Nodup) : l.reverse.Nodup := List.pairwise_reverse.2 (h.imp fun hne e => hne e.symm)
theorem enc_dec {v : Int} (hv : v ≠ 0) : encS (decS v) = v := by
  unfold decS encS
  by_cases h : 0 < v
  · rw [if_pos h]; simp; omega
  · rw [if_neg h]; simp; omega
def endW (A : List Ed) (u : Int) (l : List Stp) : Nat → Int
  | 0 => u
  | j + 1 => stT A (l.getD j (0, false))
theorem endW_cons {A : List Ed} {u : Int} {s : Stp} {l : List Stp} (j : Nat) : endW A u (s :: l) (j + 1) = endW A (stT A s) l j := by
  cases j <;> rfl
theorem way_at {A : List Ed} : ∀ {l : List Stp} {u w : Int}, WayS A u l w → ∀ j (hj : j < l.length), stF A l[j] = endW A u l j
  | s :: l, u, w, h, 0, _ => h.2.1
  | s :: l, u, w, h, j + 1, hj => by
    rw [endW_cons]
    exact way_at h.2.2 j (by simpa using hj)
theorem way_end {A : List Ed} : ∀ {l : List Stp} {u w : Int}, WayS A u l w → endW A u l l.length = w
  | [], u, w, h => h
  | s :: l, u, w, h => by
    rw [List.length_cons, endW_cons]
    exact way_end h.2.2
variable {N : Nat} {A : List Ed} {f D b : List Int}
structure ChainS (N : Nat) (A : List Ed) (f b : List Int) (l : List Stp) : Prop where
  way : WayS A 0 l 1
  nodup : (l.map (·.1)).Nodup
  at_ : ∀ j (h : j < l.length), l[j].1 < A.length ∧ 0 < roomS A f l[j] ∧ stT A l[j] ≠ 0 ∧ 0 ≤ stT A l[j] ∧ stT A l[j] < N ∧ b.getD (stT A l[j]).toNat 0 = encS l[j]
theorem Bfs.chain (h : Bfs N A f D b) (h1 : (1 : Int) ∈ D) : ∃ l, ChainS N A f b l := by
  obtain ⟨j, hj, hx⟩ := List.mem_iff_getElem.1 h1
  obtain ⟨l, l1, l2, l3⟩ := h.tree.way j j hj (Nat.le_refl _)
  rw [hx] at l1
  refine ⟨l, l1, l2, fun i hi => ?_⟩
  obtain ⟨q1, q2, q3, q4, _, q5⟩ := l3 _ (List.getElem_mem hi)
  have hm := List.mem_of_mem_take q5
  have hr := h.rng _ hm
  have hne := h.inn _ hm q4
  refine ⟨q1, q2, q4, hr.1, hr.2, ?_⟩
  rw [← enc_dec hne, q3]
theorem ChainS.from_ {l : List Stp} (h : ChainS N A f b l) (j : Nat) (hj : j < l.length) : stF A l[j] = endW A 0 l j := way_at h.way j hj
def pushB (v : Int) (f : List Int) (l : List Stp) (j : Nat) : List Int := pushL v f (l.drop j).reverse
theorem pushB_end (v : Int) (f : List Int) (l : List Stp) : pushB v f l l.length = f := by simp [pushB, pushL]
theorem pushB_len (v : Int) (f : List Int) (l : List Stp) (j : Nat) : (pushB v f l j).length = f.length := pushL_len
theorem pushB_step {v : Int} {f : List Int} {l : List Stp} (j : Nat) (hj : j < l.length) : pushB v f l j = pushS v (pushB v f l (j + 1)) l[j] := by
  unfold pushB pushL
  rw [List.drop_eq_getElem_cons hj, List.reverse_cons, List.foldl_append]
  rfl
theorem pushB_get {v : Int} {l : List Stp} (hn : (l.map (·.1)).Nodup) (hr : ∀ s ∈ l, s.1 < f.length) (j : Nat) (hj : j < l.length) : (pushB v f l (j + 1)).getD l[j].1 0 = f.getD l[j].1 0 := by
  refine (pushL_get (δ := v) (f := f) (i := l[j].1) (l := (l.drop (j + 1)).reverse) ?_ ?_).1 ?_
  · rw [List.map_reverse]
    refine nodup_rev ?_
    exact hn.sublist ((List.drop_sublist _ _).map _)
  · intro s hs
    exact hr s (List.mem_of_mem_drop (List.mem_reverse.1 hs))
  · rw [List.map_reverse, List.mem_reverse]
    intro hm
    obtain ⟨s, hs, he⟩ := List.mem_map.1 hm
    obtain ⟨i, hi, rfl⟩ := List.mem_iff_getElem.1 hs
    rw [List.length_drop] at hi
    rw [List.getElem_drop] at he
    have h1 := (List.pairwise_iff_getElem.1 hn) j (j + 1 + i) (by rw [List.length_map]; exact hj) (by rw [List.length_map]; omega) (by omega)
    rw [List.getElem_map, List.getElem_map] at h1
    exact h1 he.symm
theorem pushB_all {v : Int} {l : List Stp} (hn : (l.map (·.1)).Nodup) (hr : ∀ s ∈ l, s.1 < f.length) : pushB v f l 0 = pushL v f l := by
  unfold pushB
  rw [List.drop_zero]
  have hn' : (l.reverse.map (·.1)).Nodup := by rw [List.map_reverse]; exact nodup_rev hn
  have hr' : ∀ s ∈ l.reverse, s.1 < f.length := fun s hs => hr s (List.mem_reverse.1 hs)
  apply List.ext_getElem (by rw [pushL_len, pushL_len])
  intro i h1 h2
  have e : ∀ (L : List Int) (h : i < L.length), L[i] = L.getD i 0 := fun L h => by rw [List.getD_eq_getElem?_getD, List.getElem?_eq_getElem h, Option.getD_some]
  rw [e _ h1, e _ h2]
  have g1 := pushL_get (δ := v) (f := f) (i := i) hn' hr'
  have g2 := pushL_get (δ := v) (f := f) (i := i) hn hr
  by_cases hm : i ∈ l.map (·.1)
  · obtain ⟨s, hs, rfl⟩ := List.mem_map.1 hm
    rw [g1.2 s.2 (List.mem_reverse.2 hs), g2.2 s.2 hs]
  · rw [g1.1 (by rw [List.map_reverse, List.mem_reverse]; exact hm), g2.1 hm]
theorem ChainS.push {l : List Stp} (hn : NetOk N A) (hf : FlowOk N A f) (h : ChainS N A f b l) {v : Int} (h0 : 0 ≤ v) (hv : ∀ s ∈ l, v ≤ roomS A f s) : FlowOk N A (pushB v f l 0) ∧ valF A (pushB v f l 0) = valF A f + v := by
  have hr : ∀ s ∈ l, s.1 < A.length := fun s hs => by
    obtain ⟨i, hi, rfl⟩ := List.mem_iff_getElem.1 hs
    exact (h.at_ i hi).1
  rw [pushB_all h.nodup fun s hs => by rw [hf.fit.len]; exact hr s hs]
  exact push_ok hn hf h0 h.way h.nodup fun s hs => ⟨hr s hs, hv s hs⟩
theorem netOk_of {A : List Ed} {N : Nat} (h : NetVal ⟨N, A⟩) : NetOk N A := by
  obtain ⟨h1, _, _, h4⟩ := h
  simp only at h1 h4
  refine ⟨by omega, fun e he => ?_⟩
  obtain ⟨q1, q2, q3, q4, q5, q6, q7, q8, _⟩ := h4 e he
  exact ⟨q1, by omega, q3, by omega, q5, q6, q7, q8⟩
end Go.Proofs.YtlhjelookgjmpaaGreat
namespace Go.Proofs.YtlhjelookgjmpaaGreat
open Go
theorem begC_sub {P Q : List (List Int)} (h : P.Sublist Q) (k : Int) : begC P k ≤ begC Q k := h.countP_le
theorem useC_sub {P Q : List (List Int)} (h : P.Sublist Q) (k : Int) : useC P k ≤ useC Q k := by
  unfold useC
  induction h with
  | slnil => exact Nat.le_refl _
  | cons a _ ih => rw [List.flatMap_cons, List.count_append]; omega
  | cons_cons a _ ih => rw [List.flatMap_cons, List.flatMap_cons, List.count_append, List.count_append]; omega
theorem RoomP.sub {c : List Int} {P Q : List (List Int)} (h : RoomP c Q) (hs : P.Sublist Q) : RoomP c P := fun k hk => by
  have h1 := h k hk
  have h2 := begC_sub hs k
  have h3 := useC_sub hs k
  omega
theorem flow_zero {N : Nat} {A : List Ed} (hn : NetOk N A) : FlowOk N A (A.map fun _ => 0) := by
  have hs : ∀ (φ : Ed → Int → Int), (∀ e, φ e 0 = 0) → ∀ A : List Ed, sumF φ A (A.map fun _ => 0) = 0 := by
    intro φ hφ A
    induction A with
    | nil => simp [sumF]
    | cons e A ih => simp only [List.map_cons, sumF]; rw [hφ, ih]; omega
  refine ⟨?_, fun x _ _ => ?_⟩
  · have h0 : ∀ B : List Ed, (∀ e ∈ B, 0 ≤ e.v) → Fit2 B (B.map fun _ => 0) := by
      intro B
      induction B with
      | nil => intro _; exact True.intro
      | cons e B ih => intro h; exact ⟨⟨Int.le_refl _, h e (List.mem_cons_self ..)⟩, ih fun x hx => h x (List.mem_cons_of_mem _ hx)⟩
    exact h0 A fun e he => (hn.arc e he).2.2.2.2.2.2.2
  · unfold outF inF
    rw [hs _ fun e => by split <;> rfl, hs _ fun e => by split <;> rfl]
theorem ex_greatest {N : Nat} {A : List Ed} (hn : NetOk N A) : ∃ f, FlowOk N A f ∧ ∀ f', FlowOk N A f' → valF A f' ≤ valF A f := by
  have hb : ∀ f, FlowOk N A f → valF A f ≤ capS (fun x => decide (x = 0)) A := fun f hf => val_le_cut hn hf (by simp) (by simp)
  have key : ∀ (n : Nat) (f : List Int), FlowOk N A f → capS (fun x => decide (x = 0)) A - valF A f ≤ n → ∃ f, FlowOk N A f ∧ ∀ f', FlowOk N A f' → valF A f' ≤ valF A f := by
    intro n
    induction n with
    | zero =>
      intro f hf h
      exact ⟨f, hf, fun f' hf' => by have := hb f' hf'; omega⟩
    | succ n ih =>
      intro f hf h
      by_cases hm : ∀ f', FlowOk N A f' → valF A f' ≤ valF A f
      · exact ⟨f, hf, hm⟩
      · obtain ⟨f', hf'⟩ := Classical.not_forall.1 hm
        obtain ⟨h1, h2⟩ := Classical.not_imp.1 hf'
        exact ih f' h1 (by omega)
  exact key _ _ (flow_zero hn) (Int.self_le_toNat _)
noncomputable def maxF (N : Nat) (A : List Ed) : Int := open Classical in if h : ∃ f, FlowOk N A f ∧ ∀ f', FlowOk N A f' → valF A f' ≤ valF A f then valF A h.choose else 0
theorem maxF_of {N : Nat} {A : List Ed} {f : List Int} (hf : FlowOk N A f) (hm : ∀ f', FlowOk N A f' → valF A f' ≤ valF A f) : maxF N A = valF A f := by
  have h : ∃ f, FlowOk N A f ∧ ∀ f', FlowOk N A f' → valF A f' ≤ valF A f := ⟨f, hf, hm⟩
  unfold maxF
  rw [dif_pos h]
  have h1 := h.choose_spec
  have h2 := hm _ h1.1
  have h3 := h1.2 _ hf
  omega
theorem maxF_ge {N : Nat} {A : List Ed} (hn : NetOk N A) {f : List Int} (hf : FlowOk N A f) : valF A f ≤ maxF N A := by
  obtain ⟨m, h1, h2⟩ := ex_greatest hn
  rw [maxF_of h1 h2]
  exact h2 f hf
theorem maxF_has {N : Nat} {A : List Ed} (hn : NetOk N A) : ∃ f, FlowOk N A f ∧ valF A f = maxF N A := by
  obtain ⟨m, h1, h2⟩ := ex_greatest hn
  exact ⟨m, h1, (maxF_of h1 h2).symm⟩
end Go.Proofs.YtlhjelookgjmpaaGreat
