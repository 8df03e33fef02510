/- Texts of this claim, merged. -/
import Derived.Test.YtlhjelookgjmpaaGreatRa8
import Derived.Test.YtlhjelookgjmpaaGreatRa6
import Derived.Test.YtlhjelookgjmpaaGreatProg
import Derived.KernelRfl
import Derived.Shelf.Sort.Plain
import Derived.Shelf.SlIterI.Collect
import Derived.RangeFuncLeaves
import Derived.Shelf.Slices.In.SortNone
import Derived.Test.YtlhjelookgjmpaaGreatRa7
import Derived.Test.YtlhjelookgjmpaaGreatRa5
set_option linter.unusedSimpArgs false
set_option linter.unusedVariables false
set_option linter.unusedSectionVars false
namespace Go.Proofs.YtlhjelookgjmpaaGreat
open Go
theorem slaw44_CheckerRaw : Src Tryz.prog nlaw44_CheckerRaw claw44_CheckerRaw := ⟨mixed, Tryz.f5, by kernel_rfl, by kernel_rfl, by decide⟩
theorem strustflowmill_Light : Src Tryz.prog ntrustflowmill_Light ctrustflowmill_Light := ⟨mixed, Tryz.f9, by kernel_rfl, by kernel_rfl, by decide⟩
theorem slaw44_awake : Src Tryz.prog nlaw44_awake claw44_awake := ⟨mixed, Tryz.f10, by kernel_rfl, by kernel_rfl, by decide⟩
theorem smade_Dice_Policy : Src Tryz.prog nmade_Dice_Policy cmade_Dice_Policy := ⟨mixed, Tryz.f13, by kernel_rfl, by kernel_rfl, by decide⟩
theorem schecker_Paths : Src Tryz.prog nchecker_Paths cchecker_Paths := ⟨mixed, Tryz.f15, by kernel_rfl, by kernel_rfl, by decide⟩
theorem sref24_Join : Src Tryz.prog nref24_Join cref24_Join := ⟨mixed, Tryz.f16, by kernel_rfl, by kernel_rfl, by decide⟩
theorem schecker_Check : Src Tryz.prog nchecker_Check cchecker_Check := ⟨mixed, Tryz.f18, by kernel_rfl, by kernel_rfl, by decide⟩
theorem sref44_Check : Src Tryz.prog nref44_Check cref44_Check := ⟨mixed, Tryz.f19, by kernel_rfl, by kernel_rfl, by decide⟩
theorem sref44_Paths : Src Tryz.prog nref44_Paths cref44_Paths := ⟨mixed, Tryz.f20, by kernel_rfl, by kernel_rfl, by decide⟩
theorem strustflowmill_Mod : Src Tryz.prog ntrustflowmill_Mod ctrustflowmill_Mod := ⟨mixed, Tryz.f21, by kernel_rfl, by kernel_rfl, by decide⟩
theorem sref24_Has : Src Tryz.prog nref24_Has cref24_Has := ⟨mixed, Tryz.f23, by kernel_rfl, by kernel_rfl, by decide⟩
theorem sref13_Check : Src Tryz.prog nref13_Check cref13_Check := ⟨mixed, Tryz.f26, by kernel_rfl, by kernel_rfl, by decide⟩
theorem scapacity_Check : Src Tryz.prog ncapacity_Check ccapacity_Check := ⟨mixed, Tryz.f40, by kernel_rfl, by kernel_rfl, by decide⟩
theorem schecker_different : Src Tryz.prog nchecker_different cchecker_different := ⟨mixed, Tryz.f41, by kernel_rfl, by kernel_rfl, by decide⟩
theorem schecker_of : Src Tryz.prog nchecker_of cchecker_of := ⟨mixed, Tryz.f42, by kernel_rfl, by kernel_rfl, by decide⟩
theorem schecker_engine_serve : Src Tryz.prog nchecker_engine_serve cchecker_engine_serve := ⟨mixed, Tryz.f43, by kernel_rfl, by kernel_rfl, by decide⟩
theorem schecker_engine_check : Src Tryz.prog nchecker_engine_check cchecker_engine_check := ⟨mixed, Tryz.f47, by kernel_rfl, by kernel_rfl, by decide⟩
theorem sref44_reached : Src Tryz.prog nref44_reached cref44_reached := ⟨mixed, Tryz.f48, by kernel_rfl, by kernel_rfl, by decide⟩
theorem sref44_ahead : Src Tryz.prog nref44_ahead cref44_ahead := ⟨mixed, Tryz.f49, by kernel_rfl, by kernel_rfl, by decide⟩
theorem sref14_Network : Src Tryz.prog nref14_Network cref14_Network := ⟨mixed, Tryz.f50, by kernel_rfl, by kernel_rfl, by decide⟩
theorem sref16_Proves : Src Tryz.prog nref16_Proves cref16_Proves := ⟨mixed, Tryz.f51, by kernel_rfl, by kernel_rfl, by decide⟩
theorem sref13_All : Src Tryz.prog nref13_All cref13_All := ⟨mixed, Tryz.f52, by kernel_rfl, by kernel_rfl, by decide⟩
theorem sref44_path : Src Tryz.prog nref44_path cref44_path := ⟨mixed, Tryz.f53, by kernel_rfl, by kernel_rfl, by decide⟩
theorem sref13_policy : Src Tryz.prog nref13_policy cref13_policy := ⟨mixed, Tryz.f59, by kernel_rfl, by kernel_rfl, by decide⟩
theorem scapacity_All : Src Tryz.prog ncapacity_All ccapacity_All := ⟨mixed, Tryz.f70, by kernel_rfl, by kernel_rfl, by decide⟩
theorem schecker_engine_walks : Src Tryz.prog nchecker_engine_walks cchecker_engine_walks := ⟨mixed, Tryz.f72, by kernel_rfl, by kernel_rfl, by decide⟩
theorem sslices_Sorted_int : Src Tryz.prog nslices_Sorted_int cslices_Sorted_int := ⟨mixed, Tryz.f73, by kernel_rfl, by kernel_rfl, by decide⟩
theorem sslices_Values_Lint_int : Src Tryz.prog nslices_Values_Lint_int cslices_Values_Lint_int := ⟨mixed, Tryz.f74, by kernel_rfl, by kernel_rfl, by decide⟩
theorem schecker_engine_before : Src Tryz.prog nchecker_engine_before cchecker_engine_before := ⟨mixed, Tryz.f76, by kernel_rfl, by kernel_rfl, by decide⟩
theorem ssplit_Network : Src Tryz.prog nsplit_Network csplit_Network := ⟨mixed, Tryz.f78, by kernel_rfl, by kernel_rfl, by decide⟩
theorem scut_Proves : Src Tryz.prog ncut_Proves ccut_Proves := ⟨mixed, Tryz.f79, by kernel_rfl, by kernel_rfl, by decide⟩
theorem sref14_Entry : Src Tryz.prog nref14_Entry cref14_Entry := ⟨mixed, Tryz.f80, by kernel_rfl, by kernel_rfl, by decide⟩
theorem sref14_Exit : Src Tryz.prog nref14_Exit cref14_Exit := ⟨mixed, Tryz.f81, by kernel_rfl, by kernel_rfl, by decide⟩
theorem sref16_Valid : Src Tryz.prog nref16_Valid cref16_Valid := ⟨mixed, Tryz.f82, by kernel_rfl, by kernel_rfl, by decide⟩
theorem sref16_Capacity : Src Tryz.prog nref16_Capacity cref16_Capacity := ⟨mixed, Tryz.f83, by kernel_rfl, by kernel_rfl, by decide⟩
theorem sref13_Of : Src Tryz.prog nref13_Of cref13_Of := ⟨mixed, Tryz.f84, by kernel_rfl, by kernel_rfl, by decide⟩
theorem sref44_edge : Src Tryz.prog nref44_edge cref44_edge := ⟨mixed, Tryz.f85, by kernel_rfl, by kernel_rfl, by decide⟩
theorem sref15_Check : Src Tryz.prog nref15_Check cref15_Check := ⟨mixed, Tryz.f86, by kernel_rfl, by kernel_rfl, by decide⟩
theorem scapacity_Of : Src Tryz.prog ncapacity_Of ccapacity_Of := ⟨mixed, Tryz.f98, by kernel_rfl, by kernel_rfl, by decide⟩
theorem sslices_Collect_int : Src Tryz.prog nslices_Collect_int cslices_Collect_int := ⟨mixed, Tryz.f105, by kernel_rfl, by kernel_rfl, by decide⟩
theorem ssplit_Entry : Src Tryz.prog nsplit_Entry csplit_Entry := ⟨mixed, Tryz.f108, by kernel_rfl, by kernel_rfl, by decide⟩
theorem ssplit_Network_c1 : Src Tryz.prog nsplit_Network_c1 csplit_Network_c1 := ⟨mixed, Tryz.f109, by kernel_rfl, by kernel_rfl, by decide⟩
theorem ssplit_Exit : Src Tryz.prog nsplit_Exit csplit_Exit := ⟨mixed, Tryz.f110, by kernel_rfl, by kernel_rfl, by decide⟩
theorem scut_Valid : Src Tryz.prog ncut_Valid ccut_Valid := ⟨mixed, Tryz.f111, by kernel_rfl, by kernel_rfl, by decide⟩
theorem scut_Capacity : Src Tryz.prog ncut_Capacity ccut_Capacity := ⟨mixed, Tryz.f112, by kernel_rfl, by kernel_rfl, by decide⟩
theorem sflow_Check : Src Tryz.prog nflow_Check cflow_Check := ⟨mixed, Tryz.f127, by kernel_rfl, by kernel_rfl, by decide⟩
theorem sflow_Check_c1 : Src Tryz.prog nflow_Check_c1 cflow_Check_c1 := ⟨mixed, Tryz.f143, by kernel_rfl, by kernel_rfl, by decide⟩
theorem sslices_ContainsFunc_Lapi_Arc_api_Arc : Src Tryz.prog nslices_ContainsFunc_Lapi_Arc_api_Arc cslices_ContainsFunc_Lapi_Arc_api_Arc := ⟨mixed, Tryz.f144, by kernel_rfl, by kernel_rfl, by decide⟩
theorem sslices_IndexFunc_Lapi_Arc_api_Arc : Src Tryz.prog nslices_IndexFunc_Lapi_Arc_api_Arc cslices_IndexFunc_Lapi_Arc_api_Arc := ⟨mixed, Tryz.f153, by kernel_rfl, by kernel_rfl, by decide⟩
end Go.Proofs.YtlhjelookgjmpaaGreat
namespace Go.Proofs
open Go.Shelf
def Tryz.lays189_ren : Go.Shelf.Ren := ⟨fun | 189 => 106 | 125 => 126 | 257 => 125 | 128 => 141 | 129 => 142 | 294 => 132 | 295 => 133 | 296 => 134 | 297 => 135 | 298 => 136 | 299 => 137 | 216 => 138 | 300 => 139 | 301 => 140 | 328 => 148 | 329 => 149 | 330 => 150 | 331 => 151 | 332 => 152 | 215 => 123 | 343 => 155 | n => n, fun | 28 => 22 | 3 => 3 | 46 => 138 | 0 => 0 | 51 => 152 | 53 => 154 | 4 => 4 | 183 => 146 | 182 => 145 | 131 => 85 | 5 => 5 | 9 => 9 | 218 => 161 | 222 => 165 | 228 => 168 | 229 => 169 | n => n, fun | n => n⟩
theorem Tryz.lays189 : Go.Proofs.Lays.n189 Tryz.prog Tryz.lays189_ren := {
  mixed := by kernel_rfl
  f125 := Tryz.func126.trans (congrArg some (by kernel_rfl))
  f128 := Tryz.func141.trans (congrArg some (by kernel_rfl))
  f129 := Tryz.func142.trans (congrArg some (by kernel_rfl))
  f189 := Tryz.func106.trans (congrArg some (by kernel_rfl))
  f215 := Tryz.func123.trans (congrArg some (by kernel_rfl))
  f216 := Tryz.func138.trans (congrArg some (by kernel_rfl))
  f257 := Tryz.func125.trans (congrArg some (by kernel_rfl))
  f294 := Tryz.func132.trans (congrArg some (by kernel_rfl))
  f295 := Tryz.func133.trans (congrArg some (by kernel_rfl))
  f296 := Tryz.func134.trans (congrArg some (by kernel_rfl))
  f297 := Tryz.func135.trans (congrArg some (by kernel_rfl))
  f298 := Tryz.func136.trans (congrArg some (by kernel_rfl))
  f299 := Tryz.func137.trans (congrArg some (by kernel_rfl))
  f300 := Tryz.func139.trans (congrArg some (by kernel_rfl))
  f301 := Tryz.func140.trans (congrArg some (by kernel_rfl))
  f328 := Tryz.func148.trans (congrArg some (by kernel_rfl))
  f329 := Tryz.func149.trans (congrArg some (by kernel_rfl))
  f330 := Tryz.func150.trans (congrArg some (by kernel_rfl))
  f331 := Tryz.func151.trans (congrArg some (by kernel_rfl))
  f332 := Tryz.func152.trans (congrArg some (by kernel_rfl))
  f343 := Tryz.func155.trans (congrArg some (by kernel_rfl))
  t0 := Tryz.underlying0
  a0 := Tryz.isAgg0
  z0 := Tryz.sizeOf0
  v0 := Tryz.zeroValue0
  t3 := Tryz.underlying3
  a3 := Tryz.isAgg3
  z3 := Tryz.sizeOf3
  v3 := Tryz.zeroValue3
  t4 := Tryz.underlying4
  a4 := Tryz.isAgg4
  z4 := Tryz.sizeOf4
  v4 := Tryz.zeroValue4
  t5 := Tryz.underlying5
  a5 := Tryz.isAgg5
  z5 := Tryz.sizeOf5
  v5 := Tryz.zeroValue5
  t9 := Tryz.underlying9
  a9 := Tryz.isAgg9
  z9 := Tryz.sizeOf9
  v9 := Tryz.zeroValue9
  t28 := Tryz.underlying22
  a28 := Tryz.isAgg22
  z28 := Tryz.sizeOf22
  v28 := Tryz.zeroValue22
  t46 := Tryz.underlying138
  a46 := Tryz.isAgg138
  z46 := Tryz.sizeOf138
  v46 := Tryz.zeroValue138
  t51 := Tryz.underlying152
  a51 := Tryz.isAgg152
  z51 := Tryz.sizeOf152
  v51 := Tryz.zeroValue152
  t53 := Tryz.underlying154
  a53 := Tryz.isAgg154
  z53 := Tryz.sizeOf154
  v53 := Tryz.zeroValue154
  t131 := Tryz.underlying85
  a131 := Tryz.isAgg85
  z131 := Tryz.sizeOf85
  v131 := Tryz.zeroValue85
  t182 := Tryz.underlying145
  a182 := Tryz.isAgg145
  z182 := Tryz.sizeOf145
  v182 := Tryz.zeroValue145
  t183 := Tryz.underlying146
  a183 := Tryz.isAgg146
  z183 := Tryz.sizeOf146
  v183 := Tryz.zeroValue146
  t218 := Tryz.underlying161
  a218 := Tryz.isAgg161
  z218 := Tryz.sizeOf161
  v218 := Tryz.zeroValue161
  t222 := Tryz.underlying165
  a222 := Tryz.isAgg165
  z222 := Tryz.sizeOf165
  v222 := Tryz.zeroValue165
  t228 := Tryz.underlying168
  a228 := Tryz.isAgg168
  z228 := Tryz.sizeOf168
  v228 := Tryz.zeroValue168
  t229 := Tryz.underlying169
  a229 := Tryz.isAgg169
  z229 := Tryz.sizeOf169
  v229 := Tryz.zeroValue169 }
end Go.Proofs
namespace Go.Proofs.YtlhjelookgjmpaaGreat
open Go
def iRows (l : List Int) : List (List AV) := l.map fun n => [AV.I n]
theorem Src.body {P : Program} {f : FuncId} {af : AFun} (s : Src P f af) : ∃ fn c, P.funcs[f]? = some fn ∧ fn.body = some c ∧ fn.name ≠ "runtime.NumGoroutine" := by
  obtain ⟨_, fn, hf, hc, hn⟩ := s
  unfold compF at hc
  cases hb : fn.body with
  | none => rw [hb] at hc; cases hc
  | some c => exact ⟨fn, c, hf, hb, hn⟩
theorem sort_some (zs : List Int) (h0 : zs ≠ []) (hl : zs.length < 4611686018427387904) :
    ACalls Tryz.prog nslices_Sort_Lint_int [.rs 0 0 zs.length] [{ s := 1, rows := iRows zs }] (.tup []) ([{ s := 1, rows := iRows (zs.mergeSort fun x y => decide (x ≤ y)) }].map some) := by
  refine ⟨sslices_Sort_Lint_int.body, by simp, fun T M w vs htok hhs hdom hrep => ?_⟩
  have hpos : 0 < zs.length := List.length_pos_iff.2 h0
  obtain ⟨hsz, hr⟩ := hrep
  have hr0 := hr 0 (by simp)
  simp only [List.getD_cons_zero] at hr0
  have hvs : vs = #[vs.getD 0 undef] := by
    apply Array.ext
    · simpa using hsz
    · intro i h1 h2
      have : i = 0 := by simp at h2; omega
      subst this
      simp [Array.getD, h1]
  rw [hvs]
  generalize vs.getD 0 undef = v at hr0
  cases hr0 with
  | rs _ _ _ _ cap a g hg hlc hn hb =>
  obtain ⟨g', hg', ent⟩ := hhs.ent 0 _ rfl
  rw [hg] at hg'
  obtain rfl := Option.some.inj hg'
  have hrl : (iRows zs).length = zs.length := by simp [iRows]
  cases hblk : g.blk with
  | none =>
    have := ent.none hblk
    simp [iRows] at this
    exact absurd this h0
  | some b =>
  obtain ⟨hcap, c0, t0, f0, hc0, hle0⟩ := hb b hblk
  obtain ⟨cells, ty, hw, htb, hlen, hrows⟩ := ent.blk b hblk
  have ha : a = some ⟨b, g.base + 0 * g.s, none⟩ := by
    rcases hcap with h | h
    · omega
    · exact h
  subst ha
  simp only [Nat.zero_mul, Nat.add_zero] at *
  have hcell : ∀ i, (hi : i < zs.length) → cells[g.base + i]? = some (.int .i64 zs[i]) := by
    intro i hi
    obtain ⟨u, hu, _, hru⟩ := hrows i 0 (by rw [hrl]; exact hi) (by decide)
    simp only [Nat.mul_one, Nat.add_zero] at hu
    rw [hu]
    have : ((iRows zs).getD i []).getD 0 .dead = .I zs[i] := by simp [iRows, List.getD, hi]
    rw [this] at hru
    cases hru
    rfl
  have hb' : b < w.heap.size := (Array.getElem?_eq_some_iff.1 hw).1
  refine (Any.slices_Sort_int Tryz.lays189 b g.base cap zs w ?_ hb' hl).mono ?_
  · intro j hj
    have hj' : j < zs.length := by simpa using hj
    constructor
    · show w.cell? _ = _
      unfold World.cell?
      simp only [hw]
      rw [hcell j hj']
      simp [hj']
    · unfold World.frozen?
      simp only [hw]
      simp
  · rintro e w' ⟨rfl, n, os, rfl⟩
    have hsl : (zs.mergeSort fun x y => decide (x ≤ y)).length = zs.length := List.length_mergeSort zs
    generalize (zs.mergeSort fun x y => decide (x ≤ y)) = ys at hsl
    have hh : ∀ b', b' < w.heap.size → (Go.Sort.grow (Go.Sort.putRow (Value.int .i64) (Go.Sort.ahead w n) b g.base ys.toArray) os).heap[b']? = if b' = b then some (.cells (Go.Sort.putCells (Value.int .i64) g.base ys.toArray cells) ty (0, 0)) else w.heap[b']? := by
      intro b' hb1
      have hsz' : (w.heap.modify b (Go.Sort.onCells (Go.Sort.putCells (Value.int .i64) g.base ys.toArray))).size = w.heap.size := Array.size_modify
      show ((w.heap.modify b (Go.Sort.onCells (Go.Sort.putCells (Value.int .i64) g.base ys.toArray))) ++ os)[b']? = _
      rw [Array.getElem?_append_left (by rw [hsz']; exact hb1), Array.getElem?_modify]
      by_cases hbb : b = b'
      · subst hbb
        rw [if_pos rfl, if_pos rfl, hw]
        rfl
      · rw [if_neg hbb, if_neg (Ne.symm hbb)]
    have hput : ∀ o, (o < g.base ∨ g.base + ys.length ≤ o) → (Go.Sort.putCells (Value.int .i64) g.base ys.toArray cells)[o]? = cells[o]? := by
      intro o ho
      unfold Go.Sort.putCells
      rw [Array.getElem?_mapIdx]
      cases hc : cells[o]? with
      | none => rfl
      | some u =>
        simp only [Option.map_some]
        rw [if_neg]
        simp
        omega
    have hput2 : ∀ i, (hi : i < ys.length) → (Go.Sort.putCells (Value.int .i64) g.base ys.toArray cells)[g.base + i]? = some (.int .i64 ys[i]) := by
      intro i hi
      unfold Go.Sort.putCells
      rw [Array.getElem?_mapIdx, hcell i (by omega)]
      simp only [Option.map_some]
      rw [if_pos (by simp; omega)]
      simp [hi]
    have hcs : (Go.Sort.putCells (Value.int .i64) g.base ys.toArray cells).size = cells.size := by
      unfold Go.Sort.putCells
      exact Array.size_mapIdx
    have hbig : w.heap.size ≤ (Go.Sort.grow (Go.Sort.putRow (Value.int .i64) (Go.Sort.ahead w n) b g.base ys.toArray) os).heap.size := by
      show w.heap.size ≤ ((w.heap.modify b _) ++ os).size
      rw [Array.size_append, Array.size_modify]
      omega
    have htb' : T b ≤ g.base := by simpa using htb
    generalize hw' : (Go.Sort.grow (Go.Sort.putRow (Value.int .i64) (Go.Sort.ahead w n) b g.base ys.toArray) os) = w' at hh hbig
    have hlt : ∀ b' o, w.heap[b']? = some o → b' < w.heap.size := fun b' o h => (Array.getElem?_eq_some_iff.1 h).1
    have hpr : Pres T w T w' := by
      refine ⟨fun _ => Nat.le_refl _, fun b' cs' ty' fz' h => ?_⟩
      rw [hh b' (hlt _ _ h)]
      by_cases hbb : b' = b
      · subst hbb
        rw [hw] at h
        cases h
        exact ⟨_, _, if_pos rfl, hcs, fun o ho => hput o (.inl (by omega))⟩
      · exact ⟨cs', fz', by rw [if_neg hbb]; exact h, rfl, fun _ _ => rfl⟩
    rw [hpOut_some]
    refine ⟨_, T, M, rfl, .tup M [] #[] rfl (fun i hi => by simp at hi), ⟨fun id e he => ?_, fun id id' e e' g1 g2 b' h1 h2 h3 h4 h5 h6 => ?_⟩, ⟨fun b' hb1 => ?_, fun _ _ _ => rfl, fun _ _ => rfl, ?_, ?_, ?_, hbig, fun b' hb1 hb2 => ?_, hpr, fun k g1 b' hk hg1 _ => ?_⟩⟩
    · have hid : id = 0 := by
        cases id with
        | zero => rfl
        | succ k => simp [hpOf] at he
      subst hid
      simp only [hpOf, List.getElem?_cons_zero, Option.some.injEq] at he
      subst he
      refine ⟨g, hg, ⟨ent.s, Nat.zero_le _, fun row hr => ?_, fun hn => (by rw [hblk] at hn; cases hn), fun b' hb1 => ?_⟩⟩
      · simp [iRows] at hr
        obtain ⟨x, _, rfl⟩ := hr
        rfl
      · rw [hblk] at hb1
        obtain rfl := Option.some.inj hb1
        refine ⟨_, ty, by rw [hh _ hb', if_pos rfl], by simpa using htb', by simp [iRows, hcs, hsl]; simpa [iRows] using hlen, fun i j hi hj => ?_⟩
        have hi' : i < ys.length := by simpa [iRows] using hi
        have hj' : j = 0 := by simp at hj; omega
        subst hj'
        refine ⟨.int .i64 ys[i], by simpa using hput2 i hi', rfl, ?_⟩
        have : ((iRows ys).getD i []).getD 0 .dead = .I ys[i] := by simp [iRows, List.getD, hi']
        rw [this]
        exact .sc _ _ rfl
    · have h0 : ∀ id e, hpOf [({ s := 1, rows := iRows ys } : Ent)] id = some e → id = 0 := by
        intro id e he
        cases id with
        | zero => rfl
        | succ k => simp [hpOf] at he
      rw [h0 _ _ h1, h0 _ _ h2]
    · obtain ⟨c1, ty1, fz1, h1, h2⟩ := htok b' hb1
      obtain ⟨c2, fz2, h3, h4, _⟩ := hpr.cell b' c1 ty1 fz1 h1
      exact ⟨c2, ty1, fz2, h3, by omega⟩
    · rw [← hw']; rfl
    · rw [← hw']; rfl
    · rw [← hw']; rfl
    · rw [hh b' hb1, if_neg]
      intro hbb
      exact hb2 ⟨0, g, by simp, hg, by rw [hblk, hbb]⟩
    · rw [hdom k hk] at hg1
      cases hg1
end Go.Proofs.YtlhjelookgjmpaaGreat
namespace Go.Proofs.YtlhjelookgjmpaaGreat
open Go Go.RowKit Go.Shelf Go.Maps Go.Sort
attribute [local go_sem] Oper.semAt_some
def seq_ren : Go.Shelf.Ren := ⟨fun | 11 => 124 | n => n, fun | 0 => 0 | 24 => 22 | 26 => 3 | 28 => 107 | 33 => 58 | n => n, fun | n => n⟩
theorem seqL : SlLaysZI.n11 Tryz.prog seq_ren := {
  mixed := by kernel_rfl
  f11 := ⟨Tryz.f124.name, by decide, Tryz.func124.trans (congrArg some (by kernel_rfl))⟩
  t0 := Tryz.underlying0
  a0 := Tryz.isAgg0
  z0 := Tryz.sizeOf0
  v0 := Tryz.zeroValue0
  t24 := Tryz.underlying22
  a24 := Tryz.isAgg22
  z24 := Tryz.sizeOf22
  v24 := Tryz.zeroValue22
  t26 := Tryz.underlying3
  a26 := Tryz.isAgg3
  z26 := Tryz.sizeOf3
  v26 := Tryz.zeroValue3
  t28 := Tryz.underlying107
  a28 := Tryz.isAgg107
  z28 := Tryz.sizeOf107
  v28 := Tryz.zeroValue107
  i26 := by kernel_rfl
}
theorem take_succ_q {l : List Int} {k : Nat} (h : k < l.length) : l.take (k + 1) = l.take k ++ [l[k]] := List.take_succ_eq_append_getElem h
set_option maxRecDepth 100000 in
set_option maxHeartbeats 2000000 in
theorem values1_in (F : Fence) (n : Nat) (h7 : F.fn 107) (hro : F.round = none) (hn : 1 ≤ n) (l Bs B0 b off cap : Nat) (a : Option Addr) (zs : List Int) (ha : zs ≠ [] → a = some ⟨b, off, none⟩) (hreach : zs.length ≤ 17592186044416) (J : List Int → World → Prop) (W : World)
    (hJ : ∀ pre W1, J pre W1 → ∀ j (h : j < zs.length), W1.cell? ⟨b, off + j, none⟩ = some (.int .i64 zs[j]))
    (hY : ∀ pre x W1, J pre W1 → pre.length < zs.length → YieldAt F (n - 1) Tryz.prog l #[.int .i64 x] W1 fun e W' => e = .returned (.bool true) ∧ J (pre ++ [x]) W' ∧ KeepsWalks W1 W')
    (hBs : W.cell? ⟨Bs, B0, none⟩ = some (.slice a zs.length cap)) (h0 : J [] W) :
    CallsIn F n Tryz.prog 107 #[.func (.yield l) #[] #[], .pointer (some ⟨Bs, B0, none⟩)] W fun e W' => (∃ v, e = .returned v) ∧ J zs W' := by
  refine callsIn_of_wp Tryz.func107 rfl h7 ?_ hro
  simp only [Tryz.ntmps107, List.size_toArray, List.length_cons, List.length_nil, Nat.reduceAdd, Nat.reduceSub, Array.replicate_succ, Array.replicate_zero, List.push_toArray, List.append_toArray, List.nil_append, List.cons_append]
  gi_wp2
  gi_loopw [7] (fun i wr => ∃ k : Nat, k ≤ zs.length ∧ i = .int .i64 k ∧ J (zs.take k) wr) (fun i _ => zs.length - (intOf i).toNat)
  case atStart => exact ⟨0, Nat.zero_le _, rfl, by simpa using h0⟩
  case round =>
    obtain ⟨k, hk, rfl, hJs⟩ := hrel
    by_cases hlt : k < zs.length
    · have hcx' : wr.cell? ⟨b, off + k, none⟩ = some (.int .i64 zs[k]) := hJ _ _ hJs k hlt
      obtain rfl := ha (by rintro rfl; simp at hlt)
      obtain ⟨fn, tmps, assign, body, hy, hR⟩ := hY _ zs[k] wr hJs (by rw [List.length_take]; omega)
      gi_wp2
      refine hR.mono ?_
      rintro e W3 ⟨rfl, hJ3, hk3⟩
      gi_wp2
      go_roundw
      case rel => exact ⟨k + 1, by omega, by simp, by rw [take_succ_q hlt]; exact hJ3⟩
      case measure => simp [intOf]; omega
    · obtain rfl : k = zs.length := by omega
      gi_wp2
      go_end0
      exact ⟨⟨_, rfl⟩, by simpa using hJs⟩
set_option maxRecDepth 100000 in
set_option maxHeartbeats 2000000 in
theorem appendSeqV_in (F : Fence) (n : Nat) (h11 : F.fn 124) (hFg : F.fn 107) (hro : F.round = none) (hn : 2 ≤ n) (Bs B0 b off cap : Nat) (a : Option Addr) (zs : List Int) (ha : zs ≠ [] → a = some ⟨b, off, none⟩) (hN : zs.length ≤ 1099511627776) (w : World)
    (hBs : w.cell? ⟨Bs, B0, none⟩ = some (.slice a zs.length cap)) (hBl : Bs < w.heap.size) (hbl : zs ≠ [] → b < w.heap.size) (hc : ∀ j (h : j < zs.length), w.cell? ⟨b, off + j, none⟩ = some (.int .i64 zs[j])) :
    CallsIn F n Tryz.prog 124 #[.slice none 0 0, .func (.func 107) #[] #[.pointer (some ⟨Bs, B0, none⟩)]] w fun e w' => ∃ v : Value, e = .returned v ∧ w'.ownsRow w.heap.size 3 1 v zs.length (zs.map encZ) ∧ Below w.heap.size w w' := by
  have h1 : 1 ≤ n := by omega
  have hmax : zs.length ≤ maxLen := by unfold maxLen; omega
  have L := seqL
  have hne : (22 : Nat) ≠ 3 := by decide
  have eg : ∀ args w, (callFunc 107 args).run Tryz.prog w = .ok (.enter 107 args) w := fun args w => (enters_of Tryz.func107 (by kernel_rfl) rfl) args w
  refine callsIn_of_wp_marks Tryz.func124 rfl h11 ?_ hro
  simp only [Tryz.ntmps124, List.size_toArray, List.length_cons, List.length_nil, Nat.reduceAdd, Nat.reduceSub, Array.replicate_succ, Array.replicate_zero, List.push_toArray, List.append_toArray, List.nil_append, List.cons_append]
  gi_wp2
  refine wpIn_rangeFunc ?_
  intro fn hfn
  rw [hro]
  obtain ⟨W0, hW0⟩ : ∃ W0, w.alloc (.cells #[.slice none 0 0] 22) = W0 := ⟨_, rfl⟩
  have hs0 : W0.heap.size = w.heap.size + 1 := by rw [← hW0]; simp
  have hv0 : W0.heap[w.heap.size]? = some (.cells #[.slice none 0 0] 22 (0, 0)) := by rw [← hW0]; exact World.alloc_heap_new w _
  have hb0 : Below w.heap.size w W0 := by rw [← hW0]; exact (Below.refl _ w).alloc (Nat.le_refl _) _
  rw [hW0]
  obtain ⟨sv, hsv⟩ : ∃ sv : Value, sv = .func (.func 107) #[] #[.pointer (some ⟨Bs, B0, none⟩)] := ⟨_, rfl⟩
  rw [← hsv]
  obtain ⟨W1, hW1⟩ : ∃ W1, (W0.alloc (.deferred (some []))).alloc (.loop (AnyZI.apRec seq_ren fn sv w.heap.size W0.heap.size .ready none)) = W1 := ⟨_, rfl⟩
  have hold : ∀ k, k < W0.heap.size → W1.heap[k]? = W0.heap[k]? := fun k hk => by
    rw [← hW1]; exact (Below.heap_alloc _ _ k (by simp; omega)).trans (Below.heap_alloc _ _ k hk)
  have hb1 : Below w.heap.size w W1 := by rw [← hW1]; exact (hb0.alloc hb0.size _).alloc (by have := hb0.size; simp; omega) _
  have hs1 : W1.heap.size = W0.heap.size + 2 := by rw [← hW1]; simp
  have hM : AnyZI.ApAt seq_ren w fn sv w.heap.size (W0.heap.size + 1) W0.heap.size [] W1 :=
    ⟨⟨_, (hold w.heap.size (by omega)).trans hv0, ⟨rfl, .inl ⟨rfl, rfl⟩⟩, by simp⟩,
     by rw [← hW1]; have := World.alloc_heap_new (W0.alloc (.deferred (some []))) (.loop (AnyZI.apRec seq_ren fn sv w.heap.size W0.heap.size .ready none)); rwa [World.size_alloc] at this,
     by rw [← hW1]; exact (Below.heap_alloc _ _ _ (by simp)).trans (World.alloc_heap_new W0 _), hb1⟩
  refine ⟨W0.heap.size + 1, [{ target := .collected W0.heap.size, args := #[] }], W1, { target := .fn (.func 107) #[.pointer (some ⟨Bs, B0, none⟩)], args := #[.func (.yield (W0.heap.size + 1)) #[] #[]] }, W1, 107,
    #[.func (.yield (W0.heap.size + 1)) #[] #[]] ++ #[.pointer (some ⟨Bs, B0, none⟩)], W1, ?_, ?_, ?_, ?_, fun _ => h1, ?_⟩
  · rw [← hW1]; exact run_enterLoop_outer _ _ _ _ _
  · rw [hsv]; simp [resolve, go_sem]
  · intro f' hf'; simp [Target.leads] at hf'; subst hf'; exact hFg
  · simp [invoke, go_sem, eg]
  · refine (values1_in F (n - 1) hFg hro (by omega) (W0.heap.size + 1) Bs B0 b off cap a zs ha (by omega) (AnyZI.ApAt seq_ren w fn sv w.heap.size (W0.heap.size + 1) W0.heap.size) W1 (fun pre W' h' j hj => (h'.below.cell (p := ⟨b, off + j, none⟩) (hbl (by rintro rfl; simp at hj))).trans (hc j hj))
      (fun pre x W hJ hl => AnyZI.apYield { L with } F (n - 1 - 1) w fn hfn _ w.heap.size (W0.heap.size + 1) W0.heap.size (by omega) (by omega) (by omega) (Nat.le_refl _) (by omega) zs.length hmax (by omega) pre x W hJ hl) ((hb1.cell (p := ⟨Bs, B0, none⟩) hBl).trans hBs) hM).mono ?_
    rintro e W2 ⟨⟨v0, rfl⟩, h2⟩
    obtain ⟨v, hv, hrow, hnil⟩ := h2.box
    have hend := run_endLoop (P := Tryz.prog) h2.L (by simp [AnyZI.apRec])
    obtain ⟨W3, hW3⟩ : ∃ W3, W2.putObj (W0.heap.size + 1) (.loop { AnyZI.apRec seq_ren fn sv w.heap.size W0.heap.size .ready none with state := .exhausted }) = W3 := ⟨_, rfl⟩
    rw [hW3] at hend
    have hg3 : W2.grownBy W3 (some (W0.heap.size + 1)) := by rw [← hW3]; exact grownBy_putObj_a _ _ _
    have hv3 : W3.heap[w.heap.size]? = some (.cells #[v] 22 (0, 0)) := by rw [← hW3]; exact (World.putObj_heap_other (by omega)).trans hv
    have hK3 : W3.heap[W0.heap.size]? = some (.deferred (some [])) := by rw [← hW3]; exact (World.putObj_heap_other (by omega)).trans h2.K
    have hrow3 := hrow.kept hg3 (ownsRow_ne_a hrow h2.L (fun cur e => by first | cases e | exact hne (Obj.cells.inj e).2.1))
    have hb3 : Below w.heap.size w W3 := h2.below.grown hg3 h2.below.size (fun k e => by cases e; omega)
    obtain ⟨hc3, hf3⟩ := cell_of_box_a hv3
    clear hW3
    refine ⟨none, W3, hend, ?_⟩
    gi_wp2
    rw [← hs0]
    refine ⟨by simp, .inl ⟨_, _, rfl, run_takeDeferred hK3, ?_⟩⟩
    exact ⟨_, results_tmp rfl _ _ _, v, rfl, hrow3.kept (grownBy_putObj_a _ _ _) (ownsRow_ne_a hrow3 hK3 (fun cur e => by first | cases e | exact hne (Obj.cells.inj e).2.1)), hb3.grown (grownBy_putObj_a _ _ _) hb3.size (fun k e => by cases e; omega)⟩
end Go.Proofs.YtlhjelookgjmpaaGreat
namespace Go.Proofs.YtlhjelookgjmpaaGreat
open Go
theorem After.refl {n : Nat} {T : Nat → Nat} {M : GM} {w : World} (htok : TOk T w) (hdom : ∀ k, n ≤ k → M k = none) : After n T M w T M w :=
  ⟨htok, fun _ _ _ => rfl, fun _ _ => rfl, rfl, rfl, rfl, Nat.le_refl _, fun _ _ _ => rfl, ⟨fun _ => Nat.le_refl _, fun _ cells _ fz h => ⟨cells, fz, h, rfl, fun _ _ => rfl⟩⟩, fun k g b hk h => by rw [hdom k hk] at h; cases h⟩
theorem arr1 {vs : Array Value} (h : vs.size = 1) : vs = #[vs.getD 0 undef] := by
  apply Array.ext
  · simpa using h
  · intro i h1 h2
    have : i = 0 := by simp at h2; omega
    subst this
    simp [Array.getD, h1]
theorem sort_ok (zs : List Int) (hl : zs.length < 4611686018427387904) :
    ACalls Tryz.prog nslices_Sort_Lint_int [.rs 0 0 zs.length] [{ s := 1, rows := iRows zs }] (.tup []) ([{ s := 1, rows := iRows (zs.mergeSort fun x y => decide (x ≤ y)) }].map some) := by
  by_cases h0 : zs = []
  · subst h0
    refine ⟨sslices_Sort_Lint_int.body, by simp, fun T M w vs htok hhs hdom hrep => ?_⟩
    obtain ⟨hsz, hr⟩ := hrep
    have hr0 := hr 0 (by simp)
    simp only [List.getD_cons_zero] at hr0
    rw [arr1 hsz]
    generalize vs.getD 0 undef = v at hr0
    cases hr0 with
    | rs _ _ _ _ cap a g hg hlc hn hb =>
    refine (Any.slices_Sort_int_none Tryz.lays189 a cap w).mono ?_
    rintro e w' ⟨rfl, rfl⟩
    exact ⟨_, T, M, rfl, .tup M [] #[] rfl (fun i hi => by simp at hi), by rw [hpOut_some]; simpa using hhs, After.refl htok hdom⟩
  · exact sort_some zs h0 hl
end Go.Proofs.YtlhjelookgjmpaaGreat
namespace Go.Proofs.YtlhjelookgjmpaaGreat
open Go
theorem take_map_len {α β : Type} (f : α → β) (l : List α) : List.take l.length (List.map f l) = List.map f l := List.take_of_length_le (by simp)
def emptyG : Gr := ⟨0, [], []⟩
def plusE (g : Gr) (e : Ed) : Gr := ⟨g.size, g.edges.take (idxE g.edges ⟨e.f, e.t, 0⟩) ++ e :: g.edges.drop (idxE g.edges ⟨e.f, e.t, 0⟩), g.gone⟩
open Classical in
noncomputable def withR (g : Gr) (e : Ed) : Gr × Int :=
  if ¬ GrOk g then (emptyG, 14) else if ¬ Fits g e then (emptyG, 4) else if ¬ (1 ≤ e.v ∧ e.v ≤ 3) then (emptyG, 2)
  else if AtE g.edges (idxE g.edges ⟨e.f, e.t, 0⟩) e.f e.t then (emptyG, 19) else if g.edges.length = 500 then (emptyG, 3) else (plusE g e, 0)
open Classical in
theorem ref11_With_ok (g : Gr) (e : Ed) (hl : g.edges.length * 24 ≤ 140737488355328) (hl2 : g.gone.length * 8 ≤ 140737488355328) : ACalls Tryz.prog nref11_With [eG g, eE e] [] (.tup [eG (withR g e).1, .I (withR g e).2]) [] := by
  refine sref11_With.acalls (Nat.le_of_ble_eq_true rfl) (Nat.le_of_ble_eq_true rfl) (Nat.le_refl _) ?_
  show awp _ 0 _ _ ⟨103, [(0, eG g), (1, eE e)], [], 16⟩
  refine awp_regc ⟨103, [(2, .pv (gC g)), (3, .pv (eC e)), (4, .pt 32 0 0)], [(32, some ⟨3, [[.I 0, .nilS, .nilS]], 0⟩)], 40⟩ rfl ?_ ?_
  · simp
    exact Le.var1 32 [16, 24] rfl rfl (Nat.le_of_ble_eq_true rfl) (by decide) rfl (by simp) (by simp) (by simp)
  refine awp_seq ?_
  refine awp_seq ?_
  refine awp_run (s := ?s1) rfl ?o1 ?q1
  case o1 => simp; refine call0e (ref11_Check_ok g (by omega) (by omega)) rfl ?_; simp; rfl
  refine awp_cond _ rfl (fun h2 => ?_) fun h2 => ?_
  · have hg : ¬ GrOk g := by
      intro hg
      simp [hg] at h2
    refine awp_seq ?_
    refine awp_run (s := ?s3) rfl ?o3 ?q3
    case o3 => simp; rfl
    refine awp_ret ?_
    refine ⟨.inr rfl, ?_⟩
    show RetOk [(4, some (true, 3)), (5, none)] 0 _ _ _
    refine RetOk.out (vs := [.agg [.I 0, .nilS, .nilS], .I 14]) [] [] (by simp) (by simp) (by simp) ?_ (by simp)
    have hr : withR g e = (emptyG, 14) := by grind [withR]
    simp [hr, emptyG]
    exact wkT2 (wkA3 (.refl _) (.nil _ _) (.nil _ _)) (.refl _)
  have hg : GrOk g := by
    rcases Classical.em (GrOk g) with h | h
    · exact h
    · simp [h] at h2
  refine awp_skip ?_
  refine awp_seq ?_
  refine awp_run (s := ?s4) rfl ?o4 ?q4
  case o4 => simp; refine call0e (ref11_index_ok g _ _ (by omega)) rfl ?_; simp; rfl
  refine awp_seq ?_
  refine awp_block ?_
  refine awp_regc ⟨103, [(2, .pv (gC g)), (3, .pv (eC e)), (4, .pt 32 0 0), (6, .I (idxE g.edges ⟨e.f, e.t, 0⟩)), (7, .B (decide (AtE g.edges (idxE g.edges ⟨e.f, e.t, 0⟩) e.f e.t))), (22, .B (decide (¬ Fits g e)))], [(32, some ⟨3, [[.I 0, .nilS, .nilS]], 0⟩)], 40⟩ rfl ?_ ?_
  · simp
    repeat' first
      | (refine callf nref11_Has rfl ?_; refine call0e (has_ok _ _ (by omega)) rfl ?_; simp)
      | (refine gcase (fun hb => ?_) (fun hb => ?_) <;> (try rw [hb]) <;> (try simp at hb) <;> simp [*])
    all_goals exact Le.var1 32 [] rfl rfl (Nat.le_of_ble_eq_true rfl) (by decide) rfl (by simp) (by simp) (by simp <;> exact wkB (by (try simp at *); grind [Fits]))
  refine awp_cond _ rfl (fun h5 => ?_) fun h5 => ?_
  · try simp at h5
    refine awp_seq ?_
    refine awp_run (s := ?s6) rfl ?o6 ?q6
    case o6 => simp; rfl
    refine awp_ret ?_
    refine ⟨.inr rfl, ?_⟩
    show RetOk [(4, some (true, 3)), (5, none)] 0 _ _ _
    refine RetOk.out (vs := [.agg [.I 0, .nilS, .nilS], .I 4]) [] [] (by simp) (by simp) (by simp) ?_ (by simp)
    have hr : withR g e = (emptyG, 4) := by grind [withR]
    simp [hr, emptyG]
    exact wkT2 (wkA3 (.refl _) (.nil _ _) (.nil _ _)) (.refl _)
  try simp at h5
  refine awp_regc ⟨103, [(2, .pv (gC g)), (3, .pv (eC e)), (4, .pt 32 0 0), (6, .I (idxE g.edges ⟨e.f, e.t, 0⟩)), (7, .B (decide (AtE g.edges (idxE g.edges ⟨e.f, e.t, 0⟩) e.f e.t))), (67, .B (decide (¬ (1 ≤ e.v ∧ e.v ≤ 3))))], [(32, some ⟨3, [[.I 0, .nilS, .nilS]], 0⟩)], 40⟩ rfl ?_ ?_
  · simp
    repeat' first
      | (refine gcase (fun hb => ?_) (fun hb => ?_) <;> (try rw [hb]) <;> (try simp at hb) <;> simp [*])
    all_goals exact Le.var1 32 [] rfl rfl (Nat.le_of_ble_eq_true rfl) (by decide) rfl (by simp) (by simp) (by simp <;> exact wkB (by (try simp at *); grind [Fits]))
  refine awp_cond _ rfl (fun h7 => ?_) fun h7 => ?_
  · try simp at h7
    refine awp_seq ?_
    refine awp_run (s := ?s8) rfl ?o8 ?q8
    case o8 => simp; rfl
    refine awp_ret ?_
    refine ⟨.inr rfl, ?_⟩
    show RetOk [(4, some (true, 3)), (5, none)] 0 _ _ _
    refine RetOk.out (vs := [.agg [.I 0, .nilS, .nilS], .I 2]) [] [] (by simp) (by simp) (by simp) ?_ (by simp)
    have hr : withR g e = (emptyG, 2) := by grind [withR]
    simp [hr, emptyG]
    exact wkT2 (wkA3 (.refl _) (.nil _ _) (.nil _ _)) (.refl _)
  try simp at h7
  refine awp_seq ?_
  refine awp_run (s := ?s9) rfl ?o9 ?q9
  case o9 => simp; rfl
  refine awp_cond _ rfl (fun h10 => ?_) fun h10 => ?_
  · try simp at h10
    refine awp_seq ?_
    refine awp_run (s := ?s11) rfl ?o11 ?q11
    case o11 => simp; rfl
    refine awp_ret ?_
    refine ⟨.inr rfl, ?_⟩
    show RetOk [(4, some (true, 3)), (5, none)] 0 _ _ _
    refine RetOk.out (vs := [.agg [.I 0, .nilS, .nilS], .I 19]) [] [] (by simp) (by simp) (by simp) ?_ (by simp)
    have hr : withR g e = (emptyG, 19) := by grind [withR]
    simp [hr, emptyG]
    exact wkT2 (wkA3 (.refl _) (.nil _ _) (.nil _ _)) (.refl _)
  try simp at h10
  refine awp_seq ?_
  refine awp_run (s := ?s12) rfl ?o12 ?q12
  case o12 => simp; rfl
  refine awp_cond _ rfl (fun h13 => ?_) fun h13 => ?_
  · try simp at h13
    refine awp_seq ?_
    refine awp_run (s := ?s14) rfl ?o14 ?q14
    case o14 => simp; rfl
    refine awp_ret ?_
    refine ⟨.inr rfl, ?_⟩
    show RetOk [(4, some (true, 3)), (5, none)] 0 _ _ _
    refine RetOk.out (vs := [.agg [.I 0, .nilS, .nilS], .I 3]) [] [] (by simp) (by simp) (by simp) ?_ (by simp)
    have hr : withR g e = (emptyG, 3) := by grind [withR]
    simp [hr, emptyG]
    exact wkT2 (wkA3 (.refl _) (.nil _ _) (.nil _ _)) (.refl _)
  try simp at h13
  refine awp_skip ?_
  have hle := idxE_le g.edges ⟨e.f, e.t, 0⟩
  refine awp_seq ?_
  refine awp_run (s := ?s20) rfl ?o20 ?q20
  case o20 => simp; refine callN2 (ref11_Copy_ok g hl hl2) rfl ?_; simp [Function.comp_def]; rfl
  have h500 : g.edges.length ≤ 500 := hg.1.2.2.1
  have hmin : min (idxE g.edges ⟨e.f, e.t, 0⟩) g.edges.length = idxE g.edges ⟨e.f, e.t, 0⟩ := Nat.min_eq_left hle
  have hr : withR g e = (plusE g e, 0) := by grind [withR]
  rw [hr]
  unfold plusE
  generalize idxE g.edges ⟨e.f, e.t, 0⟩ = k at *
  have htk : List.take (k + 1) (List.take k (List.map (fun e : Ed => [AV.I e.f, AV.I e.t, AV.I e.v]) g.edges) ++ [[AV.I e.f, AV.I e.t, AV.I e.v]]) = List.take k (List.map (fun e : Ed => [AV.I e.f, AV.I e.t, AV.I e.v]) g.edges) ++ [[AV.I e.f, AV.I e.t, AV.I e.v]] := List.take_of_length_le (by simp; exact Nat.min_le_left _ _)
  obtain ⟨E, hE⟩ : ∃ E, E = g.edges.take k ++ e :: g.edges.drop k := ⟨_, rfl⟩
  have hEl : k + 1 + (g.edges.length - k) = E.length := by subst hE; simp; omega
  have hrows : List.take k (List.map (fun e : Ed => [AV.I e.f, AV.I e.t, AV.I e.v]) g.edges) ++ [AV.I e.f, AV.I e.t, AV.I e.v] :: List.drop k (List.map (fun e : Ed => [AV.I e.f, AV.I e.t, AV.I e.v]) g.edges) = E.map fun e : Ed => [AV.I e.f, AV.I e.t, AV.I e.v] := by subst hE; simp [List.map_take, List.map_drop]
  rw [← hE]
  refine awp_seq ?_
  refine awp_drun (s := ?s15) (tr := ?t15) rfl ?o15 ?r15 ?q15
  case o15 =>
    simp [hmin, hle, htk, hEl, hrows]
    repeat' apply And.intro
    all_goals first | omega | rfl
  case r15 => rfl
  refine awp_seq ?_
  refine awp_run (s := ?s16) rfl ?o16 ?q16
  case o16 => simp; rfl
  refine awp_ret ?_
  refine ⟨.inr rfl, ?_⟩
  show RetOk [(4, some (true, 3)), (5, none)] 0 _ _ _
  refine RetOk.out (vs := [.agg [.I g.size, .rs 224 0 E.length, .rs 105 0 g.gone.length], .I 0]) [] [224, 105] (by simp) (by simp) (by simp) ?_ (by simp)
  simp [Function.comp_def, take_map_len]
end Go.Proofs.YtlhjelookgjmpaaGreat
namespace Go.Proofs.YtlhjelookgjmpaaGreat
open Go
end Go.Proofs.YtlhjelookgjmpaaGreat
namespace Go.Proofs.YtlhjelookgjmpaaGreat
open Go
def outs (l : List Ed) (key : Int) : List Int := l.filterMap fun e => if e.f = key then some e.t else none
theorem outs_succ (l : List Ed) (key : Int) (k : Nat) (h : k < l.length) : outs (l.take (k + 1)) key = outs (l.take k) key ++ if l[k].f = key then [l[k].t] else [] := by
  unfold outs
  rw [← List.take_concat_get h, List.concat_eq_append, List.filterMap_append]
  congr 1
  by_cases hc : l[k].f = key <;> simp [hc]
theorem outs_le (l : List Ed) (key : Int) : (outs l key).length ≤ l.length := List.length_filterMap_le _ _
theorem graph_Out_ok (g : Gr) (key : Int) (hl : g.edges.length ≤ 1099511627776) : ACalls Tryz.prog ngraph_Out [eG g, .I key] [] (.rs 0 0 (outs g.edges key).length) [some ⟨1, ((outs g.edges key).mergeSort fun x y => decide (x ≤ y)).map fun n => [AV.I n], 0⟩] := by
  refine sgraph_Out.acalls (Nat.le_of_ble_eq_true rfl) (Nat.le_of_ble_eq_true rfl) (Nat.zero_le _) ?_
  show awp _ 0 _ _ ⟨28, [(0, eG g), (1, .I key)], [], 16⟩
  refine awp_seq ?_
  refine awp_run (s := ?s0) rfl ?o0 ?q0
  case o0 => simp; rfl
  refine awp_seq ?_
  refine awp_run (s := ?s1) rfl ?o1 ?q1
  case o1 => simp; rfl
  refine awp_seq ?_
  refine awp_seq ?_
  refine awp_run (s := ?s2) rfl ?o2 ?q2
  case o2 => simp; rfl
  refine awp_block ?_
  refine awp_loop (ι := Nat) (fun k => ⟨28, [(1, .I key), (5, .rs 16 0 (outs (g.edges.take k) key).length), (9, eEs g.edges), (10, .I g.edges.length), (11, .I k)], [(16, some ⟨1, (outs (g.edges.take k) key).map fun n => [AV.I n], 0⟩)], 24⟩) (fun k => k ≤ g.edges.length) (fun k => g.edges.length - k) (0) ?_ (Le.lst [] [] [(16, 1)] rfl (by simp) (by simp) (by simp) (by simp) (by simp) (by simp) (by simp) (by simp [Up, outs]) (by simp [outs])) ?_
  · simp
  rintro k hk
  have hol : (outs (g.edges.take k) key).length ≤ k := Nat.le_trans (outs_le _ _) (by simp; exact Nat.min_le_left _ _)
  refine awp_seq ?_
  refine awp_run (s := ?s3) rfl ?o3 ?q3
  case o3 => simp; rfl
  refine awp_seq ?_
  refine awp_cond _ rfl (fun h4 => ?_) fun h4 => ?_
  · try simp at h4
    have hw2 : IntKind.i64.wrap ((k : Int) + 1) = (k : Int) + 1 := w64 (by omega) (by omega)
    have hwp : 0 < k → IntKind.i64.wrap ((k : Int) - 1) = ((k - 1 : Nat) : Int) := fun h => by rw [w64 (by omega) (by omega)]; omega
    have hkp : k - 1 < g.edges.length := by omega
    refine awp_skip ?_
    refine awp_seq ?_
    refine awp_block ?_
    refine awp_regc ⟨28, [(1, .I key), (5, .rs 16 0 (outs (g.edges.take k) key).length), (7, .pv (eC g.edges[k])), (9, eEs g.edges), (10, .I g.edges.length), (11, .I k)], [(16, some ⟨1, (outs (g.edges.take k) key).map fun n => [AV.I n], 0⟩)], 24⟩ rfl ?_ ?_
    · simp [h4, hw2, hwp, hkp]
      exact Le.var1 16 [48] rfl rfl (Nat.le_of_ble_eq_true rfl) (by decide) rfl (by simp [Function.comp_def]) (by simp) (by simp [h4, hw2, hwp, hkp])
    refine awp_seq ?_
    refine awp_run (s := ?s5) rfl ?o5 ?q5
    case o5 => simp [h4, hw2, hwp, hkp]; rfl
    refine awp_cond _ rfl (fun h6 => ?_) fun h6 => ?_
    · try simp at h6
      refine awp_run (s := ?s7) rfl ?o7 ?q7
      case o7 =>
        simp [h4, hw2, hwp, hkp, List.replicate]
        refine ⟨by omega, by omega, ?_⟩
        rfl
      refine awp_run (s := ?s8) rfl ?o8 ?q8
      case o8 => simp [h4, hw2, hwp, hkp]; rfl
      have hs := outs_succ g.edges key k h4
      rw [if_pos h6] at hs
      refine ⟨k + 1, h4, by omega, Le.ren1 88 16 [] rfl rfl (Nat.le_of_ble_eq_true rfl) (by decide) rfl (by simp [hs, Function.comp_def, take_map_len]) (by simp) (by simp [hs, hw2])⟩
    try simp at h6
    refine awp_skip ?_
    refine awp_run (s := ?s9) rfl ?o9 ?q9
    case o9 => simp [h4, hw2, hwp, hkp]; rfl
    have hs := outs_succ g.edges key k h4
    rw [if_neg h6, List.append_nil] at hs
    refine ⟨k + 1, h4, by omega, Le.var1 16 [] rfl rfl (Nat.le_of_ble_eq_true rfl) (by decide) rfl (by simp [hs, Function.comp_def, take_map_len]) (by simp) (by simp [hs, hw2])⟩
  try simp at h4
  have hkl : k = g.edges.length := by omega
  subst hkl
  have hol2 := outs_le g.edges key
  refine awp_exit ?_
  refine hit ?_
  refine awp_seq ?_
  refine awp_run (s := ?s10) rfl ?o10 ?q10
  case o10 =>
    simp
    refine callM1 (i := 16) rfl (e' := ⟨1, iRows (outs g.edges key), 0⟩) (by simp [iRows, Function.comp_def]) (sort_ok (outs g.edges key) (by omega)) (by simp) (by simp) ?_
    simp [iRows, Function.comp_def]
    rfl
  refine awp_seq ?_
  refine awp_run (s := ?s11) rfl ?o11 ?q11
  case o11 => simp; rfl
  refine awp_ret ?_
  exact ⟨.inr rfl, RetOk.out [16] [] rfl (by simp) (by simp) (by simp) (by simp [Function.comp_def])⟩
end Go.Proofs.YtlhjelookgjmpaaGreat
namespace Go.Proofs.YtlhjelookgjmpaaGreat
open Go
@[simp] theorem conv_fn {ρ : List (Nat × Nat)} {sn : List Nat} {h : Nat → Option Ent} {n : Nat} {f : Fn} {a b : List AV} : conv ρ sn h (n + 1) (.fn f a b) = .fn f (a.map (conv ρ sn h n)) (b.map (conv ρ sn h n)) := (rfl)
end Go.Proofs.YtlhjelookgjmpaaGreat
namespace Go.Proofs.YtlhjelookgjmpaaGreat
open Go
end Go.Proofs.YtlhjelookgjmpaaGreat
namespace Go.Proofs.YtlhjelookgjmpaaGreat
open Go
def modI (n m : Int) : Int := if m < 1 then 0 else n % m
theorem tmod_emod {n m : Int} (hm : 0 < m) : n.tmod m % m = n % m := by
  have h := Int.mul_tdiv_add_tmod n m
  conv => rhs; rw [← h]
  rw [Int.add_comm, Int.add_mul_emod_self_left]
theorem tmod_range {n m : Int} (hm : 0 < m) : -m < n.tmod m ∧ n.tmod m < m := ⟨Int.lt_tmod_of_pos n hm, Int.tmod_lt_of_pos n hm⟩
def nextD (L : List Int) (a : Nat) (n : Int) : Int × Nat := if h : a < L.length then (modI L[a] n, a + 1) else (0, a)
abbrev dice (L : List Int) (a : Nat) : Ent := ⟨2, [[ints L, .I a]], 0⟩
theorem RetOk.k1 {rs : List (Nat × Option (Bool × Nat))} {st : St} {vs : List AV} {res : AV} {e : Ent} (h1 : resAll st rs = some vs) (hw : Wk (conv [(0, 0)] [] st.hp 4 (resV vs)) res) (he : (st.hp 0).map (convE [(0, 0)] [] st.hp 4) = some e) : RetOk rs 1 st res [some e] :=
  ⟨vs, h1, [], [], by decide, by simp, by simp, hw, by simpa using he⟩
theorem Mod_ok (n m : Int) (hm : m ≤ 9223372036854775807) : ACalls Tryz.prog nmade_Mod [.I n, .I m] [] (.I (modI n m)) [] := by
  refine smade_Mod.acalls (Nat.le_of_ble_eq_true rfl) (Nat.le_of_ble_eq_true rfl) (Nat.le_refl _) ?_
  show awp _ 0 _ _ ⟨16, [(0, .I n), (1, .I m)], [], 16⟩
  refine awp_seq ?_
  refine awp_run (s := ?s1) rfl ?o1 ?q1
  case o1 => simp; rfl
  refine awp_seq ?_
  refine awp_seq ?_
  refine awp_run (s := ?s2) rfl ?o2 ?q2
  case o2 => simp; rfl
  refine awp_cond _ rfl (fun h3 => ?_) fun h3 => ?_
  · try simp at h3
    refine awp_seq ?_
    refine awp_run (s := ?s4) rfl ?o4 ?q4
    case o4 => simp; rfl
    refine awp_ret ?_
    exact ⟨.inr rfl, RetOk.one (by simp [modI, h3])⟩
  try simp at h3
  have hm0 : m ≠ 0 := by omega
  have hlt : ¬ m < 1 := by omega
  obtain ⟨t1, t2⟩ := tmod_range (n := n) (m := m) (by omega)
  have te := tmod_emod (n := n) (m := m) (by omega)
  refine awp_skip ?_
  refine awp_seq ?_
  refine awp_run (s := ?s5) rfl ?o5 ?q5
  case o5 => simp [hm0]; rfl
  refine awp_seq ?_
  refine awp_seq ?_
  refine awp_run (s := ?s6) rfl ?o6 ?q6
  case o6 => simp; rfl
  refine awp_cond _ rfl (fun h7 => ?_) fun h7 => ?_
  · try simp at h7
    have hw : IntKind.i64.wrap (n.tmod m + m) = n.tmod m + m := w64 (by omega) (by omega)
    have hr : n % m = n.tmod m + m := by rw [← te, ← Int.add_emod_right, Int.emod_eq_of_lt (by omega) (by omega)]
    refine awp_run (s := ?s8) rfl ?o8 ?q8
    case o8 => simp [hw]; rfl
    refine awp_seq ?_
    refine awp_run (s := ?s9) rfl ?o9 ?q9
    case o9 => simp; rfl
    refine awp_ret ?_
    exact ⟨.inr rfl, RetOk.one (by simp [modI, hlt, hr])⟩
  try simp at h7
  have hr : n % m = n.tmod m := by rw [← te, Int.emod_eq_of_lt (by omega) (by omega)]
  refine awp_skip ?_
  refine awp_seq ?_
  refine awp_run (s := ?s10) rfl ?o10 ?q10
  case o10 => simp; rfl
  refine awp_ret ?_
  exact ⟨.inr rfl, RetOk.one (by simp [modI, hlt, hr])⟩
theorem Roll_ok (L : List Int) : ACalls Tryz.prog nmade_Roll [ints L] [] (.pt 0 0 0) [some (dice L 0)] := by
  refine smade_Roll.acalls (Nat.le_of_ble_eq_true rfl) (Nat.le_of_ble_eq_true rfl) (Nat.zero_le _) ?_
  show awp _ 0 _ _ ⟨6, [(0, ints L)], [], 16⟩
  refine awp_seq ?_
  refine awp_run (s := ?s1) rfl ?o1 ?q1
  case o1 => simp; rfl
  refine awp_seq ?_
  refine awp_run (s := ?s2) rfl ?o2 ?q2
  case o2 => simp; rfl
  refine awp_ret ?_
  exact ⟨.inr rfl, RetOk.out [40] [] rfl (by simp) (by simp) (by simp) (by simp)⟩
theorem Next_ok (L : List Int) (a : Nat) (n : Int) (hl : L.length ≤ 1099511627776) (ha : a ≤ L.length) (hn : n ≤ 9223372036854775807) : ACalls Tryz.prog nmade_Dice_Next [.pt 0 0 0, .I n] [dice L a] (.I (nextD L a n).1) [some (dice L (nextD L a n).2)] := by
  refine smade_Dice_Next.acalls (Nat.le_of_ble_eq_true rfl) (Nat.le_of_ble_eq_true rfl) (Nat.le_refl _) ?_
  show awp _ 1 _ _ ⟨35, [(0, .pt 0 0 0), (1, .I n)], [(0, some (dice L a))], 16⟩
  refine awp_seq ?_
  refine awp_run (s := ?s1) rfl ?o1 ?q1
  case o1 => simp; rfl
  refine awp_seq ?_
  refine awp_seq ?_
  refine awp_drun (s := ?s2) (tr := ?t2) rfl ?o2 ?r2 ?q2
  case o2 => simp; constructor <;> rfl
  case r2 => rfl
  refine awp_cond _ rfl (fun h3 => ?_) fun h3 => ?_
  · try simp at h3
    refine awp_seq ?_
    refine awp_run (s := ?s4) rfl ?o4 ?q4
    case o4 => simp; rfl
    refine awp_ret ?_
    have hr : nextD L a n = (0, a) := by unfold nextD; rw [dif_neg (by omega)]
    rw [hr]
    exact ⟨.inr rfl, RetOk.k1 rfl (by simp) (by simp [Function.comp_def])⟩
  try simp at h3
  have hw : IntKind.i64.wrap ((a : Int) + 1) = (a : Int) + 1 := w64 (by omega) (by omega)
  have hw0 : IntKind.i64.wrap (a : Int) = (a : Int) := w64 (by omega) (by omega)
  refine awp_skip ?_
  refine awp_seq ?_
  refine awp_run (s := ?s5) rfl ?o5 ?q5
  case o5 => simp [hw]; rfl
  refine awp_seq ?_
  refine awp_drun (s := ?s6) (tr := ?t6) rfl ?o6 ?r6 ?q6
  case o6 => simp [hw0, h3]; refine call0e (Mod_ok _ _ hn) rfl ?_; simp; constructor <;> rfl
  case r6 => rfl
  refine awp_ret ?_
  have hr : nextD L a n = (modI L[a] n, a + 1) := by unfold nextD; rw [dif_pos h3]
  rw [hr]
  exact ⟨.inr rfl, RetOk.k1 rfl (by simp) (by simp [Function.comp_def])⟩
end Go.Proofs.YtlhjelookgjmpaaGreat
namespace Go.Proofs.YtlhjelookgjmpaaGreat
open Go
theorem modI_lt {n m : Int} (hm : 0 < m) : 0 ≤ modI n m ∧ modI n m < m := by
  unfold modI
  rw [if_neg (by omega)]
  exact ⟨Int.emod_nonneg _ (by omega), Int.emod_lt_of_pos _ hm⟩
theorem nextD_lt {L : List Int} {a : Nat} {n : Int} (hn : 0 < n) : 0 ≤ (nextD L a n).1 ∧ (nextD L a n).1 < n := by
  unfold nextD
  split
  · exact modI_lt hn
  · exact ⟨Int.le_refl _, hn⟩
theorem nextD_le {L : List Int} {a : Nat} {n : Int} (ha : a ≤ L.length) : (nextD L a n).2 ≤ L.length := by
  unfold nextD
  split
  · simp only; omega
  · exact ha
def ofD (L : List Int) (a : Nat) (l : List Int) : Int := l.getD (nextD L a l.length).1.toNat 0
theorem One_ok (L : List Int) (a : Nat) (n : Int) (hl : L.length ≤ 1099511627776) (ha : a ≤ L.length) (hn0 : 0 ≤ n) (hn : n ≤ 9223372036854775807) : ACalls Tryz.prog nmade_Dice_One [.pt 0 0 0, .I n] [dice L a] (.B (decide ((nextD L a n).1 = n - 1))) [some (dice L (nextD L a n).2)] := by
  refine smade_Dice_One.acalls (Nat.le_of_ble_eq_true rfl) (Nat.le_of_ble_eq_true rfl) (Nat.le_refl _) ?_
  show awp _ 1 _ _ ⟨11, [(0, .pt 0 0 0), (1, .I n)], [(0, some (dice L a))], 16⟩
  have hw : IntKind.i64.wrap (n - 1) = n - 1 := w64 (by omega) (by omega)
  refine awp_seq ?_
  refine awp_run (s := ?s1) rfl ?o1 ?q1
  case o1 => simp; rfl
  refine awp_seq ?_
  refine awp_run (s := ?s2) rfl ?o2 ?q2
  case o2 =>
    simp
    refine callM1 (i := 0) rfl (e' := dice L a) (by simp [Function.comp_def]) (Next_ok L a n hl ha hn) (by simp) (by simp) ?_
    simp [hw, Function.comp_def]
    rfl
  refine awp_ret ?_
  exact ⟨.inr rfl, RetOk.k1 rfl (by simp <;> exact wkB rfl) (by simp [Function.comp_def])⟩
theorem Of_ok (L : List Int) (a : Nat) (l : List Int) (hl : L.length ≤ 1099511627776) (ha : a ≤ L.length) (h0 : 0 < l.length) (hl2 : l.length ≤ 1099511627776) : ACalls Tryz.prog nmade_Dice_Of [.pt 0 0 0, ints l] [dice L a] (.I (ofD L a l)) [some (dice L (nextD L a l.length).2)] := by
  refine smade_Dice_Of.acalls (Nat.le_of_ble_eq_true rfl) (Nat.le_of_ble_eq_true rfl) (Nat.le_refl _) ?_
  show awp _ 1 _ _ ⟨12, [(0, .pt 0 0 0), (1, ints l)], [(0, some (dice L a))], 16⟩
  obtain ⟨q, hq, hql⟩ : ∃ q : Nat, (nextD L a l.length).1 = q ∧ q < l.length := by
    have := nextD_lt (L := L) (a := a) (n := l.length) (by omega)
    exact ⟨(nextD L a l.length).1.toNat, by omega, by omega⟩
  have ho : ofD L a l = l[q] := by unfold ofD; rw [hq]; simp [hql]
  refine awp_seq ?_
  refine awp_run (s := ?s1) rfl ?o1 ?q1
  case o1 => simp; rfl
  refine awp_seq ?_
  refine awp_run (s := ?s2) rfl ?o2 ?q2
  case o2 =>
    simp
    refine callM1 (i := 0) rfl (e' := dice L a) (by simp [Function.comp_def]) (Next_ok L a l.length hl ha (by omega)) (by simp) (by simp) ?_
    simp [hq, hql, Function.comp_def]
    rfl
  refine awp_ret ?_
  rw [ho]
  exact ⟨.inr rfl, RetOk.k1 rfl (by simp) (by simp [Function.comp_def])⟩
end Go.Proofs.YtlhjelookgjmpaaGreat
namespace Go.Proofs.YtlhjelookgjmpaaGreat
open Go
section
variable {P : Program} {np id : Nat} {h : Nat → Option Ent} {K : AV → List Nat → List (Nat × Option Ent) → Prop} {s i off len c k l m : Nat}
@[simp] theorem k_slkl : aK P np id (.slc s true false false) [.rk i off len c, .sc (.int .i64 (k : Int))] h K = (k ≤ len ∧ len ≤ c ∧ (∃ e, h i = some e ∧ e.s = s) ∧ K (.rk i (off + k) (len - k) (c - k)) [i] []) := by
  rw [k_slc]
  refine propext ⟨?_, ?_⟩
  · rintro ⟨l, r, m, n, h1, h2, h4, h5, h6, h7, h3, h10, h11, h8, h9⟩
    obtain rfl := h6 rfl
    simp at h4 h1
    subst h1
    have : k = l := by omega
    subst this
    obtain rfl := h11 rfl
    exact ⟨h2, h3, h8, h9⟩
  · rintro ⟨h1, h2, h3, h4⟩
    exact ⟨k, len, c, len, rfl, h1, by simp, (fun h => by cases h), fun _ => rfl, (fun h => by cases h), h2, Nat.le_refl _, fun _ => rfl, h3, h4⟩
@[simp] theorem k_slkh : aK P np id (.slc s false true false) [.rk i off len c, .sc (.int .i64 (k : Int))] h K = (k ≤ c ∧ (∃ e, h i = some e ∧ e.s = s) ∧ K (.rk i off k c) [i] []) := by
  rw [k_slc]
  refine propext ⟨?_, ?_⟩
  · rintro ⟨l, r, m, n, h1, h2, h4, h5, h6, h7, h3, h10, h11, h8, h9⟩
    obtain rfl := h5 rfl
    simp at h4 h1
    have : k = r := by omega
    subst this
    obtain rfl := h11 rfl
    exact ⟨h3, h8, by simpa using h9⟩
  · rintro ⟨h1, h3, h4⟩
    exact ⟨0, k, c, len, rfl, Nat.zero_le _, by simp, fun _ => rfl, (fun h => by cases h), (fun h => by cases h), h1, Nat.le_refl _, fun _ => rfl, h3, by simpa using h4⟩
@[simp] theorem k_slklh : aK P np id (.slc s true true false) [.rk i off len c, .sc (.int .i64 (l : Int)), .sc (.int .i64 (k : Int))] h K = (l ≤ k ∧ k ≤ c ∧ (∃ e, h i = some e ∧ e.s = s) ∧ K (.rk i (off + l) (k - l) (c - l)) [i] []) := by
  rw [k_slc]
  refine propext ⟨?_, ?_⟩
  · rintro ⟨l', r, m, n, h1, h2, h4, h5, h6, h7, h3, h10, h11, h8, h9⟩
    simp at h4 h1
    have : k = r := by omega
    subst this
    have : l = l' := by omega
    subst this
    obtain rfl := h11 rfl
    exact ⟨h2, h3, h8, h9⟩
  · rintro ⟨h1, h2, h3, h4⟩
    exact ⟨l, k, c, len, rfl, h1, by simp, (fun h => by cases h), (fun h => by cases h), (fun h => by cases h), h2, Nat.le_refl _, fun _ => rfl, h3, h4⟩
@[simp] theorem k_slkm : aK P np id (.slc s true true true) [.rk i off len c, .sc (.int .i64 (l : Int)), .sc (.int .i64 (k : Int)), .sc (.int .i64 (m : Int))] h K = (l ≤ k ∧ k ≤ m ∧ m ≤ c ∧ (∃ e, h i = some e ∧ e.s = s) ∧ K (.rk i (off + l) (k - l) (m - l)) [i] []) := by
  rw [k_slc]
  refine propext ⟨?_, ?_⟩
  · rintro ⟨l', r, m', n, h1, h2, h4, h5, h6, h7, h3, h10, h11, h8, h9⟩
    simp at h4 h1
    have : k = r := by omega
    subst this
    have : l = l' := by omega
    subst this
    have : m = m' := by omega
    subst this
    exact ⟨h2, h3, h10, h8, h9⟩
  · rintro ⟨h1, h2, h3, h4, h5⟩
    exact ⟨l, k, m, len, rfl, h1, by simp, (fun h => by cases h), (fun h => by cases h), (fun _ => rfl), h2, h3, (fun h => by cases h), h4, h5⟩
@[simp] theorem k_slrl : aK P np id (.slc s true false false) [.rs i off len, .sc (.int .i64 (k : Int))] h K = (k ≤ len ∧ (∃ e, h i = some e ∧ e.s = s) ∧ K (.rs i (off + k) (len - k)) [i] []) := by
  rw [k_slc]
  refine propext ⟨?_, ?_⟩
  · rintro ⟨l, r, m, n, h1, h2, h4, h5, h6, h7, h3, h10, h8, h9⟩
    obtain rfl := h6 rfl
    simp at h4 h1
    subst h1
    have : k = l := by omega
    subst this
    exact ⟨h2, h8, h9⟩
  · rintro ⟨h1, h3, h4⟩
    exact ⟨k, len, 0, len, rfl, h1, by simp, (fun h => by cases h), fun _ => rfl, (fun h => by cases h), Nat.le_refl _, rfl, h3, h4⟩
@[simp] theorem k_slrh : aK P np id (.slc s false true false) [.rs i off len, .sc (.int .i64 (k : Int))] h K = (k ≤ len ∧ (∃ e, h i = some e ∧ e.s = s) ∧ K (.rs i off k) [i] []) := by
  rw [k_slc]
  refine propext ⟨?_, ?_⟩
  · rintro ⟨l, r, m, n, h1, h2, h4, h5, h6, h7, h3, h10, h8, h9⟩
    obtain rfl := h5 rfl
    simp at h4 h1
    have : k = r := by omega
    subst this
    exact ⟨by omega, h8, by simpa using h9⟩
  · rintro ⟨h1, h3, h4⟩
    exact ⟨0, k, 0, len, rfl, Nat.zero_le _, by simp, fun _ => rfl, (fun h => by cases h), (fun h => by cases h), h1, rfl, h3, by simpa using h4⟩
end
theorem Le.keep {np : Nat} {st st' : St} (hsz : st'.sz = st.sz) (hn : st.n ≤ st'.n) (ht : ∀ p ∈ st'.t, st.get p.1 = p.2) (hh : ∀ p ∈ st'.h, ∀ e, p.2 = some e → st.hp p.1 = some e) : Le np st st' := by
  intro T0 M0 w0 T M a w ok hnp
  have hp : ∀ id e, st'.hp id = some e → st.hp id = some e := by
    intro id e he
    unfold St.hp at he
    cases hl : lkp st'.h id with
    | none => rw [hl] at he; cases he
    | some v =>
      rw [hl] at he
      exact hh _ (lkp_mem hl) e he
  refine ⟨T, M, ⟨ok.sz.trans hsz.symm, ok.df, fun i => ?_, ⟨fun id e he => ok.hs.ent id e (hp id e he), fun id id' e e' g g' b h1 h2 => ok.hs.inj id id' e e' g g' b (hp _ _ h1) (hp _ _ h2)⟩, fun id g hg => Nat.lt_of_lt_of_le (ok.dom id g hg) hn, ok.after⟩, Nat.le_trans hnp hn⟩
  unfold St.get at *
  cases hl : lkp st'.t i with
  | none => exact .dead _ _
  | some v =>
    have := ht _ (lkp_mem hl)
    simp only at this
    show Rep T w M v _
    rw [← this]
    exact ok.tm i
theorem RetOk.m1 {rs : List (Nat × Option (Bool × Nat))} {st : St} {vs : List AV} {res : AV} {e : Ent} (i : Nat) (hi : 1 ≤ i) (h1 : resAll st rs = some vs) (hw : Wk (conv [(0, 0), (i, 1)] [] st.hp 4 (resV vs)) res) (h0 : st.hp 0 = none) (he : (st.hp i).map (convE [(0, 0), (i, 1)] [] st.hp 4) = some e) : RetOk rs 1 st res [none, some e] :=
  ⟨vs, h1, [i], [], by simp [List.range, List.range.loop]; omega, by simpa using hi, by simp, by simpa [List.range, List.range.loop] using hw, by simpa [List.range, List.range.loop, h0] using he⟩
end Go.Proofs.YtlhjelookgjmpaaGreat
namespace Go.Proofs.YtlhjelookgjmpaaGreat
open Go
end Go.Proofs.YtlhjelookgjmpaaGreat
namespace Go.Proofs.YtlhjelookgjmpaaGreat
open Go
theorem GrOk.lt {g : Gr} (h : GrOk g) : ∀ (j i : Nat) (hi : i < g.edges.length) (hj : j < g.edges.length), i < j → Bef g.edges[i] g.edges[j]
  | 0, _, _, _, h0 => by omega
  | j + 1, i, hi, hj, hij => by
    have h1 : Bef g.edges[j] g.edges[j + 1] := cmpE_lt.1 ((h.2 (j + 1) hj).2.2.2 (by omega))
    rcases Nat.lt_or_ge i j with h2 | h2
    · have h3 := GrOk.lt h j i hi (by omega) h2
      unfold Bef at *
      omega
    · obtain rfl : i = j := by omega
      exact h1
theorem GrOk.mono {g : Gr} (h : GrOk g) (e : Ed) : ∀ (i j : Nat) (hi : i < g.edges.length) (hj : j < g.edges.length), i ≤ j → Bef g.edges[j] e → Bef g.edges[i] e := by
  intro i j hi hj hij hb
  rcases Nat.lt_or_ge i j with h2 | h2
  · have h3 := h.lt j i hi hj h2
    unfold Bef at *
    omega
  · obtain rfl : i = j := by omega
    exact hb
section
variable {P : Program} {np id : Nat} {h : Nat → Option Ent} {K : AV → List Nat → List (Nat × Option Ent) → Prop} {f : FuncId} {first capt args args' : List AV} {res : AV}
theorem callM1s {i j : Nat} {e e' ej : Ent} {hs' : List (Option Ent)} (hij : j ≠ i) (hnp : np ≤ j) (hi : h i = some e) (hj : h j = some ej) (hee : convE [(i, 0)] [j] h 4 e = e') (hc : ACalls P f args' [e'] res hs') (h8 : hs'.length ≤ 9) (he : (first ++ args ++ capt).map (conv [(i, 0)] [j] h 4) = args')
    (hk : K (conv (swp [i] id) [] (fun _ => none) 4 res) [i, j] ((hs'.zipIdx.map fun (e, k) => ((i :: (List.range 8).map (id + ·)).getD k 0, e.map (convE (swp [i] id) [] (fun _ => none) 4))) ++ [(j, some { ej with ro := ej.rows.length })])) : aK P np id .call (.fn (.func f) first capt :: args) h K :=
  ⟨[i], [j], true, args', [e'], res, hs', by simp, by simpa using hij, by simpa using hnp, by rw [show [i].zipIdx = [(i, 0)] from rfl, he]; exact wkL_refl _, by rw [show [i].zipIdx = [(i, 0)] from rfl]; simpa [hi] using hee, hc, by simpa using h8, .inl rfl, by simpa [swp, hj] using hk⟩
end
end Go.Proofs.YtlhjelookgjmpaaGreat
namespace Go.Proofs.YtlhjelookgjmpaaGreat
open Go
theorem idxE_bef {l : List Ed} {e : Ed} {i : Nat} (h : i < idxE l e) (hi : i < l.length) : Bef l[i] e := by
  have := List.not_of_lt_findIdx h
  simpa using this
theorem idxE_not {l : List Ed} {e : Ed} (h : idxE l e < l.length) : ¬ Bef l[idxE l e] e := by
  have h1 : l.findIdx (fun x => !decide (Bef x e)) < l.length := h
  have := List.findIdx_getElem (w := h1)
  intro hb
  have h2 : decide (Bef l[l.findIdx (fun x => !decide (Bef x e))] e) = true := decide_eq_true hb
  simp only [h2] at this
  cases this
theorem plusE_ok {g : Gr} {e : Ed} (hg : GrOk g) (hf : Fits g e) (h1 : 1 ≤ e.v) (h3 : e.v ≤ 3) (ha : ¬ AtE g.edges (idxE g.edges ⟨e.f, e.t, 0⟩) e.f e.t) (hl : g.edges.length < 500) : GrOk (plusE g e) := by
  have hle := idxE_le g.edges ⟨e.f, e.t, 0⟩
  have hb : ∀ i (hi : i < g.edges.length), i < idxE g.edges ⟨e.f, e.t, 0⟩ → Bef g.edges[i] e := fun i hi h => by
    have := idxE_bef h hi
    exact this
  have hn : ∀ (h : idxE g.edges ⟨e.f, e.t, 0⟩ < g.edges.length), Bef e g.edges[idxE g.edges ⟨e.f, e.t, 0⟩] := fun h => by
    have h2 := idxE_not h
    have h4 : ¬ (g.edges[idxE g.edges ⟨e.f, e.t, 0⟩].f = e.f ∧ g.edges[idxE g.edges ⟨e.f, e.t, 0⟩].t = e.t) := fun q => ha ⟨h, q⟩
    simp only [Bef] at h2 ⊢
    omega
  unfold plusE
  generalize idxE g.edges ⟨e.f, e.t, 0⟩ = k at *
  have hlen : (g.edges.take k ++ e :: g.edges.drop k).length = g.edges.length + 1 := by simp; omega
  have hget : ∀ i (hi : i < (g.edges.take k ++ e :: g.edges.drop k).length), (g.edges.take k ++ e :: g.edges.drop k)[i] = if h : i < k then g.edges[i]'(by omega) else if h2 : i = k then e else g.edges[i - 1]'(by omega) := by
    intro i hi
    have htl : (g.edges.take k).length = k := by simp; omega
    by_cases h : i < k
    · rw [dif_pos h, List.getElem_append_left (by omega), List.getElem_take]
    · rw [dif_neg h, List.getElem_append_right (by omega)]
      by_cases h2 : i = k
      · subst h2
        simp [htl]
      · rw [dif_neg h2]
        rw [List.getElem_cons]
        rw [dif_neg (by omega), List.getElem_drop]
        congr 1
        omega
  refine ⟨⟨hg.1.1, hg.1.2.1, by simp only [hlen]; omega, hg.1.2.2.2⟩, fun i hi => ?_⟩
  simp only at hi
  have hfit : ∀ x : Ed, Fits ⟨g.size, g.edges.take k ++ e :: g.edges.drop k, g.gone⟩ x ↔ Fits g x := fun x => Iff.rfl
  simp only [hfit, cmpE_lt, hget]
  have hE := fun j (hj : j < g.edges.length) => hg.2 j hj
  by_cases h : i < k
  · simp only [dif_pos h]
    refine ⟨(hE i (by omega)).1, (hE i (by omega)).2.1, (hE i (by omega)).2.2.1, fun h0 => ?_⟩
    rw [dif_pos (by omega)]
    exact cmpE_lt.1 ((hE i (by omega)).2.2.2 h0)
  · simp only [dif_neg h]
    by_cases h2 : i = k
    · subst h2
      simp only [dif_pos]
      refine ⟨hf, h1, h3, fun h0 => ?_⟩
      rw [dif_pos (by omega)]
      exact hb _ _ (by omega)
    · simp only [dif_neg h2]
      refine ⟨(hE (i - 1) (by omega)).1, (hE (i - 1) (by omega)).2.1, (hE (i - 1) (by omega)).2.2.1, fun h0 => ?_⟩
      rw [dif_neg (by omega)]
      by_cases h4 : i - 1 = k
      · rw [dif_pos h4]
        subst h4
        exact hn _
      · rw [dif_neg h4]
        exact hg.lt _ _ _ _ (by omega)
theorem withR_ok {g : Gr} {e : Ed} (h : (withR g e).2 = 0) : GrOk g ∧ Fits g e ∧ (1 ≤ e.v ∧ e.v ≤ 3) ∧ ¬ AtE g.edges (idxE g.edges ⟨e.f, e.t, 0⟩) e.f e.t ∧ g.edges.length < 500 ∧ (withR g e).1 = plusE g e ∧ GrOk (plusE g e) := by
  have key : GrOk g ∧ Fits g e ∧ (1 ≤ e.v ∧ e.v ≤ 3) ∧ ¬ AtE g.edges (idxE g.edges ⟨e.f, e.t, 0⟩) e.f e.t ∧ g.edges.length ≠ 500 ∧ (withR g e).1 = plusE g e := by
    unfold withR at *
    split at h
    · simp at h
    split at h
    · simp at h
    split at h
    · simp at h
    split at h
    · simp at h
    split at h
    · simp at h
    simp_all
  obtain ⟨h1, h2, h3, h4, h5, h6⟩ := key
  have h7 : g.edges.length < 500 := by have := h1.1.2.2.1; omega
  exact ⟨h1, h2, h3, h4, h7, h6, plusE_ok h1 h2 h3.1 h3.2 h4 h7⟩
noncomputable def stepG (L : List Int) (p : Gr × Nat) : Gr × Nat :=
  (if (withR p.1 ⟨(nextD L p.2 p.1.size).1, (nextD L (nextD L p.2 p.1.size).2 p.1.size).1, 1 + (nextD L (nextD L (nextD L p.2 p.1.size).2 p.1.size).2 3).1⟩).2 = 0
    then (withR p.1 ⟨(nextD L p.2 p.1.size).1, (nextD L (nextD L p.2 p.1.size).2 p.1.size).1, 1 + (nextD L (nextD L (nextD L p.2 p.1.size).2 p.1.size).2 3).1⟩).1 else p.1,
   (nextD L (nextD L (nextD L p.2 p.1.size).2 p.1.size).2 3).2)
noncomputable def iterG (L : List Int) : Nat → Gr × Nat → Gr × Nat
  | 0, p => p
  | n + 1, p => iterG L n (stepG L p)
def sizeG (L : List Int) (a : Nat) : Int := if L.length = 0 then 4 else 2 + (nextD L a 8).1
def startG (L : List Int) (a : Nat) : Gr × Nat :=
  if (nextD L (nextD L a 8).2 8).1 = 7 then (⟨sizeG L a, [], [(nextD L (nextD L (nextD L a 8).2 8).2 (sizeG L a)).1]⟩, (nextD L (nextD L (nextD L a 8).2 8).2 (sizeG L a)).2)
  else (⟨sizeG L a, [], []⟩, (nextD L (nextD L a 8).2 8).2)
noncomputable def graphD (L : List Int) (a : Nat) : Gr × Nat := iterG L (nextD L (startG L a).2 23).1.toNat ((startG L a).1, (nextD L (startG L a).2 23).2)
structure MadeG (L : List Int) (p : Gr × Nat) : Prop where
  ok : GrOk p.1
  lo : 2 ≤ p.1.size
  hi : p.1.size ≤ 9
  at_ : p.2 ≤ L.length
  few : p.1.gone.length ≤ 1
theorem sizeG_range (L : List Int) (a : Nat) : 2 ≤ sizeG L a ∧ sizeG L a ≤ 9 := by
  have := nextD_lt (L := L) (a := a) (n := 8) (by omega)
  unfold sizeG
  split <;> omega
theorem startG_made (L : List Int) (a : Nat) (ha : a ≤ L.length) : MadeG L (startG L a) := by
  have hs := sizeG_range L a
  have h1 := nextD_le (L := L) (a := a) (n := 8) ha
  have h2 := nextD_le (L := L) (a := (nextD L a 8).2) (n := 8) h1
  have hq := nextD_lt (L := L) (a := (nextD L (nextD L a 8).2 8).2) (n := sizeG L a) (by omega)
  unfold startG
  split
  · refine ⟨⟨⟨by simp only; omega, by simp only; omega, by simp, fun i hi => ?_⟩, fun i hi => absurd hi (by simp)⟩, hs.1, hs.2, nextD_le h2, by simp⟩
    obtain rfl : i = 0 := by simpa using hi
    refine ⟨hq.1, ?_, fun h => by omega⟩
    have := hq.2
    simp only [List.getElem_cons_zero]
    omega
  · exact ⟨⟨⟨by simp only; omega, by simp only; omega, by simp, fun i hi => absurd hi (by simp)⟩, fun i hi => absurd hi (by simp)⟩, hs.1, hs.2, h2, by simp⟩
theorem stepG_made {L : List Int} {p : Gr × Nat} (h : MadeG L p) : MadeG L (stepG L p) := by
  have h3 := nextD_le (n := 3) (nextD_le (n := p.1.size) (nextD_le (n := p.1.size) h.at_))
  unfold stepG
  by_cases hw : (withR p.1 ⟨(nextD L p.2 p.1.size).1, (nextD L (nextD L p.2 p.1.size).2 p.1.size).1, 1 + (nextD L (nextD L (nextD L p.2 p.1.size).2 p.1.size).2 3).1⟩).2 = 0
  · rw [if_pos hw]
    obtain ⟨_, _, _, _, _, q6, q7⟩ := withR_ok hw
    rw [q6]
    exact ⟨q7, h.lo, h.hi, h3, h.few⟩
  · rw [if_neg hw]
    exact ⟨h.ok, h.lo, h.hi, h3, h.few⟩
theorem iterG_made {L : List Int} : ∀ (n : Nat) {p : Gr × Nat}, MadeG L p → MadeG L (iterG L n p)
  | 0, _, h => h
  | n + 1, _, h => iterG_made n (stepG_made h)
theorem graphD_made (L : List Int) (a : Nat) (ha : a ≤ L.length) : MadeG L (graphD L a) := by
  have h := startG_made L a ha
  exact iterG_made _ ⟨h.ok, h.lo, h.hi, nextD_le h.at_, h.few⟩
end Go.Proofs.YtlhjelookgjmpaaGreat
namespace Go.Proofs.YtlhjelookgjmpaaGreat
open Go
theorem EntUp.eq {nl : List (Nat × Nat)} {e e' : Ent} (h : e = e') (hr : e'.ro ≤ e'.rows.length) : EntUp nl e e' := by
  subst h
  exact EntUp.rfl' hr
theorem EntUp.row {nl : List (Nat × Nat)} {s ro : Nat} {e : Ent} {r r' : List AV} (h : e = ⟨s, [r], ro⟩) (hr : ro ≤ 1) (hu : UpL nl r r') : EntUp nl e ⟨s, [r'], ro⟩ := by
  subst h
  exact ⟨rfl, Nat.le_refl _, hr, .inr ⟨r, r', rfl, rfl, hu⟩⟩
theorem upL_of {nl : List (Nat × Nat)} : ∀ {xs ys : List AV}, WkL xs ys → UpL nl xs ys
  | [], [], _ => trivial
  | _ :: _, _ :: _, h => ⟨.inl h.1, upL_of h.2⟩
  | [], _ :: _, h => False.elim h
  | _ :: _, [], h => False.elim h
theorem Le.ents {np : Nat} {st st' : St} (ρ : List (Nat × Nat)) (sn : List Nat) (hsz : st'.sz = st.sz)
    (h0 : (ρ.map (·.1)).Nodup) (h1 : (ρ.map (·.2)).Nodup) (h2 : ∀ p ∈ ρ, p.2 < st'.n ∧ (p.2 < np → p.1 = p.2)) (h4 : ∀ i ∈ sn, np ≤ i ∧ i ∉ ρ.map (·.1)) (h5 : np ≤ st'.n)
    (ht : ∀ p ∈ st'.t, Wk (conv ρ sn st.hp 4 (st.get p.1)) p.2)
    (hh : ∀ p ∈ st'.h, ∃ q e e', p.2 = some e' ∧ (q, p.1) ∈ ρ ∧ st.hp q = some e ∧ EntUp [] (convE ρ sn st.hp 4 e) e') : Le np st st' :=
  Le.lst ρ sn [] hsz h0 h1 h2 (by simp) h4 h5 (by simp) (fun p hp => .inl (ht p hp)) fun p hp e' he' => by
    obtain ⟨q, e, e2, h1, h2, h3, h4⟩ := hh p hp
    rw [he'] at h1
    cases h1
    exact .inl ⟨(q, p.1), h2, rfl, e, h3, h4⟩
theorem Next1_ok (L : List Int) (a : Nat) (n : Int) (hl : L.length ≤ 400) (ha : a ≤ L.length) (hn : n ≤ 9223372036854775807) : ACalls Tryz.prog nmade_Dice_Next [.pt 0 0 0, .I n] [dice L a] (.I (nextD L a n).1) [some (dice L (nextD L a n).2)] := Next_ok L a n (by omega) ha hn
abbrev zG : Ent := ⟨3, [[.I 0, .nilS, .nilS]], 0⟩
abbrev rowG (g : Gr) : Ent := ⟨3, [gC g], 0⟩
set_option maxRecDepth 100000 in
theorem Graph_ok (L : List Int) (a : Nat) (hl : L.length ≤ 400) (ha : a ≤ L.length) : ACalls Tryz.prog nmade_Dice_Graph [.pt 0 0 0] [dice L a] (eG (graphD L a).1) [some (dice L (graphD L a).2)] := by
  refine smade_Dice_Graph.acalls (Nat.le_of_ble_eq_true rfl) (Nat.le_of_ble_eq_true rfl) (Nat.le_refl _) ?_
  show awp _ 1 _ _ ⟨53, [(0, .pt 0 0 0)], [(0, some (dice L a))], 16⟩
  have a1 := nextD_le (L := L) (a := a) (n := 8) ha
  have r1 := nextD_lt (L := L) (a := a) (n := 8) (by omega)
  have hs := sizeG_range L a
  have a2 := nextD_le (L := L) (a := (nextD L a 8).2) (n := 8) a1
  have hw1 : IntKind.i64.wrap (2 + (nextD L a 8).1) = 2 + (nextD L a 8).1 := w64 (by omega) (by omega)
  have hm := startG_made L a ha
  refine awp_regc ⟨53, [(0, .pt 0 0 0), (2, .pt 16 0 0)], [(0, some (dice L a)), (16, some zG)], 24⟩ rfl ?_ ?_
  · simp
    exact Le.keep rfl (Nat.le_refl _) (by simp) (by simp)
  refine awp_regc ⟨53, [(0, .pt 0 0 0), (2, .pt 16 0 0), (3, .pt 56 0 0)], [(0, some (dice L (nextD L a 8).2)), (16, some zG), (56, some ⟨3, [[.I (2 + (nextD L a 8).1), .nilS, .nilS]], 0⟩)], 72⟩ rfl ?_ ?_
  · simp
    refine callM1 (i := 0) rfl (e' := dice L a) (by simp [Function.comp_def]) (Next1_ok L a 8 hl ha (by omega)) (by simp) (by simp) ?_
    simp [hw1, Function.comp_def]
    exact Le.keep rfl (Nat.le_refl _) (by simp) (by simp)
  refine awp_cut (ι := Unit) (fun _ => ⟨53, [(0, .pt 0 0 0), (2, .pt 16 0 0), (3, .pt 56 0 0)], [(0, some (dice L (nextD L a 8).2)), (16, some zG), (56, some ⟨3, [[.I (sizeG L a), .nilS, .nilS]], 0⟩)], 136⟩) (fun _ => True) ?_ fun _ _ => ?_
  · refine awp_regc ⟨53, [(0, .pt 0 0 0), (2, .pt 16 0 0), (3, .pt 56 0 0), (16, .B (decide (L.length = 0)))], [(0, some (dice L (nextD L a 8).2)), (16, some zG), (56, some ⟨3, [[.I (2 + (nextD L a 8).1), .nilS, .nilS]], 0⟩)], 120⟩ rfl ?_ ?_
    · simp
      exact Le.keep rfl (Nat.le_refl _) (by simp <;> rw [Bool.eq_iff_iff] <;> simp) (by simp)
    refine awp_cond _ rfl (fun h => ?_) fun h => awp_skip ?_
    · simp only [decide_eq_true_eq] at h
      have hz : sizeG L a = 4 := by unfold sizeG; rw [if_pos h]
      refine awp_reg rfl ?_
      simp
      exact Le.keep rfl (Nat.le_refl _) (by simp) (by simp [hz])
    · simp only [decide_eq_false_iff_not] at h
      have hz : sizeG L a = 2 + (nextD L a 8).1 := by unfold sizeG; rw [if_neg h]
      exact ⟨(), trivial, Le.keep rfl (Nat.le_of_ble_eq_true rfl) (by simp) (by simp [hz])⟩
  refine awp_cut (ι := Unit) (fun _ => ⟨53, [(0, .pt 0 0 0), (2, .pt 16 0 0), (3, .pt 56 0 0)], [(0, some (dice L (startG L a).2)), (16, some zG), (56, some (rowG (startG L a).1))], 208⟩) (fun _ => True) ?_ fun _ _ => ?_
  · refine awp_regc ⟨53, [(0, .pt 0 0 0), (2, .pt 16 0 0), (3, .pt 56 0 0), (19, .B (decide ((nextD L (nextD L a 8).2 8).1 = 7)))], [(0, some (dice L (nextD L (nextD L a 8).2 8).2)), (16, some zG), (56, some ⟨3, [[.I (sizeG L a), .nilS, .nilS]], 0⟩)], 152⟩ rfl ?_ ?_
    · simp
      refine callM1 (i := 0) rfl (e' := dice L (nextD L a 8).2) (by simp [Function.comp_def]) (One_ok L _ 8 (by omega) a1 (by omega) (by omega)) (by simp) (by simp) ?_
      simp [Function.comp_def]
      exact Le.keep rfl (Nat.le_refl _) (by simp) (by simp)
    refine awp_cond _ rfl (fun h => ?_) fun h => awp_skip ?_
    · simp only [decide_eq_true_eq] at h
      have hz : startG L a = (⟨sizeG L a, [], [(nextD L (nextD L (nextD L a 8).2 8).2 (sizeG L a)).1]⟩, (nextD L (nextD L (nextD L a 8).2 8).2 (sizeG L a)).2) := by unfold startG; rw [if_pos h]
      rw [hz]
      refine awp_reg rfl ?_
      simp
      refine callM1 (i := 0) rfl (e' := dice L (nextD L (nextD L a 8).2 8).2) (by simp [Function.comp_def]) (Next1_ok L (nextD L (nextD L a 8).2 8).2 (sizeG L a) hl a2 (by omega)) (by simp) (by simp) ?_
      simp [Function.comp_def]
      refine Le.ents [(0, 0), (16, 16), (56, 56)] [184] rfl (by simp) (by simp) (by simp) (by simp) (by simp) (by simp) fun p hp => ?_
      simp at hp
      rcases hp with rfl | rfl | rfl
      · exact ⟨0, _, _, rfl, by simp, rfl, EntUp.eq (by simp) (by simp)⟩
      · exact ⟨16, _, _, rfl, by simp, rfl, EntUp.eq (by simp) (by simp)⟩
      · exact ⟨56, _, _, rfl, by simp, rfl, EntUp.row (by simp; rfl) (by simp) (upL_of (by simp; exact ⟨.nil _ _, .refl _⟩))⟩
    · simp only [decide_eq_false_iff_not] at h
      have hz : startG L a = (⟨sizeG L a, [], []⟩, (nextD L (nextD L a 8).2 8).2) := by unfold startG; rw [if_neg h]
      rw [hz]
      refine ⟨(), trivial, Le.ents [(0, 0), (16, 16), (56, 56)] [] rfl (by simp) (by simp) (by simp) (by simp) (by simp) (by simp) fun p hp => ?_⟩
      simp at hp
      rcases hp with rfl | rfl | rfl
      · exact ⟨0, _, _, rfl, by simp, rfl, EntUp.eq (by simp) (by simp)⟩
      · exact ⟨16, _, _, rfl, by simp, rfl, EntUp.eq (by simp) (by simp)⟩
      · exact ⟨56, _, _, rfl, by simp, rfl, EntUp.row (by simp; rfl) (by simp) (upL_of (by simp; exact ⟨.nil _ _, .nil _ _⟩))⟩
  have r4 := nextD_lt (L := L) (a := (startG L a).2) (n := 23) (by omega)
  obtain ⟨n0, hn0⟩ : ∃ n0 : Nat, (nextD L (startG L a).2 23).1 = n0 := ⟨(nextD L (startG L a).2 23).1.toNat, by omega⟩
  refine awp_seq ?_
  refine awp_regc ⟨53, [(0, .pt 0 0 0), (2, .pt 16 0 0), (3, .pt 56 0 0), (4, .I n0)], [(0, some (dice L (nextD L (startG L a).2 23).2)), (16, some zG), (56, some (rowG (startG L a).1))], 232⟩ rfl ?_ ?_
  · simp
    refine callM1 (i := 0) rfl (e' := dice L (startG L a).2) (by simp [Function.comp_def]) (Next1_ok L (startG L a).2 23 hl hm.at_ (by omega)) (by simp) (by simp) ?_
    simp [Function.comp_def, hn0]
    exact Le.keep rfl (Nat.le_refl _) (by simp) (by simp)
  refine awp_block ?_
  refine awp_loop (ι := Nat × Gr × Nat) (fun q => ⟨53, [(0, .pt 0 0 0), (2, .pt 16 0 0), (3, .pt 56 0 0), (4, .I q.1)], [(0, some (dice L q.2.2)), (16, some zG), (56, some (rowG q.2.1))], 232⟩)
    (fun q => q.1 ≤ 23 ∧ MadeG L q.2 ∧ iterG L q.1 q.2 = graphD L a) (fun q => q.1) (n0, (startG L a).1, (nextD L (startG L a).2 23).2) ?_ (Le.refl _ _) ?_
  · refine ⟨by simp only; omega, ⟨hm.ok, hm.lo, hm.hi, nextD_le hm.at_, hm.few⟩, ?_⟩
    unfold graphD
    rw [hn0]
    rfl
  rintro ⟨k, p⟩ ⟨hk, hp, hit⟩
  simp only at hk hp hit ⊢
  refine awp_seq ?_
  refine awp_regc ⟨53, [(0, .pt 0 0 0), (2, .pt 16 0 0), (3, .pt 56 0 0), (4, .I k), (29, .B (decide (0 < k)))], [(0, some (dice L p.2)), (16, some zG), (56, some (rowG p.1))], 248⟩ rfl ?_ ?_
  · simp
    exact Le.keep rfl (Nat.le_refl _) (by simp) (by simp)
  refine awp_cond _ rfl (fun h => awp_skip ?_) fun h => awp_exit (Go.Proofs.YtlhjelookgjmpaaGreat.hit ?_)
  · simp only [decide_eq_true_eq] at h
    refine awp_cut (ι := Unit) (fun _ => ⟨53, [(0, .pt 0 0 0), (2, .pt 16 0 0), (3, .pt 56 0 0), (4, .I k)], [(0, some (dice L (stepG L p).2)), (16, some zG), (56, some (rowG (stepG L p).1))], 440⟩) (fun _ => True) ?_ fun _ _ => ?_
    · refine awp_block ?_
      have q1 := nextD_le (n := p.1.size) hp.at_
      have q2 := nextD_le (n := p.1.size) q1
      have hlo := hp.lo
      have hhi := hp.hi
      have l3 := nextD_lt (L := L) (a := (nextD L (nextD L p.2 p.1.size).2 p.1.size).2) (n := 3) (by omega)
      have hwv : IntKind.i64.wrap (1 + (nextD L (nextD L (nextD L p.2 p.1.size).2 p.1.size).2 3).1) = 1 + (nextD L (nextD L (nextD L p.2 p.1.size).2 p.1.size).2 3).1 := w64 (by omega) (by omega)
      obtain ⟨w, hw⟩ : ∃ w, w = withR p.1 ⟨(nextD L p.2 p.1.size).1, (nextD L (nextD L p.2 p.1.size).2 p.1.size).1, 1 + (nextD L (nextD L (nextD L p.2 p.1.size).2 p.1.size).2 3).1⟩ := ⟨_, rfl⟩
      have hst : stepG L p = (if w.2 = 0 then w.1 else p.1, (nextD L (nextD L (nextD L p.2 p.1.size).2 p.1.size).2 3).2) := by rw [hw]; rfl
      have h500 := hp.ok.1.2.2.1
      have hfew := hp.few
      have hwith := ref11_With_ok p.1 ⟨(nextD L p.2 p.1.size).1, (nextD L (nextD L p.2 p.1.size).2 p.1.size).1, 1 + (nextD L (nextD L (nextD L p.2 p.1.size).2 p.1.size).2 3).1⟩ (by omega) (by omega)
      rw [← hw] at hwith
      rw [hst]
      refine awp_dregc ⟨53, [(0, .pt 0 0 0), (2, .pt 16 0 0), (3, .pt 56 0 0), (4, .I k), (5, .pv (gC w.1)), (6, .I w.2)], [(0, some (dice L (nextD L (nextD L (nextD L p.2 p.1.size).2 p.1.size).2 3).2)), (16, some zG), (56, some (rowG p.1))], 408⟩ rfl ?_ ?_
      · simp
        refine callM1 (i := 0) rfl (e' := dice L p.2) (by simp [Function.comp_def]) (Next1_ok L p.2 p.1.size hl hp.at_ (by omega)) (by simp) (by simp) ?_
        simp [Function.comp_def]
        refine callM1 (i := 0) rfl (e' := dice L (nextD L p.2 p.1.size).2) (by simp [Function.comp_def]) (Next1_ok L (nextD L p.2 p.1.size).2 p.1.size hl q1 (by omega)) (by simp) (by simp) ?_
        simp [Function.comp_def]
        refine callM1 (i := 0) rfl (e' := dice L (nextD L (nextD L p.2 p.1.size).2 p.1.size).2) (by simp [Function.comp_def]) (Next1_ok L (nextD L (nextD L p.2 p.1.size).2 p.1.size).2 3 hl q2 (by omega)) (by simp) (by simp) ?_
        simp [Function.comp_def, hwv]
        refine call0e hwith rfl ?_
        simp
        refine ⟨rfl, Le.ents [(0, 0), (16, 16), (56, 56)] [384] rfl (by simp) (by simp) (by simp) (by simp) (by simp) (by simp) fun p hp => ?_⟩
        simp at hp
        rcases hp with rfl | rfl | rfl
        · exact ⟨0, _, _, rfl, by simp, rfl, EntUp.eq (by simp [Function.comp_def]) (by simp)⟩
        · exact ⟨16, _, _, rfl, by simp, rfl, EntUp.eq (by simp) (by simp)⟩
        · exact ⟨56, _, _, rfl, by simp, rfl, EntUp.eq (by simp) (by simp)⟩
      refine awp_regc ⟨53, [(0, .pt 0 0 0), (2, .pt 16 0 0), (3, .pt 56 0 0), (4, .I k), (5, .pv (gC w.1)), (50, .B (decide (w.2 = 0)))], [(0, some (dice L (nextD L (nextD L (nextD L p.2 p.1.size).2 p.1.size).2 3).2)), (16, some zG), (56, some (rowG p.1))], 424⟩ rfl ?_ ?_
      · simp
        exact Le.keep rfl (Nat.le_refl _) (by simp <;> rw [Bool.eq_iff_iff] <;> simp) (by simp)
      refine awp_cond _ rfl (fun h => ?_) fun h => awp_skip ?_
      · simp only [decide_eq_true_eq] at h
        refine awp_reg rfl ?_
        simp [h]
        exact Le.keep rfl (Nat.le_of_ble_eq_true rfl) (by simp) (by simp)
      · simp only [decide_eq_false_iff_not] at h
        rw [if_neg h]
        exact ⟨(), trivial, Le.keep rfl (Nat.le_of_ble_eq_true rfl) (by simp) (by simp)⟩
    have hwk : IntKind.i64.wrap ((k : Int) - 1) = ((k - 1 : Nat) : Int) := by rw [w64 (by omega) (by omega)]; omega
    refine awp_reg rfl ?_
    simp [hwk]
    refine ⟨k - 1, (stepG L p).1, (stepG L p).2, ⟨by omega, stepG_made hp, ?_⟩, by omega, Le.ents [(0, 0), (16, 16), (56, 56)] [] rfl (by simp) (by simp) (by simp) (by simp) (by simp) (by simp) fun p hp => ?_⟩
    · rw [← hit]
      obtain ⟨k, rfl⟩ : ∃ j, k = j + 1 := ⟨k - 1, by omega⟩
      rfl
    · simp at hp
      rcases hp with rfl | rfl | rfl
      · exact ⟨0, _, _, rfl, by simp, rfl, EntUp.eq (by simp [Function.comp_def]) (by simp)⟩
      · exact ⟨16, _, _, rfl, by simp, rfl, EntUp.eq (by simp) (by simp)⟩
      · exact ⟨56, _, _, rfl, by simp, rfl, EntUp.eq (by simp) (by simp)⟩
  simp only [decide_eq_false_iff_not] at h
  obtain rfl : k = 0 := by omega
  have hpe : p = graphD L a := hit
  rw [← hpe]
  refine awp_regc ⟨53, [(2, .pt 16 0 0)], [(0, some (dice L p.2)), (16, some (rowG p.1))], 264⟩ rfl ?_ ?_
  · simp
    exact Le.keep rfl (Nat.le_refl _) (by simp) (by simp)
  refine awp_ret ?_
  exact ⟨.inr rfl, RetOk.k1 (vs := [eG p.1]) rfl (by simp) (by simp [Function.comp_def])⟩
end Go.Proofs.YtlhjelookgjmpaaGreat
namespace Go.Proofs.YtlhjelookgjmpaaGreat
open Go
def Still (capt : List AV) : Prop := ∀ ρ sn h n, capt.map (conv ρ sn h (n + 1)) = capt
def idxQ {α : Type} (l : List α) (q : α → Bool) : Int := if l.findIdx q < l.length then (l.findIdx q : Int) else -1
theorem idxQ_at {α : Type} {l : List α} {q : α → Bool} {k : Nat} (hk : k < l.length) (h1 : ∀ i, i < k → ∀ h : i < l.length, q l[i] = false) (h2 : q l[k] = true) : idxQ l q = k := by
  have : l.findIdx q = k := by
    rw [List.findIdx_eq hk]
    exact ⟨h2, fun j hj => by simpa using h1 j hj (by omega)⟩
  unfold idxQ
  rw [this, if_pos hk]
theorem idxQ_no {α : Type} {l : List α} {q : α → Bool} (h1 : ∀ i, i < l.length → ∀ h : i < l.length, q l[i] = false) : idxQ l q = -1 := by
  have : l.findIdx q = l.length := by
    rw [List.findIdx_eq_length]
    intro x hx
    obtain ⟨i, hi, rfl⟩ := List.mem_iff_getElem.1 hx
    exact h1 i hi hi
  unfold idxQ
  rw [this, if_neg (by omega)]
theorem IndexFuncE_ok (f : FuncId) (capt : List AV) (q : Ed → Bool) (l : List Ed) (hl : l.length ≤ 1099511627776) (hs : Still capt) (hc : ∀ e ∈ l, ACalls Tryz.prog f (eE e :: capt) [] (.B (q e)) []) : ACalls Tryz.prog nslices_IndexFunc_Lapi_Edge_api_Edge [eEs l, .fn (.func f) [] capt] [] (.I (idxQ l q)) [] := by
  have hs2 : ∀ ρ sn h, capt.map (conv ρ sn h 2) = capt := fun _ _ _ => hs _ _ _ 1
  have hs3 : ∀ ρ sn h, capt.map (conv ρ sn h 3) = capt := fun _ _ _ => hs _ _ _ 2
  have hs4 : ∀ ρ sn h, capt.map (conv ρ sn h 4) = capt := fun _ _ _ => hs _ _ _ 3
  refine sslices_IndexFunc_Lapi_Edge_api_Edge.acalls (Nat.le_of_ble_eq_true rfl) (Nat.le_of_ble_eq_true rfl) (Nat.le_refl _) ?_
  show awp _ 0 _ _ ⟨19, [(0, eEs l), (1, .fn (.func f) [] capt)], [], 16⟩
  refine awp_seq ?_
  refine awp_run (s := ?s1) rfl ?o1 ?q1
  case o1 => simp; rfl
  refine awp_seq ?_
  refine awp_seq ?_
  refine awp_run (s := ?s2) rfl ?o2 ?q2
  case o2 => simp; rfl
  refine awp_block ?_
  refine awp_loop (ι := Nat) (fun k => ⟨19, [(0, eEs l), (1, .fn (.func f) [] capt), (7, .I l.length), (8, .I k)], [], 16⟩) (fun k => k ≤ l.length ∧ ∀ i, i < k → ∀ h : i < l.length, q l[i] = false) (fun k => l.length - k) (0) ?_ (Le.snap [] rfl rfl (by simp [hs2, hs3, hs4])) ?_
  · simp
  rintro k ⟨hk, hp⟩
  refine awp_seq ?_
  refine awp_run (s := ?s3) rfl ?o3 ?q3
  case o3 => simp; rfl
  refine awp_seq ?_
  refine awp_cond _ rfl (fun h4 => ?_) fun h4 => ?_
  · try simp at h4
    have hw2 : IntKind.i64.wrap ((k : Int) + 1) = (k : Int) + 1 := w64 (by omega) (by omega)
    have hck := hc l[k] (List.getElem_mem h4)
    refine awp_skip ?_
    refine awp_seq ?_
    refine awp_block ?_
    refine awp_seq ?_
    refine awp_run (s := ?s5) rfl ?o5 ?q5
    case o5 => simp [h4, hw2]; rfl
    refine awp_seq ?_
    refine awp_run (s := ?s6) rfl ?o6 ?q6
    case o6 =>
      simp [h4, hw2]
      refine call0e hck ?_ ?_
      · simp [hs2, hs3, hs4]
      simp [h4, hw2]; rfl
    refine awp_cond _ rfl (fun h7 => ?_) fun h7 => ?_
    · try simp at h7
      refine awp_seq ?_
      refine awp_run (s := ?s8) rfl ?o8 ?q8
      case o8 => simp [h4, hw2]; rfl
      refine awp_ret ?_
      exact ⟨.inr rfl, RetOk.one (by simp [idxQ_at h4 hp h7])⟩
    try simp at h7
    refine awp_skip ?_
    refine awp_run (s := ?s9) rfl ?o9 ?q9
    case o9 => simp [h4, hw2]; rfl
    refine ⟨k + 1, ⟨h4, fun i hi => ?_⟩, by omega, Le.snap [] rfl rfl (by simp [h4, hw2, hs2, hs3, hs4])⟩
    rcases Nat.lt_succ_iff_lt_or_eq.1 hi with h | rfl
    · exact hp i h
    · exact fun _ => h7
  try simp at h4
  have hall : ∀ i, i < l.length → ∀ h : i < l.length, q l[i] = false := fun i hi => hp i (by omega)
  refine awp_exit ?_
  refine hit ?_
  refine awp_seq ?_
  refine awp_run (s := ?s10) rfl ?o10 ?q10
  case o10 => simp; rfl
  refine awp_ret ?_
  exact ⟨.inr rfl, RetOk.one (by simp [idxQ_no hall])⟩
abbrev rowsE (l : List Ed) : List (List AV) := l.map fun e => [AV.I e.f, AV.I e.t, AV.I e.v]
theorem filter_of_not {l : List Ed} {q : Ed → Bool} (h : ∀ i, i < l.length → ∀ h : i < l.length, q l[i] = false) : l.filter (fun e => !q e) = l := by
  rw [List.filter_eq_self]
  intro x hx
  obtain ⟨i, hi, rfl⟩ := List.mem_iff_getElem.1 hx
  simp [h i hi hi]
theorem filter_take_succ (l : List Ed) (q : Ed → Bool) (j : Nat) (h : j < l.length) : (l.take (j + 1)).filter (fun e => !q e) = (l.take j).filter (fun e => !q e) ++ if q l[j] = true then [] else [l[j]] := by
  rw [← List.take_concat_get h, List.concat_eq_append, List.filter_append]
  congr 1
  cases hq : q l[j] <;> simp [hq]
set_option maxRecDepth 100000 in
theorem DeleteFuncE_ok (f : FuncId) (capt : List AV) (q : Ed → Bool) (l : List Ed) (n m : Nat) (hn : l.length = n) (hm : (l.filter fun e => !q e).length = m) (hl : n ≤ 1099511627776) (hs : Still capt) (hc : ∀ e ∈ l, ACalls Tryz.prog f (eE e :: capt) [] (.B (q e)) []) :
    ACalls Tryz.prog nslices_DeleteFunc_Lapi_Edge_api_Edge [.rs 0 0 n, .fn (.func f) [] capt] [⟨3, rowsE l, 0⟩] (.rs 0 0 m) [some ⟨3, rowsE (l.filter fun e => !q e) ++ List.replicate (n - m) [.I 0, .I 0, .I 0], 0⟩] := by
  have hs2 : ∀ ρ sn h, capt.map (conv ρ sn h 2) = capt := fun _ _ _ => hs _ _ _ 1
  have hs3 : ∀ ρ sn h, capt.map (conv ρ sn h 3) = capt := fun _ _ _ => hs _ _ _ 2
  have hs4 : ∀ ρ sn h, capt.map (conv ρ sn h 4) = capt := fun _ _ _ => hs _ _ _ 3
  refine sslices_DeleteFunc_Lapi_Edge_api_Edge.acalls (Nat.le_of_ble_eq_true rfl) (Nat.le_of_ble_eq_true rfl) (Nat.le_of_ble_eq_true rfl) ?_
  show awp _ 1 _ _ ⟨42, [(0, .rs 0 0 n), (1, .fn (.func f) [] capt)], [(0, some ⟨3, rowsE l, 0⟩)], 16⟩
  have hmn : m ≤ n := by rw [← hm, ← hn]; exact List.length_filter_le _ _
  refine awp_regc ⟨42, [(0, .rs 0 0 n), (1, .fn (.func f) [] capt)], [(0, some ⟨3, rowsE l, 0⟩)], 24⟩ rfl ?_ ?_
  · simp
    exact Le.keep rfl (Nat.le_refl _) (by simp) (by simp)
  refine awp_regc ⟨42, [(0, .rs 0 0 n), (1, .fn (.func f) [] capt), (5, .I (idxQ l q))], [(0, some ⟨3, rowsE l, 0⟩)], 56⟩ rfl ?_ ?_
  · simp
    refine call0s [0] (IndexFuncE_ok f capt q l (by omega) hs hc) ?_ (.sc _) ?_
    · simp [hs2, hs3, hs4, ← hn, Function.comp_def, take_map_len]
    simp
    exact Le.keep rfl (Nat.le_refl _) (by simp) (by simp)
  refine awp_seq ?_
  refine awp_regc ⟨42, [(0, .rs 0 0 n), (1, .fn (.func f) [] capt), (5, .I (idxQ l q)), (12, .B (decide (idxQ l q = -1)))], [(0, some ⟨3, rowsE l, 0⟩)], 72⟩ rfl ?_ ?_
  · simp
    exact Le.keep rfl (Nat.le_refl _) (by simp <;> rw [Bool.eq_iff_iff] <;> simp) (by simp)
  refine awp_cond _ rfl (fun h => ?_) fun h => awp_skip ?_
  · simp only [decide_eq_true_eq] at h
    have hno : ∀ i, i < l.length → ∀ h : i < l.length, q l[i] = false := by
      intro i hi _
      unfold idxQ at h
      split at h
      · omega
      · rename_i hnl
        have : l.findIdx q = l.length := by have := List.findIdx_le_length (xs := l) (p := q); omega
        rw [List.findIdx_eq_length] at this
        exact this _ (List.getElem_mem hi)
    have hf := filter_of_not hno
    rw [hf] at hm ⊢
    obtain rfl : n = m := by omega
    refine awp_seq ?_
    refine awp_run (s := ?s1) rfl ?o1 ?q1
    case o1 => simp; rfl
    refine awp_ret ?_
    refine ⟨.inr rfl, ⟨[.rs 0 0 n], rfl, [], [], by simp [List.range, List.range.loop], by simp, by simp, ?_, ?_⟩⟩
    · simp [List.range, List.range.loop]
    · simp [List.range, List.range.loop, Function.comp_def]
  simp only [decide_eq_false_iff_not] at h
  obtain ⟨i0, hi0, hlt, hbef, hat⟩ : ∃ i0 : Nat, idxQ l q = i0 ∧ i0 < l.length ∧ (∀ i, i < i0 → ∀ h : i < l.length, q l[i] = false) ∧ ∀ h : i0 < l.length, q l[i0] = true := by
    unfold idxQ at h ⊢
    split at h
    · rename_i hlt
      refine ⟨l.findIdx q, by rw [if_pos hlt], hlt, fun i hi _ => ?_, fun h => List.findIdx_getElem (w := h)⟩
      simpa using List.not_of_lt_findIdx hi
    · omega
  rw [hi0]
  have hA0 : (l.take (i0 + 1)).filter (fun e => !q e) = l.take i0 := by
    rw [filter_take_succ l q i0 hlt, if_pos (hat hlt), List.append_nil]
    refine filter_of_not fun i hi h => ?_
    rw [List.length_take] at hi
    simp only [List.getElem_take]
    exact hbef i (by omega) (by omega)
  have hw0 : IntKind.i64.wrap ((i0 : Int) + 1) = ((i0 + 1 : Nat) : Int) := by rw [w64 (by omega) (by omega)]; omega
  let C : Nat × List Ed → St := fun p => ⟨42, [(0, .rs 0 0 n), (1, .fn (.func f) [] capt), (5, .I ((l.take p.1).filter fun e => !q e).length), (6, .I p.1)], [(0, some ⟨3, rowsE ((l.take p.1).filter (fun e => !q e) ++ p.2 ++ l.drop p.1), 0⟩)], 96⟩
  refine awp_seq ?_
  refine awp_regc (C (i0 + 1, [l[i0]])) rfl ?_ ?_
  · simp [hw0]
    refine Le.keep rfl (Nat.le_refl _) ?_ ?_
    · simp only [C, hA0]
      simp
      omega
    · simp only [C, hA0]
      simp
  refine awp_block ?_
  refine awp_loop C (fun p : Nat × List Ed => p.1 ≤ n ∧ p.2 ≠ [] ∧ ((l.take p.1).filter fun e => !q e).length + p.2.length = p.1) (fun p : Nat × List Ed => n - p.1) (i0 + 1, [l[i0]]) ?_ (Le.refl _ _) ?_
  · simp only [hA0]
    simp
    omega
  rintro ⟨j, M⟩ ⟨hj, hM, hlen⟩
  simp only at hj hM hlen ⊢
  obtain ⟨A, hA⟩ : ∃ A, A = (l.take j).filter fun e => !q e := ⟨_, rfl⟩
  rw [← hA] at hlen
  have hC : C (j, M) = ⟨42, [(0, .rs 0 0 n), (1, .fn (.func f) [] capt), (5, .I A.length), (6, .I j)], [(0, some ⟨3, rowsE (A ++ M ++ l.drop j), 0⟩)], 96⟩ := by subst hA; rfl
  rw [hC]
  refine awp_seq ?_
  refine awp_regc ⟨42, [(0, .rs 0 0 n), (1, .fn (.func f) [] capt), (5, .I A.length), (6, .I j), (19, .B (decide (j < n)))], [(0, some ⟨3, rowsE (A ++ M ++ l.drop j), 0⟩)], 128⟩ rfl ?_ ?_
  · simp
    exact Le.keep rfl (Nat.le_refl _) (by simp) (by simp)
  refine awp_cond _ rfl (fun h => awp_skip ?_) fun h => awp_exit (hit ?_)
  · simp only [decide_eq_true_eq] at h
    have hjl : j < l.length := by omega
    match M, hM, hlen with
    | m0 :: M1, _, hlen =>
    simp only [List.length_cons] at hlen
    have hnext := filter_take_succ l q j hjl
    rw [← hA] at hnext
    have hget : (rowsE (A ++ m0 :: M1 ++ l.drop j))[j]? = some [AV.I l[j].f, AV.I l[j].t, AV.I l[j].v] := by
      rw [List.getElem?_map, List.getElem?_append_right (by simp; omega), List.getElem?_drop, show j + (j - (A ++ m0 :: M1).length) = j by simp; omega, List.getElem?_eq_getElem hjl]
      rfl
    have hget2 : (rowsE (A ++ m0 :: M1 ++ l.drop j))[A.length]? = some [AV.I m0.f, AV.I m0.t, AV.I m0.v] := by
      rw [List.getElem?_map, List.append_assoc, List.getElem?_append_right (by omega)]
      simp
    have hset : (rowsE (A ++ m0 :: M1 ++ l.drop j)).set A.length [AV.I l[j].f, AV.I l[j].t, AV.I l[j].v] = rowsE ((A ++ [l[j]]) ++ (M1 ++ [l[j]]) ++ l.drop (j + 1)) := by
      have e1 : l.drop j = l[j] :: l.drop (j + 1) := List.drop_eq_getElem_cons hjl
      rw [e1]
      simp [rowsE, List.set_append]
    have hmore : A ++ m0 :: M1 ++ l.drop j = A ++ (m0 :: M1 ++ [l[j]]) ++ l.drop (j + 1) := by
      have e1 : l.drop j = l[j] :: l.drop (j + 1) := List.drop_eq_getElem_cons hjl
      rw [e1]
      simp
    generalize hrows : rowsE (A ++ m0 :: M1 ++ l.drop j) = R at *
    have hRl : R.length = n := by rw [← hrows]; simp; omega
    have hck := hc l[j] (List.getElem_mem hjl)
    generalize hv : l[j] = v at *
    refine awp_cut (ι := List Ed × List Ed) (fun p => ⟨42, [(0, .rs 0 0 n), (1, .fn (.func f) [] capt), (5, .I p.1.length), (6, .I j)], [(0, some ⟨3, rowsE (p.1 ++ p.2 ++ l.drop (j + 1)), 0⟩)], 272⟩)
      (fun p => p.1 = (l.take (j + 1)).filter (fun e => !q e) ∧ p.2 ≠ [] ∧ p.1.length + p.2.length = j + 1) ?_ ?_
    · refine awp_block ?_
      refine awp_regc ⟨42, [(0, .rs 0 0 n), (1, .fn (.func f) [] capt), (5, .I A.length), (6, .I j), (7, .pt 160 0 0)], [(0, some ⟨3, R, 0⟩), (160, some ⟨3, [[.I v.f, .I v.t, .I v.v]], 0⟩)], 176⟩ rfl ?_ ?_
      · simp [h, hget]
        exact Le.keep rfl (Nat.le_refl _) (by simp) (by simp)
      refine awp_regc ⟨42, [(0, .rs 0 0 n), (1, .fn (.func f) [] capt), (5, .I A.length), (6, .I j), (7, .pt 160 0 0), (29, .B (!q v))], [(0, some ⟨3, R, 0⟩), (160, some ⟨3, [[.I v.f, .I v.t, .I v.v]], 0⟩)], 208⟩ rfl ?_ ?_
      · simp
        refine call0e hck ?_ ?_
        · simp [hs2, hs3, hs4]
        simp
        exact Le.keep rfl (Nat.le_refl _) (by simp) (by simp)
      refine awp_cond _ rfl (fun h5 => ?_) fun h5 => awp_skip ?_
      · simp only [Bool.not_eq_true'] at h5
        rw [h5] at hnext
        refine awp_regc ⟨42, [(0, .rs 0 0 n), (1, .fn (.func f) [] capt), (5, .I A.length), (6, .I j)], [(0, some ⟨3, rowsE ((A ++ [v]) ++ (M1 ++ [v]) ++ l.drop (j + 1)), 0⟩)], 248⟩ rfl ?_ ?_
        · simp [hget2, show A.length < n by omega, splice, hset]
          exact Le.keep rfl (Nat.le_refl _) (by simp) (by simp)
        have hwA : IntKind.i64.wrap ((A.length : Int) + 1) = ((A.length + 1 : Nat) : Int) := by rw [w64 (by omega) (by omega)]; omega
        refine awp_reg rfl ?_
        simp [hwA]
        refine ⟨A ++ [v], M1 ++ [v], ⟨by rw [hnext]; simp, by simp, by simp; omega⟩, Le.keep rfl (Nat.le_refl _) (by simp) (by simp)⟩
      · simp only [Bool.not_eq_false'] at h5
        rw [h5] at hnext
        refine ⟨(A, m0 :: M1 ++ [v]), ⟨by rw [hnext]; simp, by simp, by simp; omega⟩, Le.keep rfl (Nat.le_of_ble_eq_true rfl) (by simp) ?_⟩
        rw [← hmore, hrows]
        simp
    rintro ⟨A', M'⟩ ⟨p1, p2, p3⟩
    simp only at p1 p2 p3 ⊢
    have hwj : IntKind.i64.wrap ((j : Int) + 1) = ((j + 1 : Nat) : Int) := by rw [w64 (by omega) (by omega)]; omega
    refine awp_reg rfl ?_
    simp [hwj]
    refine ⟨j + 1, M', ⟨by omega, p2, by rw [← p1]; omega⟩, by omega, ?_⟩
    have hD : C (j + 1, M') = ⟨42, [(0, .rs 0 0 n), (1, .fn (.func f) [] capt), (5, .I A'.length), (6, .I ((j + 1 : Nat) : Int))], [(0, some ⟨3, rowsE (A' ++ M' ++ l.drop (j + 1)), 0⟩)], 96⟩ := by rw [p1]
    rw [hD]
    refine Le.ents [(0, 0)] [] rfl (by simp) (by simp) (by simp) (by simp) (by simp) (by simp [hs2, hs3, hs4]) fun p hp => ?_
    simp at hp
    subst hp
    exact ⟨0, _, _, rfl, by simp, rfl, EntUp.eq (by simp [Function.comp_def]) (by simp)⟩
  simp only [decide_eq_false_iff_not] at h
  obtain rfl : j = n := by omega
  have hd : l.drop j = [] := List.drop_eq_nil_of_le (by omega)
  have ht : l.take j = l := List.take_of_length_le (by omega)
  rw [ht] at hA
  rw [hd, List.append_nil]
  rw [← hA] at hm ⊢
  subst hm
  have hAM : (rowsE (A ++ M)).take A.length = rowsE A := by simp [rowsE]
  have hAd : (rowsE (A ++ M)).drop (A.length + (j - A.length)) = [] := List.drop_eq_nil_of_le (by simp; omega)
  have hAl : (rowsE (A ++ M)).length = j := by simp; omega
  generalize rowsE (A ++ M) = R at *
  refine awp_regc ⟨42, [(0, .rs 0 0 j), (5, .I A.length)], [(0, some ⟨3, rowsE A ++ List.replicate (j - A.length) [.I 0, .I 0, .I 0], 0⟩)], 160⟩ rfl ?_ ?_
  · simp
    refine ⟨by omega, by omega, ?_⟩
    rw [hAM, hAd]
    exact Le.keep rfl (Nat.le_refl _) (by simp) (by simp)
  refine awp_seq ?_
  refine awp_run (s := ?s2) rfl ?o2 ?q2
  case o2 =>
    simp
    refine ⟨by omega, ?_⟩
    rfl
  refine awp_ret ?_
  refine ⟨.inr rfl, ⟨[.rs 0 0 A.length], rfl, [], [], by simp [List.range, List.range.loop], by simp, by simp, ?_, ?_⟩⟩
  · simp [List.range, List.range.loop]
  · simp [List.range, List.range.loop, Function.comp_def]
end Go.Proofs.YtlhjelookgjmpaaGreat
namespace Go.Proofs.YtlhjelookgjmpaaGreat
open Go
def levelG (g : Gr) (v : Int) : Gr := ⟨g.size, g.edges.filter fun e => !decide (e.v < v), g.gone⟩
theorem graph_Level_c1_ok (e : Ed) (v : Int) : ACalls Tryz.prog ngraph_Level_c1 [eE e, .pv [.I v]] [] (.B (decide (e.v < v))) [] := by
  refine sgraph_Level_c1.acalls (Nat.le_of_ble_eq_true rfl) (Nat.le_of_ble_eq_true rfl) (Nat.le_refl _) ?_
  show awp _ 0 _ _ ⟨8, [(0, eE e), (1, .pv [.I v])], [], 16⟩
  refine awp_regc ⟨8, [(1, .pv [.I v]), (2, .pv (eC e))], [], 16⟩ rfl ?_ ?_
  · simp
    exact Le.snap [16] rfl rfl (by simp)
  refine awp_seq ?_
  refine awp_run (s := ?s1) rfl ?o1 ?q1
  case o1 => simp; rfl
  refine awp_ret ?_
  exact ⟨.inr rfl, RetOk.one (by simp)⟩
set_option maxRecDepth 100000 in
theorem graph_Level_ok (g : Gr) (v : Int) (hl : g.edges.length ≤ 1099511627776) (hl2 : g.gone.length ≤ 1099511627776) : ACalls Tryz.prog ngraph_Level [eG g, .I v] [] (eG (levelG g v)) [] := by
  refine sgraph_Level.acalls (Nat.le_of_ble_eq_true rfl) (Nat.le_of_ble_eq_true rfl) (Nat.le_refl _) ?_
  show awp _ 0 _ _ ⟨14, [(0, eG g), (1, .I v)], [], 16⟩
  obtain ⟨E, hE⟩ : ∃ E, E = g.edges.filter fun e => !decide (e.v < v) := ⟨_, rfl⟩
  have hEl : E.length ≤ g.edges.length := by rw [hE]; exact List.length_filter_le _ _
  have hdel := DeleteFuncE_ok ngraph_Level_c1 [.pv [.I v]] (fun e => decide (e.v < v)) g.edges g.edges.length E.length rfl (by rw [hE]) hl (fun ρ sn h n => by simp) (fun e _ => graph_Level_c1_ok e v)
  rw [← hE] at hdel
  have hres : levelG g v = ⟨g.size, E, g.gone⟩ := by rw [hE]; rfl
  rw [hres]
  refine awp_regc ⟨14, [(2, .pv (gC g)), (3, .pt 24 0 0), (4, .pt 32 0 0)], [(24, some ⟨1, [[.I v]], 0⟩), (32, some zG)], 40⟩ rfl ?_ ?_
  · simp
    refine Le.ents [(24, 24), (32, 32)] [16] rfl (by simp) (by simp) (by simp) (by simp) (by simp) (by simp) fun p hp => ?_
    simp at hp
    rcases hp with rfl | rfl
    · exact ⟨24, _, _, rfl, by simp, rfl, EntUp.eq (by simp) (by simp)⟩
    · exact ⟨32, _, _, rfl, by simp, rfl, EntUp.eq (by simp) (by simp)⟩
  refine awp_regc ⟨14, [(3, .pt 24 0 0), (4, .pt 32 0 0), (5, .pt 56 0 0)], [(24, some ⟨1, [[.I v]], 0⟩), (32, some zG), (56, some ⟨3, [[.I g.size, .rs 48 0 g.edges.length, .rs 49 0 g.gone.length]], 0⟩), (48, some ⟨3, rowsE g.edges, 0⟩), (49, some ⟨1, g.gone.map fun n => [AV.I n], 0⟩)], 72⟩ rfl ?_ ?_
  · simp
    refine callN2 (graph_copied_ok g (by omega) (by omega)) rfl ?_
    simp [Function.comp_def]
    exact Le.keep rfl (Nat.le_refl _) (by simp) (by simp)
  refine awp_regc ⟨14, [(4, .pt 32 0 0), (5, .pt 56 0 0)], [(32, some zG), (56, some ⟨3, [[.I g.size, .rs 48 0 E.length, .rs 49 0 g.gone.length]], 0⟩), (48, some ⟨3, rowsE E ++ List.replicate (g.edges.length - E.length) [.I 0, .I 0, .I 0], 0⟩), (49, some ⟨1, g.gone.map fun n => [AV.I n], 0⟩)], 120⟩ rfl ?_ ?_
  · simp
    refine callM1s (i := 48) (j := 24) (by decide) (Nat.zero_le _) rfl rfl ?_ hdel (by simp) ?_ ?_
    · simp [Function.comp_def]
    · simp
    simp [Function.comp_def]
    exact Le.keep rfl (Nat.le_refl _) (by simp) (by simp)
  refine awp_seq ?_
  refine awp_run (s := ?s21) rfl ?o21 ?q21
  case o21 => simp; rfl
  refine awp_ret ?_
  refine ⟨.inr rfl, ?_⟩
  show RetOk [(4, some (true, 3))] 0 _ _ _
  refine RetOk.out (vs := [.agg [.I g.size, .rs 48 0 E.length, .rs 49 0 g.gone.length]]) [] [48, 49] (by simp) (by simp) (by simp) ?_ (by simp)
  simp [Function.comp_def, take_map_len]
theorem filterL_succ (l : List Ed) (v : Int) (k : Nat) (h : k < l.length) : (l.take (k + 1)).filter (fun e => !decide (e.v < v)) = (l.take k).filter (fun e => !decide (e.v < v)) ++ if v ≤ l[k].v then [l[k]] else [] := by
  rw [← List.take_concat_get h, List.concat_eq_append, List.filter_append]
  congr 1
  by_cases hq : v ≤ l[k].v
  · have : ¬ l[k].v < v := by omega
    simp [hq, this]
  · have : l[k].v < v := by omega
    simp [hq, this]
set_option maxRecDepth 100000 in
theorem ref11_Level_ok (g : Gr) (v : Int) (hl : g.edges.length ≤ 1099511627776) (hl2 : g.gone.length ≤ 1099511627776) : ACalls Tryz.prog nref11_Level [eG g, .I v] [] (eG (levelG g v)) [] := by
  refine sref11_Level.acalls (Nat.le_of_ble_eq_true rfl) (Nat.le_of_ble_eq_true rfl) (Nat.le_refl _) ?_
  show awp _ 0 _ _ ⟨36, [(0, eG g), (1, .I v)], [], 16⟩
  refine awp_regc ⟨36, [(1, .I v), (2, .pv (gC g)), (4, .pt 24 0 0)], [(24, some zG)], 32⟩ rfl ?_ ?_
  · simp
    refine Le.ents [(24, 24)] [16] rfl (by simp) (by simp) (by simp) (by simp) (by simp) (by simp) fun p hp => ?_
    simp at hp
    subst hp
    exact ⟨24, _, _, rfl, by simp, rfl, EntUp.eq (by simp) (by simp)⟩
  refine awp_regc ⟨36, [(1, .I v), (2, .pv (gC g)), (4, .pt 24 0 0), (5, .pt 48 0 0)], [(24, some zG), (48, some ⟨3, [[.I g.size, .rs 40 0 g.edges.length, .rs 41 0 g.gone.length]], 0⟩), (40, some ⟨3, rowsE g.edges, 0⟩), (41, some ⟨1, g.gone.map fun n => [AV.I n], 0⟩)], 64⟩ rfl ?_ ?_
  · simp
    refine callN2 (ref11_Copy_ok g (by omega) (by omega)) rfl ?_
    simp [Function.comp_def]
    exact Le.keep rfl (Nat.le_refl _) (by simp) (by simp)
  refine awp_regc ⟨36, [(1, .I v), (2, .pv (gC g)), (4, .pt 24 0 0), (5, .pt 48 0 0)], [(24, some zG), (48, some ⟨3, [[.I g.size, .nilS, ints g.gone]], 0⟩)], 80⟩ rfl ?_ ?_
  · simp
    refine Le.ents [(24, 24), (48, 48)] [41] rfl (by simp) (by simp) (by simp) (by simp) (by simp) (by simp) fun p hp => ?_
    simp at hp
    rcases hp with rfl | rfl
    · exact ⟨24, _, _, rfl, by simp, rfl, EntUp.eq (by simp) (by simp)⟩
    · exact ⟨48, _, _, rfl, by simp, rfl, EntUp.eq (by simp [splice, Function.comp_def, take_map_len]) (by simp)⟩
  refine awp_seq ?_
  refine awp_regc ⟨36, [(1, .I v), (2, .pv (gC g)), (4, .pt 24 0 0), (5, .pt 48 0 0), (6, .I 0)], [(24, some zG), (48, some ⟨3, [[.I g.size, .nilS, ints g.gone]], 0⟩)], 88⟩ rfl ?_ ?_
  · simp
    exact Le.keep rfl (Nat.le_refl _) (by simp) (by simp)
  refine awp_block ?_
  let F : Nat → List Ed := fun k => (g.edges.take k).filter fun e => !decide (e.v < v)
  let C : Nat → St := fun k => ⟨36, [(1, .I v), (2, .pv (gC g)), (4, .pt 24 0 0), (5, .pt 48 0 0), (6, .I k)], [(24, some zG), (48, some ⟨3, [[.I g.size, .rs 16 0 (F k).length, ints g.gone]], 0⟩), (16, some ⟨3, rowsE (F k), 0⟩)], 88⟩
  refine awp_loop C (fun k => k ≤ g.edges.length) (fun k => g.edges.length - k) 0 (Nat.zero_le _) ?_ ?_
  · refine Le.lst [(24, 24), (48, 48)] [] [(16, 3)] rfl (by simp) (by simp) (by simp [C]) (by simp [C]) (by simp) (by simp) (by simp) (by simp [C, Up]) fun p hp e' he' => ?_
    simp [C] at hp
    rcases hp with rfl | rfl | rfl
    · cases he'
      exact .inl ⟨(24, 24), by simp, rfl, _, rfl, EntUp.eq (by simp) (by simp)⟩
    · cases he'
      refine .inl ⟨(48, 48), by simp, rfl, _, rfl, EntUp.row (by simp; rfl) (by simp) ?_⟩
      exact ⟨.inl (.refl _), .inr ⟨rfl, 16, 3, by simp [F], by simp⟩, .inl (.refl _), trivial⟩
    · cases he'
      exact .inr ⟨by simp, by simp [F], rfl⟩
  intro k hk
  have hFl : (F k).length ≤ k := by
    have h1 : (F k).length ≤ (g.edges.take k).length := List.length_filter_le _ _
    simp at h1
    omega
  have hC : C k = ⟨36, [(1, .I v), (2, .pv (gC g)), (4, .pt 24 0 0), (5, .pt 48 0 0), (6, .I k)], [(24, some zG), (48, some ⟨3, [[.I g.size, .rs 16 0 (F k).length, ints g.gone]], 0⟩), (16, some ⟨3, rowsE (F k), 0⟩)], 88⟩ := rfl
  rw [hC]
  refine awp_seq ?_
  refine awp_regc ⟨36, [(1, .I v), (2, .pv (gC g)), (4, .pt 24 0 0), (5, .pt 48 0 0), (6, .I k), (14, .B (decide (k < g.edges.length)))], [(24, some zG), (48, some ⟨3, [[.I g.size, .rs 16 0 (F k).length, ints g.gone]], 0⟩), (16, some ⟨3, rowsE (F k), 0⟩)], 128⟩ rfl ?_ ?_
  · simp
    exact Le.keep rfl (Nat.le_refl _) (by simp) (by simp)
  refine awp_cond _ rfl (fun h => awp_skip ?_) fun h => awp_exit (hit ?_)
  · simp only [decide_eq_true_eq] at h
    have hnext := filterL_succ g.edges v k h
    have hFs : F (k + 1) = F k ++ if v ≤ g.edges[k].v then [g.edges[k]] else [] := hnext
    refine awp_cut (ι := Unit) (fun _ => ⟨36, [(1, .I v), (2, .pv (gC g)), (4, .pt 24 0 0), (5, .pt 48 0 0), (6, .I k)], [(24, some zG), (48, some ⟨3, [[.I g.size, .rs 16 0 (F (k + 1)).length, ints g.gone]], 0⟩), (16, some ⟨3, rowsE (F (k + 1)), 0⟩)], 280⟩) (fun _ => True) ?_ fun _ _ => ?_
    · rw [hFs]
      generalize F k = A at *
      refine awp_block ?_
      refine awp_regc ⟨36, [(1, .I v), (2, .pv (gC g)), (4, .pt 24 0 0), (5, .pt 48 0 0), (6, .I k), (24, .B (decide (v ≤ g.edges[k].v)))], [(24, some zG), (48, some ⟨3, [[.I g.size, .rs 16 0 A.length, ints g.gone]], 0⟩), (16, some ⟨3, rowsE A, 0⟩)], 192⟩ rfl ?_ ?_
      · simp [h]
        exact Le.keep rfl (Nat.le_refl _) (by simp) (by simp)
      refine awp_cond _ rfl (fun h5 => ?_) fun h5 => awp_skip ?_
      · simp only [decide_eq_true_eq] at h5
        rw [if_pos h5]
        refine awp_drw rfl ?_
        have hrl : (rowsE A).length = A.length := by simp
        simp [h, splice, List.replicate]
        refine ⟨by omega, by omega, rfl, ?_⟩
        refine Le.ents [(24, 24), (48, 48), (256, 16)] [] rfl (by simp) (by simp) (by simp) (by simp) (by simp) (by simp) fun p hp => ?_
        simp at hp
        rcases hp with rfl | rfl | rfl
        · exact ⟨24, _, _, rfl, by simp, rfl, EntUp.eq (by simp) (by simp)⟩
        · exact ⟨48, _, _, rfl, by simp, rfl, EntUp.eq (by simp) (by simp)⟩
        · exact ⟨256, _, _, rfl, by simp, rfl, EntUp.eq (by simp [Function.comp_def, take_map_len]) (by simp)⟩
      · simp only [decide_eq_false_iff_not] at h5
        rw [if_neg h5, List.append_nil]
        exact ⟨(), trivial, Le.keep rfl (Nat.le_of_ble_eq_true rfl) (by simp) (by simp)⟩
    have hwj : IntKind.i64.wrap ((k : Int) + 1) = ((k + 1 : Nat) : Int) := by rw [w64 (by omega) (by omega)]; omega
    refine awp_reg rfl ?_
    simp [hwj]
    refine ⟨k + 1, by omega, by omega, ?_⟩
    refine Le.ents [(24, 24), (48, 48), (16, 16)] [] rfl (by simp) (by simp) (by simp [C]) (by simp) (by simp [C]) (by simp [C]) fun p hp => ?_
    simp [C] at hp
    rcases hp with rfl | rfl | rfl
    · exact ⟨24, _, _, rfl, by simp, rfl, EntUp.eq (by simp) (by simp)⟩
    · exact ⟨48, _, _, rfl, by simp, rfl, EntUp.eq (by simp) (by simp)⟩
    · exact ⟨16, _, _, rfl, by simp, rfl, EntUp.eq (by simp [Function.comp_def]) (by simp)⟩
  simp only [decide_eq_false_iff_not] at h
  obtain rfl : k = g.edges.length := by omega
  have hF : F g.edges.length = (levelG g v).edges := by
    show (g.edges.take g.edges.length).filter _ = _
    rw [List.take_of_length_le (Nat.le_refl _)]
    rfl
  rw [hF]
  have hres : levelG g v = ⟨g.size, (levelG g v).edges, g.gone⟩ := rfl
  rw [hres]
  generalize (levelG g v).edges = E at *
  refine awp_seq ?_
  refine awp_run (s := ?s21) rfl ?o21 ?q21
  case o21 => simp; rfl
  refine awp_ret ?_
  refine ⟨.inr rfl, ?_⟩
  show RetOk [(4, some (true, 3))] 0 _ _ _
  refine RetOk.out (vs := [.agg [.I g.size, .rs 16 0 E.length, ints g.gone]]) [] [16] (by simp) (by simp) (by simp) ?_ (by simp)
  simp [Function.comp_def, take_map_len]
end Go.Proofs.YtlhjelookgjmpaaGreat
