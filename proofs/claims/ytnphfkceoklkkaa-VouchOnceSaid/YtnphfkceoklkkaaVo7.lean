/- Texts of this claim, merged. -/
import Derived.Test.YtnphfkceoklkkaaVo6
import Derived.Test.YtnphfkceoklkkaaVo5
import Derived.Test.YtnphfkceoklkkaaProg
import Derived.KernelRfl
import Derived.Shelf.Sort.Plain
import Derived.Shelf.Slices.In.SortNone
set_option linter.unusedSimpArgs false
set_option linter.unusedVariables false
set_option linter.unusedSectionVars false
namespace Go.Proofs.Ytnphfkceoklkkaa
open Go
theorem slaw10_VouchOnce : Src Try.prog nlaw10_VouchOnce claw10_VouchOnce := ⟨mixed, Try.f5, by kernel_rfl, by kernel_rfl, by decide⟩
theorem slaw10_awake : Src Try.prog nlaw10_awake claw10_awake := ⟨mixed, Try.f15, by kernel_rfl, by kernel_rfl, by decide⟩
theorem sref05_Counted : Src Try.prog nref05_Counted cref05_Counted := ⟨mixed, Try.f17, by kernel_rfl, by kernel_rfl, by decide⟩
theorem smade_Dice_Store : Src Try.prog nmade_Dice_Store cmade_Dice_Store := ⟨mixed, Try.f18, by kernel_rfl, by kernel_rfl, by decide⟩
theorem sref04_Next : Src Try.prog nref04_Next cref04_Next := ⟨mixed, Try.f23, by kernel_rfl, by kernel_rfl, by decide⟩
theorem svouch_Active : Src Try.prog nvouch_Active cvouch_Active := ⟨mixed, Try.f25, by kernel_rfl, by kernel_rfl, by decide⟩
theorem svouch_Gone : Src Try.prog nvouch_Gone cvouch_Gone := ⟨mixed, Try.f26, by kernel_rfl, by kernel_rfl, by decide⟩
theorem svouch_Between : Src Try.prog nvouch_Between cvouch_Between := ⟨mixed, Try.f27, by kernel_rfl, by kernel_rfl, by decide⟩
theorem slaw10_list : Src Try.prog nlaw10_list claw10_list := ⟨mixed, Try.f53, by kernel_rfl, by kernel_rfl, by decide⟩
theorem svouch_Of : Src Try.prog nvouch_Of cvouch_Of := ⟨mixed, Try.f54, by kernel_rfl, by kernel_rfl, by decide⟩
theorem sref04_Counted : Src Try.prog nref04_Counted cref04_Counted := ⟨mixed, Try.f55, by kernel_rfl, by kernel_rfl, by decide⟩
theorem sref05_Of : Src Try.prog nref05_Of cref05_Of := ⟨mixed, Try.f56, by kernel_rfl, by kernel_rfl, by decide⟩
theorem smade_StoreOf : Src Try.prog nmade_StoreOf cmade_StoreOf := ⟨mixed, Try.f57, by kernel_rfl, by kernel_rfl, by decide⟩
theorem smade_Dice_Lists : Src Try.prog nmade_Dice_Lists cmade_Dice_Lists := ⟨mixed, Try.f58, by kernel_rfl, by kernel_rfl, by decide⟩
theorem sref03_SameList : Src Try.prog nref03_SameList cref03_SameList := ⟨mixed, Try.f64, by kernel_rfl, by kernel_rfl, by decide⟩
theorem sref03_Copy : Src Try.prog nref03_Copy cref03_Copy := ⟨mixed, Try.f65, by kernel_rfl, by kernel_rfl, by decide⟩
theorem sref03_Digest : Src Try.prog nref03_Digest cref03_Digest := ⟨mixed, Try.f66, by kernel_rfl, by kernel_rfl, by decide⟩
theorem sref03_Seal : Src Try.prog nref03_Seal cref03_Seal := ⟨mixed, Try.f67, by kernel_rfl, by kernel_rfl, by decide⟩
theorem sref03_Check : Src Try.prog nref03_Check cref03_Check := ⟨mixed, Try.f68, by kernel_rfl, by kernel_rfl, by decide⟩
theorem svouch_holds : Src Try.prog nvouch_holds cvouch_holds := ⟨mixed, Try.f69, by kernel_rfl, by kernel_rfl, by decide⟩
theorem sslices_Compact_Lint_int : Src Try.prog nslices_Compact_Lint_int cslices_Compact_Lint_int := ⟨mixed, Try.f71, by kernel_rfl, by kernel_rfl, by decide⟩
theorem svouch_revoked : Src Try.prog nvouch_revoked cvouch_revoked := ⟨mixed, Try.f106, by kernel_rfl, by kernel_rfl, by decide⟩
theorem sslices_SortStableFunc_Lapi_Vouch_api_Vouch : Src Try.prog nslices_SortStableFunc_Lapi_Vouch_api_Vouch cslices_SortStableFunc_Lapi_Vouch_api_Vouch := ⟨mixed, Try.f107, by kernel_rfl, by kernel_rfl, by decide⟩
theorem svouch_Of_c1 : Src Try.prog nvouch_Of_c1 cvouch_Of_c1 := ⟨mixed, Try.f108, by kernel_rfl, by kernel_rfl, by decide⟩
theorem sref04_Own : Src Try.prog nref04_Own cref04_Own := ⟨mixed, Try.f110, by kernel_rfl, by kernel_rfl, by decide⟩
theorem sref04_Follows : Src Try.prog nref04_Follows cref04_Follows := ⟨mixed, Try.f111, by kernel_rfl, by kernel_rfl, by decide⟩
theorem sref05_Adds : Src Try.prog nref05_Adds cref05_Adds := ⟨mixed, Try.f112, by kernel_rfl, by kernel_rfl, by decide⟩
theorem smade_Dice_Spoil : Src Try.prog nmade_Dice_Spoil cmade_Dice_Spoil := ⟨mixed, Try.f113, by kernel_rfl, by kernel_rfl, by decide⟩
theorem smade_Dice_Chain : Src Try.prog nmade_Dice_Chain cmade_Dice_Chain := ⟨mixed, Try.f114, by kernel_rfl, by kernel_rfl, by decide⟩
theorem sref03_Same : Src Try.prog nref03_Same cref03_Same := ⟨mixed, Try.f118, by kernel_rfl, by kernel_rfl, by decide⟩
theorem sref01_Sum : Src Try.prog nref01_Sum cref01_Sum := ⟨mixed, Try.f119, by kernel_rfl, by kernel_rfl, by decide⟩
theorem sref03_Bytes : Src Try.prog nref03_Bytes cref03_Bytes := ⟨mixed, Try.f120, by kernel_rfl, by kernel_rfl, by decide⟩
theorem sref03_key : Src Try.prog nref03_key cref03_key := ⟨mixed, Try.f121, by kernel_rfl, by kernel_rfl, by decide⟩
theorem sref03_in : Src Try.prog nref03_in cref03_in := ⟨mixed, Try.f122, by kernel_rfl, by kernel_rfl, by decide⟩
theorem sref03_numbers : Src Try.prog nref03_numbers cref03_numbers := ⟨mixed, Try.f123, by kernel_rfl, by kernel_rfl, by decide⟩
theorem sref03_PinsOK : Src Try.prog nref03_PinsOK cref03_PinsOK := ⟨mixed, Try.f124, by kernel_rfl, by kernel_rfl, by decide⟩
theorem sslices_stableCmpFunc_api_Vouch : Src Try.prog nslices_stableCmpFunc_api_Vouch cslices_stableCmpFunc_api_Vouch := ⟨mixed, Try.f138, by kernel_rfl, by kernel_rfl, by decide⟩
theorem sref03_Sealed : Src Try.prog nref03_Sealed cref03_Sealed := ⟨mixed, Try.f139, by kernel_rfl, by kernel_rfl, by decide⟩
theorem sref05_put : Src Try.prog nref05_put cref05_put := ⟨mixed, Try.f140, by kernel_rfl, by kernel_rfl, by decide⟩
theorem sref03_CopyList : Src Try.prog nref03_CopyList cref03_CopyList := ⟨mixed, Try.f141, by kernel_rfl, by kernel_rfl, by decide⟩
theorem smade_Dice_Digest : Src Try.prog nmade_Dice_Digest cmade_Dice_Digest := ⟨mixed, Try.f142, by kernel_rfl, by kernel_rfl, by decide⟩
theorem smade_Dice_Statement : Src Try.prog nmade_Dice_Statement cmade_Dice_Statement := ⟨mixed, Try.f143, by kernel_rfl, by kernel_rfl, by decide⟩
theorem sref03_SamePins : Src Try.prog nref03_SamePins cref03_SamePins := ⟨mixed, Try.f144, by kernel_rfl, by kernel_rfl, by decide⟩
theorem sref01_constants : Src Try.prog nref01_constants cref01_constants := ⟨mixed, Try.f145, by kernel_rfl, by kernel_rfl, by decide⟩
theorem sref01_block : Src Try.prog nref01_block cref01_block := ⟨mixed, Try.f146, by kernel_rfl, by kernel_rfl, by decide⟩
theorem sref02_Text : Src Try.prog nref02_Text cref02_Text := ⟨mixed, Try.f147, by kernel_rfl, by kernel_rfl, by decide⟩
theorem sref02_Int : Src Try.prog nref02_Int cref02_Int := ⟨mixed, Try.f148, by kernel_rfl, by kernel_rfl, by decide⟩
theorem sref02_Ints : Src Try.prog nref02_Ints cref02_Ints := ⟨mixed, Try.f149, by kernel_rfl, by kernel_rfl, by decide⟩
theorem sslices_insertionSortCmpFunc_api_Vouch : Src Try.prog nslices_insertionSortCmpFunc_api_Vouch cslices_insertionSortCmpFunc_api_Vouch := ⟨mixed, Try.f167, by kernel_rfl, by kernel_rfl, by decide⟩
theorem sslices_symMergeCmpFunc_api_Vouch : Src Try.prog nslices_symMergeCmpFunc_api_Vouch cslices_symMergeCmpFunc_api_Vouch := ⟨mixed, Try.f168, by kernel_rfl, by kernel_rfl, by decide⟩
theorem sref05_before : Src Try.prog nref05_before cref05_before := ⟨mixed, Try.f169, by kernel_rfl, by kernel_rfl, by decide⟩
theorem smade_Dice_Bytes : Src Try.prog nmade_Dice_Bytes cmade_Dice_Bytes := ⟨mixed, Try.f170, by kernel_rfl, by kernel_rfl, by decide⟩
theorem sref01_turn : Src Try.prog nref01_turn cref01_turn := ⟨mixed, Try.f171, by kernel_rfl, by kernel_rfl, by decide⟩
theorem sslices_rotateCmpFunc_api_Vouch : Src Try.prog nslices_rotateCmpFunc_api_Vouch cslices_rotateCmpFunc_api_Vouch := ⟨mixed, Try.f179, by kernel_rfl, by kernel_rfl, by decide⟩
theorem sslices_swapRangeCmpFunc_api_Vouch : Src Try.prog nslices_swapRangeCmpFunc_api_Vouch cslices_swapRangeCmpFunc_api_Vouch := ⟨mixed, Try.f182, by kernel_rfl, by kernel_rfl, by decide⟩
end Go.Proofs.Ytnphfkceoklkkaa
namespace Go.Proofs.Ytnphfkceoklkkaa
open Go
theorem take_map_len {α β : Type} (f : α → β) (l : List α) : List.take l.length (List.map f l) = List.map f l := List.take_of_length_le (by simp)
end Go.Proofs.Ytnphfkceoklkkaa
namespace Go.Proofs.Ytnphfkceoklkkaa
open Go
end Go.Proofs.Ytnphfkceoklkkaa
namespace Go.Proofs
open Go.Shelf
def Try.lays189_ren : Go.Shelf.Ren := ⟨fun | 189 => 70 | 125 => 127 | 257 => 126 | 128 => 160 | 129 => 161 | 294 => 151 | 295 => 152 | 296 => 153 | 297 => 154 | 298 => 155 | 299 => 156 | 216 => 157 | 300 => 158 | 301 => 159 | 328 => 172 | 329 => 173 | 330 => 174 | 331 => 175 | 332 => 176 | 215 => 137 | 343 => 180 | n => n, fun | 28 => 22 | 3 => 3 | 46 => 128 | 0 => 0 | 51 => 142 | 53 => 144 | 4 => 4 | 183 => 155 | 182 => 154 | 131 => 94 | 5 => 5 | 9 => 9 | 218 => 171 | 222 => 175 | 228 => 178 | 229 => 179 | n => n, fun | n => n⟩
theorem Try.lays189 : Go.Proofs.Lays.n189 Try.prog Try.lays189_ren := {
  mixed := by kernel_rfl
  f125 := Try.func127.trans (congrArg some (by kernel_rfl))
  f128 := Try.func160.trans (congrArg some (by kernel_rfl))
  f129 := Try.func161.trans (congrArg some (by kernel_rfl))
  f189 := Try.func70.trans (congrArg some (by kernel_rfl))
  f215 := Try.func137.trans (congrArg some (by kernel_rfl))
  f216 := Try.func157.trans (congrArg some (by kernel_rfl))
  f257 := Try.func126.trans (congrArg some (by kernel_rfl))
  f294 := Try.func151.trans (congrArg some (by kernel_rfl))
  f295 := Try.func152.trans (congrArg some (by kernel_rfl))
  f296 := Try.func153.trans (congrArg some (by kernel_rfl))
  f297 := Try.func154.trans (congrArg some (by kernel_rfl))
  f298 := Try.func155.trans (congrArg some (by kernel_rfl))
  f299 := Try.func156.trans (congrArg some (by kernel_rfl))
  f300 := Try.func158.trans (congrArg some (by kernel_rfl))
  f301 := Try.func159.trans (congrArg some (by kernel_rfl))
  f328 := Try.func172.trans (congrArg some (by kernel_rfl))
  f329 := Try.func173.trans (congrArg some (by kernel_rfl))
  f330 := Try.func174.trans (congrArg some (by kernel_rfl))
  f331 := Try.func175.trans (congrArg some (by kernel_rfl))
  f332 := Try.func176.trans (congrArg some (by kernel_rfl))
  f343 := Try.func180.trans (congrArg some (by kernel_rfl))
  t0 := Try.underlying0
  a0 := Try.isAgg0
  z0 := Try.sizeOf0
  v0 := Try.zeroValue0
  t3 := Try.underlying3
  a3 := Try.isAgg3
  z3 := Try.sizeOf3
  v3 := Try.zeroValue3
  t4 := Try.underlying4
  a4 := Try.isAgg4
  z4 := Try.sizeOf4
  v4 := Try.zeroValue4
  t5 := Try.underlying5
  a5 := Try.isAgg5
  z5 := Try.sizeOf5
  v5 := Try.zeroValue5
  t9 := Try.underlying9
  a9 := Try.isAgg9
  z9 := Try.sizeOf9
  v9 := Try.zeroValue9
  t28 := Try.underlying22
  a28 := Try.isAgg22
  z28 := Try.sizeOf22
  v28 := Try.zeroValue22
  t46 := Try.underlying128
  a46 := Try.isAgg128
  z46 := Try.sizeOf128
  v46 := Try.zeroValue128
  t51 := Try.underlying142
  a51 := Try.isAgg142
  z51 := Try.sizeOf142
  v51 := Try.zeroValue142
  t53 := Try.underlying144
  a53 := Try.isAgg144
  z53 := Try.sizeOf144
  v53 := Try.zeroValue144
  t131 := Try.underlying94
  a131 := Try.isAgg94
  z131 := Try.sizeOf94
  v131 := Try.zeroValue94
  t182 := Try.underlying154
  a182 := Try.isAgg154
  z182 := Try.sizeOf154
  v182 := Try.zeroValue154
  t183 := Try.underlying155
  a183 := Try.isAgg155
  z183 := Try.sizeOf155
  v183 := Try.zeroValue155
  t218 := Try.underlying171
  a218 := Try.isAgg171
  z218 := Try.sizeOf171
  v218 := Try.zeroValue171
  t222 := Try.underlying175
  a222 := Try.isAgg175
  z222 := Try.sizeOf175
  v222 := Try.zeroValue175
  t228 := Try.underlying178
  a228 := Try.isAgg178
  z228 := Try.sizeOf178
  v228 := Try.zeroValue178
  t229 := Try.underlying179
  a229 := Try.isAgg179
  z229 := Try.sizeOf179
  v229 := Try.zeroValue179 }
end Go.Proofs
namespace Go.Proofs.Ytnphfkceoklkkaa
open Go
def iRows (l : List Int) : List (List AV) := l.map fun n => [AV.I n]
theorem Src.body {P : Program} {f : FuncId} {af : AFun} (s : Src P f af) : ∃ fn c, P.funcs[f]? = some fn ∧ fn.body = some c ∧ fn.name ≠ "runtime.NumGoroutine" := by
  obtain ⟨_, fn, hf, hc, hn⟩ := s
  unfold compF at hc
  cases hb : fn.body with
  | none => rw [hb] at hc; cases hc
  | some c => exact ⟨fn, c, hf, hb, hn⟩
theorem sort_some (zs : List Int) (h0 : zs ≠ []) (hl : zs.length < 4611686018427387904) :
    ACalls Try.prog nslices_Sort_Lint_int [.rs 0 0 zs.length] [{ s := 1, rows := iRows zs }] (.tup []) ([{ s := 1, rows := iRows (zs.mergeSort fun x y => decide (x ≤ y)) }].map some) := by
  refine ⟨sslices_Sort_Lint_int.body, by simp, fun T M w vs htok hhs hdom hrep => ?_⟩
  have hpos : 0 < zs.length := List.length_pos_iff.2 h0
  obtain ⟨hsz, hr⟩ := hrep
  have hr0 := hr 0 (by simp)
  simp only [List.getD_cons_zero] at hr0
  have hvs : vs = #[vs.getD 0 undef] := by
    apply Array.ext
    · simpa using hsz
    · intro i h1 h2
      have : i = 0 := by simp at h2; omega
      subst this
      simp [Array.getD, h1]
  rw [hvs]
  generalize vs.getD 0 undef = v at hr0
  cases hr0 with
  | rs _ _ _ _ cap a g hg hlc hn hb =>
  obtain ⟨g', hg', ent⟩ := hhs.ent 0 _ rfl
  rw [hg] at hg'
  obtain rfl := Option.some.inj hg'
  have hrl : (iRows zs).length = zs.length := by simp [iRows]
  cases hblk : g.blk with
  | none =>
    have := ent.none hblk
    simp [iRows] at this
    exact absurd this h0
  | some b =>
  obtain ⟨hcap, c0, t0, f0, hc0, hle0⟩ := hb b hblk
  obtain ⟨cells, ty, hw, htb, hlen, hrows⟩ := ent.blk b hblk
  have ha : a = some ⟨b, g.base + 0 * g.s, none⟩ := by
    rcases hcap with h | h
    · omega
    · exact h
  subst ha
  simp only [Nat.zero_mul, Nat.add_zero] at *
  have hcell : ∀ i, (hi : i < zs.length) → cells[g.base + i]? = some (.int .i64 zs[i]) := by
    intro i hi
    obtain ⟨u, hu, _, hru⟩ := hrows i 0 (by rw [hrl]; exact hi) (by decide)
    simp only [Nat.mul_one, Nat.add_zero] at hu
    rw [hu]
    have : ((iRows zs).getD i []).getD 0 .dead = .I zs[i] := by simp [iRows, List.getD, hi]
    rw [this] at hru
    cases hru
    rfl
  have hb' : b < w.heap.size := (Array.getElem?_eq_some_iff.1 hw).1
  refine (Any.slices_Sort_int Try.lays189 b g.base cap zs w ?_ hb' hl).mono ?_
  · intro j hj
    have hj' : j < zs.length := by simpa using hj
    constructor
    · show w.cell? _ = _
      unfold World.cell?
      simp only [hw]
      rw [hcell j hj']
      simp [hj']
    · unfold World.frozen?
      simp only [hw]
      simp
  · rintro e w' ⟨rfl, n, os, rfl⟩
    have hsl : (zs.mergeSort fun x y => decide (x ≤ y)).length = zs.length := List.length_mergeSort zs
    generalize (zs.mergeSort fun x y => decide (x ≤ y)) = ys at hsl
    have hh : ∀ b', b' < w.heap.size → (Go.Sort.grow (Go.Sort.putRow (Value.int .i64) (Go.Sort.ahead w n) b g.base ys.toArray) os).heap[b']? = if b' = b then some (.cells (Go.Sort.putCells (Value.int .i64) g.base ys.toArray cells) ty (0, 0)) else w.heap[b']? := by
      intro b' hb1
      have hsz' : (w.heap.modify b (Go.Sort.onCells (Go.Sort.putCells (Value.int .i64) g.base ys.toArray))).size = w.heap.size := Array.size_modify
      show ((w.heap.modify b (Go.Sort.onCells (Go.Sort.putCells (Value.int .i64) g.base ys.toArray))) ++ os)[b']? = _
      rw [Array.getElem?_append_left (by rw [hsz']; exact hb1), Array.getElem?_modify]
      by_cases hbb : b = b'
      · subst hbb
        rw [if_pos rfl, if_pos rfl, hw]
        rfl
      · rw [if_neg hbb, if_neg (Ne.symm hbb)]
    have hput : ∀ o, (o < g.base ∨ g.base + ys.length ≤ o) → (Go.Sort.putCells (Value.int .i64) g.base ys.toArray cells)[o]? = cells[o]? := by
      intro o ho
      unfold Go.Sort.putCells
      rw [Array.getElem?_mapIdx]
      cases hc : cells[o]? with
      | none => rfl
      | some u =>
        simp only [Option.map_some]
        rw [if_neg]
        simp
        omega
    have hput2 : ∀ i, (hi : i < ys.length) → (Go.Sort.putCells (Value.int .i64) g.base ys.toArray cells)[g.base + i]? = some (.int .i64 ys[i]) := by
      intro i hi
      unfold Go.Sort.putCells
      rw [Array.getElem?_mapIdx, hcell i (by omega)]
      simp only [Option.map_some]
      rw [if_pos (by simp; omega)]
      simp [hi]
    have hcs : (Go.Sort.putCells (Value.int .i64) g.base ys.toArray cells).size = cells.size := by
      unfold Go.Sort.putCells
      exact Array.size_mapIdx
    have hbig : w.heap.size ≤ (Go.Sort.grow (Go.Sort.putRow (Value.int .i64) (Go.Sort.ahead w n) b g.base ys.toArray) os).heap.size := by
      show w.heap.size ≤ ((w.heap.modify b _) ++ os).size
      rw [Array.size_append, Array.size_modify]
      omega
    have htb' : T b ≤ g.base := by simpa using htb
    generalize hw' : (Go.Sort.grow (Go.Sort.putRow (Value.int .i64) (Go.Sort.ahead w n) b g.base ys.toArray) os) = w' at hh hbig
    have hlt : ∀ b' o, w.heap[b']? = some o → b' < w.heap.size := fun b' o h => (Array.getElem?_eq_some_iff.1 h).1
    have hpr : Pres T w T w' := by
      refine ⟨fun _ => Nat.le_refl _, fun b' cs' ty' fz' h => ?_⟩
      rw [hh b' (hlt _ _ h)]
      by_cases hbb : b' = b
      · subst hbb
        rw [hw] at h
        cases h
        exact ⟨_, _, if_pos rfl, hcs, fun o ho => hput o (.inl (by omega))⟩
      · exact ⟨cs', fz', by rw [if_neg hbb]; exact h, rfl, fun _ _ => rfl⟩
    rw [hpOut_some]
    refine ⟨_, T, M, rfl, .tup M [] #[] rfl (fun i hi => by simp at hi), ⟨fun id e he => ?_, fun id id' e e' g1 g2 b' h1 h2 h3 h4 h5 h6 => ?_⟩, ⟨fun b' hb1 => ?_, fun _ _ _ => rfl, fun _ _ => rfl, ?_, ?_, ?_, hbig, fun b' hb1 hb2 => ?_, hpr, fun k g1 b' hk hg1 _ => ?_⟩⟩
    · have hid : id = 0 := by
        cases id with
        | zero => rfl
        | succ k => simp [hpOf] at he
      subst hid
      simp only [hpOf, List.getElem?_cons_zero, Option.some.injEq] at he
      subst he
      refine ⟨g, hg, ⟨ent.s, Nat.zero_le _, fun row hr => ?_, fun hn => (by rw [hblk] at hn; cases hn), fun b' hb1 => ?_⟩⟩
      · simp [iRows] at hr
        obtain ⟨x, _, rfl⟩ := hr
        rfl
      · rw [hblk] at hb1
        obtain rfl := Option.some.inj hb1
        refine ⟨_, ty, by rw [hh _ hb', if_pos rfl], by simpa using htb', by simp [iRows, hcs, hsl]; simpa [iRows] using hlen, fun i j hi hj => ?_⟩
        have hi' : i < ys.length := by simpa [iRows] using hi
        have hj' : j = 0 := by simp at hj; omega
        subst hj'
        refine ⟨.int .i64 ys[i], by simpa using hput2 i hi', rfl, ?_⟩
        have : ((iRows ys).getD i []).getD 0 .dead = .I ys[i] := by simp [iRows, List.getD, hi']
        rw [this]
        exact .sc _ _ rfl
    · have h0 : ∀ id e, hpOf [({ s := 1, rows := iRows ys } : Ent)] id = some e → id = 0 := by
        intro id e he
        cases id with
        | zero => rfl
        | succ k => simp [hpOf] at he
      rw [h0 _ _ h1, h0 _ _ h2]
    · obtain ⟨c1, ty1, fz1, h1, h2⟩ := htok b' hb1
      obtain ⟨c2, fz2, h3, h4, _⟩ := hpr.cell b' c1 ty1 fz1 h1
      exact ⟨c2, ty1, fz2, h3, by omega⟩
    · rw [← hw']; rfl
    · rw [← hw']; rfl
    · rw [← hw']; rfl
    · rw [hh b' hb1, if_neg]
      intro hbb
      exact hb2 ⟨0, g, by simp, hg, by rw [hblk, hbb]⟩
    · rw [hdom k hk] at hg1
      cases hg1
end Go.Proofs.Ytnphfkceoklkkaa
namespace Go.Proofs.Ytnphfkceoklkkaa
open Go
theorem After.refl {n : Nat} {T : Nat → Nat} {M : GM} {w : World} (htok : TOk T w) (hdom : ∀ k, n ≤ k → M k = none) : After n T M w T M w :=
  ⟨htok, fun _ _ _ => rfl, fun _ _ => rfl, rfl, rfl, rfl, Nat.le_refl _, fun _ _ _ => rfl, ⟨fun _ => Nat.le_refl _, fun _ cells _ fz h => ⟨cells, fz, h, rfl, fun _ _ => rfl⟩⟩, fun k g b hk h => by rw [hdom k hk] at h; cases h⟩
theorem arr1 {vs : Array Value} (h : vs.size = 1) : vs = #[vs.getD 0 undef] := by
  apply Array.ext
  · simpa using h
  · intro i h1 h2
    have : i = 0 := by simp at h2; omega
    subst this
    simp [Array.getD, h1]
theorem sort_ok (zs : List Int) (hl : zs.length < 4611686018427387904) :
    ACalls Try.prog nslices_Sort_Lint_int [.rs 0 0 zs.length] [{ s := 1, rows := iRows zs }] (.tup []) ([{ s := 1, rows := iRows (zs.mergeSort fun x y => decide (x ≤ y)) }].map some) := by
  by_cases h0 : zs = []
  · subst h0
    refine ⟨sslices_Sort_Lint_int.body, by simp, fun T M w vs htok hhs hdom hrep => ?_⟩
    obtain ⟨hsz, hr⟩ := hrep
    have hr0 := hr 0 (by simp)
    simp only [List.getD_cons_zero] at hr0
    rw [arr1 hsz]
    generalize vs.getD 0 undef = v at hr0
    cases hr0 with
    | rs _ _ _ _ cap a g hg hlc hn hb =>
    refine (Any.slices_Sort_int_none Try.lays189 a cap w).mono ?_
    rintro e w' ⟨rfl, rfl⟩
    exact ⟨_, T, M, rfl, .tup M [] #[] rfl (fun i hi => by simp at hi), by rw [hpOut_some]; simpa using hhs, After.refl htok hdom⟩
  · exact sort_some zs h0 hl
end Go.Proofs.Ytnphfkceoklkkaa
namespace Go.Proofs.Ytnphfkceoklkkaa
open Go
end Go.Proofs.Ytnphfkceoklkkaa
namespace Go.Proofs.Ytnphfkceoklkkaa
open Go
@[simp] theorem conv_fn {ρ : List (Nat × Nat)} {sn : List Nat} {h : Nat → Option Ent} {n : Nat} {f : Fn} {a b : List AV} : conv ρ sn h (n + 1) (.fn f a b) = .fn f (a.map (conv ρ sn h n)) (b.map (conv ρ sn h n)) := (rfl)
end Go.Proofs.Ytnphfkceoklkkaa
namespace Go.Proofs.Ytnphfkceoklkkaa
open Go
set_option maxRecDepth 100000
def cmade_Light : AFun := ⟨6,[(2,none)],
 (.seq (.reg false [oo 2 .mv [.c (.bool false)]] [])
 (.seq (.reg false [oo 3 .mv [.t 0],oo 4 .len [.t 3],oo 5 (.bin .leq) [.t 4,ki 400],oo 2 .mv [.t 5]] [])
 .ret))⟩
def cmade_Roll : AFun := ⟨6,[(2,none)],
 (.seq (.reg false [oo 2 .mv [(.c (.pointer none))]] [])
 (.seq (.reg false [oo 3 .mv [.t 0],oo 4 (.build [vn,v0] [(0,1)]) [.t 3],oo 5 (.box 2) [.t 4],oo 2 .mv [.t 5]] [])
 .ret))⟩
def cmade_Dice_Next : AFun := ⟨35,[(4,none)],
 (.seq (.reg false [oo 4 .mv [ki 0]] [])
 (.seq (.seq
 (.reg true [oo 5 .mv [.t 0],oo 6 .nil [.t 5],oo 7 (.fad 1) [.t 6],oo 8 (.ld false 1) [.t 7],oo 9 .mv [.t 0],oo 10 .nil [.t 9],oo 11 (.fad 0) [.t 10],oo 12 (.ld false 1) [.t 11],oo 13 .len [.t 12],oo 14 (.bin .geq) [.t 8,.t 13]] [[],[0],[1],[2],[],[4],[5],[6],[7],[3,8]])
 (.cond (.t 14)
 (.seq (.reg false [
 oo 4 .mv [ki 0]] [])
 .ret)
 .skip))
 (.seq (.reg false [oo 15 .mv [.t 0],oo 16 .nil [.t 15],oo 17 (.fad 1) [.t 16],oo 18 (.ld false 1) [.t 17],oo 19 (.bin .add) [.t 18,ki 1],oo 20 .nil [.t 15],oo 21 (.fad 1) [.t 20],ou (.st 1) [.t 21,.t 19]] [])
 (.seq (.reg true [oo 22 .mv [.t 0],oo 23 .nil [.t 22],oo 24 (.fad 0) [.t 23],oo 25 (.ld false 1) [.t 24],oo 26 .mv [.t 0],oo 27 .nil [.t 26],oo 28 (.fad 1) [.t 27],oo 29 (.ld false 1) [.t 28],oo 30 (.bin .sub) [.t 29,ki 1],oo 31 (.iad 1) [.t 25,.t 30],oo 32 (.ld false 1) [.t 31],oo 33 .mv [.t 1],oo 34 .call [.f nmade_Mod,.t 32,.t 33],oo 4 .mv [.t 34]] [[],[0],[1],[2],[],[4],[5],[6],[7],[3,8],[9],[],[10,11],[12,12,0,1,2,3,4,5,6,7,8,9,10,11,12]])
 .ret))))⟩
def cmade_Dice_Of : AFun := ⟨12,[(4,none)],
 (.seq (.reg false [oo 4 .mv [ki 0]] [])
 (.seq (.reg false [oo 5 .mv [.t 1],oo 6 .mv [.t 0],oo 7 .mv [.t 1],oo 8 .len [.t 7],oo 9 .call [.f nmade_Dice_Next,.t 6,.t 8],oo 10 (.iad 1) [.t 5,.t 9],oo 11 (.ld false 1) [.t 10],oo 4 .mv [.t 11]] [])
 .ret))⟩
def cmade_Dice_One : AFun := ⟨11,[(4,none)],
 (.seq (.reg false [oo 4 .mv [.c (.bool false)]] [])
 (.seq (.reg false [oo 5 .mv [.t 0],oo 6 .mv [.t 1],oo 7 .call [.f nmade_Dice_Next,.t 5,.t 6],oo 8 .mv [.t 1],oo 9 (.bin .sub) [.t 8,ki 1],oo 10 (.bin .eql) [.t 7,.t 9],oo 4 .mv [.t 10]] [])
 .ret))⟩
def cmade_Mod : AFun := ⟨16,[(4,none)],
 (.seq (.reg false [oo 4 .mv [ki 0]] [])
 (.seq (.seq
 (.reg false [oo 5 .mv [.t 1],oo 6 (.bin .lss) [.t 5,ki 1]] [])
 (.cond (.t 6)
 (.seq (.reg false [
 oo 4 .mv [ki 0]] [])
 .ret)
 .skip))
 (.seq (.reg false [oo 7 .mv [.t 0],oo 8 .mv [.t 1],oo 9 (.bin .rem) [.t 7,.t 8],oo 0 .mv [.t 9]] [])
 (.seq (.seq
 (.reg false [oo 10 .mv [.t 0],oo 11 (.bin .lss) [.t 10,ki 0]] [])
 (.cond (.t 11)
 (.reg false [
 oo 12 .mv [.t 0],
 oo 13 .mv [.t 1],
 oo 14 (.bin .add) [.t 12,.t 13],
 oo 0 .mv [.t 14]] [])
 .skip))
 (.seq (.reg false [oo 15 .mv [.t 0],oo 4 .mv [.t 15]] [])
 .ret)))))⟩
end Go.Proofs.Ytnphfkceoklkkaa
namespace Go.Proofs.Ytnphfkceoklkkaa
open Go
theorem smade_Light : Src Try.prog nmade_Light cmade_Light := ⟨mixed, Try.f14, by kernel_rfl, by kernel_rfl, by decide⟩
theorem smade_Roll : Src Try.prog nmade_Roll cmade_Roll := ⟨mixed, Try.f16, by kernel_rfl, by kernel_rfl, by decide⟩
theorem smade_Dice_Next : Src Try.prog nmade_Dice_Next cmade_Dice_Next := ⟨mixed, Try.f20, by kernel_rfl, by kernel_rfl, by decide⟩
theorem smade_Dice_Of : Src Try.prog nmade_Dice_Of cmade_Dice_Of := ⟨mixed, Try.f21, by kernel_rfl, by kernel_rfl, by decide⟩
theorem smade_Dice_One : Src Try.prog nmade_Dice_One cmade_Dice_One := ⟨mixed, Try.f22, by kernel_rfl, by kernel_rfl, by decide⟩
theorem smade_Mod : Src Try.prog nmade_Mod cmade_Mod := ⟨mixed, Try.f24, by kernel_rfl, by kernel_rfl, by decide⟩
end Go.Proofs.Ytnphfkceoklkkaa
namespace Go.Proofs.Ytnphfkceoklkkaa
open Go
end Go.Proofs.Ytnphfkceoklkkaa
namespace Go.Proofs.Ytnphfkceoklkkaa
open Go
def modI (n m : Int) : Int := if m < 1 then 0 else n % m
theorem tmod_emod {n m : Int} (hm : 0 < m) : n.tmod m % m = n % m := by
  have h := Int.mul_tdiv_add_tmod n m
  conv => rhs; rw [← h]
  rw [Int.add_comm, Int.add_mul_emod_self_left]
theorem tmod_range {n m : Int} (hm : 0 < m) : -m < n.tmod m ∧ n.tmod m < m := ⟨Int.lt_tmod_of_pos n hm, Int.tmod_lt_of_pos n hm⟩
def nextD (L : List Int) (a : Nat) (n : Int) : Int × Nat := if h : a < L.length then (modI L[a] n, a + 1) else (0, a)
abbrev dice (L : List Int) (a : Nat) : Ent := ⟨2, [[ints L, .I a]], 0⟩
theorem RetOk.k1 {rs : List (Nat × Option (Bool × Nat))} {st : St} {vs : List AV} {res : AV} {e : Ent} (h1 : resAll st rs = some vs) (hw : Wk (conv [(0, 0)] [] st.hp 4 (resV vs)) res) (he : (st.hp 0).map (convE [(0, 0)] [] st.hp 4) = some e) : RetOk rs 1 st res [some e] :=
  ⟨vs, h1, [], [], by decide, by simp, by simp, hw, by simpa using he⟩
theorem Light_ok (L : List Int) : ACalls Try.prog nmade_Light [ints L] [] (.B (decide (L.length ≤ 400))) [] := by
  refine smade_Light.acalls (Nat.le_of_ble_eq_true rfl) (Nat.le_of_ble_eq_true rfl) (Nat.le_refl _) ?_
  show awp _ 0 _ _ ⟨6, [(0, ints L)], [], 16⟩
  refine awp_seq ?_
  refine awp_run (s := ?s1) rfl ?o1 ?q1
  case o1 => simp; rfl
  refine awp_regc ⟨6, [(2, .B (decide (L.length ≤ 400)))], [], 16⟩ rfl ?_ ?_
  · simp
    exact Le.snap [] rfl rfl (by simp <;> exact wkB (by simp; omega))
  refine awp_ret ?_
  exact ⟨.inr rfl, RetOk.one (by simp)⟩
theorem Mod_ok (n m : Int) (hm : m ≤ 9223372036854775807) : ACalls Try.prog nmade_Mod [.I n, .I m] [] (.I (modI n m)) [] := by
  refine smade_Mod.acalls (Nat.le_of_ble_eq_true rfl) (Nat.le_of_ble_eq_true rfl) (Nat.le_refl _) ?_
  show awp _ 0 _ _ ⟨16, [(0, .I n), (1, .I m)], [], 16⟩
  refine awp_seq ?_
  refine awp_run (s := ?s1) rfl ?o1 ?q1
  case o1 => simp; rfl
  refine awp_seq ?_
  refine awp_seq ?_
  refine awp_run (s := ?s2) rfl ?o2 ?q2
  case o2 => simp; rfl
  refine awp_cond _ rfl (fun h3 => ?_) fun h3 => ?_
  · try simp at h3
    refine awp_seq ?_
    refine awp_run (s := ?s4) rfl ?o4 ?q4
    case o4 => simp; rfl
    refine awp_ret ?_
    exact ⟨.inr rfl, RetOk.one (by simp [modI, h3])⟩
  try simp at h3
  have hm0 : m ≠ 0 := by omega
  have hlt : ¬ m < 1 := by omega
  obtain ⟨t1, t2⟩ := tmod_range (n := n) (m := m) (by omega)
  have te := tmod_emod (n := n) (m := m) (by omega)
  refine awp_skip ?_
  refine awp_seq ?_
  refine awp_run (s := ?s5) rfl ?o5 ?q5
  case o5 => simp [hm0]; rfl
  refine awp_seq ?_
  refine awp_seq ?_
  refine awp_run (s := ?s6) rfl ?o6 ?q6
  case o6 => simp; rfl
  refine awp_cond _ rfl (fun h7 => ?_) fun h7 => ?_
  · try simp at h7
    have hw : IntKind.i64.wrap (n.tmod m + m) = n.tmod m + m := w64 (by omega) (by omega)
    have hr : n % m = n.tmod m + m := by rw [← te, ← Int.add_emod_right, Int.emod_eq_of_lt (by omega) (by omega)]
    refine awp_run (s := ?s8) rfl ?o8 ?q8
    case o8 => simp [hw]; rfl
    refine awp_seq ?_
    refine awp_run (s := ?s9) rfl ?o9 ?q9
    case o9 => simp; rfl
    refine awp_ret ?_
    exact ⟨.inr rfl, RetOk.one (by simp [modI, hlt, hr])⟩
  try simp at h7
  have hr : n % m = n.tmod m := by rw [← te, Int.emod_eq_of_lt (by omega) (by omega)]
  refine awp_skip ?_
  refine awp_seq ?_
  refine awp_run (s := ?s10) rfl ?o10 ?q10
  case o10 => simp; rfl
  refine awp_ret ?_
  exact ⟨.inr rfl, RetOk.one (by simp [modI, hlt, hr])⟩
theorem Roll_ok (L : List Int) : ACalls Try.prog nmade_Roll [ints L] [] (.pt 0 0 0) [some (dice L 0)] := by
  refine smade_Roll.acalls (Nat.le_of_ble_eq_true rfl) (Nat.le_of_ble_eq_true rfl) (Nat.zero_le _) ?_
  show awp _ 0 _ _ ⟨6, [(0, ints L)], [], 16⟩
  refine awp_seq ?_
  refine awp_run (s := ?s1) rfl ?o1 ?q1
  case o1 => simp; rfl
  refine awp_seq ?_
  refine awp_run (s := ?s2) rfl ?o2 ?q2
  case o2 => simp; rfl
  refine awp_ret ?_
  exact ⟨.inr rfl, RetOk.out [40] [] rfl (by simp) (by simp) (by simp) (by simp)⟩
theorem Next_ok (L : List Int) (a : Nat) (n : Int) (hl : L.length ≤ 1099511627776) (ha : a ≤ L.length) (hn : n ≤ 9223372036854775807) : ACalls Try.prog nmade_Dice_Next [.pt 0 0 0, .I n] [dice L a] (.I (nextD L a n).1) [some (dice L (nextD L a n).2)] := by
  refine smade_Dice_Next.acalls (Nat.le_of_ble_eq_true rfl) (Nat.le_of_ble_eq_true rfl) (Nat.le_refl _) ?_
  show awp _ 1 _ _ ⟨35, [(0, .pt 0 0 0), (1, .I n)], [(0, some (dice L a))], 16⟩
  refine awp_seq ?_
  refine awp_run (s := ?s1) rfl ?o1 ?q1
  case o1 => simp; rfl
  refine awp_seq ?_
  refine awp_seq ?_
  refine awp_drun (s := ?s2) (tr := ?t2) rfl ?o2 ?r2 ?q2
  case o2 => simp; constructor <;> rfl
  case r2 => rfl
  refine awp_cond _ rfl (fun h3 => ?_) fun h3 => ?_
  · try simp at h3
    refine awp_seq ?_
    refine awp_run (s := ?s4) rfl ?o4 ?q4
    case o4 => simp; rfl
    refine awp_ret ?_
    have hr : nextD L a n = (0, a) := by unfold nextD; rw [dif_neg (by omega)]
    rw [hr]
    exact ⟨.inr rfl, RetOk.k1 rfl (by simp) (by simp [Function.comp_def])⟩
  try simp at h3
  have hw : IntKind.i64.wrap ((a : Int) + 1) = (a : Int) + 1 := w64 (by omega) (by omega)
  have hw0 : IntKind.i64.wrap (a : Int) = (a : Int) := w64 (by omega) (by omega)
  refine awp_skip ?_
  refine awp_seq ?_
  refine awp_run (s := ?s5) rfl ?o5 ?q5
  case o5 => simp [hw]; rfl
  refine awp_seq ?_
  refine awp_drun (s := ?s6) (tr := ?t6) rfl ?o6 ?r6 ?q6
  case o6 => simp [hw0, h3]; refine call0e (Mod_ok _ _ hn) rfl ?_; simp; constructor <;> rfl
  case r6 => rfl
  refine awp_ret ?_
  have hr : nextD L a n = (modI L[a] n, a + 1) := by unfold nextD; rw [dif_pos h3]
  rw [hr]
  exact ⟨.inr rfl, RetOk.k1 rfl (by simp) (by simp [Function.comp_def])⟩
end Go.Proofs.Ytnphfkceoklkkaa
namespace Go.Proofs.Ytnphfkceoklkkaa
open Go
theorem modI_lt {n m : Int} (hm : 0 < m) : 0 ≤ modI n m ∧ modI n m < m := by
  unfold modI
  rw [if_neg (by omega)]
  exact ⟨Int.emod_nonneg _ (by omega), Int.emod_lt_of_pos _ hm⟩
theorem nextD_lt {L : List Int} {a : Nat} {n : Int} (hn : 0 < n) : 0 ≤ (nextD L a n).1 ∧ (nextD L a n).1 < n := by
  unfold nextD
  split
  · exact modI_lt hn
  · exact ⟨Int.le_refl _, hn⟩
theorem nextD_le {L : List Int} {a : Nat} {n : Int} (ha : a ≤ L.length) : (nextD L a n).2 ≤ L.length := by
  unfold nextD
  split
  · simp only; omega
  · exact ha
def ofD (L : List Int) (a : Nat) (l : List Int) : Int := l.getD (nextD L a l.length).1.toNat 0
theorem One_ok (L : List Int) (a : Nat) (n : Int) (hl : L.length ≤ 1099511627776) (ha : a ≤ L.length) (hn0 : 0 ≤ n) (hn : n ≤ 9223372036854775807) : ACalls Try.prog nmade_Dice_One [.pt 0 0 0, .I n] [dice L a] (.B (decide ((nextD L a n).1 = n - 1))) [some (dice L (nextD L a n).2)] := by
  refine smade_Dice_One.acalls (Nat.le_of_ble_eq_true rfl) (Nat.le_of_ble_eq_true rfl) (Nat.le_refl _) ?_
  show awp _ 1 _ _ ⟨11, [(0, .pt 0 0 0), (1, .I n)], [(0, some (dice L a))], 16⟩
  have hw : IntKind.i64.wrap (n - 1) = n - 1 := w64 (by omega) (by omega)
  refine awp_seq ?_
  refine awp_run (s := ?s1) rfl ?o1 ?q1
  case o1 => simp; rfl
  refine awp_seq ?_
  refine awp_run (s := ?s2) rfl ?o2 ?q2
  case o2 =>
    simp
    refine callM1 (i := 0) rfl (e' := dice L a) (by simp [Function.comp_def]) (Next_ok L a n hl ha hn) (by simp) (by simp) ?_
    simp [hw, Function.comp_def]
    rfl
  refine awp_ret ?_
  exact ⟨.inr rfl, RetOk.k1 rfl (by simp <;> exact wkB rfl) (by simp [Function.comp_def])⟩
theorem Of_ok (L : List Int) (a : Nat) (l : List Int) (hl : L.length ≤ 1099511627776) (ha : a ≤ L.length) (h0 : 0 < l.length) (hl2 : l.length ≤ 1099511627776) : ACalls Try.prog nmade_Dice_Of [.pt 0 0 0, ints l] [dice L a] (.I (ofD L a l)) [some (dice L (nextD L a l.length).2)] := by
  refine smade_Dice_Of.acalls (Nat.le_of_ble_eq_true rfl) (Nat.le_of_ble_eq_true rfl) (Nat.le_refl _) ?_
  show awp _ 1 _ _ ⟨12, [(0, .pt 0 0 0), (1, ints l)], [(0, some (dice L a))], 16⟩
  obtain ⟨q, hq, hql⟩ : ∃ q : Nat, (nextD L a l.length).1 = q ∧ q < l.length := by
    have := nextD_lt (L := L) (a := a) (n := l.length) (by omega)
    exact ⟨(nextD L a l.length).1.toNat, by omega, by omega⟩
  have ho : ofD L a l = l[q] := by unfold ofD; rw [hq]; simp [hql]
  refine awp_seq ?_
  refine awp_run (s := ?s1) rfl ?o1 ?q1
  case o1 => simp; rfl
  refine awp_seq ?_
  refine awp_run (s := ?s2) rfl ?o2 ?q2
  case o2 =>
    simp
    refine callM1 (i := 0) rfl (e' := dice L a) (by simp [Function.comp_def]) (Next_ok L a l.length hl ha (by omega)) (by simp) (by simp) ?_
    simp [hq, hql, Function.comp_def]
    rfl
  refine awp_ret ?_
  rw [ho]
  exact ⟨.inr rfl, RetOk.k1 rfl (by simp) (by simp [Function.comp_def])⟩
end Go.Proofs.Ytnphfkceoklkkaa
namespace Go.Proofs.Ytnphfkceoklkkaa
open Go
section
variable {P : Program} {np id : Nat} {h : Nat → Option Ent} {K : AV → List Nat → List (Nat × Option Ent) → Prop} {s i off len c k l m : Nat}
@[simp] theorem k_slkl : aK P np id (.slc s true false false) [.rk i off len c, .sc (.int .i64 (k : Int))] h K = (k ≤ len ∧ len ≤ c ∧ (∃ e, h i = some e ∧ e.s = s) ∧ K (.rk i (off + k) (len - k) (c - k)) [i] []) := by
  rw [k_slc]
  refine propext ⟨?_, ?_⟩
  · rintro ⟨l, r, m, n, h1, h2, h4, h5, h6, h7, h3, h10, h11, h8, h9⟩
    obtain rfl := h6 rfl
    simp at h4 h1
    subst h1
    have : k = l := by omega
    subst this
    obtain rfl := h11 rfl
    exact ⟨h2, h3, h8, h9⟩
  · rintro ⟨h1, h2, h3, h4⟩
    exact ⟨k, len, c, len, rfl, h1, by simp, (fun h => by cases h), fun _ => rfl, (fun h => by cases h), h2, Nat.le_refl _, fun _ => rfl, h3, h4⟩
@[simp] theorem k_slkh : aK P np id (.slc s false true false) [.rk i off len c, .sc (.int .i64 (k : Int))] h K = (k ≤ c ∧ (∃ e, h i = some e ∧ e.s = s) ∧ K (.rk i off k c) [i] []) := by
  rw [k_slc]
  refine propext ⟨?_, ?_⟩
  · rintro ⟨l, r, m, n, h1, h2, h4, h5, h6, h7, h3, h10, h11, h8, h9⟩
    obtain rfl := h5 rfl
    simp at h4 h1
    have : k = r := by omega
    subst this
    obtain rfl := h11 rfl
    exact ⟨h3, h8, by simpa using h9⟩
  · rintro ⟨h1, h3, h4⟩
    exact ⟨0, k, c, len, rfl, Nat.zero_le _, by simp, fun _ => rfl, (fun h => by cases h), (fun h => by cases h), h1, Nat.le_refl _, fun _ => rfl, h3, by simpa using h4⟩
@[simp] theorem k_slklh : aK P np id (.slc s true true false) [.rk i off len c, .sc (.int .i64 (l : Int)), .sc (.int .i64 (k : Int))] h K = (l ≤ k ∧ k ≤ c ∧ (∃ e, h i = some e ∧ e.s = s) ∧ K (.rk i (off + l) (k - l) (c - l)) [i] []) := by
  rw [k_slc]
  refine propext ⟨?_, ?_⟩
  · rintro ⟨l', r, m, n, h1, h2, h4, h5, h6, h7, h3, h10, h11, h8, h9⟩
    simp at h4 h1
    have : k = r := by omega
    subst this
    have : l = l' := by omega
    subst this
    obtain rfl := h11 rfl
    exact ⟨h2, h3, h8, h9⟩
  · rintro ⟨h1, h2, h3, h4⟩
    exact ⟨l, k, c, len, rfl, h1, by simp, (fun h => by cases h), (fun h => by cases h), (fun h => by cases h), h2, Nat.le_refl _, fun _ => rfl, h3, h4⟩
@[simp] theorem k_slkm : aK P np id (.slc s true true true) [.rk i off len c, .sc (.int .i64 (l : Int)), .sc (.int .i64 (k : Int)), .sc (.int .i64 (m : Int))] h K = (l ≤ k ∧ k ≤ m ∧ m ≤ c ∧ (∃ e, h i = some e ∧ e.s = s) ∧ K (.rk i (off + l) (k - l) (m - l)) [i] []) := by
  rw [k_slc]
  refine propext ⟨?_, ?_⟩
  · rintro ⟨l', r, m', n, h1, h2, h4, h5, h6, h7, h3, h10, h11, h8, h9⟩
    simp at h4 h1
    have : k = r := by omega
    subst this
    have : l = l' := by omega
    subst this
    have : m = m' := by omega
    subst this
    exact ⟨h2, h3, h10, h8, h9⟩
  · rintro ⟨h1, h2, h3, h4, h5⟩
    exact ⟨l, k, m, len, rfl, h1, by simp, (fun h => by cases h), (fun h => by cases h), (fun _ => rfl), h2, h3, (fun h => by cases h), h4, h5⟩
@[simp] theorem k_slrl : aK P np id (.slc s true false false) [.rs i off len, .sc (.int .i64 (k : Int))] h K = (k ≤ len ∧ (∃ e, h i = some e ∧ e.s = s) ∧ K (.rs i (off + k) (len - k)) [i] []) := by
  rw [k_slc]
  refine propext ⟨?_, ?_⟩
  · rintro ⟨l, r, m, n, h1, h2, h4, h5, h6, h7, h3, h10, h8, h9⟩
    obtain rfl := h6 rfl
    simp at h4 h1
    subst h1
    have : k = l := by omega
    subst this
    exact ⟨h2, h8, h9⟩
  · rintro ⟨h1, h3, h4⟩
    exact ⟨k, len, 0, len, rfl, h1, by simp, (fun h => by cases h), fun _ => rfl, (fun h => by cases h), Nat.le_refl _, rfl, h3, h4⟩
@[simp] theorem k_slrh : aK P np id (.slc s false true false) [.rs i off len, .sc (.int .i64 (k : Int))] h K = (k ≤ len ∧ (∃ e, h i = some e ∧ e.s = s) ∧ K (.rs i off k) [i] []) := by
  rw [k_slc]
  refine propext ⟨?_, ?_⟩
  · rintro ⟨l, r, m, n, h1, h2, h4, h5, h6, h7, h3, h10, h8, h9⟩
    obtain rfl := h5 rfl
    simp at h4 h1
    have : k = r := by omega
    subst this
    exact ⟨by omega, h8, by simpa using h9⟩
  · rintro ⟨h1, h3, h4⟩
    exact ⟨0, k, 0, len, rfl, Nat.zero_le _, by simp, fun _ => rfl, (fun h => by cases h), (fun h => by cases h), h1, rfl, h3, by simpa using h4⟩
end
theorem Le.keep {np : Nat} {st st' : St} (hsz : st'.sz = st.sz) (hn : st.n ≤ st'.n) (ht : ∀ p ∈ st'.t, st.get p.1 = p.2) (hh : ∀ p ∈ st'.h, ∀ e, p.2 = some e → st.hp p.1 = some e) : Le np st st' := by
  intro T0 M0 w0 T M a w ok hnp
  have hp : ∀ id e, st'.hp id = some e → st.hp id = some e := by
    intro id e he
    unfold St.hp at he
    cases hl : lkp st'.h id with
    | none => rw [hl] at he; cases he
    | some v =>
      rw [hl] at he
      exact hh _ (lkp_mem hl) e he
  refine ⟨T, M, ⟨ok.sz.trans hsz.symm, ok.df, fun i => ?_, ⟨fun id e he => ok.hs.ent id e (hp id e he), fun id id' e e' g g' b h1 h2 => ok.hs.inj id id' e e' g g' b (hp _ _ h1) (hp _ _ h2)⟩, fun id g hg => Nat.lt_of_lt_of_le (ok.dom id g hg) hn, ok.after⟩, Nat.le_trans hnp hn⟩
  unfold St.get at *
  cases hl : lkp st'.t i with
  | none => exact .dead _ _
  | some v =>
    have := ht _ (lkp_mem hl)
    simp only at this
    show Rep T w M v _
    rw [← this]
    exact ok.tm i
theorem RetOk.m1 {rs : List (Nat × Option (Bool × Nat))} {st : St} {vs : List AV} {res : AV} {e : Ent} (i : Nat) (hi : 1 ≤ i) (h1 : resAll st rs = some vs) (hw : Wk (conv [(0, 0), (i, 1)] [] st.hp 4 (resV vs)) res) (h0 : st.hp 0 = none) (he : (st.hp i).map (convE [(0, 0), (i, 1)] [] st.hp 4) = some e) : RetOk rs 1 st res [none, some e] :=
  ⟨vs, h1, [i], [], by simp [List.range, List.range.loop]; omega, by simpa using hi, by simp, by simpa [List.range, List.range.loop] using hw, by simpa [List.range, List.range.loop, h0] using he⟩
end Go.Proofs.Ytnphfkceoklkkaa
namespace Go.Proofs.Ytnphfkceoklkkaa
open Go
end Go.Proofs.Ytnphfkceoklkkaa
namespace Go.Proofs.Ytnphfkceoklkkaa
open Go
theorem GrOk.lt {g : Gr} (h : GrOk g) : ∀ (j i : Nat) (hi : i < g.edges.length) (hj : j < g.edges.length), i < j → Bef g.edges[i] g.edges[j]
  | 0, _, _, _, h0 => by omega
  | j + 1, i, hi, hj, hij => by
    have h1 : Bef g.edges[j] g.edges[j + 1] := cmpE_lt.1 ((h.2 (j + 1) hj).2.2.2 (by omega))
    rcases Nat.lt_or_ge i j with h2 | h2
    · have h3 := GrOk.lt h j i hi (by omega) h2
      unfold Bef at *
      omega
    · obtain rfl : i = j := by omega
      exact h1
theorem GrOk.mono {g : Gr} (h : GrOk g) (e : Ed) : ∀ (i j : Nat) (hi : i < g.edges.length) (hj : j < g.edges.length), i ≤ j → Bef g.edges[j] e → Bef g.edges[i] e := by
  intro i j hi hj hij hb
  rcases Nat.lt_or_ge i j with h2 | h2
  · have h3 := h.lt j i hi hj h2
    unfold Bef at *
    omega
  · obtain rfl : i = j := by omega
    exact hb
section
variable {P : Program} {np id : Nat} {h : Nat → Option Ent} {K : AV → List Nat → List (Nat × Option Ent) → Prop} {f : FuncId} {first capt args args' : List AV} {res : AV}
theorem callM1s {i j : Nat} {e e' ej : Ent} {hs' : List (Option Ent)} (hij : j ≠ i) (hnp : np ≤ j) (hi : h i = some e) (hj : h j = some ej) (hee : convE [(i, 0)] [j] h 4 e = e') (hc : ACalls P f args' [e'] res hs') (h8 : hs'.length ≤ 9) (he : (first ++ args ++ capt).map (conv [(i, 0)] [j] h 4) = args')
    (hk : K (conv (swp [i] id) [] (fun _ => none) 4 res) [i, j] ((hs'.zipIdx.map fun (e, k) => ((i :: (List.range 8).map (id + ·)).getD k 0, e.map (convE (swp [i] id) [] (fun _ => none) 4))) ++ [(j, some { ej with ro := ej.rows.length })])) : aK P np id .call (.fn (.func f) first capt :: args) h K :=
  ⟨[i], [j], true, args', [e'], res, hs', by simp, by simpa using hij, by simpa using hnp, by rw [show [i].zipIdx = [(i, 0)] from rfl, he]; exact wkL_refl _, by rw [show [i].zipIdx = [(i, 0)] from rfl]; simpa [hi] using hee, hc, by simpa using h8, .inl rfl, by simpa [swp, hj] using hk⟩
end
end Go.Proofs.Ytnphfkceoklkkaa
namespace Go.Proofs.Ytnphfkceoklkkaa
open Go
end Go.Proofs.Ytnphfkceoklkkaa
namespace Go.Proofs.Ytnphfkceoklkkaa
open Go
theorem EntUp.eq {nl : List (Nat × Nat)} {e e' : Ent} (h : e = e') (hr : e'.ro ≤ e'.rows.length) : EntUp nl e e' := by
  subst h
  exact EntUp.rfl' hr
theorem EntUp.row {nl : List (Nat × Nat)} {s ro : Nat} {e : Ent} {r r' : List AV} (h : e = ⟨s, [r], ro⟩) (hr : ro ≤ 1) (hu : UpL nl r r') : EntUp nl e ⟨s, [r'], ro⟩ := by
  subst h
  exact ⟨rfl, Nat.le_refl _, hr, .inr ⟨r, r', rfl, rfl, hu⟩⟩
theorem Le.ents {np : Nat} {st st' : St} (ρ : List (Nat × Nat)) (sn : List Nat) (hsz : st'.sz = st.sz)
    (h0 : (ρ.map (·.1)).Nodup) (h1 : (ρ.map (·.2)).Nodup) (h2 : ∀ p ∈ ρ, p.2 < st'.n ∧ (p.2 < np → p.1 = p.2)) (h4 : ∀ i ∈ sn, np ≤ i ∧ i ∉ ρ.map (·.1)) (h5 : np ≤ st'.n)
    (ht : ∀ p ∈ st'.t, Wk (conv ρ sn st.hp 4 (st.get p.1)) p.2)
    (hh : ∀ p ∈ st'.h, ∃ q e e', p.2 = some e' ∧ (q, p.1) ∈ ρ ∧ st.hp q = some e ∧ EntUp [] (convE ρ sn st.hp 4 e) e') : Le np st st' :=
  Le.lst ρ sn [] hsz h0 h1 h2 (by simp) h4 h5 (by simp) (fun p hp => .inl (ht p hp)) fun p hp e' he' => by
    obtain ⟨q, e, e2, h1, h2, h3, h4⟩ := hh p hp
    rw [he'] at h1
    cases h1
    exact .inl ⟨(q, p.1), h2, rfl, e, h3, h4⟩
end Go.Proofs.Ytnphfkceoklkkaa
namespace Go.Proofs.Ytnphfkceoklkkaa
open Go
abbrev rowsK (k : IntKind) (l : List Int) : List (List AV) := l.map fun x => [AV.sc (.int k x)]
abbrev bys (l : List Int) : AV := .vs 1 false (rowsK .u8 l)
section
variable {P : Program} {np id : Nat} {h : Nat → Option Ent} {K : AV → List Nat → List (Nat × Option Ent) → Prop} {f : FuncId} {first capt args args' : List AV} {res : AV}
theorem callN1q (sn : List Nat) {e : Ent} (hc : ACalls P f args' [] res [some e]) (he : (first ++ args ++ capt).map (conv [] sn h 4) = args') (hp : Plain res) (hpe : PlainE e)
    (hk : K (conv (swp [] id) [] (fun _ => none) 4 res) sn [(id, some (convE (swp [] id) [] (fun _ => none) 4 e))]) : aK P np id .call (.fn (.func f) first capt :: args) h K :=
  ⟨[], sn, false, args', [], res, [some e], by simp, by simp, by simp, by rw [List.zipIdx_nil, he]; exact wkL_refl _, rfl, hc, by simp, .inr ⟨hp, fun e' he' => by simp at he'; subst he'; exact hpe⟩, by simpa [swp] using hk⟩
theorem callN1w {e : Ent} (hc : ACalls P f args' [] res [some e]) (he : WkL ((first ++ args ++ capt).map (conv [] [] h 4)) args')
    (hk : K (conv (swp [] id) [] (fun _ => none) 4 res) [] [(id, some (convE (swp [] id) [] (fun _ => none) 4 e))]) : aK P np id .call (.fn (.func f) first capt :: args) h K :=
  ⟨[], [], true, args', [], res, [some e], by simp, by simp, by simp, by rw [List.zipIdx_nil]; exact he, rfl, hc, by simp, .inl rfl, hk⟩
end
theorem plainK {k : IntKind} {l : List Int} : PlainE ⟨1, rowsK k l, 0⟩ := by
  intro row hrow x hx
  simp only [List.mem_map] at hrow
  obtain ⟨y, _, rfl⟩ := hrow
  simp at hx
  subst hx
  exact .sc _
theorem rowsK_flat (k : IntKind) (l : List Int) (ρ sn h m) : (rowsK k l).map (List.map (conv ρ sn h (m + 1))) = rowsK k l := by simp [Function.comp_def]
theorem rowsK_len (k : IntKind) (l : List Int) : (rowsK k l).length = l.length := by simp
theorem Le.K1 {st st' : St} {k : IntKind} {l : List Int} (i j : Nat) (sn : List Nat) (hsz : st'.sz = st.sz) (hh : st'.h = [(j, some ⟨1, rowsK k l, 0⟩)]) (hi : j < st'.n) (hs : ∀ j ∈ sn, j ≠ i) (h0 : st.hp i = some ⟨1, rowsK k l, 0⟩)
    (ht : ∀ p ∈ st'.t, Wk (conv [(i, j)] sn st.hp 4 (st.get p.1)) p.2) : Le 0 st st' :=
  Le.ren1 i j sn hsz hh hi hs h0 (by simp only [convE, rowsK_flat]) (Nat.zero_le _) ht
def byteN (v : Int) (k : Nat) : Int := IntKind.u8.wrap (v.fdiv (2 ^ (min (8 * k) 64)))
def intYn (v : Int) (n : Nat) : List Int := (List.range n).map fun j => byteN v (7 - j)
def intY (v : Int) : List Int := intYn v 8
theorem intYn_len (v : Int) (n : Nat) : (intYn v n).length = n := by simp [intYn]
theorem intY_len (v : Int) : (intY v).length = 8 := intYn_len v 8
theorem intYn_succ (v : Int) (n : Nat) : intYn v (n + 1) = intYn v n ++ [byteN v (7 - n)] := by simp [intYn, List.range_succ]
set_option maxRecDepth 100000 in
theorem ref02_Int_ok (b : List Int) (v : Int) (n : Nat) (hn : n = b.length + 8) (hl : b.length ≤ 1099511627776) : ACalls Try.prog nref02_Int [bys b, .I v] [] (.rs 0 0 n) [some ⟨1, rowsK .u8 (b ++ intY v), 0⟩] := by
  refine sref02_Int.acalls (Nat.le_of_ble_eq_true rfl) (Nat.le_of_ble_eq_true rfl) (Nat.zero_le _) ?_
  show awp _ 0 _ _ ⟨23, [(0, bys b), (1, .I v)], [], 16⟩
  refine awp_regc ⟨23, [(0, bys b), (1, .I v)], [], 24⟩ rfl (by simp; exact Le.snap [] rfl rfl (by simp)) ?_
  let Y : Nat → List Int := fun j => b ++ intYn v j
  have hYl : ∀ j, (Y j).length = b.length + j := fun j => by simp only [Y]; rw [List.length_append, intYn_len]
  have hYs : ∀ j, Y (j + 1) = Y j ++ [byteN v (7 - j)] := fun j => by simp only [Y]; rw [intYn_succ, List.append_assoc]
  have hY0 : Y 0 = b := by simp [Y, intYn]
  have hY8 : b ++ intY v = Y 8 := rfl
  rw [hY8, hn]
  refine awp_regc ⟨23, [(1, .I v), (5, .rs 32 0 (b.length + 0))], [(32, some ⟨1, rowsK .u8 (Y 0), 0⟩)], 48⟩ rfl ?_ ?_
  · simp [hY0]
    repeat' apply And.intro
    all_goals first | omega | exact Le.keep rfl (Nat.le_refl _) (by simp) (by simp)
  clear_value Y
  refine awp_seq ?_
  refine awp_regc ⟨23, [(1, .I v), (5, .rs 32 0 (b.length + 0)), (6, .I (7 - (0 : Nat)))], [(32, some ⟨1, rowsK .u8 (Y 0), 0⟩)], 56⟩ rfl ?_ ?_
  · simp
    exact Le.keep rfl (Nat.le_refl _) (by simp) (by simp)
  refine awp_block ?_
  refine awp_loop (ι := Nat) (fun j => ⟨23, [(1, .I v), (5, .rs 32 0 (b.length + j)), (6, .I (7 - (j : Int)))], [(32, some ⟨1, rowsK .u8 (Y j), 0⟩)], 56⟩) (fun j => j ≤ 8) (fun j => 8 - j) 0 (by omega) (Le.refl _ _) ?_
  intro j hj
  refine awp_seq ?_
  refine awp_regc ⟨23, [(1, .I v), (5, .rs 32 0 (b.length + j)), (6, .I (7 - (j : Int))), (10, .B (decide (j < 8)))], [(32, some ⟨1, rowsK .u8 (Y j), 0⟩)], 72⟩ rfl ?_ ?_
  · simp
    exact Le.keep rfl (Nat.le_refl _) (by simp; omega) (by simp)
  refine awp_cond _ rfl (fun h => awp_skip ?_) fun h => awp_exit (hit ?_)
  · simp only [decide_eq_true_eq] at h
    have hl1 := hYl j
    have hs := hYs j
    refine awp_cut (ι := Unit) (fun _ => ⟨23, [(1, .I v), (5, .rs 32 0 (b.length + (j + 1))), (6, .I (7 - (j : Int)))], [(32, some ⟨1, rowsK .u8 (Y (j + 1)), 0⟩)], 152⟩) (fun _ => True) ?_ fun _ _ => ?_
    · rw [hs]
      generalize Y j = A at *
      obtain ⟨k, hk⟩ : ∃ k : Nat, 7 - (j : Int) = k := ⟨7 - j, by omega⟩
      have hk2 : 7 - j = k := by omega
      have hw1 : IntKind.i64.wrap (8 * (k : Int)) = ((8 * k : Nat) : Int) := by rw [w64 (by omega) (by omega)]; omega
      have hw2 : IntKind.u64.wrap ((8 * k : Nat) : Int) = ((8 * k : Nat) : Int) := by rw [IntKind.wrap_u64]; omega
      have hb : byteN v k = IntKind.u8.wrap (v.fdiv (2 ^ (min (8 * k) 64))) := rfl
      rw [hk, hk2]
      generalize byteN v k = y at hb ⊢
      obtain ⟨s, hse⟩ : ∃ s, s = 8 * k := ⟨_, rfl⟩
      rw [← hse] at hw1 hw2 hb
      have htk : List.take (b.length + j) (rowsK .u8 A) = rowsK .u8 A := List.take_of_length_le (by rw [rowsK_len]; omega)
      refine awp_block ?_
      refine awp_reg rfl ?_
      simp [hw1, hw2, IntKind.bits, ← hb, hl1]
      repeat' apply And.intro
      all_goals first | omega | exact Le.ren1 136 32 [] rfl rfl (by simp) (by simp) rfl (by simp only [convE]; simp [htk, Function.comp_def]) (by simp) (by simp; exact wkE (by simp; omega))
    have hwj : IntKind.i64.wrap (7 - (j : Int) - 1) = 7 - ((j + 1 : Nat) : Int) := by rw [w64 (by omega) (by omega)]; omega
    refine awp_reg rfl ?_
    simp [hwj]
    exact ⟨j + 1, by omega, by omega, Le.K1 32 32 [] rfl rfl (by simp) (by simp) rfl (by simp)⟩
  simp only [decide_eq_false_iff_not] at h
  obtain rfl : j = 8 := by omega
  refine awp_seq ?_
  refine awp_run (s := ?z9) rfl ?p9 ?r9
  case p9 => simp; rfl
  refine awp_ret ?_
  exact ⟨.inr rfl, RetOk.out [32] [] rfl (by simp) (by simp) (by simp) (by simp [Function.comp_def])⟩
def strY (s : ByteArray) : List Int := s.data.toList.map fun b => (b.toNat : Int)
theorem strY_len (s : ByteArray) : (strY s).length = s.size := by
  show (s.data.toList.map _).length = s.data.size
  simp
theorem byteRows_eq (s : ByteArray) : byteRows s = rowsK .u8 (strY s) := by
  unfold byteRows strY
  rw [rowsK, List.map_map]
  rfl
def textY (s : ByteArray) : List Int := intY s.size ++ strY s
theorem textY_len (s : ByteArray) : (textY s).length = s.size + 8 := by rw [textY, List.length_append, intY_len, strY_len]; omega
set_option maxRecDepth 100000 in
theorem ref02_Text_ok (b : List Int) (s : ByteArray) (n : Nat) (hn : n = b.length + (s.size + 8)) (hl : b.length ≤ 1099511627776) (hs : s.size ≤ 1099511627776) : ACalls Try.prog nref02_Text [bys b, .sc (.string s)] [] (.rs 0 0 n) [some ⟨1, rowsK .u8 (b ++ textY s), 0⟩] := by
  refine sref02_Text.acalls (Nat.le_of_ble_eq_true rfl) (Nat.le_of_ble_eq_true rfl) (Nat.zero_le _) ?_
  show awp _ 0 _ _ ⟨11, [(0, bys b), (1, .sc (.string s))], [], 16⟩
  refine awp_regc ⟨11, [(0, bys b), (1, .sc (.string s))], [], 24⟩ rfl (by simp; exact Le.snap [] rfl rfl (by simp)) ?_
  have hI := ref02_Int_ok b s.size _ rfl hl
  have e : b ++ textY s = (b ++ intY s.size) ++ strY s := by rw [textY, List.append_assoc]
  have hYl : (b ++ intY s.size).length = b.length + 8 := by rw [List.length_append, intY_len]
  rw [e]
  generalize b ++ intY s.size = Y at *
  have htk : List.take (b.length + 8) (rowsK .u8 Y) = rowsK .u8 Y := List.take_of_length_le (by rw [rowsK_len]; omega)
  refine awp_regc ⟨11, [(4, .rs 64 0 n)], [(64, some ⟨1, rowsK .u8 (Y ++ strY s), 0⟩)], 80⟩ rfl ?_ ?_
  · simp
    refine callN1 hI rfl ?_
    simp [Function.comp_def, byteRows_eq, hYl]
    refine ⟨_, _, _, ⟨htk, rfl, rfl⟩, ?_⟩
    simp [hYl]
    repeat' apply And.intro
    all_goals first | omega | exact Le.keep rfl (Nat.le_refl _) (by simp; omega) (by simp)
  refine awp_ret ?_
  exact ⟨.inr rfl, RetOk.out [64] [] rfl (by simp) (by simp) (by simp) (by simp [Function.comp_def])⟩
def intsY (l : List Int) : List Int := intY l.length ++ l.flatMap intY
theorem flatI_len (l : List Int) : (l.flatMap intY).length = 8 * l.length := by
  induction l with
  | nil => rfl
  | cons x l ih => rw [List.flatMap_cons, List.length_append, ih, intY_len]; simp; omega
theorem intsY_len (l : List Int) : (intsY l).length = 8 * l.length + 8 := by rw [intsY, List.length_append, intY_len, flatI_len]; omega
set_option maxRecDepth 100000 in
theorem ref02_Ints_ok (b l : List Int) (n : Nat) (hn : n = b.length + (8 * l.length + 8)) (hl : b.length ≤ 1000000000) (hll : l.length ≤ 1000000) : ACalls Try.prog nref02_Ints [bys b, ints l] [] (.rs 0 0 n) [some ⟨1, rowsK .u8 (b ++ intsY l), 0⟩] := by
  refine sref02_Ints.acalls (Nat.le_of_ble_eq_true rfl) (Nat.le_of_ble_eq_true rfl) (Nat.zero_le _) ?_
  show awp _ 0 _ _ ⟨24, [(0, bys b), (1, ints l)], [], 16⟩
  refine awp_regc ⟨24, [(0, bys b), (1, ints l)], [], 24⟩ rfl (by simp; exact Le.snap [] rfl rfl (by simp)) ?_
  have hI := ref02_Int_ok b l.length _ rfl (by omega)
  obtain ⟨B, hB⟩ : ∃ B, B = b ++ intY l.length := ⟨_, rfl⟩
  have hBl : B.length = b.length + 8 := by rw [hB, List.length_append, intY_len]
  rw [← hB] at hI
  have e : ∀ j, b ++ intsY (l.take j) = b ++ intsY (l.take j) := fun _ => rfl
  let Y : Nat → List Int := fun j => B ++ (l.take j).flatMap intY
  have hYl : ∀ j, j ≤ l.length → (Y j).length = b.length + 8 + 8 * j := fun j hj => by
    simp only [Y]
    rw [List.length_append, flatI_len, hBl, List.length_take]
    congr 2
    omega
  have hYs : ∀ j (h : j < l.length), Y (j + 1) = Y j ++ intY l[j] := fun j h => by
    simp only [Y]
    rw [List.take_succ_eq_append_getElem h, List.flatMap_append]
    simp
  have hY0 : Y 0 = B := by simp [Y]
  have hYn : Y l.length = b ++ intsY l := by simp [Y, hB, intsY]
  rw [← hYn, hn]
  refine awp_regc ⟨24, [(1, ints l), (5, .rs 48 0 (b.length + 8 + 8 * 0))], [(48, some ⟨1, rowsK .u8 (Y 0), 0⟩)], 64⟩ rfl ?_ ?_
  · simp
    refine callN1 hI rfl ?_
    simp [Function.comp_def]
    exact Le.keep rfl (Nat.le_refl _) (by simp) (by simp [hY0])
  clear_value Y
  refine awp_seq ?_
  refine awp_regc ⟨24, [(1, ints l), (5, .rs 48 0 (b.length + 8 + 8 * 0)), (6, .I (0 : Nat))], [(48, some ⟨1, rowsK .u8 (Y 0), 0⟩)], 72⟩ rfl ?_ ?_
  · simp
    exact Le.keep rfl (Nat.le_refl _) (by simp) (by simp)
  refine awp_block ?_
  refine awp_loop (ι := Nat) (fun j => ⟨24, [(1, ints l), (5, .rs 48 0 (b.length + 8 + 8 * j)), (6, .I j)], [(48, some ⟨1, rowsK .u8 (Y j), 0⟩)], 72⟩) (fun j => j ≤ l.length) (fun j => l.length - j) 0 (by omega) (Le.refl _ _) ?_
  intro j hj
  refine awp_seq ?_
  refine awp_regc ⟨24, [(1, ints l), (5, .rs 48 0 (b.length + 8 + 8 * j)), (6, .I j), (14, .B (decide (j < l.length)))], [(48, some ⟨1, rowsK .u8 (Y j), 0⟩)], 104⟩ rfl ?_ ?_
  · simp
    exact Le.keep rfl (Nat.le_refl _) (by simp) (by simp)
  refine awp_cond _ rfl (fun h => awp_skip ?_) fun h => awp_exit (hit ?_)
  · simp only [decide_eq_true_eq] at h
    have hs := hYs j h
    have hl1 := hYl j hj
    have hl2 := hYl (j + 1) h
    have hI2 := ref02_Int_ok (Y j) l[j] _ rfl (by omega)
    rw [← hs] at hI2
    have hg : l[j]? = some l[j] := List.getElem?_eq_getElem h
    refine awp_cut (ι := Unit) (fun _ => ⟨24, [(1, ints l), (5, .rs 48 0 (b.length + 8 + 8 * (j + 1))), (6, .I j)], [(48, some ⟨1, rowsK .u8 (Y (j + 1)), 0⟩)], 160⟩) (fun _ => True) ?_ fun _ _ => ?_
    · generalize Y (j + 1) = Z at *
      generalize Y j = A at *
      refine awp_block ?_
      refine awp_reg rfl ?_
      simp [h, hg]
      refine callN1q [48] hI2 (by simp [Function.comp_def, ← hl1, take_map_len]) (.rs _ _ _) plainK ?_
      simp [Function.comp_def]
      exact Le.K1 144 48 [] rfl rfl (by simp) (by simp) (by simp [Function.comp_def]) (by simp; exact wkE (by simp; omega))
    have hwj : IntKind.i64.wrap ((j : Int) + 1) = ((j + 1 : Nat) : Int) := by rw [w64 (by omega) (by omega)]; omega
    refine awp_reg rfl ?_
    simp [hwj]
    exact ⟨j + 1, by omega, by omega, Le.K1 48 48 [] rfl rfl (by simp) (by simp) rfl (by simp)⟩
  simp only [decide_eq_false_iff_not] at h
  obtain rfl : j = l.length := by omega
  refine awp_seq ?_
  refine awp_run (s := ?z9) rfl ?p9 ?r9
  case p9 => simp; rfl
  refine awp_ret ?_
  exact ⟨.inr rfl, RetOk.out [48] [] rfl (by simp) (by simp) (by simp; exact wkE (by simp; omega)) (by simp [Function.comp_def])⟩
end Go.Proofs.Ytnphfkceoklkkaa
namespace Go.Proofs.Ytnphfkceoklkkaa
open Go
abbrev wds (l : List Int) : AV := .vs 1 false (rowsK .u32 l)
abbrev wd (x : Int) : AV := .sc (.int .u32 x)
def u2 (op : BinOp) (a b : Int) : Int := match binV op (.int .u32 a) (.int .u32 b) with | some (.int _ n) => n | _ => 0
def sh (op : BinOp) (a n : Int) : Int := match binV op (.int .u32 a) (.int .u64 n) with | some (.int _ n) => n | _ => 0
def nt (a : Int) : Int := match unV .xor (.int .u32 a) with | some (.int _ n) => n | _ => 0
def turnF (x n : Int) : Int := u2 .or (sh .shr x n) (sh .shl x (32 - n))
section
variable {P : Program} {np id : Nat} {h : Nat → Option Ent} {K : AV → List Nat → List (Nat × Option Ent) → Prop}
theorem k_u2 (op : BinOp) (ho : op = .add ∨ op = .xor ∨ op = .and ∨ op = .or) {a b : Int} : aK P np id (.bin op) [.sc (.int .u32 a), .sc (.int .u32 b)] h K = K (.sc (.int .u32 (u2 op a b))) [] [] := by
  refine propext ?_
  rcases ho with rfl | rfl | rfl | rfl
  all_goals
    constructor
    · rintro ⟨v, hv, hk⟩
      cases hv
      exact hk
    · exact fun hk => ⟨_, rfl, hk⟩
@[simp high] theorem k_uadd {a b : Int} : aK P np id (.bin .add) [.sc (.int .u32 a), .sc (.int .u32 b)] h K = K (.sc (.int .u32 (u2 .add a b))) [] [] := k_u2 _ (.inl rfl)
@[simp high] theorem k_uxor {a b : Int} : aK P np id (.bin .xor) [.sc (.int .u32 a), .sc (.int .u32 b)] h K = K (.sc (.int .u32 (u2 .xor a b))) [] [] := k_u2 _ (.inr (.inl rfl))
@[simp high] theorem k_uand {a b : Int} : aK P np id (.bin .and) [.sc (.int .u32 a), .sc (.int .u32 b)] h K = K (.sc (.int .u32 (u2 .and a b))) [] [] := k_u2 _ (.inr (.inr (.inl rfl)))
@[simp high] theorem k_uor {a b : Int} : aK P np id (.bin .or) [.sc (.int .u32 a), .sc (.int .u32 b)] h K = K (.sc (.int .u32 (u2 .or a b))) [] [] := k_u2 _ (.inr (.inr (.inr rfl)))
theorem k_sh (op : BinOp) (ho : op = .shl ∨ op = .shr) {a n : Int} (hn : 0 ≤ n) : aK P np id (.bin op) [.sc (.int .u32 a), .sc (.int .u64 n)] h K = K (.sc (.int .u32 (sh op a n))) [] [] := by
  refine propext ?_
  have e : binV op (.int .u32 a) (.int .u64 n) = some (.int .u32 (sh op a n)) := by
    rcases ho with rfl | rfl <;> simp [binV, sh, hn]
  constructor
  · rintro ⟨v, hv, hk⟩
    rw [e] at hv
    cases hv
    exact hk
  · exact fun hk => ⟨_, e, hk⟩
@[simp high] theorem k_ushl {a n : Int} (hn : 0 ≤ n) : aK P np id (.bin .shl) [.sc (.int .u32 a), .sc (.int .u64 n)] h K = K (.sc (.int .u32 (sh .shl a n))) [] [] := k_sh _ (.inl rfl) hn
@[simp high] theorem k_ushr {a n : Int} (hn : 0 ≤ n) : aK P np id (.bin .shr) [.sc (.int .u32 a), .sc (.int .u64 n)] h K = K (.sc (.int .u32 (sh .shr a n))) [] [] := k_sh _ (.inr rfl) hn
@[simp high] theorem k_unt {a : Int} : aK P np id (.un .xor) [.sc (.int .u32 a)] h K = K (.sc (.int .u32 (nt a))) [] [] := by
  refine propext ⟨?_, fun hk => ⟨_, rfl, hk⟩⟩
  rintro ⟨v, hv, hk⟩
  cases hv
  exact hk
end
theorem ref01_turn_ok (x n : Int) (h0 : 0 ≤ n) (h1 : n ≤ 32) : ACalls Try.prog nref01_turn [wd x, .sc (.int .u64 n)] [] (wd (turnF x n)) [] := by
  refine sref01_turn.acalls (Nat.le_of_ble_eq_true rfl) (Nat.le_of_ble_eq_true rfl) (Nat.le_refl _) ?_
  show awp _ 0 _ _ ⟨13, [(0, wd x), (1, .sc (.int .u64 n))], [], 16⟩
  have hw : IntKind.u64.wrap (32 - n) = 32 - n := by rw [IntKind.wrap_u64]; omega
  have h2 : 0 ≤ 32 - n := by omega
  refine awp_seq ?_
  refine awp_run (s := ?s0) rfl ?o0 ?q0
  case o0 => simp; rfl
  refine awp_regc ⟨13, [(4, wd (turnF x n))], [], 96⟩ rfl ?_ ?_
  · simp [h0, h1, h2, hw]
    exact Le.snap [] rfl rfl (by simp [turnF])
  refine awp_ret ?_
  exact ⟨.inr rfl, RetOk.one (by simp)⟩
def conK : List Int := [1116352408, 1899447441, 3049323471, 3921009573, 961987163, 1508970993, 2453635748, 2870763221, 3624381080, 310598401, 607225278, 1426881987, 1925078388, 2162078206, 2614888103, 3248222580, 3835390401, 4022224774, 264347078, 604807628, 770255983, 1249150122, 1555081692, 1996064986, 2554220882, 2821834349, 2952996808, 3210313671, 3336571891, 3584528711, 113926993, 338241895, 666307205, 773529912, 1294757372, 1396182291, 1695183700, 1986661051, 2177026350, 2456956037, 2730485921, 2820302411, 3259730800, 3345764771, 3516065817, 3600352804, 4094571909, 275423344, 430227734, 506948616, 659060556, 883997877, 958139571, 1322822218, 1537002063, 1747873779, 1955562222, 2024104815, 2227730452, 2361852424, 2428436474, 2756734187, 3204031479, 3329325298]
theorem conK_len : conK.length = 64 := rfl
theorem conK_ok : ACalls Try.prog nref01_constants [] [] (.rs 0 0 64) [some ⟨1, rowsK .u32 conK, 0⟩] := by
  refine sref01_constants.acalls (Nat.le_of_ble_eq_true rfl) (Nat.le_of_ble_eq_true rfl) (Nat.zero_le _) ?_
  show awp _ 0 _ _ ⟨2, [], [], 16⟩
  refine awp_seq ?_
  refine awp_run (s := ?s0) rfl ?o0 ?q0
  case o0 => simp; rfl
  refine awp_seq ?_
  refine awp_run (s := ?s1) rfl ?o1 ?q1
  case o1 => simp; rfl
  refine awp_ret ?_
  exact ⟨.inr rfl, RetOk.out [24] [] rfl (by simp) (by simp) (by simp) (by simp [conK])⟩
abbrev gt (l : List Int) (i : Nat) : Int := l.getD i 0
theorem gt_of {l : List Int} {i n : Nat} (hl : l.length = n) (h : i < n) : ∃ (h : i < l.length), l[i] = gt l i := by
  have h2 : i < l.length := by omega
  exact ⟨h2, by simp [gt, h2]⟩
theorem gt_row {k : IntKind} {l : List Int} {i n : Nat} (hl : l.length = n) (h : i < n) : (rowsK k l)[i]? = some [AV.sc (.int k (gt l i))] := by
  have h2 : i < l.length := by omega
  simp [gt, h2]
def wordF (a b c d : Int) : Int := u2 .or (u2 .or (u2 .or (sh .shl (IntKind.u32.wrap a) 24) (sh .shl (IntKind.u32.wrap b) 16)) (sh .shl (IntKind.u32.wrap c) 8)) (IntKind.u32.wrap d)
def s0F (x : Int) : Int := u2 .xor (u2 .xor (turnF x 7) (turnF x 18)) (sh .shr x 3)
def s1F (x : Int) : Int := u2 .xor (u2 .xor (turnF x 17) (turnF x 19)) (sh .shr x 10)
def w0F (B : List Int) : Nat → List Int
  | 0 => List.replicate 64 0
  | i + 1 => (w0F B i).set i (wordF (gt B (4 * i)) (gt B (4 * i + 1)) (gt B (4 * i + 2)) (gt B (4 * i + 3)))
def w1F (B : List Int) : Nat → List Int
  | 0 => w0F B 16
  | i + 1 => (w1F B i).set (i + 16) (u2 .add (u2 .add (u2 .add (gt (w1F B i) i) (s0F (gt (w1F B i) (i + 1)))) (gt (w1F B i) (i + 9))) (s1F (gt (w1F B i) (i + 14))))
def r3 (x a b c : Int) : Int := u2 .xor (u2 .xor (turnF x a) (turnF x b)) (turnF x c)
def xF (v : List Int) (k w : Int) : Int := u2 .add (u2 .add (u2 .add (u2 .add (gt v 7) (r3 (gt v 4) 6 11 25)) (u2 .xor (u2 .and (gt v 4) (gt v 5)) (u2 .and (nt (gt v 4)) (gt v 6)))) k) w
def mF (v : List Int) : Int := u2 .xor (u2 .xor (u2 .and (gt v 0) (gt v 1)) (u2 .and (gt v 0) (gt v 2))) (u2 .and (gt v 1) (gt v 2))
def vF (H B C : List Int) : Nat → List Int
  | 0 => H
  | i + 1 =>
    let v := vF H B C i
    let x := xF v (gt C i) (gt (w1F B 48) i)
    [u2 .add (u2 .add x (r3 (gt v 0) 2 13 22)) (mF v), gt v 0, gt v 1, gt v 2, u2 .add (gt v 3) x, gt v 4, gt v 5, gt v 6]
def oF (H B C : List Int) : Nat → List Int
  | 0 => vF H B C 64
  | i + 1 => (oF H B C i).set i (u2 .add (gt (oF H B C i) i) (gt H i))
def blockF (H B C : List Int) : List Int := oF H B C 8
theorem w0F_len (B : List Int) : ∀ i, (w0F B i).length = 64
  | 0 => by simp [w0F]
  | i + 1 => by rw [w0F, List.length_set, w0F_len B i]
theorem w1F_len (B : List Int) : ∀ i, (w1F B i).length = 64
  | 0 => w0F_len B 16
  | i + 1 => by rw [w1F, List.length_set, w1F_len B i]
theorem vF_len {H B C : List Int} (hH : H.length = 8) : ∀ i, (vF H B C i).length = 8
  | 0 => hH
  | i + 1 => rfl
theorem oF_len {H B C : List Int} (hH : H.length = 8) : ∀ i, (oF H B C i).length = 8
  | 0 => vF_len hH 64
  | i + 1 => by rw [oF, List.length_set, oF_len hH i]
end Go.Proofs.Ytnphfkceoklkkaa
namespace Go.Proofs.Ytnphfkceoklkkaa
open Go
theorem Le.X1 {st st' : St} {X : List (List AV)} (hflat : ∀ ρ sn h m, X.map (List.map (conv ρ sn h (m + 1))) = X) (i j : Nat) (sn : List Nat) (hsz : st'.sz = st.sz) (hh : st'.h = [(j, some ⟨1, X, 0⟩)]) (hi : j < st'.n) (hs : ∀ j ∈ sn, j ≠ i) (h0 : st.hp i = some ⟨1, X, 0⟩)
    (ht : ∀ p ∈ st'.t, Wk (conv [(i, j)] sn st.hp 4 (st.get p.1)) p.2) : Le 0 st st' :=
  Le.ren1 i j sn hsz hh hi hs h0 (by simp only [convE, hflat]) (Nat.zero_le _) ht
set_option maxHeartbeats 8000000 in
set_option maxRecDepth 100000 in
theorem ref01_block_ok (H B C : List Int) (hH : H.length = 8) (hB : B.length = 64) (hC : C.length = 64) : ACalls Try.prog nref01_block [wds H, bys B, wds C] [] (.rs 0 0 8) [some ⟨1, rowsK .u32 (blockF H B C), 0⟩] := by
  refine sref01_block.acalls (Nat.le_of_ble_eq_true rfl) (Nat.le_of_ble_eq_true rfl) (Nat.zero_le _) ?_
  show awp _ 0 _ _ ⟨256, [(0, wds H), (1, bys B), (2, wds C)], [], 16⟩
  have hfl : ∀ (l : List Int) ρ sn h m, (rowsK .u32 l).map (List.map (conv ρ sn h (m + 1))) = rowsK .u32 l := fun l => rowsK_flat .u32 l
  refine awp_regc ⟨256, [(0, wds H), (1, bys B), (2, wds C)], [], 24⟩ rfl (by simp; exact Le.snap [] rfl rfl (by simp)) ?_
  refine awp_regc ⟨256, [(0, wds H), (1, bys B), (2, wds C), (7, .rs 24 0 64)], [(24, some ⟨1, rowsK .u32 (w0F B 0), 0⟩)], 40⟩ rfl ?_ ?_
  · simp
    exact Le.keep rfl (Nat.le_refl _) (by simp) (by simp [w0F])
  refine awp_seq ?_
  refine awp_regc ⟨256, [(0, wds H), (1, bys B), (2, wds C), (7, .rs 24 0 64), (8, .I (0 : Nat))], [(24, some ⟨1, rowsK .u32 (w0F B 0), 0⟩)], 48⟩ rfl ?_ ?_
  · simp
    exact Le.keep rfl (Nat.le_refl _) (by simp) (by simp)
  refine awp_block ?_
  refine awp_loop (ι := Nat) (fun i => ⟨256, [(0, wds H), (1, bys B), (2, wds C), (7, .rs 24 0 64), (8, .I i)], [(24, some ⟨1, rowsK .u32 (w0F B i), 0⟩)], 48⟩) (fun i => i ≤ 16) (fun i => 16 - i) 0 (by omega) (Le.refl _ _) ?_
  intro i hi
  refine awp_seq ?_
  refine awp_regc ⟨256, [(0, wds H), (1, bys B), (2, wds C), (7, .rs 24 0 64), (8, .I i), (21, .B (decide (i < 16)))], [(24, some ⟨1, rowsK .u32 (w0F B i), 0⟩)], 64⟩ rfl ?_ ?_
  · simp
    exact Le.keep rfl (Nat.le_refl _) (by simp <;> omega) (by simp)
  refine awp_cond _ rfl (fun h => awp_skip ?_) fun h => awp_exit (hit ?_)
  · simp only [decide_eq_true_eq] at h
    refine awp_cut (ι := Unit) (fun _ => ⟨256, [(0, wds H), (1, bys B), (2, wds C), (7, .rs 24 0 64), (8, .I i)], [(24, some ⟨1, rowsK .u32 (w0F B (i + 1)), 0⟩)], 360⟩) (fun _ => True) ?_ fun _ _ => ?_
    · obtain ⟨p, hp⟩ : ∃ p, p = 4 * i := ⟨_, rfl⟩
      obtain ⟨p1, hp1⟩ : ∃ q, q = p + 1 := ⟨_, rfl⟩
      obtain ⟨p2, hp2⟩ : ∃ q, q = p + 2 := ⟨_, rfl⟩
      obtain ⟨p3, hp3⟩ : ∃ q, q = p + 3 := ⟨_, rfl⟩
      have hw0 : IntKind.i64.wrap (4 * (i : Int)) = (p : Int) := by rw [w64 (by omega) (by omega)]; omega
      have hw1 : IntKind.i64.wrap ((p : Int) + 1) = (p1 : Int) := by rw [w64 (by omega) (by omega)]; omega
      have hw2 : IntKind.i64.wrap ((p : Int) + 2) = (p2 : Int) := by rw [w64 (by omega) (by omega)]; omega
      have hw3 : IntKind.i64.wrap ((p : Int) + 3) = (p3 : Int) := by rw [w64 (by omega) (by omega)]; omega
      obtain ⟨l0, g0⟩ := gt_of hB (show p < 64 by omega)
      obtain ⟨l1, g1⟩ := gt_of hB (show p1 < 64 by omega)
      obtain ⟨l2, g2⟩ := gt_of hB (show p2 < 64 by omega)
      obtain ⟨l3, g3⟩ := gt_of hB (show p3 < 64 by omega)
      have hs : rowsK .u32 (w0F B (i + 1)) = (rowsK .u32 (w0F B i)).set i [wd (wordF (gt B p) (gt B p1) (gt B p2) (gt B p3))] := by rw [w0F, rowsK, List.map_set, hp1, hp2, hp3, hp]
      obtain ⟨z, hz⟩ : ∃ z, z = wordF (gt B p) (gt B p1) (gt B p2) (gt B p3) := ⟨_, rfl⟩
      rw [← hz] at hs
      rw [hs]
      have hg := gt_row (k := .u32) (w0F_len B i) (show i < 64 by omega)
      have hX := hfl (w0F B i)
      generalize rowsK .u32 (w0F B i) = X at *
      generalize gt (w0F B i) i = o at *
      have hXl : ∀ ρ sn h m, (X.set i [wd z]).map (List.map (conv ρ sn h (m + 1))) = X.set i [wd z] := fun ρ sn h m => by rw [List.map_set, hX]; simp
      generalize hc0 : gt B p = c0 at *
      generalize hc1 : gt B p1 = c1 at *
      generalize hc2 : gt B p2 = c2 at *
      generalize hc3 : gt B p3 = c3 at *
      refine awp_block ?_
      refine awp_drw rfl ?_
      simp [hw0, hw1, hw2, hw3, l0, l1, l2, l3, g0, g1, g2, g3, h, hg, show (i : Int) < 64 by omega, show i < 64 by omega, splice]
      have hz2 : u2 .or (u2 .or (u2 .or (sh .shl (IntKind.u32.wrap c0) 24) (sh .shl (IntKind.u32.wrap c1) 16)) (sh .shl (IntKind.u32.wrap c2) 8)) (IntKind.u32.wrap c3) = z := hz.symm
      simp only [hz2]
      exact ⟨rfl, Le.X1 hXl 24 24 [] rfl rfl (by simp) (by simp) rfl (by simp)⟩
    have hwi : IntKind.i64.wrap ((i : Int) + 1) = ((i + 1 : Nat) : Int) := by rw [w64 (by omega) (by omega)]; omega
    refine awp_reg rfl ?_
    simp [hwi]
    exact ⟨i + 1, by omega, by omega, Le.K1 24 24 [] rfl rfl (by simp) (by simp) rfl (by simp)⟩
  simp only [decide_eq_false_iff_not] at h
  obtain rfl : i = 16 := by omega
  refine awp_seq ?_
  refine awp_regc ⟨256, [(0, wds H), (2, wds C), (7, .rs 24 0 64), (9, .I (0 + 16 : Nat))], [(24, some ⟨1, rowsK .u32 (w1F B 0), 0⟩)], 72⟩ rfl ?_ ?_
  · simp [w1F]
    exact Le.keep rfl (Nat.le_refl _) (by simp) (by simp)
  refine awp_block ?_
  refine awp_loop (ι := Nat) (fun i => ⟨256, [(0, wds H), (2, wds C), (7, .rs 24 0 64), (9, .I (i + 16 : Nat))], [(24, some ⟨1, rowsK .u32 (w1F B i), 0⟩)], 72⟩) (fun i => i ≤ 48) (fun i => 48 - i) 0 (by omega) (Le.refl _ _) ?_
  intro i hi
  obtain ⟨m, hm⟩ : ∃ m, m = i + 16 := ⟨_, rfl⟩
  rw [← hm]
  refine awp_seq ?_
  refine awp_regc ⟨256, [(0, wds H), (2, wds C), (7, .rs 24 0 64), (9, .I m), (61, .B (decide (i < 48)))], [(24, some ⟨1, rowsK .u32 (w1F B i), 0⟩)], 88⟩ rfl ?_ ?_
  · simp
    exact Le.keep rfl (Nat.le_refl _) (by simp; omega) (by simp)
  refine awp_cond _ rfl (fun h => awp_skip ?_) fun h => awp_exit (hit ?_)
  · simp only [decide_eq_true_eq] at h
    refine awp_cut (ι := Unit) (fun _ => ⟨256, [(0, wds H), (2, wds C), (7, .rs 24 0 64), (9, .I m)], [(24, some ⟨1, rowsK .u32 (w1F B (i + 1)), 0⟩)], 576⟩) (fun _ => True) ?_ fun _ _ => ?_
    · have hw15 : IntKind.i64.wrap ((m : Int) - 15) = ((i + 1 : Nat) : Int) := by rw [w64 (by omega) (by omega)]; omega
      have hw2 : IntKind.i64.wrap ((m : Int) - 2) = ((i + 14 : Nat) : Int) := by rw [w64 (by omega) (by omega)]; omega
      have hw16 : IntKind.i64.wrap ((m : Int) - 16) = ((i : Nat) : Int) := by rw [w64 (by omega) (by omega)]; omega
      have hw7 : IntKind.i64.wrap ((m : Int) - 7) = ((i + 9 : Nat) : Int) := by rw [w64 (by omega) (by omega)]; omega
      have hlen := w1F_len B i
      have g15 := gt_row (k := .u32) hlen (show i + 1 < 64 by omega)
      have g2 := gt_row (k := .u32) hlen (show i + 14 < 64 by omega)
      have g16 := gt_row (k := .u32) hlen (show i < 64 by omega)
      have g7 := gt_row (k := .u32) hlen (show i + 9 < 64 by omega)
      have gm := gt_row (k := .u32) hlen (show m < 64 by omega)
      have hs : rowsK .u32 (w1F B (i + 1)) = (rowsK .u32 (w1F B i)).set m [wd (u2 .add (u2 .add (u2 .add (gt (w1F B i) i) (s0F (gt (w1F B i) (i + 1)))) (gt (w1F B i) (i + 9))) (s1F (gt (w1F B i) (i + 14))))] := by rw [w1F, rowsK, List.map_set, hm]
      have hX := hfl (w1F B i)
      generalize gt (w1F B i) (i + 1) = a15 at *
      generalize gt (w1F B i) (i + 14) = a2 at *
      generalize gt (w1F B i) i = a16 at *
      generalize gt (w1F B i) (i + 9) = a7 at *
      generalize gt (w1F B i) m = am at *
      generalize rowsK .u32 (w1F B i) = X at *
      obtain ⟨q15, hq15⟩ : ∃ q, q = i + 1 := ⟨_, rfl⟩
      obtain ⟨q2, hq2⟩ : ∃ q, q = i + 14 := ⟨_, rfl⟩
      obtain ⟨q7, hq7⟩ : ∃ q, q = i + 9 := ⟨_, rfl⟩
      rw [← hq15] at hw15 g15
      rw [← hq2] at hw2 g2
      rw [← hq7] at hw7 g7
      obtain ⟨b15, hb15⟩ : ∃ b, b = s0F a15 := ⟨_, rfl⟩
      obtain ⟨b2, hb2⟩ : ∃ b, b = s1F a2 := ⟨_, rfl⟩
      rw [← hb15, ← hb2] at hs
      obtain ⟨z, hz⟩ : ∃ z, z = u2 .add (u2 .add (u2 .add a16 b15) a7) b2 := ⟨_, rfl⟩
      rw [← hz] at hs
      rw [hs]
      have hXl : ∀ ρ sn h m', (X.set m [wd z]).map (List.map (conv ρ sn h (m' + 1))) = X.set m [wd z] := fun ρ sn h m' => by rw [List.map_set, hX]; simp
      refine awp_block ?_
      refine awp_dregc ⟨256, [(0, wds H), (2, wds C), (7, .rs 24 0 64), (9, .I m), (10, wd b15)], [(24, some ⟨1, X, 0⟩)], 256⟩ rfl ?_ ?_
      · simp [hw15, g15, show q15 < 64 by omega, show (q15 : Int) < 64 by omega]
        refine call0e (ref01_turn_ok a15 7 (by decide) (by decide)) rfl ?_
        simp [hw15, g15, show q15 < 64 by omega, show (q15 : Int) < 64 by omega]
        refine call0e (ref01_turn_ok a15 18 (by decide) (by decide)) rfl ?_
        simp [hw15, g15, show q15 < 64 by omega, show (q15 : Int) < 64 by omega]
        exact ⟨rfl, Le.keep rfl (Nat.le_refl _) (by simp [hb15, s0F]) (by simp)⟩
      refine awp_dregc ⟨256, [(0, wds H), (2, wds C), (7, .rs 24 0 64), (9, .I m), (10, wd b15), (11, wd b2)], [(24, some ⟨1, X, 0⟩)], 424⟩ rfl ?_ ?_
      · simp [hw2, g2, show q2 < 64 by omega, show (q2 : Int) < 64 by omega]
        refine call0e (ref01_turn_ok a2 17 (by decide) (by decide)) rfl ?_
        simp [hw2, g2, show q2 < 64 by omega, show (q2 : Int) < 64 by omega]
        refine call0e (ref01_turn_ok a2 19 (by decide) (by decide)) rfl ?_
        simp [hw2, g2, show q2 < 64 by omega, show (q2 : Int) < 64 by omega]
        exact ⟨rfl, Le.keep rfl (Nat.le_refl _) (by simp [hb2, s1F]) (by simp)⟩
      refine awp_drw rfl ?_
      simp [hw16, hw7, g16, g7, gm, show q7 < 64 by omega, show i < 64 by omega, show m < 64 by omega, show (q7 : Int) < 64 by omega, show (i : Int) < 64 by omega, show (m : Int) < 64 by omega, splice, ← hz]
      exact ⟨rfl, Le.X1 hXl 24 24 [] rfl rfl (by simp) (by simp) rfl (by simp)⟩
    have hwi : IntKind.i64.wrap ((m : Int) + 1) = ((i + 1 + 16 : Nat) : Int) := by rw [w64 (by omega) (by omega)]; omega
    refine awp_reg rfl ?_
    simp [hwi]
    exact ⟨i + 1, by omega, by omega, Le.K1 24 24 [] rfl rfl (by simp) (by simp) rfl (by simp)⟩
  simp only [decide_eq_false_iff_not] at h
  obtain rfl : i = 48 := by omega
  obtain ⟨W, hW⟩ : ∃ W, W = w1F B 48 := ⟨_, rfl⟩
  have hWl : W.length = 64 := by rw [hW]; exact w1F_len B 48
  rw [← hW]
  refine awp_regc ⟨256, [(0, wds H), (2, wds C), (7, wds W), (12, .rs 96 0 8)], [(96, some ⟨1, rowsK .u32 (vF H B C 0), 0⟩)], 112⟩ rfl ?_ ?_
  · simp [hH]
    have htk : List.take 64 (rowsK .u32 W) = rowsK .u32 W := List.take_of_length_le (by rw [rowsK_len]; omega)
    exact Le.ren1 96 96 [24] rfl rfl (by simp) (by simp) rfl (by simp [vF, Function.comp_def]) (by simp) (by simp [Function.comp_def, hWl]; rw [List.take_of_length_le (by simp; omega)]; exact .refl _)
  refine awp_seq ?_
  refine awp_regc ⟨256, [(0, wds H), (2, wds C), (7, wds W), (12, .rs 96 0 8), (13, .I (0 : Nat))], [(96, some ⟨1, rowsK .u32 (vF H B C 0), 0⟩)], 120⟩ rfl ?_ ?_
  · simp
    exact Le.keep rfl (Nat.le_refl _) (by simp) (by simp)
  refine awp_block ?_
  refine awp_loop (ι := Nat) (fun i => ⟨256, [(0, wds H), (2, wds C), (7, wds W), (12, .rs 96 0 8), (13, .I i)], [(96, some ⟨1, rowsK .u32 (vF H B C i), 0⟩)], 120⟩) (fun i => i ≤ 64) (fun i => 64 - i) 0 (by omega) (Le.refl _ _) ?_
  intro i hi
  refine awp_seq ?_
  refine awp_regc ⟨256, [(0, wds H), (2, wds C), (7, wds W), (12, .rs 96 0 8), (13, .I i), (125, .B (decide (i < 64)))], [(96, some ⟨1, rowsK .u32 (vF H B C i), 0⟩)], 136⟩ rfl ?_ ?_
  · simp
    exact Le.keep rfl (Nat.le_refl _) (by simp <;> omega) (by simp)
  refine awp_cond _ rfl (fun h => awp_skip ?_) fun h => awp_exit (hit ?_)
  · simp only [decide_eq_true_eq] at h
    refine awp_cut (ι := Unit) (fun _ => ⟨256, [(0, wds H), (2, wds C), (7, wds W), (12, .rs 96 0 8), (13, .I i)], [(96, some ⟨1, rowsK .u32 (vF H B C (i + 1)), 0⟩)], 1088⟩) (fun _ => True) ?_ fun _ _ => ?_
    · have hvl := vF_len (B := B) (C := C) hH i
      have hs : vF H B C (i + 1) = [u2 .add (u2 .add (xF (vF H B C i) (gt C i) (gt W i)) (r3 (gt (vF H B C i) 0) 2 13 22)) (mF (vF H B C i)), gt (vF H B C i) 0, gt (vF H B C i) 1, gt (vF H B C i) 2, u2 .add (gt (vF H B C i) 3) (xF (vF H B C i) (gt C i) (gt W i)), gt (vF H B C i) 4, gt (vF H B C i) 5, gt (vF H B C i) 6] := by rw [hW]; rfl
      rw [hs]
      generalize vF H B C i = v at *
      have g0 := gt_row (k := .u32) hvl (show 0 < 8 by omega)
      have g1 := gt_row (k := .u32) hvl (show 1 < 8 by omega)
      have g2 := gt_row (k := .u32) hvl (show 2 < 8 by omega)
      have g3 := gt_row (k := .u32) hvl (show 3 < 8 by omega)
      have g4 := gt_row (k := .u32) hvl (show 4 < 8 by omega)
      have g5 := gt_row (k := .u32) hvl (show 5 < 8 by omega)
      have g6 := gt_row (k := .u32) hvl (show 6 < 8 by omega)
      have g7 := gt_row (k := .u32) hvl (show 7 < 8 by omega)
      obtain ⟨lc, gc⟩ := gt_of hC h
      obtain ⟨lw, gw⟩ := gt_of hWl h
      have hxF : xF v (gt C i) (gt W i) = u2 .add (u2 .add (u2 .add (u2 .add (gt v 7) (r3 (gt v 4) 6 11 25)) (u2 .xor (u2 .and (gt v 4) (gt v 5)) (u2 .and (nt (gt v 4)) (gt v 6)))) (gt C i)) (gt W i) := rfl
      have hmF : mF v = u2 .xor (u2 .xor (u2 .and (gt v 0) (gt v 1)) (u2 .and (gt v 0) (gt v 2))) (u2 .and (gt v 1) (gt v 2)) := rfl
      have hX := hfl v
      generalize gt C i = ck at *
      generalize gt W i = wk at *
      generalize rowsK .u32 v = X at *
      generalize gt v 0 = v0 at *
      generalize gt v 1 = v1 at *
      generalize gt v 2 = v2 at *
      generalize gt v 3 = v3 at *
      generalize gt v 4 = v4 at *
      generalize gt v 5 = v5 at *
      generalize gt v 6 = v6 at *
      generalize gt v 7 = v7 at *
      obtain ⟨s, hsd⟩ : ∃ s, s = r3 v4 6 11 25 := ⟨_, rfl⟩
      obtain ⟨c, hcd⟩ : ∃ c, c = u2 .xor (u2 .and v4 v5) (u2 .and (nt v4) v6) := ⟨_, rfl⟩
      obtain ⟨x, hxd⟩ : ∃ x, x = xF v ck wk := ⟨_, rfl⟩
      obtain ⟨s', hsd'⟩ : ∃ s, s = r3 v0 2 13 22 := ⟨_, rfl⟩
      obtain ⟨y, hyd⟩ : ∃ y, y = mF v := ⟨_, rfl⟩
      rw [← hsd, ← hcd, ← hxd] at hxF
      rw [← hyd] at hmF
      rw [← hxd, ← hsd', ← hyd]
      clear hxd hyd
      refine awp_block ?_
      refine awp_dregc ⟨256, [(0, wds H), (2, wds C), (7, wds W), (12, .rs 96 0 8), (13, .I i), (14, wd s)], [(96, some ⟨1, X, 0⟩)], 256⟩ rfl ?_ ?_
      · simp [g4]
        refine call0e (ref01_turn_ok v4 6 (by decide) (by decide)) rfl ?_
        simp [g4]
        refine call0e (ref01_turn_ok v4 11 (by decide) (by decide)) rfl ?_
        simp [g4]
        refine call0e (ref01_turn_ok v4 25 (by decide) (by decide)) rfl ?_
        simp
        exact ⟨rfl, Le.keep rfl (Nat.le_refl _) (by simp [hsd, r3]) (by simp)⟩
      refine awp_dregc ⟨256, [(0, wds H), (2, wds C), (7, wds W), (12, .rs 96 0 8), (13, .I i), (14, wd s), (15, wd c)], [(96, some ⟨1, X, 0⟩)], 392⟩ rfl ?_ ?_
      · simp [g4, g5, g6]
        exact ⟨rfl, Le.keep rfl (Nat.le_refl _) (by simp [hcd]) (by simp)⟩
      refine awp_dregc ⟨256, [(0, wds H), (2, wds C), (7, wds W), (12, .rs 96 0 8), (13, .I i), (16, wd x)], [(96, some ⟨1, X, 0⟩)], 536⟩ rfl ?_ ?_
      · simp [g7, lc, gc, lw, gw]
        exact ⟨rfl, Le.keep rfl (Nat.le_refl _) (by simp [hxF]) (by simp)⟩
      refine awp_dregc ⟨256, [(0, wds H), (2, wds C), (7, wds W), (12, .rs 96 0 8), (13, .I i), (16, wd x), (14, wd s')], [(96, some ⟨1, X, 0⟩)], 656⟩ rfl ?_ ?_
      · simp [g0]
        refine call0e (ref01_turn_ok v0 2 (by decide) (by decide)) rfl ?_
        simp [g0]
        refine call0e (ref01_turn_ok v0 13 (by decide) (by decide)) rfl ?_
        simp [g0]
        refine call0e (ref01_turn_ok v0 22 (by decide) (by decide)) rfl ?_
        simp
        exact ⟨rfl, Le.keep rfl (Nat.le_refl _) (by simp [hsd', r3]) (by simp)⟩
      refine awp_dregc ⟨256, [(0, wds H), (2, wds C), (7, wds W), (12, .rs 96 0 8), (13, .I i), (16, wd x), (14, wd s'), (17, wd y)], [(96, some ⟨1, X, 0⟩)], 848⟩ rfl ?_ ?_
      · simp [g0, g1, g2]
        exact ⟨rfl, Le.keep rfl (Nat.le_refl _) (by simp [hmF]) (by simp)⟩
      refine awp_drw rfl ?_
      simp [g0, g1, g2, g3, g4, g5, g6]
      exact ⟨rfl, Le.ren1 1072 96 [] rfl rfl (by simp) (by simp) rfl (by simp) (by simp) (by simp)⟩
    have hwi : IntKind.i64.wrap ((i : Int) + 1) = ((i + 1 : Nat) : Int) := by rw [w64 (by omega) (by omega)]; omega
    refine awp_reg rfl ?_
    simp [hwi]
    exact ⟨i + 1, by omega, by omega, Le.K1 96 96 [] rfl rfl (by simp) (by simp) rfl (by simp)⟩
  simp only [decide_eq_false_iff_not] at h
  obtain rfl : i = 64 := by omega
  refine awp_seq ?_
  refine awp_regc ⟨256, [(0, wds H), (12, .rs 96 0 8), (18, .I (0 : Nat))], [(96, some ⟨1, rowsK .u32 (oF H B C 0), 0⟩)], 144⟩ rfl ?_ ?_
  · simp
    exact Le.keep rfl (Nat.le_refl _) (by simp) (by simp [oF])
  refine awp_block ?_
  refine awp_loop (ι := Nat) (fun i => ⟨256, [(0, wds H), (12, .rs 96 0 8), (18, .I i)], [(96, some ⟨1, rowsK .u32 (oF H B C i), 0⟩)], 144⟩) (fun i => i ≤ 8) (fun i => 8 - i) 0 (by omega) (Le.refl _ _) ?_
  intro i hi
  refine awp_seq ?_
  refine awp_regc ⟨256, [(0, wds H), (12, .rs 96 0 8), (18, .I i), (242, .B (decide (i < 8)))], [(96, some ⟨1, rowsK .u32 (oF H B C i), 0⟩)], 160⟩ rfl ?_ ?_
  · simp
    exact Le.keep rfl (Nat.le_refl _) (by simp <;> omega) (by simp)
  refine awp_cond _ rfl (fun h => awp_skip ?_) fun h => awp_exit (hit ?_)
  · simp only [decide_eq_true_eq] at h
    refine awp_cut (ι := Unit) (fun _ => ⟨256, [(0, wds H), (12, .rs 96 0 8), (18, .I i)], [(96, some ⟨1, rowsK .u32 (oF H B C (i + 1)), 0⟩)], 248⟩) (fun _ => True) ?_ fun _ _ => ?_
    · have hol := oF_len (B := B) (C := C) hH i
      have hg := gt_row (k := .u32) hol h
      obtain ⟨lh, gh⟩ := gt_of hH h
      obtain ⟨z, hz⟩ : ∃ z, z = u2 .add (gt (oF H B C i) i) (gt H i) := ⟨_, rfl⟩
      have hs : rowsK .u32 (oF H B C (i + 1)) = (rowsK .u32 (oF H B C i)).set i [wd z] := by rw [oF, rowsK, List.map_set, hz]
      rw [hs]
      have hX := hfl (oF H B C i)
      generalize gt (oF H B C i) i = a at *
      generalize gt H i = b at *
      generalize rowsK .u32 (oF H B C i) = X at *
      have hXl : ∀ ρ sn h m, (X.set i [wd z]).map (List.map (conv ρ sn h (m + 1))) = X.set i [wd z] := fun ρ sn h m => by rw [List.map_set, hX]; simp
      refine awp_block ?_
      refine awp_drw rfl ?_
      simp [hg, lh, gh, h, show (i : Int) < 8 by omega, splice, ← hz]
      exact ⟨rfl, Le.X1 hXl 96 96 [] rfl rfl (by simp) (by simp) rfl (by simp)⟩
    have hwi : IntKind.i64.wrap ((i : Int) + 1) = ((i + 1 : Nat) : Int) := by rw [w64 (by omega) (by omega)]; omega
    refine awp_reg rfl ?_
    simp [hwi]
    exact ⟨i + 1, by omega, by omega, Le.K1 96 96 [] rfl rfl (by simp) (by simp) rfl (by simp)⟩
  simp only [decide_eq_false_iff_not] at h
  obtain rfl : i = 8 := by omega
  refine awp_seq ?_
  refine awp_run (s := ?z9) rfl ?p9 ?r9
  case p9 => simp; rfl
  refine awp_ret ?_
  exact ⟨.inr rfl, RetOk.out [96] [] rfl (by simp) (by simp) (by simp) (by simp [blockF, Function.comp_def])⟩
end Go.Proofs.Ytnphfkceoklkkaa
namespace Go.Proofs.Ytnphfkceoklkkaa
open Go
section
variable {P : Program} {np id : Nat} {h : Nat → Option Ent} {K : AV → List Nat → List (Nat × Option Ent) → Prop} {s s' : Nat} {f : Bool} {rows : List (List AV)} {k l : Nat}
@[simp] theorem k_slvlh : aK P np id (.slc s true true false) [.vs s' f rows, .sc (.int .i64 (l : Int)), .sc (.int .i64 (k : Int))] h K = (l ≤ k ∧ k ≤ rows.length ∧ s' = s ∧ K (.vs s false ((rows.drop l).take (k - l))) [] []) := by
  rw [k_slc]
  refine propext ⟨?_, ?_⟩
  · rintro ⟨l', r, m, n, h1, h2, h4, h5, h6, h7, h3, h10, h8, h9⟩
    simp at h4 h1
    subst h1
    obtain ⟨rfl, rfl⟩ : l = l' ∧ k = r := by omega
    exact ⟨h2, h3, h8, by simpa using h9⟩
  · rintro ⟨h1, h2, h3, h4⟩
    exact ⟨l, k, 0, rows.length, rfl, h1, by simp, (fun h => by cases h), (fun h => by cases h), (fun h => by cases h), h2, (fun h => by cases h), h3, by simpa using h4⟩
end
theorem bytesOf_rows (l : List Int) : bytesOfRows (rowsK .u8 l) = some (l.map fun n => UInt8.ofNat n.toNat) := by
  induction l with
  | nil => rfl
  | cons x l ih =>
    show (bytesOfRows (rowsK .u8 l)).map _ = _
    rw [ih]
    rfl
def h0W : List Int := [1779033703, 3144134277, 1013904242, 2773480762, 1359893119, 2600822924, 528734635, 1541459225]
def zerosN (L : Nat) : Nat := (120 - (L + 1) % 64) % 64
def bitsN (L : Nat) : Int := IntKind.u64.wrap (IntKind.u64.wrap (L : Int) * 8)
def padY (b : List Int) : List Int := b ++ [128] ++ List.replicate (zerosN b.length) 0 ++ intY (bitsN b.length)
def hF (M : List Int) : Nat → List Int
  | 0 => h0W
  | i + 1 => blockF (hF M i) ((M.drop (64 * i)).take 64) conK
def four (x : Int) : List Int := [IntKind.u8.wrap (sh .shr x 24), IntKind.u8.wrap (sh .shr x 16), IntKind.u8.wrap (sh .shr x 8), IntKind.u8.wrap x]
def outYn (h : List Int) : Nat → List Int
  | 0 => []
  | i + 1 => outYn h i ++ four (gt h i)
def sumB (b : List Int) : ByteArray := ⟨((outYn (hF (padY b) ((padY b).length / 64)) 8).map fun n => UInt8.ofNat n.toNat).toArray⟩
theorem outYn_len (h : List Int) : ∀ i, (outYn h i).length = 4 * i
  | 0 => rfl
  | i + 1 => by rw [outYn, List.length_append, outYn_len h i]; simp [four]; omega
theorem sumB_size (b : List Int) : (sumB b).size = 32 := by
  show ((outYn _ 8).map _).toArray.size = 32
  simp [outYn_len]
theorem blockF_len {H B C : List Int} (hH : H.length = 8) : (blockF H B C).length = 8 := oF_len hH 8
theorem hF_len (M : List Int) : ∀ i, (hF M i).length = 8
  | 0 => rfl
  | i + 1 => blockF_len (hF_len M i)
theorem padY_len (b : List Int) : (padY b).length = b.length + 1 + zerosN b.length + 8 := by simp [padY, intY_len]; omega
theorem padY_mod (b : List Int) : (padY b).length % 64 = 0 := by rw [padY_len]; unfold zerosN; omega
set_option maxHeartbeats 8000000 in
set_option maxRecDepth 100000 in
theorem ref01_Sum_ok (b : List Int) (hl : b.length ≤ 1073741824) : ACalls Try.prog nref01_Sum [bys b] [] (.sc (.string (sumB b))) [] := by
  refine sref01_Sum.acalls (Nat.le_of_ble_eq_true rfl) (Nat.le_of_ble_eq_true rfl) (Nat.le_refl _) ?_
  show awp _ 0 _ _ ⟨87, [(0, bys b)], [], 16⟩
  obtain ⟨L, hL⟩ : ∃ L, L = b.length := ⟨_, rfl⟩
  obtain ⟨Z, hZ⟩ : ∃ Z, Z = zerosN L := ⟨_, rfl⟩
  have hZ2 : Z = (120 - (L + 1) % 64) % 64 := hZ
  have hfl : ∀ (k : IntKind) (l : List Int) ρ sn h m, (rowsK k l).map (List.map (conv ρ sn h (m + 1))) = rowsK k l := rowsK_flat
  refine awp_regc ⟨87, [(0, bys b)], [], 24⟩ rfl (by simp; exact Le.snap [] rfl rfl (by simp)) ?_
  refine awp_regc ⟨87, [(0, bys b), (3, .rs 24 0 8)], [(24, some ⟨1, rowsK .u32 h0W, 0⟩)], 40⟩ rfl ?_ ?_
  · simp
    exact Le.keep rfl (Nat.le_refl _) (by simp) (by simp [h0W])
  let m : Nat → List Int := fun z => b ++ [128] ++ List.replicate z 0
  have hml : ∀ z, (m z).length = L + 1 + z := fun z => by simp [m, hL]; omega
  have hms : ∀ z, m (z + 1) = m z ++ [0] := fun z => by simp [m, List.replicate_succ']
  have hmZ : b ++ [128] ++ List.replicate (zerosN b.length) 0 = m Z := by rw [hZ, hL]
  refine awp_regc ⟨87, [(0, bys b), (3, .rs 24 0 8), (4, .rs 64 0 (L + 1 + 0))], [(24, some ⟨1, rowsK .u32 h0W, 0⟩), (64, some ⟨1, rowsK .u8 (m 0), 0⟩)], 80⟩ rfl ?_ ?_
  · simp [← hL]
    repeat' apply And.intro
    all_goals first | omega | exact Le.keep rfl (Nat.le_refl _) (by simp) (by simp [m, hL, take_map_len])
  clear_value m
  refine awp_seq ?_
  refine awp_block ?_
  refine awp_loop (ι := Nat) (fun z => ⟨87, [(0, bys b), (3, .rs 24 0 8), (4, .rs 64 0 (L + 1 + z))], [(24, some ⟨1, rowsK .u32 h0W, 0⟩), (64, some ⟨1, rowsK .u8 (m z), 0⟩)], 80⟩) (fun z => z ≤ Z) (fun z => Z - z) 0 (by omega) (Le.refl _ _) ?_
  intro z hz
  obtain ⟨N, hN⟩ : ∃ N, N = L + 1 + z := ⟨_, rfl⟩
  have hrem : Int.tmod (N : Int) 64 = ((N % 64 : Nat) : Int) := rfl
  have hml1 := hml z
  rw [← hN] at hml1
  rw [← hN]
  refine awp_seq ?_
  refine awp_regc ⟨87, [(0, bys b), (3, .rs 24 0 8), (4, .rs 64 0 N), (19, .B (decide (z < Z)))], [(24, some ⟨1, rowsK .u32 h0W, 0⟩), (64, some ⟨1, rowsK .u8 (m z), 0⟩)], 112⟩ rfl ?_ ?_
  · simp [hrem, -Int.natCast_emod]
    exact Le.keep rfl (Nat.le_refl _) (by simp [-Int.natCast_emod]; rw [Bool.eq_iff_iff]; simp [-Int.natCast_emod]; omega) (by simp)
  refine awp_cond _ rfl (fun h => awp_skip ?_) fun h => awp_exit (hit ?_)
  · simp only [decide_eq_true_eq] at h
    have hNb : N ≤ 1073741900 := by omega
    have hs := hms z
    have hX := hfl .u8 (m (z + 1))
    have hXe : rowsK .u8 (m (z + 1)) = rowsK .u8 (m z) ++ [[.sc (.int .u8 0)]] := by rw [hs, rowsK, List.map_append]; rfl
    have hrl : (rowsK .u8 (m z)).length = N := by rw [rowsK_len, hml1]
    refine awp_block ?_
    refine awp_reg rfl ?_
    simp [hml1]
    refine ⟨by omega, z + 1, by omega, by omega, ?_⟩
    refine Le.ents [(24, 24), (128, 64)] [] rfl (by simp) (by simp) (by simp) (by simp) (by simp) (by simp; exact wkE (by simp; omega)) fun p hp => ?_
    simp only [List.mem_cons, List.not_mem_nil, or_false] at hp
    rcases hp with rfl | rfl
    · exact ⟨24, _, _, rfl, by simp, rfl, EntUp.eq (by simp only [convE, hfl]) (by simp)⟩
    · exact ⟨128, _, _, rfl, by simp, rfl, EntUp.eq (by
        show convE _ _ _ _ ⟨1, List.take N (rowsK .u8 (m z)) ++ [[.sc (.int .u8 0)]], 0⟩ = _
        rw [List.take_of_length_le (by omega), ← hXe]
        simp only [convE, hfl]) (by simp)⟩
  simp only [decide_eq_false_iff_not] at h
  obtain rfl : z = Z := by omega
  obtain ⟨M0, hM0⟩ : ∃ M0, M0 = m z := ⟨_, rfl⟩
  rw [← hM0] at hml1 hmZ ⊢
  obtain ⟨bt, hbt⟩ : ∃ bt, bt = bitsN L := ⟨_, rfl⟩
  refine awp_regc ⟨87, [(3, .rs 24 0 8), (4, .rs 64 0 N), (5, .sc (.int .u64 bt))], [(24, some ⟨1, rowsK .u32 h0W, 0⟩), (64, some ⟨1, rowsK .u8 M0, 0⟩)], 152⟩ rfl ?_ ?_
  · simp [← hL]
    exact Le.keep rfl (Nat.le_refl _) (by simp [hbt, bitsN]) (by simp)
  let q : Nat → List Int := fun j => M0 ++ intYn bt j
  have hql : ∀ j, (q j).length = N + j := fun j => by simp only [q]; rw [List.length_append, intYn_len, hml1]
  have hqs : ∀ j, q (j + 1) = q j ++ [byteN bt (7 - j)] := fun j => by simp only [q]; rw [intYn_succ, List.append_assoc]
  have hq0 : q 0 = M0 := by simp [q, intYn]
  have hq8 : q 8 = padY b := by
    simp only [q]
    rw [padY, hmZ, hbt, hL]
    rfl
  refine awp_seq ?_
  refine awp_regc ⟨87, [(3, .rs 24 0 8), (4, .rs 64 0 (N + 0)), (5, .sc (.int .u64 bt)), (6, .I (7 - (0 : Nat)))], [(24, some ⟨1, rowsK .u32 h0W, 0⟩), (64, some ⟨1, rowsK .u8 (q 0), 0⟩)], 160⟩ rfl ?_ ?_
  · simp [hq0]
    exact Le.keep rfl (Nat.le_refl _) (by simp) (by simp)
  clear_value q
  refine awp_block ?_
  refine awp_loop (ι := Nat) (fun j => ⟨87, [(3, .rs 24 0 8), (4, .rs 64 0 (N + j)), (5, .sc (.int .u64 bt)), (6, .I (7 - (j : Int)))], [(24, some ⟨1, rowsK .u32 h0W, 0⟩), (64, some ⟨1, rowsK .u8 (q j), 0⟩)], 160⟩) (fun j => j ≤ 8) (fun j => 8 - j) 0 (by omega) (Le.refl _ _) ?_
  intro j hj
  refine awp_seq ?_
  refine awp_regc ⟨87, [(3, .rs 24 0 8), (4, .rs 64 0 (N + j)), (5, .sc (.int .u64 bt)), (6, .I (7 - (j : Int))), (28, .B (decide (j < 8)))], [(24, some ⟨1, rowsK .u32 h0W, 0⟩), (64, some ⟨1, rowsK .u8 (q j), 0⟩)], 176⟩ rfl ?_ ?_
  · simp
    exact Le.keep rfl (Nat.le_refl _) (by simp; omega) (by simp)
  refine awp_cond _ rfl (fun h => awp_skip ?_) fun h => awp_exit (hit ?_)
  · simp only [decide_eq_true_eq] at h
    refine awp_cut (ι := Unit) (fun _ => ⟨87, [(3, .rs 24 0 8), (4, .rs 64 0 (N + (j + 1))), (5, .sc (.int .u64 bt)), (6, .I (7 - (j : Int)))], [(24, some ⟨1, rowsK .u32 h0W, 0⟩), (64, some ⟨1, rowsK .u8 (q (j + 1)), 0⟩)], 256⟩) (fun _ => True) ?_ fun _ _ => ?_
    · have hs := hqs j
      have hl1 := hql j
      rw [hs]
      generalize q j = Y at *
      obtain ⟨k, hk⟩ : ∃ k : Nat, 7 - (j : Int) = k := ⟨7 - j, by omega⟩
      have hk2 : 7 - j = k := by omega
      have hw1 : IntKind.i64.wrap (8 * (k : Int)) = ((8 * k : Nat) : Int) := by rw [w64 (by omega) (by omega)]; omega
      have hw2 : IntKind.u64.wrap ((8 * k : Nat) : Int) = ((8 * k : Nat) : Int) := by rw [IntKind.wrap_u64]; omega
      have hb : byteN bt k = IntKind.u8.wrap (bt.fdiv (2 ^ (min (8 * k) 64))) := rfl
      rw [hk, hk2]
      generalize byteN bt k = y at hb ⊢
      obtain ⟨s, hse⟩ : ∃ s, s = 8 * k := ⟨_, rfl⟩
      rw [← hse] at hw1 hw2 hb
      refine awp_block ?_
      refine awp_reg rfl ?_
      simp [hw1, hw2, IntKind.bits, ← hb, hl1]
      have htk : List.take (N + j) (rowsK .u8 Y) = rowsK .u8 Y := List.take_of_length_le (by rw [rowsK_len]; omega)
      refine ⟨by omega, ?_⟩
      refine Le.ents [(24, 24), (240, 64)] [] rfl (by simp) (by simp) (by simp) (by simp) (by simp) (by simp; exact wkE (by simp; omega)) fun p hp => ?_
      simp only [List.mem_cons, List.not_mem_nil, or_false] at hp
      rcases hp with rfl | rfl
      · exact ⟨24, _, _, rfl, by simp, rfl, EntUp.eq (by simp only [convE, hfl]) (by simp)⟩
      · exact ⟨240, _, _, rfl, by simp, rfl, EntUp.eq (by
          show convE _ _ _ _ ⟨1, List.take (N + j) (rowsK .u8 Y) ++ [[.sc (.int .u8 y)]], 0⟩ = _
          rw [htk]
          simp [convE, Function.comp_def]) (by simp)⟩
    have hwj : IntKind.i64.wrap (7 - (j : Int) - 1) = 7 - ((j + 1 : Nat) : Int) := by rw [w64 (by omega) (by omega)]; omega
    refine awp_reg rfl ?_
    simp [hwj]
    refine ⟨j + 1, by omega, by omega, ?_⟩
    refine Le.ents [(24, 24), (64, 64)] [] rfl (by simp) (by simp) (by simp) (by simp) (by simp) (by simp) fun p hp => ?_
    simp only [List.mem_cons, List.not_mem_nil, or_false] at hp
    rcases hp with rfl | rfl
    · exact ⟨24, _, _, rfl, by simp, rfl, EntUp.eq (by simp only [convE, hfl]) (by simp)⟩
    · exact ⟨64, _, _, rfl, by simp, rfl, EntUp.eq (by simp only [convE, hfl]) (by simp)⟩
  simp only [decide_eq_false_iff_not] at h
  obtain rfl : j = 8 := by omega
  obtain ⟨M, hM⟩ : ∃ M, M = padY b := ⟨_, rfl⟩
  have hMl : M.length = N + 8 := by rw [hM, ← hq8]; exact hql 8
  have hM64 : M.length % 64 = 0 := by rw [hM]; exact padY_mod b
  obtain ⟨nb, hnb⟩ : ∃ nb, nb = M.length / 64 := ⟨_, rfl⟩
  have hsum : sumB b = ⟨((outYn (hF M nb) 8).map fun n => UInt8.ofNat n.toNat).toArray⟩ := by rw [hnb, hM]; rfl
  rw [hq8, ← hM, ← hMl, hsum]
  refine awp_regc ⟨87, [(3, wds (hF M 0)), (4, bys M), (7, wds conK)], [], 192⟩ rfl ?_ ?_
  · simp
    refine callN1 conK_ok rfl ?_
    simp [Function.comp_def]
    exact Le.snap [24, 64, 176] rfl rfl (by simp [Function.comp_def, hF, h0W, take_map_len, conK_len, List.take_of_length_le] <;> exact .refl _)
  refine awp_seq ?_
  refine awp_regc ⟨87, [(3, wds (hF M 0)), (4, bys M), (7, wds conK), (8, .I (64 * 0 : Nat))], [], 200⟩ rfl (by simp; exact Le.snap [] rfl rfl (by simp)) ?_
  refine awp_block ?_
  refine awp_loop (ι := Nat) (fun i => ⟨87, [(3, wds (hF M i)), (4, bys M), (7, wds conK), (8, .I (64 * i : Nat))], [], 200⟩) (fun i => i ≤ nb) (fun i => nb - i) 0 (by omega) (Le.refl _ _) ?_
  intro i hi
  obtain ⟨c, hc⟩ : ∃ c, c = 64 * i := ⟨_, rfl⟩
  rw [← hc]
  refine awp_seq ?_
  refine awp_regc ⟨87, [(3, wds (hF M i)), (4, bys M), (7, wds conK), (8, .I c), (44, .B (decide (i < nb)))], [], 232⟩ rfl ?_ ?_
  · simp
    exact Le.snap [] rfl rfl (by simp <;> exact wkB (by rw [Bool.eq_iff_iff]; simp; omega))
  refine awp_cond _ rfl (fun h => awp_skip ?_) fun h => awp_exit (hit ?_)
  · simp only [decide_eq_true_eq] at h
    have hbl := ref01_block_ok (hF M i) ((M.drop c).take 64) conK (hF_len M i) (by simp; omega) conK_len
    have hhs : hF M (i + 1) = blockF (hF M i) ((M.drop c).take 64) conK := by rw [hF, hc]
    rw [← hhs] at hbl
    have hhl := hF_len M (i + 1)
    obtain ⟨c2, hc2⟩ : ∃ c2, c2 = c + 64 := ⟨_, rfl⟩
    have hwc : IntKind.i64.wrap ((c : Int) + 64) = (c2 : Int) := by rw [w64 (by omega) (by omega)]; omega
    have hc2c : c2 - c = 64 := by omega
    have hwc2 : IntKind.i64.wrap ((c : Int) + 64) = ((64 * (i + 1) : Nat) : Int) := by rw [w64 (by omega) (by omega)]; omega
    refine awp_cut (ι := Unit) (fun _ => ⟨87, [(3, wds (hF M (i + 1))), (4, bys M), (7, wds conK), (8, .I c)], [], 304⟩) (fun _ => True) ?_ fun _ _ => ?_
    · refine awp_block ?_
      refine awp_reg rfl ?_
      simp [hwc, hc2c]
      refine ⟨by omega, by omega, ?_⟩
      refine callN1 hbl (by simp [List.map_drop, List.map_take]) ?_
      simp [Function.comp_def]
      exact Le.snap [288] rfl rfl (by simp [Function.comp_def, hhl]; exact wkE (congrArg _ (List.take_of_length_le (by simp; omega))))
    refine awp_reg rfl ?_
    simp [hwc2]
    exact ⟨i + 1, by omega, by omega, Le.snap [] rfl rfl (by simp)⟩
  simp only [decide_eq_false_iff_not] at h
  obtain rfl : i = nb := by omega
  obtain ⟨H, hH⟩ : ∃ H, H = hF M i := ⟨_, rfl⟩
  have hHl : H.length = 8 := by rw [hH]; exact hF_len M i
  rw [← hH]
  refine awp_regc ⟨87, [(3, wds H), (9, .sc (.slice none 0 0))], [], 240⟩ rfl (by simp; exact Le.snap [] rfl rfl (by simp)) ?_
  refine awp_seq ?_
  refine awp_regc ⟨87, [(3, wds H), (9, .sc (.slice none 0 0)), (10, .I (0 : Nat))], [], 248⟩ rfl (by simp; exact Le.snap [] rfl rfl (by simp)) ?_
  refine awp_block ?_
  refine awp_loop (ι := Nat) (fun i => ⟨87, [(3, wds H), (9, .rs 16 0 (4 * i)), (10, .I i)], [(16, some ⟨1, rowsK .u8 (outYn H i), 0⟩)], 248⟩) (fun i => i ≤ 8) (fun i => 8 - i) 0 (by omega) (Le.lst [] [] [(16, 1)] rfl (by simp) (by simp) (by simp) (by simp) (by simp) (by simp) (by simp) (by simp [Up, outYn]) (by simp [outYn])) ?_
  intro i hi
  refine awp_seq ?_
  refine awp_regc ⟨87, [(3, wds H), (9, .rs 16 0 (4 * i)), (10, .I i), (56, .B (decide (i < 8)))], [(16, some ⟨1, rowsK .u8 (outYn H i), 0⟩)], 264⟩ rfl ?_ ?_
  · simp
    exact Le.keep rfl (Nat.le_refl _) (by simp <;> omega) (by simp)
  refine awp_cond _ rfl (fun h => awp_skip ?_) fun h => awp_exit (hit ?_)
  · simp only [decide_eq_true_eq] at h
    refine awp_cut (ι := Unit) (fun _ => ⟨87, [(3, wds H), (9, .rs 16 0 (4 * (i + 1))), (10, .I i)], [(16, some ⟨1, rowsK .u8 (outYn H (i + 1)), 0⟩)], 480⟩) (fun _ => True) ?_ fun _ _ => ?_
    · obtain ⟨lh, gh⟩ := gt_of hHl h
      have hol := outYn_len H i
      have hs : outYn H (i + 1) = outYn H i ++ four (gt H i) := rfl
      rw [hs]
      generalize gt H i = x at *
      generalize outYn H i = Y at *
      have htk : List.take (4 * i) (rowsK .u8 Y) = rowsK .u8 Y := List.take_of_length_le (by rw [rowsK_len]; omega)
      obtain ⟨c, hc⟩ : ∃ c, c = 4 * i := ⟨_, rfl⟩
      rw [← hc] at hol htk ⊢
      refine awp_block ?_
      refine awp_drw rfl ?_
      simp [lh, gh, hol]
      refine ⟨by omega, rfl, ?_⟩
      exact Le.ren1 464 16 [] rfl rfl (by simp) (by simp) rfl (by simp only [convE]; simp [htk, Function.comp_def, four]) (by simp) (by simp; exact wkE (by simp; omega))
    have hwi : IntKind.i64.wrap ((i : Int) + 1) = ((i + 1 : Nat) : Int) := by rw [w64 (by omega) (by omega)]; omega
    refine awp_reg rfl ?_
    simp [hwi]
    exact ⟨i + 1, by omega, by omega, Le.K1 16 16 [] rfl rfl (by simp) (by simp) rfl (by simp)⟩
  simp only [decide_eq_false_iff_not] at h
  obtain rfl : i = 8 := by omega
  have hol := outYn_len H 8
  have hby := bytesOf_rows (outYn H 8)
  refine awp_regc ⟨87, [(2, .sc (.string ⟨((outYn H 8).map fun n => UInt8.ofNat n.toNat).toArray⟩))], [], 288⟩ rfl ?_ ?_
  · have htk : List.take 32 (rowsK .u8 (outYn H 8)) = rowsK .u8 (outYn H 8) := List.take_of_length_le (by rw [rowsK_len]; omega)
    generalize outYn H 8 = Y at *
    generalize hR : rowsK .u8 Y = R at *
    have hRl : R.length = 32 := by rw [← hR, rowsK_len, hol]
    simp [hRl, htk, hby]
    exact Le.snap [] rfl rfl (by simp)
  refine awp_ret ?_
  exact ⟨.inr rfl, RetOk.out [] [] rfl (by simp) (by simp) (by simp) (by simp)⟩
end Go.Proofs.Ytnphfkceoklkkaa
