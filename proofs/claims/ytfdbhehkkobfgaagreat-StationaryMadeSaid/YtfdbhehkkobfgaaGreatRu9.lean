/- Texts of this claim,merged. -/
import Derived.Test.YtfdbhehkkobfgaaGreatRu8
import Derived.Test.YtfdbhehkkobfgaaGreatRu6
import Derived.Test.YtfdbhehkkobfgaaGreatRu7
import Derived.Shelf.SlIterI.Collect
import Derived.RangeFuncLeaves
set_option linter.unusedSimpArgs false
set_option linter.unusedVariables false
set_option linter.unusedSectionVars false
namespace Go.Proofs.YtfdbhehkkobfgaaGreat
open Go
structure Pol where
 seeds : List Int
 table : List Int
 lv : Int
def zbx (n : Int) (p : Pol) : Prop :=
 p.seeds ≠ [] ∧ Rise p.seeds 0 (n - 1) ∧ 1 ≤ p.table.length ∧ p.table.length ≤ 8 ∧ 1 ≤ p.lv ∧ p.lv ≤ 3 ∧ ∀ i (h : i < p.table.length),1 ≤ p.table[i] ∧ p.table[i] ≤ 1000 ∧ (0 < i → p.table[i] ≤ p.table[i - 1])
def zi5 (p : Pol) (d : Int) : Int:=if d < 0 then 0 else p.table.getD d.toNat 1
theorem zll {p : Pol} {d : Int} (h : d < 0) : zi5 p d = 0:=if_pos h
theorem zmH {p : Pol} {n : Int} (hp : zbx n p) {d : Int} (h : 0 ≤ d) : 1 ≤ zi5 p d ∧ zi5 p d ≤ 1000:=by
 unfold zi5
 rw [if_neg (by omega)]
 by_cases hd : d.toNat < p.table.length
 ·rw [List.getD_eq_getElem?_getD,List.getElem?_eq_getElem hd,Option.getD_some]
  have:=hp.2.2.2.2.2.2 d.toNat hd
  omega
 ·rw [List.getD_eq_getElem?_getD,List.getElem?_eq_none (by omega),Option.getD_none]
  omega
theorem zp5 {p : Pol} {n : Int} (hp : zbx n p) {d : Int} : 0 < zi5 p d ↔ 0 ≤ d:=by
 constructor
 ·intro h
  refine Decidable.byContradiction fun h1=>?_
  rw [zll (by omega)] at h
  omega
 ·intro h
  have:=zmH hp h
  omega
theorem zmk {p : Pol} {n : Int} (hp : zbx n p) (d : Int) : 0 ≤ zi5 p d ∧ zi5 p d ≤ 1000:=by
 by_cases h : 0 ≤ d
 ·have:=zmH hp h; omega
 ·rw [zll (by omega)]; omega
def zbW (g : Gr) (p : Pol) : List Int:=(zdc (zao g p.lv) p.seeds).map (zi5 p)
def zbB (g : Gr) (p : Pol) (c : List Int) (sinks : List Int) : List Ed :=
 ((p.seeds.filter fun x=>decide (0 < c.getD x.toNat 0)).map fun x=>⟨0,2 + 2 * x,c.getD x.toNat 0⟩)
 ++ ((List.range c.length).filter fun i=>decide (0 < c.getD i 0)).map (fun i=>⟨2 + 2 * (i : Int),3 + 2 * (i : Int),c.getD i 0 - 1⟩)
 ++ ((sinks.filter fun x=>decide (0 < c.getD x.toNat 0)).map fun x=>⟨2 + 2 * x,1,1⟩)
 ++ (((zao g p.lv).edges.filter fun e=>decide (0 < c.getD e.f.toNat 0)).map fun e=>⟨3 + 2 * e.f,2 + 2 * e.t,64⟩)
structure Net where
 nodes : Int
 arcs : List Ed
def zr2 (n : Int) (a : Ed) : Prop:=0 ≤ a.f ∧ a.f ≤ n - 1 ∧ 0 ≤ a.t ∧ a.t ≤ n - 1 ∧ a.f ≠ a.t ∧ a.t ≠ 0 ∧ a.f ≠ 1 ∧ 0 ≤ a.v ∧ a.v ≤ 1048576
instance (n : Int) (a : Ed) : Decidable (zr2 n a):=by unfold zr2; infer_instance
def zpJ (n : Net) : Prop:=2 ≤ n.nodes ∧ n.nodes ≤ 130 ∧ n.arcs.length ≤ 1200 ∧ ∀ a ∈ n.arcs,zr2 n.nodes a
instance (n : Net) : Decidable (zpJ n):=by unfold zpJ; infer_instance
def zrF (n : Net) (side : List Int) : Prop:=zpJ n ∧ Rise side 0 (n.nodes - 1) ∧ (0 : Int) ∈ side ∧ (1 : Int) ∉ side
def cutV (arcs : List Ed) (side : List Int) : Int:=(arcs.map fun a=>if a.f ∈ side ∧ a.t ∉ side then a.v else 0).sum
def zme (n : Net) (side : List Int) (most : Int) : Prop:=zrF n side ∧ cutV n.arcs side ≤ most
def za2 (a : List Int) : List Int:=((List.range 64).map Int.ofNat).filter fun x=>decide (x ∈ a)
theorem zf3 {a : List Int} {x : Int} : x ∈ za2 a ↔ x ∈ a ∧ 0 ≤ x ∧ x < 64:=by
 unfold za2
 simp only [List.mem_filter,List.mem_map,List.mem_range,decide_eq_true_eq]
 constructor
 ·rintro ⟨⟨i,hi,rfl⟩,h⟩
  exact ⟨h,Int.natCast_nonneg _,by show (i : Int) < 64; omega⟩
 ·rintro ⟨h,h0,h1⟩
  exact ⟨⟨x.toNat,by omega,by show ((x.toNat : Nat) : Int) = x; omega⟩,h⟩
theorem zjW (a : List Int) : (za2 a).Pairwise (· < ·):=by
 unfold za2
 refine List.Pairwise.filter _ ?_
 rw [List.pairwise_map]
 exact List.pairwise_lt_range.imp fun {a b} h=>by show (a : Int) < (b : Int); omega
theorem zbM : ∀ {a b : List Int},a.Nodup → (∀ x ∈ a,x ∈ b) → a.length ≤ b.length
 | [],_,_,_=>Nat.zero_le _
 | x :: a,b,hn,hs=>by
   have hx : x ∈ b:=hs x (List.mem_cons_self ..)
   rw [List.nodup_cons] at hn
   have hb:=List.perm_cons_erase hx
   have hlb : (b.erase x).length + 1 = b.length:=by have:=hb.length_eq; simp at this; omega
   have:=zbM (b:=b.erase x) hn.2 fun y hy=>by
    have hne : y ≠ x:=fun e=>hn.1 (e ▸ hy)
    exact (List.mem_erase_of_ne hne).2 (hs y (List.mem_cons_of_mem _ hy))
   rw [List.length_cons]
   omega
theorem zmt {a : List Int} (hn : a.Nodup) (hr : ∀ k ∈ a,0 ≤ k ∧ k < 64) : srt a = za2 a:=by
 have h1 : (za2 a).Nodup:=(zjW a).imp fun {x y} h=>by omega
 have h2 : a.Perm (za2 a):=zcz hn (fun x hx=>zf3.2 ⟨hx,hr x hx⟩) (zbM h1 fun x hx=>(zf3.1 hx).1)
 exact List.Perm.eq_of_pairwise (le:=(· ≤ ·)) (fun x y _ _ h1 h2=>by omega) (zmY a) ((zjW a).imp fun {x y} h=>by omega) ((zdt a).trans h2)
def encS (s : Stp) : Int:=if s.2 then -((s.1 : Int) + 1) else (s.1 : Int) + 1
def decS (v : Int) : Stp:=if 0 < v then ((v - 1).toNat,false) else ((-v - 1).toNat,true)
theorem zsl (s : Stp) : decS (encS s) = s:=by
 obtain ⟨i,b⟩:=s
 unfold decS encS
 cases b
 ·simp only [Bool.false_eq_true,if_false]
  rw [if_pos (by omega)]
  congr 1
  omega
 ·simp only [if_true]
  rw [if_neg (by omega)]
  congr 1
  omega
theorem ztu (s : Stp) : encS s ≠ 0:=by unfold encS; split <;> omega
structure Bfs (N : Nat) (A : List Ed) (f D b : List Int) : Prop where
 tree : zqW A f D fun x=>decS (b.getD x.toNat 0)
 rng : ∀ x ∈ D,0 ≤ x ∧ x < N
 len : b.length = N
 zero : b.getD 0 0 = 0
 out : ∀ x : Int,0 ≤ x → x ∉ D → b.getD x.toNat 0 = 0
 inn : ∀ x ∈ D,x ≠ 0 → b.getD x.toNat 0 ≠ 0
def zic (A : List Ed) (f D : List Int) (m : Nat) : Prop:=∀ s : Stp,s.1 < A.length → stF A s ∈ D.take m → 0 < zdM A f s → stT A s ∈ D
def zsj (A : List Ed) (f D : List Int) (k : Int) (i : Nat) : Prop:=∀ s : Stp,s.1 < i → stF A s = k → 0 < zdM A f s → stT A s ∈ D
variable {N : Nat} {A : List Ed} {f D b : List Int}
theorem Bfs.start (hN : 0 < N) : Bfs N A f [0] (List.replicate N 0):=by
 have h0 : ∀ i,(List.replicate N (0 : Int)).getD i 0 = 0:=fun i=>by
  rw [List.getD_eq_getElem?_getD,List.getElem?_replicate]
  split <;> rfl
 exact ⟨⟨rfl,by simp,fun j h hj=>by simp at h; omega⟩,fun x hx=>by simp at hx; omega,by simp,h0 0,fun x _ _=>h0 _,fun x hx hn=>absurd (by simpa using hx) hn⟩
theorem Bfs.mem0 (h : Bfs N A f D b) : (0 : Int) ∈ D:=List.mem_of_mem_head? (by rw [h.tree.zero]; rfl)
theorem Bfs.push (h : Bfs N A f D b) {s : Stp} (hs : s.1 < A.length) (hF : stF A s ∈ D) (hr : 0 < zdM A f s) (hT : stT A s ∉ D) (h0 : 0 ≤ stT A s) (h1 : stT A s < N) : Bfs N A f (D ++ [stT A s]) (b.set (stT A s).toNat (encS s)):=by
 have hb : (stT A s).toNat < b.length:=by rw [h.len]; omega
 have hne : ∀ x : Int,0 ≤ x → x ≠ stT A s → (b.set (stT A s).toNat (encS s)).getD x.toNat 0 = b.getD x.toNat 0:=fun x hx hxn=>by
  rw [List.getD_eq_getElem?_getD,List.getElem?_set_ne (by omega),List.getD_eq_getElem?_getD]
 have heq : (b.set (stT A s).toNat (encS s)).getD (stT A s).toNat 0 = encS s:=by
  rw [List.getD_eq_getElem?_getD,List.getElem?_set_self hb,Option.getD_some]
 have hn0 : stT A s ≠ 0:=fun e=>hT (e ▸ h.mem0)
 refine ⟨⟨?_,?_,fun j hj hj0=>?_⟩,fun x hx=>?_,by rw [List.length_set]; exact h.len,?_,fun x hx hxn=>?_,fun x hx hxn=>?_⟩
 ·rw [List.head?_append,h.tree.zero]
  rfl
 ·rw [List.nodup_append]
  exact ⟨h.tree.nodup,by simp,fun a ha c hc=>by rw [List.mem_singleton] at hc; subst hc; rintro rfl; exact hT ha⟩
 ·rw [List.length_append,List.length_singleton] at hj
  by_cases hjl : j < D.length
  ·have hm:=List.getElem_mem hjl
   have hx : D[j] ≠ stT A s:=fun e=>hT (e ▸ hm)
   simp only [List.getElem_append_left hjl]
   rw [hne _ (h.rng _ hm).1 hx]
   obtain ⟨q1,q2,q3,q4⟩:=h.tree.step j hjl hj0
   refine ⟨q1,q2,?_,q4⟩
   rw [List.take_append_of_le_length (by omega)]
   exact q3
  ·obtain rfl : j = D.length:=by omega
   have e : (D ++ [stT A s])[D.length]'(by simp) = stT A s:=by simp
   simp only [e]
   rw [heq,zsl]
   refine ⟨hs,rfl,?_,hr⟩
   rw [List.take_append_of_le_length (Nat.le_refl _),List.take_length]
   exact hF
 ·rcases List.mem_append.1 hx with h2 | h2
  ·exact h.rng x h2
  ·rw [List.mem_singleton] at h2
   subst h2
   exact ⟨h0,h1⟩
 ·have:=hne 0 (Int.le_refl _) (Ne.symm hn0)
  simp only [Int.toNat_zero] at this
  rw [this]
  exact h.zero
 ·rw [List.mem_append,List.mem_singleton,not_or] at hxn
  rw [hne x hx hxn.2]
  exact h.out x hx hxn.1
 ·by_cases hxt : x = stT A s
  ·subst hxt
   rw [heq]
   exact ztu s
  ·rcases List.mem_append.1 hx with h2 | h2
   ·rw [hne x (h.rng x h2).1 hxt]
    exact h.inn x h2 hxn
   ·exact absurd (List.mem_singleton.1 h2) hxt
theorem Bfs.few (h : Bfs N A f D b) : D.length ≤ N:=by
 have:=zbM (b:=(List.range N).map fun i : Nat=>(i : Int)) h.tree.nodup fun x hx=>by
  have:=h.rng x hx
  exact List.mem_map.2 ⟨x.toNat,List.mem_range.2 (by omega),by omega⟩
 simpa using this
theorem zic.next {m : Nat} (hm : m < D.length) {D' : List Int} (h : zic A f D m) (hi : zsj A f D' D[m] A.length) {l : List Int} (hD : D' = D ++ l) : zic A f D' (m + 1):=by
 subst hD
 intro s hs hF hr
 rw [List.take_append_of_le_length (by omega),List.take_succ_eq_append_getElem hm] at hF
 rcases List.mem_append.1 hF with h1 | h1
 ·exact List.mem_append_left _ (h s hs h1 hr)
 ·exact hi s hs (List.mem_singleton.1 h1) hr
theorem zic.all (h : zic A f D D.length) : zh7 A f D:=fun s hs hF hr=>h s hs (by rw [List.take_length]; exact hF) hr
end Go.Proofs.YtfdbhehkkobfgaaGreat
namespace Go.Proofs.YtfdbhehkkobfgaaGreat
open Go Go.RowKit Go.Shelf Go.Maps Go.Sort
attribute [local go_sem] Oper.semAt_some
def zgj : Go.Shelf.Ren:=⟨fun | 11=>213 | n=>n,fun | 0=>0 | 24=>22 | 26=>3 | 28=>183 | 33=>76 | n=>n,fun | n=>n⟩
theorem seqL : SlLaysZI.n11 Tryz.prog zgj:={
 mixed:=by kernel_rfl
 f11:=⟨Tryz.f213.name,by decide,Tryz.func213.trans (congrArg some (by kernel_rfl))⟩
 t0:=Tryz.underlying0
 a0:=Tryz.isAgg0
 z0:=Tryz.sizeOf0
 v0:=Tryz.zeroValue0
 t24:=Tryz.underlying22
 a24:=Tryz.isAgg22
 z24:=Tryz.sizeOf22
 v24:=Tryz.zeroValue22
 t26:=Tryz.underlying3
 a26:=Tryz.isAgg3
 z26:=Tryz.sizeOf3
 v26:=Tryz.zeroValue3
 t28:=Tryz.underlying183
 a28:=Tryz.isAgg183
 z28:=Tryz.sizeOf183
 v28:=Tryz.zeroValue183
 i26:=by kernel_rfl
}
theorem zlY {l : List Int} {k : Nat} (h : k < l.length) : l.take (k + 1) = l.take k ++ [l[k]]:=List.take_succ_eq_append_getElem h
set_option maxRecDepth 100000 in
set_option maxHeartbeats 2000000 in
theorem znW (F : Fence) (n : Nat) (h7 : F.fn 195) (hro : F.round = none) (hn : 1 ≤ n) (l Bs B0 b off cap : Nat) (a : Option Addr) (zs : List Int) (ha : zs ≠ [] → a = some ⟨b,off,none⟩) (hreach : zs.length ≤ 17592186044416) (J : List Int → World → Prop) (W : World)
  (hJ : ∀ pre W1,J pre W1 → ∀ j (h : j < zs.length),W1.cell? ⟨b,off + j,none⟩ = some (.int .i64 zs[j]))
  (hY : ∀ pre x W1,J pre W1 → pre.length < zs.length → YieldAt F (n - 1) Tryz.prog l #[.int .i64 x] W1 fun e W'=>e = .returned (.bool true) ∧ J (pre ++ [x]) W' ∧ KeepsWalks W1 W')
  (hBs : W.cell? ⟨Bs,B0,none⟩ = some (.slice a zs.length cap)) (h0 : J [] W) :
  CallsIn F n Tryz.prog 195 #[.func (.yield l) #[] #[],.pointer (some ⟨Bs,B0,none⟩)] W fun e W'=>(∃ v,e = .returned v) ∧ J zs W':=by
 refine callsIn_of_wp Tryz.func195 rfl h7 ?_ hro
 simp only [Tryz.ntmps195,List.size_toArray,List.length_cons,List.length_nil,Nat.reduceAdd,Nat.reduceSub,Array.replicate_succ,Array.replicate_zero,List.push_toArray,List.append_toArray,List.nil_append,List.cons_append]
 gi_wp2
 gi_loopw [7] (fun i wr=>∃ k : Nat,k ≤ zs.length ∧ i = .int .i64 k ∧ J (zs.take k) wr) (fun i _=>zs.length - (intOf i).toNat)
 case atStart=>exact ⟨0,Nat.zero_le _,rfl,by simpa using h0⟩
 case round =>
  obtain ⟨k,hk,rfl,hJs⟩:=hrel
  by_cases hlt : k < zs.length
  ·have hcx' : wr.cell? ⟨b,off + k,none⟩ = some (.int .i64 zs[k]):=hJ _ _ hJs k hlt
   obtain rfl:=ha (by rintro rfl; simp at hlt)
   obtain ⟨fn,tmps,assign,body,hy,hR⟩:=hY _ zs[k] wr hJs (by rw [List.length_take]; omega)
   gi_wp2
   refine hR.mono ?_
   rintro e W3 ⟨rfl,hJ3,hk3⟩
   gi_wp2
   go_roundw
   case rel=>exact ⟨k + 1,by omega,by simp,by rw [zlY hlt]; exact hJ3⟩
   case measure=>simp [intOf]; omega
  ·obtain rfl : k = zs.length:=by omega
   gi_wp2
   go_end0
   exact ⟨⟨_,rfl⟩,by simpa using hJs⟩
set_option maxRecDepth 100000 in
set_option maxHeartbeats 2000000 in
theorem zjt (F : Fence) (n : Nat) (h11 : F.fn 213) (hFg : F.fn 195) (hro : F.round = none) (hn : 2 ≤ n) (Bs B0 b off cap : Nat) (a : Option Addr) (zs : List Int) (ha : zs ≠ [] → a = some ⟨b,off,none⟩) (hN : zs.length ≤ 1099511627776) (w : World)
  (hBs : w.cell? ⟨Bs,B0,none⟩ = some (.slice a zs.length cap)) (hBl : Bs < w.heap.size) (hbl : zs ≠ [] → b < w.heap.size) (hc : ∀ j (h : j < zs.length),w.cell? ⟨b,off + j,none⟩ = some (.int .i64 zs[j])) :
  CallsIn F n Tryz.prog 213 #[.slice none 0 0,.func (.func 195) #[] #[.pointer (some ⟨Bs,B0,none⟩)]] w fun e w'=>∃ v : Value,e = .returned v ∧ w'.ownsRow w.heap.size 3 1 v zs.length (zs.map encZ) ∧ Below w.heap.size w w':=by
 have h1 : 1 ≤ n:=by omega
 have hmax : zs.length ≤ maxLen:=by unfold maxLen; omega
 have L:=seqL
 have hne : (22 : Nat) ≠ 3:=by decide
 have eg : ∀ args w,(callFunc 195 args).run Tryz.prog w = .ok (.enter 195 args) w:=fun args w=>(enters_of Tryz.func195 (by kernel_rfl) rfl) args w
 refine callsIn_of_wp_marks Tryz.func213 rfl h11 ?_ hro
 simp only [Tryz.ntmps213,List.size_toArray,List.length_cons,List.length_nil,Nat.reduceAdd,Nat.reduceSub,Array.replicate_succ,Array.replicate_zero,List.push_toArray,List.append_toArray,List.nil_append,List.cons_append]
 gi_wp2
 refine wpIn_rangeFunc ?_
 intro fn hfn
 rw [hro]
 obtain ⟨W0,hW0⟩ : ∃ W0,w.alloc (.cells #[.slice none 0 0] 22) = W0:=⟨_,rfl⟩
 have hs0 : W0.heap.size = w.heap.size + 1:=by rw [← hW0]; simp
 have hv0 : W0.heap[w.heap.size]? = some (.cells #[.slice none 0 0] 22 (0,0)):=by rw [← hW0]; exact World.alloc_heap_new w _
 have hb0 : Below w.heap.size w W0:=by rw [← hW0]; exact (Below.refl _ w).alloc (Nat.le_refl _) _
 rw [hW0]
 obtain ⟨sv,hsv⟩ : ∃ sv : Value,sv = .func (.func 195) #[] #[.pointer (some ⟨Bs,B0,none⟩)]:=⟨_,rfl⟩
 rw [← hsv]
 obtain ⟨W1,hW1⟩ : ∃ W1,(W0.alloc (.deferred (some []))).alloc (.loop (AnyZI.apRec zgj fn sv w.heap.size W0.heap.size .ready none)) = W1:=⟨_,rfl⟩
 have hold : ∀ k,k < W0.heap.size → W1.heap[k]? = W0.heap[k]?:=fun k hk=>by
  rw [← hW1]; exact (Below.heap_alloc _ _ k (by simp; omega)).trans (Below.heap_alloc _ _ k hk)
 have hb1 : Below w.heap.size w W1:=by rw [← hW1]; exact (hb0.alloc hb0.size _).alloc (by have:=hb0.size; simp; omega) _
 have hs1 : W1.heap.size = W0.heap.size + 2:=by rw [← hW1]; simp
 have hM : AnyZI.ApAt zgj w fn sv w.heap.size (W0.heap.size + 1) W0.heap.size [] W1 :=
  ⟨⟨_,(hold w.heap.size (by omega)).trans hv0,⟨rfl,.inl ⟨rfl,rfl⟩⟩,by simp⟩,
   by rw [← hW1]; have:=World.alloc_heap_new (W0.alloc (.deferred (some []))) (.loop (AnyZI.apRec zgj fn sv w.heap.size W0.heap.size .ready none)); rwa [World.size_alloc] at this,
   by rw [← hW1]; exact (Below.heap_alloc _ _ _ (by simp)).trans (World.alloc_heap_new W0 _),hb1⟩
 refine ⟨W0.heap.size + 1,[{ target:=.collected W0.heap.size,args:=#[] }],W1,{ target:=.fn (.func 195) #[.pointer (some ⟨Bs,B0,none⟩)],args:=#[.func (.yield (W0.heap.size + 1)) #[] #[]] },W1,195,
  #[.func (.yield (W0.heap.size + 1)) #[] #[]] ++ #[.pointer (some ⟨Bs,B0,none⟩)],W1,?_,?_,?_,?_,fun _=>h1,?_⟩
 ·rw [← hW1]; exact run_enterLoop_outer _ _ _ _ _
 ·rw [hsv]; simp [resolve,go_sem]
 ·intro f' hf'; simp [Target.leads] at hf'; subst hf'; exact hFg
 ·simp [invoke,go_sem,eg]
 ·refine (znW F (n - 1) hFg hro (by omega) (W0.heap.size + 1) Bs B0 b off cap a zs ha (by omega) (AnyZI.ApAt zgj w fn sv w.heap.size (W0.heap.size + 1) W0.heap.size) W1 (fun pre W' h' j hj=>(h'.below.cell (p:=⟨b,off + j,none⟩) (hbl (by rintro rfl; simp at hj))).trans (hc j hj))
   (fun pre x W hJ hl=>AnyZI.apYield { L with } F (n - 1 - 1) w fn hfn _ w.heap.size (W0.heap.size + 1) W0.heap.size (by omega) (by omega) (by omega) (Nat.le_refl _) (by omega) zs.length hmax (by omega) pre x W hJ hl) ((hb1.cell (p:=⟨Bs,B0,none⟩) hBl).trans hBs) hM).mono ?_
  rintro e W2 ⟨⟨v0,rfl⟩,h2⟩
  obtain ⟨v,hv,hrow,hnil⟩:=h2.box
  have hend:=run_endLoop (P:=Tryz.prog) h2.L (by simp [AnyZI.apRec])
  obtain ⟨W3,hW3⟩ : ∃ W3,W2.putObj (W0.heap.size + 1) (.loop { AnyZI.apRec zgj fn sv w.heap.size W0.heap.size .ready none with state:=.exhausted }) = W3:=⟨_,rfl⟩
  rw [hW3] at hend
  have hg3 : W2.grownBy W3 (some (W0.heap.size + 1)):=by rw [← hW3]; exact grownBy_putObj_a _ _ _
  have hv3 : W3.heap[w.heap.size]? = some (.cells #[v] 22 (0,0)):=by rw [← hW3]; exact (World.putObj_heap_other (by omega)).trans hv
  have hK3 : W3.heap[W0.heap.size]? = some (.deferred (some [])):=by rw [← hW3]; exact (World.putObj_heap_other (by omega)).trans h2.K
  have hrow3:=hrow.kept hg3 (ownsRow_ne_a hrow h2.L (fun cur e=>by first | cases e | exact hne (Obj.cells.inj e).2.1))
  have hb3 : Below w.heap.size w W3:=h2.below.grown hg3 h2.below.size (fun k e=>by cases e; omega)
  obtain ⟨hc3,hf3⟩:=cell_of_box_a hv3
  clear hW3
  refine ⟨none,W3,hend,?_⟩
  gi_wp2
  rw [← hs0]
  refine ⟨by simp,.inl ⟨_,_,rfl,run_takeDeferred hK3,?_⟩⟩
  exact ⟨_,results_tmp rfl _ _ _,v,rfl,hrow3.kept (grownBy_putObj_a _ _ _) (ownsRow_ne_a hrow3 hK3 (fun cur e=>by first | cases e | exact hne (Obj.cells.inj e).2.1)),hb3.grown (grownBy_putObj_a _ _ _) hb3.size (fun k e=>by cases e; omega)⟩
theorem zpx {P : Program} {np : Nat} {α : Type} : ∀ (ops : List zbi) (n i : Nat) (st : St) (tr : List (List Nat × List Nat)) (K : α → St → List (List Nat × List Nat) → Prop),zaP P np n i ops st tr (fun s t=>∃ x,K x s t) → ∃ x,zaP P np n i ops st tr (K x):=by
 intro ops
 induction ops with
 | nil=>intro n i st tr K h; exact h
 | cons o os ih =>
   intro n i st tr K h
   have hgo : ∀ (op : AOp) (xs : List AV) (h : Nat → Option Ent) (F : AV → List Nat → List (Nat × Option Ent) → (St → List (List Nat × List Nat) → Prop) → Prop),
     (∀ v rd up,F v rd up (fun s t=>∃ x,K x s t) → ∃ x,F v rd up (K x)) → aK P np (n + 8 * i) op xs h (fun v rd up=>F v rd up (fun s t=>∃ x,K x s t)) → ∃ x,aK P np (n + 8 * i) op xs h (fun v rd up=>F v rd up (K x)):=by
    intro op xs h F hF hk
    obtain ⟨v,rd,up,h1,h2⟩:=zlF hk
    obtain ⟨x,hx⟩:=hF v rd up h1
    refine ⟨x,zp8 (fun a b c e=>?_) h2⟩
    obtain ⟨rfl,rfl,rfl⟩:=e
    exact hx
   unfold zaP at h ⊢
   cases hg : o.guard with
   | none =>
     simp only [hg] at h ⊢
     exact hgo _ _ _ (fun v rd up K'=>zaP P np n (i + 1) os ((st.put o.dst v).upd up) (tr ++ [(rd,up.map (·.1))]) K') (fun v rd up=>ih _ _ _ _ _) h
   | some gw =>
     obtain ⟨g,want⟩:=gw
     simp only [hg] at h ⊢
     obtain ⟨b,hb,h⟩:=h
     by_cases hbw : b = some want
     ·rw [if_pos hbw] at h
      obtain ⟨x,hx⟩:=hgo _ _ _ (fun v rd up K'=>zaP P np n (i + 1) os ((st.put o.dst v).upd up) (tr ++ [(rd,up.map (·.1))]) K') (fun v rd up=>ih _ _ _ _ _) h
      exact ⟨x,b,hb,by rw [if_pos hbw]; exact hx⟩
     ·rw [if_neg hbw] at h
      obtain ⟨x,hx⟩:=ih _ _ _ _ _ h
      exact ⟨x,b,hb,by rw [if_neg hbw]; exact hx⟩
theorem Le.trans' {np : Nat} {a b c : St} (h1 : Le np a b) (h2 : Le np b c) : Le np a c:=by
 intro T0 M0 w0 T M ac w ok hn
 obtain ⟨T',M',ok',hn'⟩:=h1 T0 M0 w0 T M ac w ok hn
 exact h2 T0 M0 w0 T' M' ac w ok' hn'
theorem ztc {P : Program} {np : Nat} : ∀ {c : zdg} {α : Type} {Q : α → zcM → St → Prop} {st : St},awp P np c (fun e s=>∃ x,Q x e s) st → ∃ x,awp P np c (Q x) st:=by
 intro c
 induction c with
 | skip=>intro α Q st h; exact h
 | reg draw ops after =>
   intro α Q st hw
   obtain ⟨x,hx⟩:=zpx ops st.n 0 st [] (fun x st' tr=>(draw = true → zc3 ops after tr = true) ∧ Q x .normal { st' with n:=st.n + 8 * ops.length })
    (zbo _ _ _ _ _ _ _ (fun s t h=>by obtain ⟨h1,x,h2⟩:=h; exact ⟨x,h1,h2⟩) hw.2)
   exact ⟨x,hw.1,hx⟩
 | seq a b iha ihb =>
   intro α Q st hw
   refine iha (zcT (fun e s hs=>?_) hw)
   cases e with
   | normal =>
     obtain ⟨st2,hle,h2⟩:=hs
     obtain ⟨x,hx⟩:=ihb h2
     exact ⟨x,st2,hle,hx⟩
   | exit id=>exact hs
   | ret=>exact hs
 | cond c a b iha ihb =>
   intro α Q st hw
   obtain ⟨t,ht,hw⟩:=hw
   cases t
   ·obtain ⟨x,hx⟩:=ihb hw
    exact ⟨x,false,ht,hx⟩
   ·obtain ⟨x,hx⟩:=iha hw
    exact ⟨x,true,ht,hx⟩
 | block id a iha =>
   intro α Q st hw
   refine iha (zcT (fun e s hs=>?_) hw)
   cases e with
   | normal=>exact hs
   | exit id' =>
     simp only at hs ⊢
     by_cases hi : id' = id
     ·simp only [if_pos hi] at hs ⊢; exact hs
     ·simp only [if_neg hi] at hs ⊢; exact hs
   | ret=>exact hs
 | loop a iha =>
   intro α Q st hw
   obtain ⟨I,⟨st0,k0,hle,hI⟩,hb⟩:=hw
   have key : ∀ k s,I k s → ∃ x,awp P np (.loop a) (Q x) s:=by
    intro k
    induction k using Nat.strongRecOn with
    | ind k ihk =>
      intro s hs
      have hpre : awp P np a (fun e s'=>∃ y : { y : α × Nat × (Nat → St → Prop) // ∀ k' s',y.2.2 k' s' → awp P np a (fun e st'=>match e with | .normal=>∃ st2 k2,Le np st' st2 ∧ y.2.2 k2 st2 ∧ k2 < k' | e=>Q y.1 e st') s' },
        match e with | .normal=>∃ st2,Le np s' st2 ∧ y.1.2.2 y.1.2.1 st2 | e=>Q y.1.1 e s') s:=by
       refine zcT (fun e s' h=>?_) (hb k s hs)
       cases e with
       | normal =>
         obtain ⟨st2,k2,h1,h2,h3⟩:=h
         obtain ⟨x,J,⟨st3,k3,h4,h5⟩,h6⟩:=ihk k2 h3 st2 h2
         exact ⟨⟨(x,k3,J),h6⟩,st3,Le.trans' h1 h4,h5⟩
       | exit id=>obtain ⟨x,h⟩:=h; exact ⟨⟨(x,0,fun _ _=>False),fun _ _ h=>h.elim⟩,h⟩
       | ret=>obtain ⟨x,h⟩:=h; exact ⟨⟨(x,0,fun _ _=>False),fun _ _ h=>h.elim⟩,h⟩
      obtain ⟨⟨⟨x,q,J⟩,hJ⟩,hy⟩:=iha hpre
      simp only at hJ hy
      refine ⟨x,fun k' s'=>J k' s' ∨ (k' = q + 1 ∧ s' = s),⟨s,q + 1,Le.refl _ _,.inr ⟨rfl,rfl⟩⟩,?_⟩
      rintro k' s' (h | ⟨rfl,rfl⟩)
      ·refine zcT (fun e s2 h2=>?_) (hJ k' s' h)
       cases e with
       | normal=>obtain ⟨st2,k2,h1,h2,h3⟩:=h2; exact ⟨st2,k2,h1,.inl h2,h3⟩
       | exit id=>exact h2
       | ret=>exact h2
      ·refine zcT (fun e s2 h2=>?_) hy
       cases e with
       | normal=>obtain ⟨st2,h1,h2⟩:=h2; exact ⟨st2,q,h1,.inl h2,Nat.lt_succ_self q⟩
       | exit id=>exact h2
       | ret=>exact h2
   obtain ⟨x,hx⟩:=key k0 st0 hI
   obtain ⟨J,⟨s3,k3,h4,h5⟩,h6⟩:=hx
   exact ⟨x,J,⟨s3,k3,Le.trans' hle h4,h5⟩,h6⟩
 | exit id=>intro α Q st h; exact h
 | ret=>intro α Q st h; exact h
 | bad=>intro α Q st h; exact h.elim
def znu {α : Type} (rs : List (Nat × Option (Bool × Nat))) (np : Nat) (F : α → AV) (H : α → List (Option Ent)) (R : α → Prop) (e : zcM) (st : St) : Prop:=(e = .normal ∨ e = .ret) ∧ ∃ x,R x ∧ zam rs np st (F x) (H x)
theorem znu.mk {α : Type} {rs : List (Nat × Option (Bool × Nat))} {np : Nat} {F : α → AV} {H : α → List (Option Ent)} {R : α → Prop} {e : zcM} {st : St} (he : e = .normal ∨ e = .ret) (x : α) (hx : R x) (h : zam rs np st (F x) (H x)) : znu rs np F H R e st:=⟨he,x,hx,h⟩
theorem Src.acallsX {P : Program} {f : FuncId} {af : AFun} (s : Src P f af) {α : Type} (F : α → AV) (H : α → List (Option Ent)) (R : α → Prop) {args : List AV} {hs : List Ent}
  (hnt : args.length ≤ af.nt) (hn16 : hs.length ≤ 16) (hlen : ∀ x,hs.length ≤ (H x).length)
  (h : awp P hs.length af.code (znu af.res hs.length F H R) (zfc af args hs)) : ∃ x,R x ∧ zaj P f args hs (F x) (H x):=by
 obtain ⟨⟨x,hx⟩,hw⟩:=ztc (α:={ x : α // R x }) (Q:=fun x e st=>(e = .normal ∨ e = .ret) ∧ zam af.res hs.length st (F x.1) (H x.1)) (zcT (fun e st h=>by
  obtain ⟨h1,x,h2,h3⟩:=h
  exact ⟨⟨x,h2⟩,h1,h3⟩) h)
 exact ⟨x,hx,s.acalls hnt hn16 (hlen x) hw⟩
def idm (l : List Nat) : List (Nat × Nat):=l.map fun i=>(i,i)
def cutS (live keep sn : List Nat) (n : Nat) (st : St) : St :=
 ⟨st.sz,live.map (fun i=>(i,conv (idm keep) sn st.hp 4 (st.get i))),keep.map (fun i=>(i,(st.hp i).map (zaz (idm keep) sn st.hp 4))),n⟩
def roOk (keep : List Nat) (st : St) : Prop:=∀ i ∈ keep,∀ e,st.hp i = some e → e.ro ≤ e.rows.length
def zl4 (np n : Nat) (ρ : List (Nat × Nat)) (sn : List Nat) : Bool :=
 decide (ρ.map (·.1)).Nodup && decide (ρ.map (·.2)).Nodup && ρ.all (fun p=>decide (p.2 < n) && (decide (np ≤ p.2) || p.1 == p.2)) && sn.all (fun i=>decide (np ≤ i) && !(ρ.map (·.1)).contains i) && decide (np ≤ n)
theorem Le.go {np : Nat} {st st' : St} (ρ : List (Nat × Nat)) (sn : List Nat) (hsz : st'.sz = st.sz) (hside : zl4 np st'.n ρ sn = true)
  (ht : ∀ p ∈ st'.t,Wk (conv ρ sn st.hp 4 (st.get p.1)) p.2) (hh : ∀ p ∈ st'.h,∃ q ∈ ρ,q.2 = p.1 ∧ (st.hp q.1).map (zaz ρ sn st.hp 4) = p.2 ∧ ∀ e,p.2 = some e → e.ro ≤ e.rows.length) : Le np st st':=by
 simp only [zl4,Bool.and_eq_true,List.all_eq_true,decide_eq_true_eq,Bool.or_eq_true,beq_iff_eq,Bool.not_eq_true',List.contains_eq_mem,decide_eq_false_iff_not] at hside
 obtain ⟨⟨⟨⟨h1,h2⟩,h3⟩,h4⟩,h5⟩:=hside
 refine Le.lst ρ sn [] hsz h1 h2 (fun p hp=>⟨(h3 p hp).1,fun hlt=>?_⟩) (by simp) (fun i hi=>h4 i hi) h5 (by simp) (fun p hp=>.inl (ht p hp)) fun p hp e' he'=>?_
 ·rcases (h3 p hp).2 with h | h
  ·omega
  ·exact h
 ·obtain ⟨q,hq,hq2,hm,hr⟩:=hh p hp
  rw [he'] at hm
  cases hs : st.hp q.1 with
  | none=>rw [hs] at hm; cases hm
  | some e =>
    rw [hs] at hm
    have hm' : zaz ρ sn st.hp 4 e = e':=by simpa using hm
    exact .inl ⟨q,hq,hq2,e,hs,by rw [hm']; exact zaD.rfl' (hr e' he')⟩
theorem LeH {np : Nat} {st st' : St} (ρ : List (Nat × Nat)) (sn : List Nat) (hsz : st'.sz = st.sz:=by rfl) (hside : zl4 np st'.n ρ sn = true:=by rfl) (ht : ∀ p ∈ st'.t,Wk (conv ρ sn st.hp 4 (st.get p.1)) p.2:=by simp) (hh : ∀ p ∈ st'.h,∃ q ∈ ρ,q.2 = p.1 ∧ (st.hp q.1).map (zaz ρ sn st.hp 4) = p.2 ∧ ∀ e,p.2 = some e → e.ro ≤ e.rows.length:=by simp) : Le np st st':=Le.go ρ sn hsz hside ht hh
theorem LeI {np : Nat} {st st' : St} (ρ : List (Nat × Nat)) (sn : List Nat) (hsz : st'.sz = st.sz:=by rfl) (hside : zl4 np st'.n ρ sn = true:=by rfl) (ht : ∀ p ∈ st'.t,Wk (conv ρ sn st.hp 4 (st.get p.1)) p.2:=by simp) (hh : ∀ p ∈ st'.h,∃ q ∈ ρ,q.2 = p.1 ∧ (st.hp q.1).map (zaz ρ sn st.hp 4) = p.2 ∧ ∀ e,p.2 = some e → e.ro ≤ e.rows.length:=by simp [fcd]) : Le np st st':=Le.go ρ sn hsz hside ht hh
theorem Le.cut {np : Nat} {st : St} (live keep sn : List Nat) (n : Nat) (hside : zl4 np n (idm keep) sn = true) (hr : roOk keep st) : Le np st (cutS live keep sn n st):=by
 refine Le.go (idm keep) sn rfl hside (fun p hp=>?_) fun p hp=>?_
 ·obtain ⟨i,_,rfl⟩:=List.mem_map.1 hp
  exact .refl _
 ·obtain ⟨i,hi,rfl⟩:=List.mem_map.1 hp
  refine ⟨(i,i),List.mem_map.2 ⟨i,hi,rfl⟩,rfl,rfl,fun e he=>?_⟩
  simp only at he
  cases hs : st.hp i with
  | none=>rw [hs] at he; cases he
  | some e0 =>
    rw [hs] at he
    have he' : zaz (idm keep) sn st.hp 4 e0 = e:=by simpa using he
    subst he'
    have:=hr i hi e0 hs
    simpa [zaz] using this
theorem rx {P : Program} {np : Nat} {ops : List zbi} {Q : zcM → St → Prop} {sz n : Nat} {t : List (Nat × AV)} {h : List (Nat × Option Ent)} {af : List (List Nat)} {b : zdg} {s : St} (live keep sn : List Nat)
  (hd : ((ops.all fun o=>o.dst.all (· < sz)) && zl4 np (n + 8 * ops.length) (idm keep) sn) = true) (ho : zaP P np n 0 ops ⟨sz,t,h,n⟩ [] fun st' _=>roOk keep st' ∧ cutS live keep sn (n + 8 * ops.length) st' = s) (hq : awp P np b Q s) : awp P np (.seq (.reg false ops af) b) Q ⟨sz,t,h,n⟩:=by
 rw [Bool.and_eq_true] at hd
 refine zab s hd.1 (zbo _ _ _ _ _ _ _ (fun st' _ hc=>?_) ho) hq
 obtain ⟨h1,rfl⟩:=hc
 exact Le.cut (st:=⟨st'.sz,st'.t,st'.h,n + 8 * ops.length⟩) live keep sn _ hd.2 h1
theorem rxd {P : Program} {np : Nat} {ops : List zbi} {Q : zcM → St → Prop} {sz n : Nat} {t : List (Nat × AV)} {h : List (Nat × Option Ent)} {af : List (List Nat)} {b : zdg} {s : St} (live keep sn : List Nat)
  (hd : ((ops.all fun o=>o.dst.all (· < sz)) && zl4 np (n + 8 * ops.length) (idm keep) sn) = true) (ho : zaP P np n 0 ops ⟨sz,t,h,n⟩ [] fun st' tr=>Ord ops af tr ∧ roOk keep st' ∧ cutS live keep sn (n + 8 * ops.length) st' = s) (hq : awp P np b Q s) : awp P np (.seq (.reg true ops af) b) Q ⟨sz,t,h,n⟩:=by
 rw [Bool.and_eq_true] at hd
 refine zaO s hd.1 (zbo _ _ _ _ _ _ _ (fun st' _ hc=>?_) ho) hq
 obtain ⟨h0,h1,rfl⟩:=hc
 exact ⟨h0,Le.cut (st:=⟨st'.sz,st'.t,st'.h,n + 8 * ops.length⟩) live keep sn _ hd.2 h1⟩
def cutK (live keep : List Nat) (n : Nat) (st : St) : St:=⟨st.sz,live.map (fun i=>(i,st.get i)),keep.map (fun i=>(i,st.hp i)),n⟩
theorem Le.cutk {np : Nat} {st : St} (live keep : List Nat) (n : Nat) (hn : st.n ≤ n) : Le np st (cutK live keep n st) :=
 Le.keep rfl hn (fun p hp=>by obtain ⟨i,_,rfl⟩:=List.mem_map.1 hp; rfl) fun p hp e he=>by
  obtain ⟨i,_,rfl⟩:=List.mem_map.1 hp
  exact he
theorem rk {P : Program} {np : Nat} {ops : List zbi} {Q : zcM → St → Prop} {sz n : Nat} {t : List (Nat × AV)} {h : List (Nat × Option Ent)} {af : List (List Nat)} {b : zdg} {s : St} (live keep : List Nat)
  (hd : (ops.all fun o=>o.dst.all (· < sz)) = true) (ho : zaP P np n 0 ops ⟨sz,t,h,n⟩ [] fun st' _=>cutK live keep (n + 8 * ops.length) st' = s) (hq : awp P np b Q s) : awp P np (.seq (.reg false ops af) b) Q ⟨sz,t,h,n⟩:=by
 refine zab s hd (zbo _ _ _ _ _ _ _ (fun st' _ hc=>?_) ho) hq
 subst hc
 exact Le.cutk (st:=⟨st'.sz,st'.t,st'.h,n + 8 * ops.length⟩) live keep _ (Nat.le_refl _)
@[simp] theorem zun : idm [] = []:=(rfl)
@[simp] theorem zt0 {i : Nat} {l : List Nat} : idm (i :: l) = (i,i) :: idm l:=(rfl)
@[simp] theorem zt1 {st : St} : roOk [] st = True:=by simp [roOk]
@[simp] theorem ztb {i : Nat} {l : List Nat} {st : St} : roOk (i :: l) st = ((∀ e,st.hp i = some e → e.ro ≤ e.rows.length) ∧ roOk l st):=by simp [roOk]
@[simp] theorem zt5 {live keep sn : List Nat} {n sz m : Nat} {t : List (Nat × AV)} {h : List (Nat × Option Ent)} : cutS live keep sn n ⟨sz,t,h,m⟩ = ⟨sz,live.map (fun i=>(i,conv (idm keep) sn (St.mk sz t h m).hp 4 ((St.mk sz t h m).get i))),keep.map (fun i=>(i,((St.mk sz t h m).hp i).map (zaz (idm keep) sn (St.mk sz t h m).hp 4))),n⟩:=(rfl)
@[simp] theorem zt3 {live keep : List Nat} {n sz m : Nat} {t : List (Nat × AV)} {h : List (Nat × Option Ent)} : cutK live keep n ⟨sz,t,h,m⟩ = ⟨sz,live.map (fun i=>(i,(St.mk sz t h m).get i)),keep.map (fun i=>(i,(St.mk sz t h m).hp i)),n⟩:=(rfl)
abbrev pC (p : Pol) : List AV:=[ints p.seeds,ints p.table,.I p.lv]
abbrev eP (p : Pol) : AV:=.agg (pC p)
def zls (p : Pol) (i : Nat) : Prop:=∀ h : i < p.table.length,1 ≤ p.table[i] ∧ p.table[i] ≤ 1000 ∧ (0 < i → p.table[i] ≤ p.table[i - 1])
def zgG (n : Int) (p : Pol) : Prop:=p.seeds ≠ [] ∧ Rise p.seeds 0 (n - 1) ∧ (1 ≤ p.table.length ∧ p.table.length ≤ 8) ∧ (1 ≤ p.lv ∧ p.lv ≤ 3)
theorem zdL {n : Int} {p : Pol} : zbx n p ↔ zgG n p ∧ ∀ i,zls p i:=by
 unfold zbx zgG zls
 constructor
 ·rintro ⟨a,b,c,d,e,f,g⟩; exact ⟨⟨a,b,⟨c,d⟩,e,f⟩,g⟩
 ·rintro ⟨⟨a,b,⟨c,d⟩,e,f⟩,g⟩; exact ⟨a,b,c,d,e,f,g⟩
open Classical in
theorem zdN (g : Gr) (p : Pol) (hl : g.edges.length ≤ 140737488355328) (hl2 : g.gone.length ≤ 140737488355328) (hs : p.seeds.length ≤ 140737488355328) (ht : p.table.length ≤ 140737488355328) :
  zaj Tryz.prog zci [eG g,eP p] [] (.I (if GrOk g then if zbx g.size p then 0 else 15 else 14)) []:=by
 refine zhp.acalls (nbz rfl) (nbz rfl) (Nat.le_refl _) ?_
 show awp _ 0 _ _ ⟨65,[(0,eG g),(1,eP p)],[],16⟩
 refine rx (s:=?s1) [2,3] [] [16,24] rfl ?o1 ?q1
 case o1=>simp; rfl
 refine zaa ?_
 refine rx (s:=?s2) [2,3,5] [] [] rfl ?o2 ?q2
 case o2=>simp; refine zal (zif g hl hl2) (by simp) ?_; simp; rfl
 refine rx (s:=?s3) [2,3,5,11] [] [] rfl ?o3 ?q3
 case o3=>simp; rfl
 refine zad _ rfl (fun h4=>?_) fun h4=>?_
 ·simp at h4
  refine rx (s:=?s5) [4] [] [] rfl ?o5 ?q5
  case o5=>simp; rfl
  refine zag ?_
  exact ⟨.inr rfl,zam.one (by simp [h4])⟩
 simp at h4
 have hg0:=h4.1.1
 have hg1:=h4.1.2.1
 refine zae ?_
 refine zaa ?_
 refine zab ⟨65,[(3,.pv (pC p)),(38,.B (decide (¬ zgG g.size p)))],[],288⟩ rfl ?_ ?_
 ·simp
  repeat' first
   | (refine zdw zbr rfl ?_; have hw : IntKind.i64.wrap (g.size - 1) = g.size - 1:=w64 (by omega) (by omega); rw [hw]; refine zal (zeT _ _ _ hs) rfl ?_; simp)
   | (refine zdw zaU rfl ?_; refine zal (zbK ..) rfl ?_; simp)
   | (refine zd3 (fun hb=>?_) (fun hb=>?_) <;> (try rw [hb]) <;> (try simp at hb) <;> simp [hb])
  all_goals exact Le.snap [] rfl rfl (by simp; first | exact wkB (by (try simp at *); grind [zgG]) | exact ⟨by rw [show pC p = [.vs 1 false [],ints p.table,.I p.lv] by simp [pC,ints,hb]]; exact .refl _,wkB (by (try simp at *); grind [zgG])⟩)
 refine zad _ rfl (fun h7=>?_) fun h7=>?_
 ·simp at h7
  refine rx (s:=?s8) [4] [] [] rfl ?o8 ?q8
  case o8=>simp; rfl
  refine zag ?_
  exact ⟨.inr rfl,zam.one (by simp [h4,zdL,h7])⟩
 simp at h7
 refine zae ?_
 refine zaa ?_
 refine rx (s:=?s9) [3,40,41,42] [] [] rfl ?o9 ?q9
 case o9=>simp; rfl
 refine zaf ?_
 refine zan (ι:=Nat) (fun i=>⟨65,[(3,.pv (pC p)),(40,ints p.table),(41,.I p.table.length),(42,.I i)],[],320⟩) (fun i=>i ≤ p.table.length ∧ ∀ k,k < i → zls p k) (fun i=>p.table.length - i) 0 (by simp) (LeH [] []) ?_
 rintro i ⟨hi,hp⟩
 refine rx (s:=?s10) [3,40,41,42,43] [] [] rfl ?o10 ?q10
 case o10=>simp; rfl
 refine zaa ?_
 refine zad _ rfl (fun h11=>?_) fun h11=>?_
 ·simp at h11
  have hw2 : IntKind.i64.wrap ((i : Int) + 1) = (i : Int) + 1:=w64 (by omega) (by omega)
  have hwp : 0 < i → IntKind.i64.wrap ((i : Int) - 1) = ((i - 1 : Nat) : Int):=fun h=>by rw [w64 (by omega) (by omega)]; omega
  have h11' : i - 1 < p.table.length:=by omega
  refine zae ?_
  refine zaa ?_
  refine zaf ?_
  refine rx (s:=?s12) [3,6,7,40,41,42] [] [] rfl ?o12 ?q12
  case o12=>simp [h11]; rfl
  refine zab ⟨65,[(3,.pv (pC p)),(40,ints p.table),(41,.I p.table.length),(42,.I i),(63,.B (decide (¬ zls p i)))],[],504⟩ rfl ?_ ?_
  ·simp
   repeat' first
    | (refine zdw zaU rfl ?_; refine zal (zbK ..) rfl ?_; simp)
    | (refine zd3 (fun hb=>?_) (fun hb=>?_) <;> (try rw [hb]) <;> (try simp at hb) <;> simp [hb,h11,h11',hwp])
   all_goals exact Le.snap [] rfl rfl (by simp; exact wkB (by (try simp at *); grind [zls]))
  refine zad _ rfl (fun h14=>?_) fun h14=>?_
  ·refine rx (s:=?s15) [4] [] [] rfl ?o15 ?q15
   case o15=>simp; rfl
   refine zag ?_
   have hn : ¬ zbx g.size p:=fun h=>by simp at h14; exact h14 ((zdL.1 h).2 i)
   exact ⟨.inr rfl,zam.one (by simp [h4,hn])⟩
  simp at h14
  refine zae ?_
  refine zac (s:=?s16) rfl ?o16 ?q16
  case o16=>simp; rfl
  refine ⟨i + 1,⟨h11,fun k hk=>?_⟩,?_,Le.go [] [] rfl rfl (by simp [hw2]) (by simp)⟩
  ·rcases Nat.lt_succ_iff_lt_or_eq.1 hk with h | rfl
   ·exact hp k h
   ·exact h14
  ·omega
 simp at h11
 have hy : zbx g.size p:=zdL.2 ⟨h7,fun k hk=>hp k (by omega) hk⟩
 refine zak ?_
 refine hit ?_
 refine rx (s:=?s17) [4] [] [] rfl ?o17 ?q17
 case o17=>simp; rfl
 refine zag ?_
 exact ⟨.inr rfl,zam.one (by simp [h4,hy])⟩
open Classical in
theorem zhr (g : Gr) (p : Pol) (hs : p.seeds.length ≤ 140737488355328) (ht : p.table.length ≤ 140737488355328) :
  zaj Tryz.prog zdV [eG g,eP p] [] (.B (decide (zbx g.size p))) []:=by
 refine zj3.acalls (nbz rfl) (nbz rfl) (Nat.le_refl _) ?_
 show awp _ 0 _ _ ⟨79,[(0,eG g),(1,eP p)],[],16⟩
 refine rx (s:=?s1) [2,3] [] [16,24] rfl ?o1 ?q1
 case o1=>simp; rfl
 refine zaa ?_
 refine zab ⟨79,[(3,.pv (pC p)),(39,.B (decide (¬ zgG g.size p)))],[],312⟩ rfl ?_ ?_
 ·simp
  repeat' first
   | (refine zdw zcX rfl ?_; refine zal (zgJ _ _ hs) rfl ?_; simp)
   | (refine zd3 (fun hb=>?_) (fun hb=>?_) <;> (try rw [hb]) <;> (try simp at hb) <;> simp [hb])
  all_goals exact Le.snap [] rfl rfl (by simp; first | exact wkB (by (try simp at *); grind [zgG]) | exact ⟨by rw [show pC p = [.vs 1 false [],ints p.table,.I p.lv] by simp [pC,ints,hb]]; exact .refl _,wkB (by (try simp at *); grind [zgG])⟩)
 refine zad _ rfl (fun h3=>?_) fun h3=>?_
 ·simp at h3
  refine rx (s:=?s4) [4] [] [] rfl ?o4 ?q4
  case o4=>simp; rfl
  refine zag ?_
  exact ⟨.inr rfl,zam.one (by simp [zdL,h3])⟩
 simp at h3
 refine zae ?_
 refine zaa ?_
 refine rx (s:=?s5) [3,5] [] [] rfl ?o5 ?q5
 case o5=>simp; rfl
 refine zaf ?_
 refine zan (ι:=Nat) (fun i=>⟨79,[(3,.pv (pC p)),(5,.I i)],[],320⟩) (fun i=>i ≤ p.table.length ∧ ∀ k,k < i → zls p k) (fun i=>p.table.length - i) 0 (by simp) (LeH [] []) ?_
 rintro i ⟨hi,hp⟩
 refine zaa ?_
 refine rx (s:=?s6) [3,5,44] [] [] rfl ?o6 ?q6
 case o6=>simp; rfl
 refine zad _ rfl (fun h7=>?_) fun h7=>?_
 ·simp at h7
  have hw2 : IntKind.i64.wrap ((i : Int) + 1) = (i : Int) + 1:=w64 (by omega) (by omega)
  have hwp : 0 < i → IntKind.i64.wrap ((i : Int) - 1) = ((i - 1 : Nat) : Int):=fun h=>by rw [w64 (by omega) (by omega)]; omega
  have h7' : i - 1 < p.table.length:=by omega
  refine zae ?_
  refine zaa ?_
  refine zaf ?_
  refine zaO ⟨79,[(3,.pv (pC p)),(5,.I i),(78,.B (decide (¬ zls p i)))],[],616⟩ rfl ?_ ?_
  ·simp [h7]
   repeat' first
    | (refine zd3 (fun hb=>?_) (fun hb=>?_) <;> (try rw [hb]) <;> (try simp at hb) <;> simp [hb,h7,h7',hwp])
   all_goals exact ⟨rfl,Le.snap [] rfl rfl (by simp; exact wkB (by (try simp at *); grind [zls]))⟩
  refine zad _ rfl (fun h9=>?_) fun h9=>?_
  ·refine rx (s:=?s10) [4] [] [] rfl ?o10 ?q10
   case o10=>simp; rfl
   refine zag ?_
   have hn : ¬ zbx g.size p:=fun h=>by simp at h9; exact h9 ((zdL.1 h).2 i)
   exact ⟨.inr rfl,zam.one (by simp [hn])⟩
  simp at h9
  refine zae ?_
  refine zac (s:=?s16) rfl ?o16 ?q16
  case o16=>simp; rfl
  refine ⟨i + 1,⟨h7,fun k hk=>?_⟩,?_,Le.go [] [] rfl rfl (by simp [hw2]) (by simp)⟩
  ·rcases Nat.lt_succ_iff_lt_or_eq.1 hk with h | rfl
   ·exact hp k h
   ·exact h9
  ·omega
 simp at h7
 have hy : zbx g.size p:=zdL.2 ⟨h3,fun k hk=>hp k (by omega) hk⟩
 refine zak ?_
 refine hit ?_
 refine rx (s:=?s11) [4] [] [] rfl ?o11 ?q11
 case o11=>simp; rfl
 refine zag ?_
 exact ⟨.inr rfl,zam.one (by simp [hy])⟩
open Classical in
theorem ze7 (g : Gr) (p : Pol) (hl : g.edges.length ≤ 140737488355328) (hl2 : g.gone.length ≤ 140737488355328) (hs : p.seeds.length ≤ 140737488355328) (ht : p.table.length ≤ 140737488355328) :
  zaj Tryz.prog zb6 [eG g,eP p] [] (.I (if GrOk g then if zbx g.size p then 0 else 15 else 14)) []:=by
 refine zlc.acalls (nbz rfl) (nbz rfl) (Nat.le_refl _) ?_
 show awp _ 0 _ _ ⟨12,[(0,eG g),(1,eP p)],[],16⟩
 refine rx (s:=?s1) [2,3] [] [16,24] rfl ?o1 ?q1
 case o1=>simp; rfl
 refine zaa ?_
 refine rx (s:=?s2) [2,3,7] [] [] rfl ?o2 ?q2
 case o2=>simp; refine zal (ze9 g hl hl2) (by simp) ?_; simp; rfl
 refine zad _ rfl (fun h3=>?_) fun h3=>?_
 ·simp at h3
  refine rx (s:=?s4) [4] [] [] rfl ?o4 ?q4
  case o4=>simp; rfl
  refine zag ?_
  exact ⟨.inr rfl,zam.one (by simp [h3])⟩
 simp at h3
 refine zae ?_
 refine zaa ?_
 refine rx (s:=?s5) [11] [] [] rfl ?o5 ?q5
 case o5=>simp; refine zal (zhr g p hs ht) (by simp) ?_; simp; rfl
 refine zad _ rfl (fun h6=>?_) fun h6=>?_
 ·simp at h6
  refine rx (s:=?s7) [4] [] [] rfl ?o7 ?q7
  case o7=>simp; rfl
  refine zag ?_
  exact ⟨.inr rfl,zam.one (by simp [h3,h6])⟩
 simp at h6
 refine zae ?_
 refine rx (s:=?s8) [4] [] [] rfl ?o8 ?q8
 case o8=>simp; rfl
 refine zag ?_
 exact ⟨.inr rfl,zam.one (by simp [h3,h6])⟩
theorem Le.dn {st st' : St} {D D' : List (List AV)} (N : Nat) (i j i' j' : Nat) (sn : List Nat) (hsz : st'.sz = st.sz) (hh : st'.h = [(i',some ⟨1,[[.rs j' 0 N]],0⟩),(j',some ⟨1,D',0⟩)]) (hi : i' < st'.n) (hj : j' < st'.n) (hij : i ≠ j) (hij' : i' ≠ j') (hs : ∀ k ∈ sn,k ≠ i ∧ k ≠ j)
  (h1 : st.hp i = some ⟨1,[[.rs j 0 N]],0⟩) (h2 : st.hp j = some ⟨1,D,0⟩) (hD : D.map (·.map (conv [(i,i'),(j,j')] sn st.hp 4)) = D') (ht : ∀ p ∈ st'.t,Wk (conv [(i,i'),(j,j')] sn st.hp 4 (st.get p.1)) p.2) : Le 0 st st' :=
 Le.ents [(i,i'),(j,j')] sn hsz (by simpa using hij) (by simpa using hij') (by simp [hi,hj]) (by simpa using hs) (Nat.zero_le _) ht fun p hp=>by
  rw [hh] at hp
  simp at hp
  rcases hp with rfl | rfl
  ·exact ⟨i,_,_,rfl,by simp,h1,zaD.eq (by simp [hij]) (by simp)⟩
  ·exact ⟨j,_,_,rfl,by simp,h2,zaD.eq (by simp only [zaz,hD]) (by simp)⟩
theorem zmF {l : List Int} {lo hi : Int} (h : Rise l lo hi) : ∀ (i : Nat) (hi : i < l.length),lo + i ≤ l[i]
 | 0,hi=>by have:=(h 0 hi).1; simp; omega
 | i + 1,hi=>by
   have h1:=zmF h i (by omega)
   have h2:=(h (i + 1) hi).2.2 (by omega)
   simp only [Nat.add_sub_cancel] at h2
   omega
theorem GrOk.gone_le {g : Gr} (h : GrOk g) : g.gone.length ≤ 64:=by
 have hr:=h.1.2.2.2
 have h1:=h.1.1
 have h2:=h.1.2.1
 rcases Nat.eq_zero_or_pos g.gone.length with h0 | h0
 ·omega
 ·have h3:=zmF hr (g.gone.length - 1) (by omega)
  have h4:=(hr (g.gone.length - 1) (by omega)).2.1
  omega
theorem zm1 {l : List Ed} {x t : Int} : t ∈ outs l x ↔ ∃ e ∈ l,e.f = x ∧ e.t = t:=by
 unfold outs
 simp only [List.mem_filterMap]
 constructor
 ·rintro ⟨e,he,h⟩
  split at h
  ·exact ⟨e,he,by assumption,by simpa using h⟩
  ·cases h
 ·rintro ⟨e,he,h1,h2⟩
  exact ⟨e,he,by rw [if_pos h1,h2]⟩
theorem znz {g : Gr} {S : List Int} {d : Nat} {F X : List Int} (hg : GrOk g) (hF : ∀ x,x ∈ F ↔ Key g x ∧ dl g S d x = d) (hX : ∀ t,t ∈ X ↔ ∃ x ∈ F,t ∈ outs g.edges x) (x : Int) :
  x ∈ X.filter (fun e=>!offQ (outL g S (d + 1)) e) ↔ Key g x ∧ dl g S (d + 1) x = (d + 1 : Nat):=by
 rw [List.mem_filter,hX]
 have hlen:=zmw g S (d + 1)
 have hsz:=hg.1.1
 constructor
 ·rintro ⟨⟨y,hy,hxy⟩,ho⟩
  obtain ⟨e,he,rfl,rfl⟩:=zm1.1 hxy
  have hyF:=(hF e.f).1 hy
  simp only [offQ,Bool.not_or,Bool.not_not,Bool.and_eq_true,decide_eq_true_eq,hlen] at ho
  have hk : Key g e.t:=⟨ho.1.1,by omega⟩
  have h1:=zox (S:=S) (n:=d) he (by omega)
  refine ⟨hk,?_⟩
  have ho2:=ho.2
  obtain ⟨k,hk2⟩ : ∃ k : Nat,e.t = k:=⟨e.t.toNat,by have:=hk.1; omega⟩
  rw [hk2] at ho2 h1 ⊢
  have hkN : k < g.size.toNat:=by have:=hk.2; omega
  have hget : (outL g S (d + 1)).getD k 0 = if 0 ≤ dl g S (d + 1) k ∧ dl g S (d + 1) k < (d + 1 : Nat) then dl g S (d + 1) k else -1:=by
   simp [outL,List.getD,hkN]
  simp only [Int.toNat_natCast,hget] at ho2
  simp at ho2
  split at ho2 <;> omega
 ·rintro ⟨hk,hd⟩
  have h2 : ¬ 0 ≤ dl g S d x:=by
   intro h2
   rw [zeb h2] at hd
   have:=zbf (g:=g) (S:=S) d x
   omega
  obtain ⟨_,e,he,h4,h5⟩:=ziH (g:=g) (S:=S) (n:=d) (k:=x) (by omega) h2
  have hf:=hg.fits e he
  refine ⟨⟨e.f,(hF _).2 ⟨⟨hf.1,by have:=hf.2.1; omega⟩,h5⟩,zm1.2 ⟨e,he,rfl,h4⟩⟩,?_⟩
  obtain ⟨k,rfl⟩ : ∃ k : Nat,x = k:=⟨x.toNat,by have:=hk.1; omega⟩
  have hkN : k < g.size.toNat:=by have:=hk.2; omega
  have hget : (outL g S (d + 1)).getD k 0 = if 0 ≤ dl g S (d + 1) k ∧ dl g S (d + 1) k < (d + 1 : Nat) then dl g S (d + 1) k else -1:=by
   simp [outL,List.getD,hkN]
  simp only [offQ,Int.toNat_natCast,hget,hlen]
  rw [if_neg (by omega)]
  simp
  omega
theorem zi9 {F : List Int} {i : Nat} (h : i < F.length) (x : Int) : x ∈ F.take (i + 1) ↔ x ∈ F.take i ++ [F[i]]:=by
 rw [← List.take_concat_get h,List.concat_eq_append]
set_option maxHeartbeats 4000000 in
set_option maxRecDepth 100000 in
theorem zhA (g : Gr) (S : List Int) (hg : GrOk g) (hS : S.length ≤ 1099511627776) : zaj Tryz.prog zd0 [eG g,ints S] [] (.rs 0 0 g.size.toNat) [some ⟨1,zah (zdc g S),0⟩]:=by
 refine zjE.acalls (nbz rfl) (nbz rfl) (Nat.zero_le _) ?_
 show awp _ 0 _ _ ⟨50,[(0,eG g),(1,ints S)],[],16⟩
 have hsz:=hg.1.1
 have hsz2:=hg.1.2.1
 have h500:=hg.1.2.2.1
 have hgone : g.gone.length ≤ 1000000:=Nat.le_trans hg.gone_le (by omega)
 obtain ⟨N,hN⟩ : ∃ N : Nat,N = g.size.toNat:=⟨_,rfl⟩
 have hNs : (if 0 < g.size then g.size else 0) = (N : Int):=by split <;> omega
 refine zab ⟨50,[(2,.pv (gC g)),(3,.pv [ints S])],[],40⟩ rfl ?_ ?_
 ·simp
  exact Le.snap [16,24] rfl rfl (by simp)
 refine zab ⟨50,[(2,.pv (gC g)),(3,.pv [ints S]),(5,.pt 80 0 0)],[(80,some ⟨1,[[.rs 72 0 N]],0⟩),(72,some ⟨1,List.replicate N [.I (-1)],0⟩)],96⟩ rfl ?_ ?_
 ·simp [hNs]
  refine zpf (j:=40) (Nat.zero_le _) rfl (zos (-1) N (by omega)) ?_ ?_
  ·simp
  simp
  exact Le.keep rfl (Nat.le_refl _) (by simp) (by simp)
 have h0 : List.replicate N [AV.I (-1)] = zah (outL g S 0):=by
  unfold outL zah
  rw [List.map_map]
  apply List.ext_getElem
  ·simp [hN]
  ·intro i h1 h2
   simp
   omega
 rw [h0]
 obtain ⟨F0,hF0⟩ : ∃ F,F = za6 N (zct g S):=⟨_,rfl⟩
 have hF0m : ∀ x,x ∈ F0 ↔ Key g x ∧ dl g S 0 x = ((0 : Nat) : Int):=by
  intro x
  rw [hF0]
  unfold za6
  simp only [List.mem_filter,List.mem_map,List.mem_range]
  constructor
  ·rintro ⟨⟨i,hi,rfl⟩,hs⟩
   exact ⟨⟨by omega,by omega⟩,by rw [dl,if_pos hs]; rfl⟩
  ·rintro ⟨⟨k1,k2⟩,hs⟩
   refine ⟨⟨x.toNat,by omega,by omega⟩,?_⟩
   rw [dl] at hs
   split at hs
   ·assumption
   ·simp at hs
 have hF0l : F0.length ≤ 500:=by have:=zhs N (zct g S); rw [hF0]; omega
 refine zab ⟨50,[(2,.pv (gC g)),(5,.pt 80 0 0),(6,ints F0)],[(80,some ⟨1,[[.rs 72 0 N]],0⟩),(72,some ⟨1,zah (outL g S 0),0⟩)],136⟩ rfl ?_ ?_
 ·simp
  refine zdK (znn zb2 [.pv (gC g),.pv [ints S]] (zct g S) g.size (by omega) (fun ρ sn h n=>by simp) (fun k _=>zpw g S k hS (by omega))) (by simp) ?_
  rw [← hN,← hF0]
  simp [fcd]
  exact Le.dn N 80 72 80 72 [120] rfl rfl (by simp) (by simp) (by decide) (by decide) (by simp) rfl rfl (by simp [fcd]) (by simp [fcd,zaI])
 refine zaa ?_
 refine zab ⟨50,[(2,.pv (gC g)),(5,.pt 80 0 0),(6,ints F0),(7,.I 0)],[(80,some ⟨1,[[.rs 72 0 N]],0⟩),(72,some ⟨1,zah (outL g S 0),0⟩)],144⟩ rfl ?_ ?_
 ·simp
  exact Le.keep rfl (Nat.le_refl _) (by simp) (by simp)
 refine zaf ?_
 refine zan (ι:=Nat × List Int) (fun p=>⟨50,[(2,.pv (gC g)),(5,.pt 80 0 0),(6,ints p.2),(7,.I p.1)],[(80,some ⟨1,[[.rs 72 0 N]],0⟩),(72,some ⟨1,zah (outL g S p.1),0⟩)],144⟩) (fun p=>p.1 ≤ 64 ∧ p.2.length ≤ 500 ∧ ∀ x,x ∈ p.2 ↔ Key g x ∧ dl g S p.1 x = p.1) (fun p=>64 - p.1) (0,F0) ⟨by simp,hF0l,hF0m⟩ (Le.refl _ _) ?_
 rintro ⟨d,F⟩ ⟨hd,hFl,hFm⟩
 simp only at hd hFl hFm ⊢
 refine zaa ?_
 refine zab ⟨50,[(2,.pv (gC g)),(5,.pt 80 0 0),(6,ints F),(7,.I d),(22,.B (decide (0 < F.length)))],[(80,some ⟨1,[[.rs 72 0 N]],0⟩),(72,some ⟨1,zah (outL g S d),0⟩)],168⟩ rfl ?_ ?_
 ·simp
  exact Le.keep rfl (Nat.le_refl _) (by simp <;> rw [Bool.eq_iff_iff] <;> simp) (by simp)
 refine zad _ rfl (fun h=>zae ?_) fun h=>zak (hit ?_)
 ·simp only [decide_eq_true_eq] at h
  have hdlt : (d : Int) < g.size:=by
   have:=hFm F[0]
   have h1:=(this.1 (List.getElem_mem _))
   exact zmQ hg h1.1 h1.2
  refine zat (ι:=List Int) (fun F'=>⟨50,[(2,.pv (gC g)),(5,.pt 80 0 0),(6,ints F'),(7,.I d)],[(80,some ⟨1,[[.rs 72 0 N]],0⟩),(72,some ⟨1,zah (outL g S (d + 1)),0⟩)],144⟩) (fun F'=>F'.length ≤ 500 ∧ ∀ x,x ∈ F' ↔ Key g x ∧ dl g S (d + 1) x = (d + 1 : Nat)) ?_ ?_
  ·refine zaf ?_
   refine zab ⟨50,[(2,.pv (gC g)),(5,.pt 80 0 0),(6,ints F),(7,.I d),(8,.nilS)],[(80,some ⟨1,[[.rs 72 0 N]],0⟩),(72,some ⟨1,zah (outL g S d),0⟩)],176⟩ rfl ?_ ?_
   ·simp
    exact Le.keep rfl (Nat.le_refl _) (by simp) (by simp)
   rw [← zjZ]
   refine zaa ?_
   refine zaa ?_
   refine zac (s:=?s2) rfl ?o2 ?q2
   case o2=>simp; rfl
   refine zaf ?_
   let C : Nat × List Int → St:=fun p=>⟨50,[(2,.pv (gC g)),(5,.pt 80 0 0),(7,.I d),(8,.rs 16 0 p.2.length),(25,ints F),(26,.I F.length),(27,.I p.1)],[(80,some ⟨1,[[.rs 72 0 N]],0⟩),(72,some ⟨1,zah (outP g S d (F.take p.1)),0⟩),(16,some ⟨1,zah p.2,0⟩)],200⟩
   refine zan C (fun p : Nat × List Int=>p.1 ≤ F.length ∧ (∀ t,t ∈ p.2 ↔ ∃ x ∈ F.take p.1,t ∈ outs g.edges x) ∧ p.2.length = g.edges.countP fun e=>decide (e.f ∈ F.take p.1)) (fun p : Nat × List Int=>F.length - p.1) (0,[]) ⟨Nat.zero_le _,by simp,by simp⟩ ?_ ?_
   ·refine Le.lst [(80,80),(72,72)] [] [(16,1)] rfl (by simp) (by simp) (by simp [C]) (by simp [C]) (by simp) (by simp) (by simp) (by simp [C,Up]) fun p hp e' he'=>?_
    simp [C] at hp
    rcases hp with rfl | rfl | rfl
    ·cases he'
     exact .inl ⟨(80,80),by simp,rfl,_,rfl,zaD.eq (by simp) (by simp)⟩
    ·cases he'
     exact .inl ⟨(72,72),by simp,rfl,_,rfl,zaD.eq (by simp [fcd,zjZ]) (by simp)⟩
    ·cases he'
     exact .inr ⟨by simp,by simp,rfl⟩
   rintro ⟨i,X⟩ ⟨hi,hXm,hXl⟩
   simp only at hi hXm hXl ⊢
   have hXle : X.length ≤ 500:=by rw [hXl]; exact Nat.le_trans List.countP_le_length h500
   have hC : C (i,X) = ⟨50,[(2,.pv (gC g)),(5,.pt 80 0 0),(7,.I d),(8,.rs 16 0 X.length),(25,ints F),(26,.I F.length),(27,.I i)],[(80,some ⟨1,[[.rs 72 0 N]],0⟩),(72,some ⟨1,zah (outP g S d (F.take i)),0⟩),(16,some ⟨1,zah X,0⟩)],200⟩:=rfl
   rw [hC]
   refine zab ⟨50,[(2,.pv (gC g)),(5,.pt 80 0 0),(7,.I d),(8,.rs 16 0 X.length),(25,ints F),(26,.I F.length),(27,.I i),(28,.B (decide (i < F.length)))],[(80,some ⟨1,[[.rs 72 0 N]],0⟩),(72,some ⟨1,zah (outP g S d (F.take i)),0⟩),(16,some ⟨1,zah X,0⟩)],208⟩ rfl ?_ ?_
   ·simp
    exact Le.keep rfl (Nat.le_refl _) (by simp) (by simp)
   refine zaa ?_
   refine zad _ rfl (fun h2=>zae ?_) fun h2=>zak (hit ?_)
   ·simp only [decide_eq_true_eq] at h2
    have hx:=(hFm F[i]).1 (List.getElem_mem h2)
    obtain ⟨k,hk⟩ : ∃ k : Nat,F[i] = k:=⟨F[i].toNat,by have:=hx.1.1; omega⟩
    have hkN : k < g.size.toNat:=by have:=hx.1.2; omega
    have hkd : dl g S d k = d:=by rw [← hk]; exact hx.2
    have hmt:=zi9 h2
    rw [hk] at hmt
    refine zat (ι:=List Int) (fun X'=>⟨50,[(2,.pv (gC g)),(5,.pt 80 0 0),(7,.I d),(8,.rs 16 0 X'.length),(25,ints F),(26,.I F.length),(27,.I i)],[(80,some ⟨1,[[.rs 72 0 N]],0⟩),(72,some ⟨1,zah (outP g S d (F.take (i + 1))),0⟩),(16,some ⟨1,zah X',0⟩)],200⟩) (fun X'=>(∀ t,t ∈ X' ↔ ∃ x ∈ F.take (i + 1),t ∈ outs g.edges x) ∧ X'.length = g.edges.countP fun e=>decide (e.f ∈ F.take (i + 1))) ?_ ?_
    ·have hOlen : (outP g S d (F.take i)).length = N:=by rw [zf2,hN]
     have hOget:=zqC (g:=g) (S:=S) (d:=d) (F:=F.take i) hkN hkd
     have hOset0 : zah ((outP g S d (F.take i)).set k d) = zah (outP g S d (F.take (i + 1))):=by
      rw [zrr hkN hkd]
      congr 1
      exact zmS fun x=>(hmt x).symm
     have hOset : (zah (outP g S d (F.take i))).set k [AV.I d] = zah (outP g S d (F.take (i + 1))):=by
      rw [← hOset0,zah,zah,List.map_set]
     clear hOset0
     have hrow : (zah (outP g S d (F.take i)))[k]? = some [AV.I (if (k : Int) ∈ F.take i then (d : Int) else -1)]:=by
      rw [List.getElem?_map,List.getElem?_eq_getElem (by omega),hOget]
      rfl
     have hOl : (zah (outP g S d (F.take i))).length = N:=by simp [hOlen]
     generalize hO : zah (outP g S d (F.take i)) = O at *
     refine zaf ?_
     refine zab ⟨50,[(2,.pv (gC g)),(5,.pt 80 0 0),(7,.I d),(8,.rs 16 0 X.length),(25,ints F),(26,.I F.length),(27,.I i),(10,.I k)],[(80,some ⟨1,[[.rs 72 0 N]],0⟩),(72,some ⟨1,O,0⟩),(16,some ⟨1,zah X,0⟩)],232⟩ rfl ?_ ?_
     ·simp [h2,hk]
      exact Le.keep rfl (Nat.le_refl _) (by simp) (by simp)
     refine zaa ?_
     refine zab ⟨50,[(2,.pv (gC g)),(5,.pt 80 0 0),(7,.I d),(8,.rs 16 0 X.length),(25,ints F),(26,.I F.length),(27,.I i),(10,.I k),(35,.B (decide ((k : Int) ∈ F.take i)))],[(80,some ⟨1,[[.rs 72 0 N]],0⟩),(72,some ⟨1,O,0⟩),(16,some ⟨1,zah X,0⟩)],272⟩ rfl ?_ ?_
     ·simp [hrow,show k < N by omega]
      refine Le.keep rfl (Nat.le_refl _) ?_ (by simp)
      by_cases hin : (k : Int) ∈ F.take i <;> simp [hin]
     refine zad _ rfl (fun h3=>zak (hit ?_)) fun h3=>zae ?_
     ·simp only [decide_eq_true_eq] at h3
      have hsame : ∀ x,x ∈ F.take (i + 1) ↔ x ∈ F.take i:=by
       intro x
       rw [hmt x]
       simp
       rintro rfl
       exact h3
      refine ⟨X,⟨fun t=>?_,?_⟩,?_⟩
      ·rw [hXm]
       simp only [hsame]
      ·rw [hXl]
       simp only [hsame]
      ·rw [zmS hsame,hO]
       refine Le.ents [(80,80),(72,72),(16,16)] [] rfl (by simp) (by simp) (by simp) (by simp) (by simp) (by simp) fun p hp=>?_
       simp at hp
       rcases hp with rfl | rfl | rfl
       ·exact ⟨80,_,_,rfl,by simp,rfl,zaD.eq (by simp) (by simp)⟩
       ·exact ⟨72,_,_,rfl,by simp,rfl,zaD.eq (by rw [← hO]; simp [fcd]) (by simp)⟩
       ·exact ⟨16,_,_,rfl,by simp,rfl,zaD.eq (by simp [fcd]) (by simp)⟩
     simp only [decide_eq_false_iff_not] at h3
     refine zab ⟨50,[(2,.pv (gC g)),(5,.pt 80 0 0),(7,.I d),(8,.rs 16 0 X.length),(25,ints F),(26,.I F.length),(27,.I i),(10,.I k)],[(80,some ⟨1,[[.rs 72 0 N]],0⟩),(72,some ⟨1,zah (outP g S d (F.take (i + 1))),0⟩),(16,some ⟨1,zah X,0⟩)],312⟩ rfl ?_ ?_
     ·simp [hrow,show k < N by omega,zbR]
      exact Le.keep rfl (Nat.le_refl _) (by simp) (by simp; exact hOset)
     have hcount:=zn3 (l:=g.edges) h3
     have hol:=zlB g.edges k
     refine zaC rfl ?_
     simp
     refine zdK (zj9 g k (by omega)) rfl ?_
     simp [fcd]
     have hcm : (fun e : Ed=>decide (e.f ∈ F.take (i + 1))) = fun e : Ed=>decide (e.f ∈ F.take i ++ [(k : Int)]):=by
      funext e
      simp only [hmt]
     refine ⟨by omega,by omega,X ++ zeQ (outs g.edges k),⟨fun t=>?_,?_⟩,?_⟩
     ·rw [List.mem_append,znG,hXm]
      simp only [hmt,List.mem_append,List.mem_singleton]
      constructor
      ·rintro (⟨x,hx,ht⟩ | ht)
       ·exact ⟨x,.inl hx,ht⟩
       ·exact ⟨k,.inr rfl,ht⟩
      ·rintro ⟨x,hx | rfl,ht⟩
       ·exact .inl ⟨x,hx,ht⟩
       ·exact .inr ht
     ·rw [List.length_append,zgi,hXl,hcm,hcount]
     ·have e1 : List.take X.length (zah X) = zah X:=List.take_of_length_le (by simp)
      have e2 : List.take (outs g.edges k).length (zah (zeQ (outs g.edges k))) = zah (zeQ (outs g.edges k)):=List.take_of_length_le (by rw [zah,List.length_map,zgi]; exact Nat.le_refl _)
      have e3 : (X ++ zeQ (outs g.edges k)).length = X.length + (outs g.edges k).length:=by rw [List.length_append,zgi]
      rw [e1,e3]
      refine Le.ents [(80,80),(72,72),(344,16)] [] rfl (by simp) (by simp) (by simp) (by simp) (by simp) (by simp) fun p hp=>?_
      simp at hp
      rcases hp with rfl | rfl | rfl
      ·exact ⟨80,_,_,rfl,by simp,rfl,zaD.eq (by simp) (by simp)⟩
      ·exact ⟨72,_,_,rfl,by simp,rfl,zaD.eq (by simp [fcd]) (by simp)⟩
      ·refine ⟨344,_,_,rfl,by simp,rfl,zaD.eq ?_ (by simp)⟩
       have e4 : zah X ++ List.take (outs g.edges k).length (zah (zeQ (outs g.edges k))) = zah X ++ zah (zeQ (outs g.edges k)):=by rw [e2]
       have e5 : (⟨1,zah X ++ List.take (outs g.edges k).length (zah (zeQ (outs g.edges k))),0⟩ : Ent) = ⟨1,zah X ++ zah (zeQ (outs g.edges k)),0⟩:=by rw [e4]
       refine (congrArg _ e5).trans ?_
       simp [fcd]
    rintro X' ⟨k1,k2⟩
    have hwi : IntKind.i64.wrap ((i : Int) + 1) = ((i + 1 : Nat) : Int):=by rw [w64 (by omega) (by omega)]; omega
    refine zaC rfl ?_
    simp [hwi]
    refine ⟨i + 1,X',⟨by omega,k1,k2⟩,by omega,Le.ents [(80,80),(72,72),(16,16)] [] rfl (by simp) (by simp) (by simp [C]) (by simp) (by simp [C]) (by simp [C]) fun p hp=>?_⟩
    simp [C] at hp
    rcases hp with rfl | rfl | rfl
    ·exact ⟨80,_,_,rfl,by simp,rfl,zaD.eq (by simp) (by simp)⟩
    ·exact ⟨72,_,_,rfl,by simp,rfl,zaD.eq (by simp [fcd]) (by simp)⟩
    ·exact ⟨16,_,_,rfl,by simp,rfl,zaD.eq (by simp [fcd]) (by simp)⟩
   simp only [decide_eq_false_iff_not] at h2
   obtain rfl : i = F.length:=by omega
   rw [List.take_of_length_le (Nat.le_refl _)] at hXm hXl ⊢
   rw [zoU d F hFm]
   obtain ⟨F',hF'⟩ : ∃ F',F' = X.filter fun e=>!offQ (outL g S (d + 1)) e:=⟨_,rfl⟩
   have hF'l : F'.length ≤ X.length:=by rw [hF']; exact List.length_filter_le _ _
   have hDl:=zmw g S (d + 1)
   have hdel:=zih zb1 [.pv [ints (outL g S (d + 1))]] (offQ (outL g S (d + 1))) X X.length F'.length rfl (by rw [hF']) (by omega) (fun ρ sn h n=>by simp) (fun e _=>zow (outL g S (d + 1)) e (by rw [hDl]; omega))
   rw [← hF'] at hdel
   have htk : List.take N (zah (outL g S (d + 1))) = zah (outL g S (d + 1)):=List.take_of_length_le (by rw [zah,List.length_map,hDl]; omega)
   have hle : N ≤ (zah (outL g S (d + 1))).length:=by rw [zah,List.length_map,hDl]; omega
   have hnf:=fun x=>znz hg hFm hXm x
   rw [← hF'] at hnf
   generalize hO : outL g S (d + 1) = O at *
   refine zaC rfl ?_
   simp
   refine zse (i:=16) [80,72] (by simp) rfl (e':=⟨1,zah X,0⟩) (by simp [fcd]) hdel (by simp) ?_ (.rs _ _ _) (by
    intro e he
    simp at he
    subst he
    exact zlM) ?_
   ·have hle2 : N ≤ O.length:=by simpa using hle
    have htk2 : List.take N (List.map (fun x=>[AV.I x]) O) = List.map (fun x=>[AV.I x]) O:=htk
    simp [fcd,hle2,htk2]
   simp [fcd]
   refine ⟨F',⟨by omega,hnf⟩,?_⟩
   rw [zjZ,hO]
   exact Le.dn N 80 72 80 72 [16] rfl rfl (by simp) (by simp) (by decide) (by decide) (by simp) rfl rfl (by simp [fcd]) (by simp [fcd,zaI])
  rintro F' ⟨k1,k2⟩
  have hwd : IntKind.i64.wrap ((d : Int) + 1) = ((d + 1 : Nat) : Int):=by rw [w64 (by omega) (by omega)]; omega
  refine zaC rfl ?_
  simp [hwd]
  exact ⟨d + 1,F',⟨by omega,k1,k2⟩,by omega,Le.dn N 80 72 80 72 [] rfl rfl (by simp) (by simp) (by decide) (by decide) (by simp) rfl rfl (by simp [fcd]) (by simp)⟩
 simp only [decide_eq_false_iff_not] at h
 have hnil : F = []:=List.eq_nil_of_length_eq_zero (by omega)
 have hstop : ∀ k,Key g k → dl g S d k ≠ d:=by
  intro k hk he
  have:=(hFm k).2 ⟨hk,he⟩
  rw [hnil] at this
  simp at this
 have hout : outL g S d = zdc g S:=by
  unfold outL zdc
  refine List.map_congr_left fun i hi=>?_
  simp at hi
  have hkey : Key g i:=⟨by omega,by omega⟩
  rw [zks hg hstop i hkey]
  have hr:=zbf (g:=g) (S:=S) d i
  have:=hstop i hkey
  rw [zks hg hstop i hkey] at this hr
  split <;> omega
 rw [hout]
 refine zaa ?_
 refine zac (s:=?z9) rfl ?p9 ?r9
 case p9=>simp; rfl
 refine zag ?_
 rw [← hN]
 exact ⟨.inr rfl,zam.out [72] [] rfl (by simp) (by simp) (by simp) (by simp [fcd])⟩
def dP (g : Gr) (S : List Int) (n i : Nat) (k : Int) : Int:=if 0 ≤ dl g S n k then dl g S n k else if (g.edges.take i).any (fun e=>decide (e.t = k) && decide (dl g S n e.f = n)) = true then (n : Int) + 1 else -1
variable {g : Gr} {S : List Int}
theorem zl1 (n : Nat) (k : Int) : dP g S n 0 k = dl g S n k:=by
 unfold dP
 have:=zbf (g:=g) (S:=S) n k
 split
 ·rfl
 ·simp; omega
theorem zth (n : Nat) (k : Int) : dP g S n g.edges.length k = dl g S (n + 1) k:=by
 unfold dP
 rw [List.take_of_length_le (Nat.le_refl _),dl]
theorem zuj (n i : Nat) (k : Int) : dP g S n i k = n ↔ dl g S n k = n:=by
 unfold dP
 have:=zbf (g:=g) (S:=S) n k
 split
 ·exact Iff.rfl
 ·split <;> omega
theorem zps (n i : Nat) (hi : i < g.edges.length) (k : Int) : dP g S n (i + 1) k = if dl g S n g.edges[i].f = n ∧ dP g S n i g.edges[i].t = -1 ∧ k = g.edges[i].t then (n : Int) + 1 else dP g S n i k:=by
 have hany : ∀ k,(g.edges.take (i + 1)).any (fun e=>decide (e.t = k) && decide (dl g S n e.f = n)) = ((g.edges.take i).any (fun e=>decide (e.t = k) && decide (dl g S n e.f = n)) || (decide (g.edges[i].t = k) && decide (dl g S n g.edges[i].f = n))):=by
  intro k
  rw [← List.take_concat_get hi,List.concat_eq_append,List.any_append]
  simp
 unfold dP
 rw [hany]
 by_cases h1 : dl g S n g.edges[i].f = n
 ·by_cases h2 : k = g.edges[i].t
  ·subst h2
   simp only [h1,decide_true,Bool.and_self,Bool.or_true,if_true,and_true,true_and]
   have:=zbf (g:=g) (S:=S) n g.edges[i].t
   by_cases h3 : 0 ≤ dl g S n g.edges[i].t
   ·simp only [h3,if_true]
    rw [if_neg (by omega)]
   ·simp only [h3,if_false]
    split <;> simp
  ·have h3 : decide (g.edges[i].t = k) = false:=by simpa using fun h=>h2 h.symm
   simp only [h3,h2,Bool.false_and,Bool.or_false,and_false,if_false]
 ·simp only [h1,decide_false,Bool.and_false,Bool.or_false,false_and,if_false]
def zdr (g : Gr) (S : List Int) (k : Nat) : List Int:=(List.range k).map fun (i : Nat)=>dl g S 0 (i : Int)
def midL (g : Gr) (S : List Int) (n i : Nat) : List Int:=(List.range g.size.toNat).map fun (k : Nat)=>dP g S n i (k : Int)
theorem zhg (n i : Nat) : (midL g S n i).length = g.size.toNat:=by simp [midL]
theorem znU : midL g S 0 0 = zdr g S g.size.toNat:=by unfold midL zdr; simp only [zl1]
theorem zp4 (n : Nat) : midL g S n g.edges.length = midL g S (n + 1) 0:=by unfold midL; simp only [zth,zl1]
theorem zpl : midL g S g.size.toNat 0 = zdc g S:=by unfold midL zdc dist; simp only [zl1]
theorem zmz (n i : Nat) {k : Nat} (hk : k < g.size.toNat) : (zah (midL g S n i))[k]? = some [AV.I (dP g S n i k)]:=by
 simp [midL,hk]
theorem zo8 (n i : Nat) (hi : i < g.edges.length) (h : ¬ (dl g S n g.edges[i].f = n ∧ dP g S n i g.edges[i].t = -1)) : midL g S n (i + 1) = midL g S n i:=by
 unfold midL
 refine List.map_congr_left fun k _=>?_
 rw [zps n i hi,if_neg]
 rintro ⟨h1,h2,_⟩
 exact h ⟨h1,h2⟩
theorem zqV (n i : Nat) (hi : i < g.edges.length) {k : Nat} (hk : g.edges[i].t = k) (hkN : k < g.size.toNat) (h1 : dl g S n g.edges[i].f = n) (h2 : dP g S n i g.edges[i].t = -1) : (zah (midL g S n i)).set k [AV.I ((n : Int) + 1)] = zah (midL g S n (i + 1)):=by
 have e : (midL g S n i).set k ((n : Int) + 1) = midL g S n (i + 1):=by
  apply List.ext_getElem?
  intro j
  by_cases hj : j < g.size.toNat
  ·have e1 : (midL g S n (i + 1))[j]? = some (dP g S n (i + 1) j):=by simp [midL,hj]
   have e2 : (midL g S n i)[j]? = some (dP g S n i j):=by simp [midL,hj]
   rw [List.getElem?_set,e1,e2,zps n i hi,zhg]
   by_cases hkj : k = j
   ·subst hkj
    rw [if_pos rfl,if_pos hkN,if_pos ⟨h1,h2,hk.symm⟩]
   ·rw [if_neg hkj,if_neg]
    rintro ⟨_,_,h3⟩
    rw [hk] at h3
    omega
  ·rw [List.getElem?_eq_none (by rw [List.length_set,zhg]; omega),List.getElem?_eq_none (by rw [zhg]; omega)]
 rw [← e,zah,zah,List.map_set]
theorem zlE (k : Nat) : zdr g S (k + 1) = zdr g S k ++ [dl g S 0 k]:=by
 unfold zdr
 rw [List.range_succ,List.map_append]
 rfl
theorem Le.l1 {st st' : St} {D : List Int} (i j : Nat) (sn : List Nat) (hsz : st'.sz = st.sz) (hh : st'.h = [(j,some ⟨1,zah D,0⟩)]) (hj : j < st'.n) (hs : ∀ k ∈ sn,k ≠ i) (he : st.hp i = some ⟨1,zah D,0⟩) (ht : ∀ p ∈ st'.t,Wk (conv [(i,j)] sn st.hp 4 (st.get p.1)) p.2) : Le 0 st st' :=
 zgX hsz hh hj hs he (by simp [fcd]) (by simp) ht
set_option maxHeartbeats 4000000 in
set_option maxRecDepth 100000 in
theorem zkv (g : Gr) (S : List Int) (hg : GrOk g) (hS : S.length ≤ 1099511627776) : zaj Tryz.prog zge [eG g,ints S] [] (.rs 0 0 g.size.toNat) [some ⟨1,zah (zdc g S),0⟩]:=by
 refine znD.acalls (nbz rfl) (nbz rfl) (Nat.zero_le _) ?_
 show awp _ 0 _ _ ⟨72,[(0,eG g),(1,ints S)],[],16⟩
 have hsz:=hg.1.1
 have hsz2:=hg.1.2.1
 have h500:=hg.1.2.2.1
 have hgone : g.gone.length ≤ 1000000:=Nat.le_trans hg.gone_le (by omega)
 obtain ⟨N,hN⟩ : ∃ N : Nat,N = g.size.toNat:=⟨_,rfl⟩
 refine zab ⟨72,[(1,ints S),(2,.pv (gC g))],[],32⟩ rfl ?_ ?_
 ·simp
  exact Le.snap [16] rfl rfl (by simp)
 refine zaa ?_
 refine zac (s:=?s1) rfl ?o1 ?q1
 case o1=>simp; rfl
 refine zaa ?_
 refine zaa ?_
 refine zac (s:=?s2) rfl ?o2 ?q2
 case o2=>simp; rfl
 refine zaf ?_
 let C : Nat → St:=fun k=>⟨72,[(1,ints S),(2,.pv (gC g)),(5,.rs 16 0 k),(6,.I k)],[(16,some ⟨1,zah (zdr g S k),0⟩)],48⟩
 refine zan C (fun k=>k ≤ N) (fun k=>N - k) 0 (Nat.zero_le _) (Le.lst [] [] [(16,1)] rfl (by simp) (by simp) (by simp) (by simp [C]) (by simp) (by simp) (by simp) (by simp [C,Up]) (by simp [C,zdr])) ?_
 intro k hk
 have hCk : C k = ⟨72,[(1,ints S),(2,.pv (gC g)),(5,.rs 16 0 k),(6,.I k)],[(16,some ⟨1,zah (zdr g S k),0⟩)],48⟩:=rfl
 rw [hCk]
 refine zaa ?_
 refine zab ⟨72,[(1,ints S),(2,.pv (gC g)),(5,.rs 16 0 k),(6,.I k),(13,.B (decide ((k : Int) < g.size)))],[(16,some ⟨1,zah (zdr g S k),0⟩)],80⟩ rfl ?_ ?_
 ·simp
  exact Le.keep rfl (Nat.le_refl _) (by simp) (by simp)
 refine zad _ rfl (fun h=>zae ?_) fun h=>zak (hit ?_)
 ·simp only [decide_eq_true_eq] at h
  refine zat (ι:=Unit) (fun _=>⟨72,[(1,ints S),(2,.pv (gC g)),(5,.rs 16 0 (k + 1)),(6,.I k)],[(16,some ⟨1,zah (zdr g S (k + 1)),0⟩)],48⟩) (fun _=>True) ?_ fun _ _=>?_
  ·rw [zlE]
   have hAl : (zdr g S k).length = k:=by simp [zdr]
   generalize zdr g S k = A at *
   refine zaf ?_
   refine zab ⟨72,[(1,ints S),(2,.pv (gC g)),(5,.rs 96 0 (k + 1)),(6,.I k)],[(96,some ⟨1,zah A ++ [[.I (-1)]],0⟩)],112⟩ rfl ?_ ?_
   ·simp [List.replicate,hAl]
    refine ⟨by omega,by omega,?_⟩
    have e1 : List.take k (zah A) = zah A:=List.take_of_length_le (by simp [hAl])
    exact zgX (i:=96) (sn:=[]) rfl rfl (by simp) (by simp) rfl (by rw [e1]; simp [fcd]) (by simp) (by simp)
   refine zab ⟨72,[(1,ints S),(2,.pv (gC g)),(5,.rs 96 0 (k + 1)),(6,.I k),(28,.B (zct g S k))],[(96,some ⟨1,zah A ++ [[.I (-1)]],0⟩)],192⟩ rfl ?_ ?_
   ·simp
    refine zdw zaZ rfl ?_
    refine zal (zkT S k (by omega)) rfl ?_
    simp
    refine zd3 (fun hb=>?_) (fun hb=>?_)
    ·simp [hb]
     refine zdw zaZ rfl ?_
     refine zal (zkT g.gone k (by omega)) rfl ?_
     simp [hb]
     exact zgX (i:=96) (sn:=[]) rfl rfl (by simp) (by simp) rfl (by simp [fcd]) (by simp) (by simp [zct] <;> exact wkB (by simp_all))
    ·simp [hb]
     exact zgX (i:=96) (sn:=[]) rfl rfl (by simp) (by simp) rfl (by simp [fcd]) (by simp) (by simp [zct] <;> exact wkB (by simp_all))
   refine zad _ rfl (fun h5=>?_) fun h5=>zae ?_
   ·have h0 : dl g S 0 k = 0:=by rw [dl,if_pos h5]
    rw [h0]
    refine zaC rfl ?_
    have hset : (zah A ++ [[AV.I (-1)]]).set k [AV.I 0] = zah A ++ [[AV.I 0]]:=by
     rw [List.set_append,if_neg (by simp [hAl])]
     simp [hAl]
    have hget : (zah A ++ [[AV.I (-1)]])[k]? = some [AV.I (-1)]:=by
     rw [List.getElem?_append_right (by simp [hAl])]
     simp [hAl]
    simp [hget,zbR,hset]
    refine ⟨by omega,zgX (i:=96) (sn:=[]) rfl rfl (by simp) (by simp) rfl (by simp [fcd]) (by simp) (by simp)⟩
   ·have h0 : dl g S 0 k = -1:=by rw [dl,if_neg (by simp [h5])]
    rw [h0]
    exact ⟨(),trivial,zgX (i:=96) (sn:=[]) rfl rfl (by simp) (by simp) rfl (by simp [fcd]) (by simp) (by simp)⟩
  have hwk : IntKind.i64.wrap ((k : Int) + 1) = ((k + 1 : Nat) : Int):=by rw [w64 (by omega) (by omega)]; omega
  refine zaC rfl ?_
  simp [hwk]
  exact ⟨k + 1,by omega,by omega,Le.l1 16 16 [] rfl rfl (by simp [C]) (by simp) rfl (by simp [C])⟩
 simp only [decide_eq_false_iff_not] at h
 obtain rfl : k = N:=by omega
 have hf : zdr g S k = midL g S 0 0:=by rw [znU,hN]
 rw [hf]
 refine zaa ?_
 refine zab ⟨72,[(2,.pv (gC g)),(5,.rs 16 0 k),(7,.I 0)],[(16,some ⟨1,zah (midL g S 0 0),0⟩)],88⟩ rfl ?_ ?_
 ·simp
  exact Le.keep rfl (Nat.le_refl _) (by simp) (by simp)
 refine zaf ?_
 refine zan (ι:=Nat) (fun n=>⟨72,[(2,.pv (gC g)),(5,.rs 16 0 k),(7,.I n)],[(16,some ⟨1,zah (midL g S n 0),0⟩)],88⟩) (fun n=>n ≤ k) (fun n=>k - n) 0 (Nat.zero_le _) (Le.refl _ _) ?_
 intro n hn
 refine zaa ?_
 refine zab ⟨72,[(2,.pv (gC g)),(5,.rs 16 0 k),(7,.I n),(35,.B (decide ((n : Int) < g.size)))],[(16,some ⟨1,zah (midL g S n 0),0⟩)],120⟩ rfl ?_ ?_
 ·simp
  exact Le.keep rfl (Nat.le_refl _) (by simp) (by simp)
 refine zad _ rfl (fun h=>zae ?_) fun h=>zak (hit ?_)
 ·simp only [decide_eq_true_eq] at h
  refine zat (ι:=Unit) (fun _=>⟨72,[(2,.pv (gC g)),(5,.rs 16 0 k),(7,.I n)],[(16,some ⟨1,zah (midL g S (n + 1) 0),0⟩)],88⟩) (fun _=>True) ?_ fun _ _=>?_
  ·rw [← zp4]
   refine zaf ?_
   refine zab ⟨72,[(2,.pv (gC g)),(5,.rs 16 0 k),(7,.I n),(8,.I 0)],[(16,some ⟨1,zah (midL g S n 0),0⟩)],128⟩ rfl ?_ ?_
   ·simp
    exact Le.keep rfl (Nat.le_refl _) (by simp) (by simp)
   refine zaf ?_
   refine zan (ι:=Nat) (fun i=>⟨72,[(2,.pv (gC g)),(5,.rs 16 0 k),(7,.I n),(8,.I i)],[(16,some ⟨1,zah (midL g S n i),0⟩)],128⟩) (fun i=>i ≤ g.edges.length) (fun i=>g.edges.length - i) 0 (Nat.zero_le _) (Le.refl _ _) ?_
   intro i hi
   refine zaa ?_
   refine zab ⟨72,[(2,.pv (gC g)),(5,.rs 16 0 k),(7,.I n),(8,.I i),(42,.B (decide (i < g.edges.length)))],[(16,some ⟨1,zah (midL g S n i),0⟩)],168⟩ rfl ?_ ?_
   ·simp
    exact Le.keep rfl (Nat.le_refl _) (by simp) (by simp)
   refine zad _ rfl (fun h2=>zae ?_) fun h2=>zak (hit ?_)
   ·simp only [decide_eq_true_eq] at h2
    refine zat (ι:=Unit) (fun _=>⟨72,[(2,.pv (gC g)),(5,.rs 16 0 k),(7,.I n),(8,.I i)],[(16,some ⟨1,zah (midL g S n (i + 1)),0⟩)],128⟩) (fun _=>True) ?_ fun _ _=>?_
    ·have hfit:=hg.fits g.edges[i] (List.getElem_mem h2)
     obtain ⟨a,ha⟩ : ∃ a : Nat,g.edges[i].f = a:=⟨g.edges[i].f.toNat,by have:=hfit.1; omega⟩
     obtain ⟨b,hb⟩ : ∃ b : Nat,g.edges[i].t = b:=⟨g.edges[i].t.toNat,by have:=hfit.2.2.1; omega⟩
     have haN : a < g.size.toNat:=by have:=hfit.2.1; omega
     have hbN : b < g.size.toNat:=by have:=hfit.2.2.2.1; omega
     have hga:=zmz (g:=g) (S:=S) n i haN
     have hgb:=zmz (g:=g) (S:=S) n i hbN
     have hml : (zah (midL g S n i)).length = k:=by rw [zah,List.length_map,zhg,hN]
     have hsame:=zo8 (S:=S) n i h2
     have hset:=zqV (S:=S) n i h2 hb hbN
     rw [ha] at hsame hset
     rw [hb] at hsame hset
     have hdat:=zuj (g:=g) (S:=S) n i a
     generalize hD1 : dP g S n i a = va at *
     generalize hD2 : dP g S n i b = vb at *
     generalize hM : zah (midL g S n i) = M at *
     have hwn : IntKind.i64.wrap ((n : Int) + 1) = (n : Int) + 1:=w64 (by omega) (by omega)
     refine zaf ?_
     refine zab ⟨72,[(2,.pv (gC g)),(5,.rs 16 0 k),(7,.I n),(8,.I i),(9,.pv (eC g.edges[i]))],[(16,some ⟨1,M,0⟩)],128⟩ rfl ?_ ?_
     ·simp [h2]
      exact zgX (i:=16) (sn:=[208]) rfl rfl (by simp) (by simp) rfl (by rw [← hM]; simp [fcd]) (by simp) (by simp)
     refine zab ⟨72,[(2,.pv (gC g)),(5,.rs 16 0 k),(7,.I n),(8,.I i),(9,.pv (eC g.edges[i])),(64,.B (decide (va = n ∧ vb = -1)))],[(16,some ⟨1,M,0⟩)],248⟩ rfl ?_ ?_
     ·simp [ha,hb,hga,hgb,show a < k by omega,show b < k by omega]
      refine zd3 (fun hx=>?_) (fun hx=>?_)
      ·simp [hx,ha,hb,hga,hgb,show a < k by omega,show b < k by omega]
       refine Le.keep rfl (Nat.le_refl _) (by simp <;> simp_all <;> rw [Bool.eq_iff_iff] <;> simp) (by simp)
      ·simp [hx]
       refine Le.keep rfl (Nat.le_refl _) (by simp <;> simp_all) (by simp)
     refine zad _ rfl (fun h5=>?_) fun h5=>zae ?_
     ·simp only [decide_eq_true_eq] at h5
      have hs2:=hset (hdat.1 h5.1) h5.2
      refine zaC rfl ?_
      simp [ha,hb,hgb,show b < k by omega,zbR,hwn,hs2]
      exact Le.l1 16 16 [] rfl rfl (by simp) (by simp) rfl (by simp)
     ·simp only [decide_eq_false_iff_not] at h5
      rw [hsame (fun hq=>h5 ⟨hdat.2 hq.1,hq.2⟩),hM]
      exact ⟨(),trivial,zgX (i:=16) (sn:=[]) rfl rfl (by simp) (by simp) rfl (by rw [← hM]; simp [fcd]) (by simp) (by simp)⟩
    have hwi : IntKind.i64.wrap ((i : Int) + 1) = ((i + 1 : Nat) : Int):=by rw [w64 (by omega) (by omega)]; omega
    refine zaC rfl ?_
    simp [hwi]
    exact ⟨i + 1,by omega,by omega,Le.l1 16 16 [] rfl rfl (by simp) (by simp) rfl (by simp)⟩
   simp only [decide_eq_false_iff_not] at h2
   obtain rfl : i = g.edges.length:=by omega
   exact ⟨(),trivial,Le.l1 16 16 [] rfl rfl (by simp) (by simp) rfl (by simp)⟩
  have hwn : IntKind.i64.wrap ((n : Int) + 1) = ((n + 1 : Nat) : Int):=by rw [w64 (by omega) (by omega)]; omega
  refine zaC rfl ?_
  simp [hwn]
  exact ⟨n + 1,by omega,by omega,Le.l1 16 16 [] rfl rfl (by simp) (by simp) rfl (by simp)⟩
 simp only [decide_eq_false_iff_not] at h
 obtain rfl : n = k:=by omega
 rw [hN,zpl,← hN]
 refine zaa ?_
 refine zac (s:=?z9) rfl ?p9 ?r9
 case p9=>simp; rfl
 refine zag ?_
 exact ⟨.inr rfl,zam.out [16] [] rfl (by simp) (by simp) (by simp) (by simp [fcd])⟩
def zcr (c : Int → Int → Int) : List Int → Int → List Int
 | [],x=>[x]
 | y :: r,x=>if c x y < 0 then y :: zcr c r x else x :: y :: r
def zb3 (c : Int → Int → Int) (M : List Int) : List Int:=M.foldl (zcr c) []
def ze6 (c : Int → Int → Int) (M : List Int) : List Int:=(zb3 c M).reverse
theorem zd6 (c : Int → Int → Int) : ∀ (r : List Int) (x : Int),(zcr c r x).Perm (x :: r)
 | [],x=>.refl _
 | y :: r,x=>by
   unfold zcr
   split
   ·exact ((zd6 c r x).cons y).trans (.swap _ _ _)
   ·exact .refl _
theorem zjI (c : Int → Int → Int) (M : List Int) (k : Nat) (h : k < M.length) : zb3 c (M.take (k + 1)) = zcr c (zb3 c (M.take k)) M[k]:=by
 unfold zb3
 rw [← List.take_concat_get h,List.concat_eq_append,List.foldl_append]
 rfl
theorem zd7 (c : Int → Int → Int) (M : List Int) : (zb3 c M).Perm M:=by
 have key : ∀ (M acc : List Int),(M.foldl (zcr c) acc).Perm (M ++ acc):=by
  intro M
  induction M with
  | nil=>intro acc; exact .refl _
  | cons x M ih =>
    intro acc
    refine (ih _).trans ?_
    refine ((zd6 c acc x).append_left M).trans ?_
    simp only [List.cons_append]
    exact List.perm_middle
 simpa [zb3] using key M []
theorem zgH (c : Int → Int → Int) (M : List Int) : (zb3 c M).length = M.length:=(zd7 c M).length_eq
theorem zpi (c : Int → Int → Int) (x : Int) : zb3 c [x] = [x]:=rfl
theorem Le.np1 {st st' : St} {D : List Int} (sn : List Nat) (hsz : st'.sz = st.sz) (hn : 1 ≤ st'.n) (hh : st'.h = [(0,some ⟨1,zah D,0⟩)]) (hs : ∀ k ∈ sn,1 ≤ k) (he : st.hp 0 = some ⟨1,zah D,0⟩) (ht : ∀ p ∈ st'.t,Wk (conv [(0,0)] sn st.hp 4 (st.get p.1)) p.2) : Le 1 st st' :=
 Le.ents [(0,0)] sn hsz (by simp) (by simp) (by simp; omega) (fun k hk=>⟨hs k hk,by have:=hs k hk; simp; omega⟩) hn ht (fun p hp=>by
  rw [hh] at hp
  simp at hp
  subst hp
  exact ⟨0,_,_,rfl,by simp,he,zaD.eq (by simp [fcd]) (by simp)⟩)
theorem zov {H T : List Int} {y x : Int} {h : Nat} (hh : H.length = h) : (zah (H ++ y :: x :: T))[h]? = some [AV.I y] ∧ (zah (H ++ y :: x :: T))[h + 1]? = some [AV.I x]:=by
 subst hh
 constructor
 ·rw [List.getElem?_map,List.getElem?_append_right (by omega)]
  simp
 ·rw [List.getElem?_map,List.getElem?_append_right (by omega)]
  simp
theorem zrX {H T : List Int} {y x : Int} {h : Nat} (hh : H.length = h) : ((zah (H ++ y :: x :: T)).set (h + 1) [AV.I y]).set h [AV.I x] = zah (H ++ x :: y :: T):=by
 subst hh
 simp [zah,List.set_append]
set_option maxHeartbeats 4000000 in
set_option maxRecDepth 100000 in
theorem zkV (f : FuncId) (capt : List AV) (c : Int → Int → Int) (A M B : List Int) (n a b : Nat) (hn : (A ++ M ++ B).length = n) (ha : A.length = a) (hb : a + M.length = b) (hl : n ≤ 1000000) (hs : zkh capt)
  (hc : ∀ x ∈ M,∀ y ∈ M,zaj Tryz.prog f (AV.I x :: AV.I y :: capt) [] (.I (c x y)) []) :
  zaj Tryz.prog zaE [.rs 0 0 n,.I a,.I b,.fn (.func f) [] capt] [⟨1,zah (A ++ M ++ B),0⟩] (.tup []) [some ⟨1,zah (A ++ ze6 c M ++ B),0⟩]:=by
 have hs2 : ∀ ρ sn h,capt.map (conv ρ sn h 2) = capt:=fun _ _ _=>hs _ _ _ 1
 have hs3 : ∀ ρ sn h,capt.map (conv ρ sn h 3) = capt:=fun _ _ _=>hs _ _ _ 2
 have hs4 : ∀ ρ sn h,capt.map (conv ρ sn h 4) = capt:=fun _ _ _=>hs _ _ _ 3
 refine zcn.acalls (nbz rfl) (nbz rfl) (nbz rfl) ?_
 show awp _ 1 _ _ ⟨53,[(0,.rs 0 0 n),(1,.I a),(2,.I b),(3,.fn (.func f) [] capt)],[(0,some ⟨1,zah (A ++ M ++ B),0⟩)],16⟩
 have hlen : a + (M.length + B.length) = n:=by
  simp only [List.length_append] at hn
  omega
 have hbn : b ≤ n:=by omega
 have hwa : IntKind.i64.wrap ((a : Int) + 1) = ((a + 1 : Nat) : Int):=by rw [w64 (by omega) (by omega)]; omega
 let Lk : Nat → List Int:=fun k=>A ++ ((zb3 c (M.take k)).reverse ++ (M.drop k ++ B))
 have hL1 : A ++ M ++ B = Lk 1:=by
  cases M with
  | nil=>simp [Lk,zb3]
  | cons m M=>simp [Lk,zpi]
 rw [hL1]
 refine zab ⟨53,[(0,.rs 0 0 n),(1,.I a),(2,.I b),(3,.fn (.func f) [] capt),(8,.I (a + 1 : Nat))],[(0,some ⟨1,zah (Lk 1),0⟩)],40⟩ rfl ?_ ?_
 ·simp [hwa]
  exact Le.keep rfl (Nat.le_refl _) (by simp) (by simp)
 refine zaf ?_
 refine zan (ι:=Nat) (fun k=>⟨53,[(0,.rs 0 0 n),(1,.I a),(2,.I b),(3,.fn (.func f) [] capt),(8,.I (a + k : Nat))],[(0,some ⟨1,zah (Lk k),0⟩)],40⟩) (fun k=>1 ≤ k ∧ k ≤ M.length + 1 ∧ (M.length ≤ k → zah (Lk k) = zah (A ++ ze6 c M ++ B))) (fun k=>M.length + 1 - k) 1 ?_ (Le.refl _ _) ?_
 ·refine ⟨Nat.le_refl _,by omega,fun h=>?_⟩
  simp only [Lk]
  rw [List.take_of_length_le h,List.drop_eq_nil_of_le h]
  simp [ze6]
 rintro k ⟨hk1,hk2,hk3⟩
 refine zaa ?_
 refine zab ⟨53,[(0,.rs 0 0 n),(1,.I a),(2,.I b),(3,.fn (.func f) [] capt),(8,.I (a + k : Nat)),(14,.B (decide (k < M.length)))],[(0,some ⟨1,zah (Lk k),0⟩)],64⟩ rfl ?_ ?_
 ·simp
  exact Le.keep rfl (Nat.le_refl _) (by simp <;> omega) (by simp)
 refine zad _ rfl (fun h=>zae ?_) fun h=>zak (hit ?_)
 ·simp only [decide_eq_true_eq] at h
  refine zat (ι:=Unit) (fun _=>⟨53,[(0,.rs 0 0 n),(1,.I a),(2,.I b),(3,.fn (.func f) [] capt),(8,.I (a + k : Nat))],[(0,some ⟨1,zah (Lk (k + 1)),0⟩)],64⟩) (fun _=>True) ?_ fun _ _=>?_
  ·have hx : M[k] ∈ M:=List.getElem_mem h
   have hdrop : M.drop k = M[k] :: M.drop (k + 1):=List.drop_eq_getElem_cons h
   have hsucc:=zjI c M k h
   generalize M[k] = x at *
   obtain ⟨D,hD⟩ : ∃ D,D = M.drop (k + 1) ++ B:=⟨_,rfl⟩
   obtain ⟨R,hR⟩ : ∃ R,R = zb3 c (M.take k):=⟨_,rfl⟩
   have hRm : ∀ y ∈ R,y ∈ M:=fun y hy=>by
    rw [hR] at hy
    exact List.mem_of_mem_take ((zd7 c _).mem_iff.1 hy)
   have hRl : R.length = k:=by rw [hR,zgH]; simp; omega
   have hDl : D.length + k + 1 = M.length + B.length:=by rw [hD]; simp; omega
   have hLk : Lk k = A ++ R.reverse ++ x :: D:=by simp only [Lk]; rw [hdrop,← hR,hD]; simp
   have hLk1 : Lk (k + 1) = A ++ (zcr c R x).reverse ++ D:=by simp only [Lk]; rw [hsucc,← hR,hD]; simp
   rw [hLk,hLk1]
   refine zaf ?_
   refine zab ⟨53,[(0,.rs 0 0 n),(1,.I a),(2,.I b),(3,.fn (.func f) [] capt),(8,.I (a + k : Nat)),(9,.I (a + k : Nat))],[(0,some ⟨1,zah (A ++ R.reverse ++ x :: D),0⟩)],80⟩ rfl ?_ ?_
   ·simp
    exact Le.keep rfl (Nat.le_refl _) (by simp) (by simp)
   refine zaf ?_
   let C : List Int × List Int → St:=fun p=>⟨53,[(0,.rs 0 0 n),(1,.I a),(2,.I b),(3,.fn (.func f) [] capt),(8,.I (a + k : Nat)),(9,.I (a + p.2.length : Nat))],[(0,some ⟨1,zah (A ++ p.2.reverse ++ x :: (p.1 ++ D)),0⟩)],80⟩
   refine zan C (fun p : List Int × List Int=>zcr c R x = p.1.reverse ++ zcr c p.2 x ∧ p.1.length + p.2.length = k ∧ ∀ y ∈ p.2,y ∈ M) (fun p : List Int × List Int=>p.2.length) ([],R) ⟨rfl,by simpa using hRl,hRm⟩ ?_ ?_
   ·simp only [C,hRl,List.nil_append]
    exact Le.refl _ _
   rintro ⟨U,V⟩ ⟨hins,hUV,hVm⟩
   simp only at hins hUV hVm
   match V,hins,hUV,hVm with
   | [],hins,hUV,hVm =>
     have hC : C (U,[]) = ⟨53,[(0,.rs 0 0 n),(1,.I a),(2,.I b),(3,.fn (.func f) [] capt),(8,.I (a + k : Nat)),(9,.I a)],[(0,some ⟨1,zah (A ++ x :: (U ++ D)),0⟩)],80⟩:=by simp [C]
     rw [hC]
     refine zaa ?_
     refine zaO ⟨53,[(0,.rs 0 0 n),(1,.I a),(2,.I b),(3,.fn (.func f) [] capt),(8,.I (a + k : Nat)),(34,.B false)],[(0,some ⟨1,zah (A ++ x :: (U ++ D)),0⟩)],216⟩ rfl ?_ ?_
     ·simp
      exact ⟨rfl,Le.keep rfl (Nat.le_refl _) (by simp) (by simp)⟩
     refine zad _ rfl (fun h=>by cases h) fun h=>zak (hit ?_)
     have e : A ++ x :: (U ++ D) = A ++ (zcr c R x).reverse ++ D:=by rw [hins]; simp [zcr]
     rw [← e]
     exact ⟨(),trivial,Le.np1 [] rfl (by simp) rfl (by simp) rfl (by simp [hs2,hs3,hs4])⟩
   | y :: V',hins,hUV,hVm =>
     obtain ⟨H,hH⟩ : ∃ H,H = A ++ V'.reverse:=⟨_,rfl⟩
     obtain ⟨T,hT⟩ : ∃ T,T = U ++ D:=⟨_,rfl⟩
     obtain ⟨q,hq⟩ : ∃ q,q = a + V'.length:=⟨_,rfl⟩
     obtain ⟨j,hj⟩ : ∃ j,j = q + 1:=⟨_,rfl⟩
     have hHl : H.length = q:=by rw [hH,hq]; simp; omega
     have hgl : (H ++ y :: x :: T).length = n:=by
      have e : (H ++ y :: x :: T).length = H.length + (T.length + 2):=by simp
      rw [e,hHl,hT,List.length_append]
      simp at hUV
      omega
     have hg1:=(zov (T:=T) (y:=y) (x:=x) hHl).1
     have hg2:=(zov (T:=T) (y:=y) (x:=x) hHl).2
     have hset:=zrX (T:=T) (y:=y) (x:=x) hHl
     rw [← hj] at hg2 hset
     have hC : C (U,y :: V') = ⟨53,[(0,.rs 0 0 n),(1,.I a),(2,.I b),(3,.fn (.func f) [] capt),(8,.I (a + k : Nat)),(9,.I j)],[(0,some ⟨1,zah (H ++ y :: x :: T),0⟩)],80⟩:=by
      simp [C,hH,hT,hj,hq,Nat.add_assoc]
     rw [hC]
     have hcy:=hc x hx y (hVm y List.mem_cons_self)
     have hjn : j < n:=by rw [← hgl,hj,← hHl]; simp
     have hwj : IntKind.i64.wrap ((j : Int) - 1) = (q : Int):=by rw [w64 (by omega) (by omega)]; omega
     have hqn : q < n:=by omega
     have haj : a < j:=by omega
     have hRl2 : (zah (H ++ y :: x :: T)).length = n:=by rw [zah,List.length_map,hgl]
     generalize hX : zah (H ++ y :: x :: T) = X at *
     have hflat : ∀ ρ sn h m,X.map (List.map (conv ρ sn h (m + 1))) = X:=fun ρ sn h m=>by rw [← hX]; simp [fcd]
     refine zaa ?_
     refine zaO ⟨53,[(0,.rs 0 0 n),(1,.I a),(2,.I b),(3,.fn (.func f) [] capt),(8,.I (a + k : Nat)),(9,.I j),(34,.B (decide (c x y < 0)))],[(0,some ⟨1,X,0⟩)],216⟩ rfl ?_ ?_
     ·simp [haj,hjn,hqn,hg1,hg2,hwj]
      refine zal hcy ?_ ?_
      ·simp [hs4]
      simp
      exact ⟨rfl,Le.keep rfl (Nat.le_refl _) (by simp) (by simp)⟩
     refine zad _ rfl (fun h5=>zae ?_) fun h5=>zak (hit ?_)
     ·simp only [decide_eq_true_eq] at h5
      have hg3 : (X.set j [AV.I y])[q]? = some [AV.I y]:=by
       rw [List.getElem?_set,if_neg (by omega)]
       exact hg1
      generalize hY : zah (H ++ x :: y :: T) = Y at hset
      refine zat (ι:=Unit) (fun _=>⟨53,[(0,.rs 0 0 n),(1,.I a),(2,.I b),(3,.fn (.func f) [] capt),(8,.I (a + k : Nat)),(9,.I j)],[(0,some ⟨1,Y,0⟩)],360⟩) (fun _=>True) ?_ fun _ _=>?_
      ·refine zaf ?_
       refine zcj rfl ?_
       simp [hjn,hqn,hg1,hg2,hg3,hwj,zbR]
       exact ⟨rfl,Le.keep rfl (Nat.le_refl _) (by simp) (by simp; exact hset)⟩
      refine zaC rfl ?_
      simp [hwj]
      refine ⟨y :: U,V',⟨?_,?_,?_⟩,?_,?_⟩
      ·rw [hins,zcr,if_pos h5]; simp
      ·simp at hUV ⊢; omega
      ·exact fun z hz=>hVm z (List.mem_cons_of_mem _ hz)
      ·simp
      ·have hC2 : C (y :: U,V') = ⟨53,[(0,.rs 0 0 n),(1,.I a),(2,.I b),(3,.fn (.func f) [] capt),(8,.I (a + k : Nat)),(9,.I q)],[(0,some ⟨1,Y,0⟩)],80⟩:=by rw [← hY]; simp [C,hH,hT,hq]
       rw [hC2]
       have hflat2 : ∀ ρ sn h m,Y.map (List.map (conv ρ sn h (m + 1))) = Y:=fun ρ sn h m=>by rw [← hY]; simp [fcd]
       exact Le.ents [(0,0)] [] rfl (by simp) (by simp) (by simp) (by simp) (by simp) (by simp [hs2,hs3,hs4]) fun p hp=>by
        simp at hp
        subst hp
        exact ⟨0,_,_,rfl,by simp,rfl,zaD.eq (by simp only [zaz,hflat2]) (by simp)⟩
     ·simp only [decide_eq_false_iff_not] at h5
      have e : H ++ y :: x :: T = A ++ (zcr c R x).reverse ++ D:=by rw [hins,zcr,if_neg h5,hH,hT]; simp
      rw [← e,hX]
      exact ⟨(),trivial,Le.ents [(0,0)] [] rfl (by simp) (by simp) (by simp) (by simp) (by simp) (by simp [hs2,hs3,hs4]) fun p hp=>by
       simp at hp
       subst hp
       exact ⟨0,_,_,rfl,by simp,rfl,zaD.eq (by simp only [zaz,hflat]) (by simp)⟩⟩
  have hwk : IntKind.i64.wrap (((a + k : Nat) : Int) + 1) = ((a + (k + 1) : Nat) : Int):=by rw [w64 (by omega) (by omega)]; omega
  refine zaC rfl ?_
  have hwk' : IntKind.i64.wrap ((a : Int) + (k : Int) + 1) = ((a + (k + 1) : Nat) : Int):=by rw [← hwk]; congr 1
  simp [hwk']
  refine ⟨k + 1,⟨by omega,by omega,fun h2=>?_⟩,by omega,?_⟩
  ·have he : M.length = k + 1:=by omega
   simp only [Lk]
   rw [List.take_of_length_le (by omega),List.drop_eq_nil_of_le (by omega)]
   simp [ze6]
  ·exact Le.np1 [] rfl (by simp) rfl (by simp) rfl (by simp [hs2,hs3,hs4])
 simp only [decide_eq_false_iff_not] at h
 rw [hk3 (by omega)]
 exact ⟨.inl rfl,⟨[],rfl,[],[],by simp [List.range,List.range.loop],by simp,by simp,by simp,by simp [List.range,List.range.loop,fcd]⟩⟩
set_option maxRecDepth 100000 in
theorem zo6 (f : FuncId) (capt : List AV) (c : Int → Int → Int) (l : List Int) (n : Nat) (hn : l.length = n) (hl : n < 20) (hs : zkh capt)
  (hc : ∀ x ∈ l,∀ y ∈ l,zaj Tryz.prog f (AV.I x :: AV.I y :: capt) [] (.I (c x y)) []) :
  zaj Tryz.prog zbg [.rs 0 0 n,.I n,.fn (.func f) [] capt] [⟨1,zah l,0⟩] (.tup []) [some ⟨1,zah (ze6 c l),0⟩]:=by
 have hs2 : ∀ ρ sn h,capt.map (conv ρ sn h 2) = capt:=fun _ _ _=>hs _ _ _ 1
 have hs3 : ∀ ρ sn h,capt.map (conv ρ sn h 3) = capt:=fun _ _ _=>hs _ _ _ 2
 have hs4 : ∀ ρ sn h,capt.map (conv ρ sn h 4) = capt:=fun _ _ _=>hs _ _ _ 3
 refine zdz.acalls (nbz rfl) (nbz rfl) (nbz rfl) ?_
 show awp _ 1 _ _ ⟨63,[(0,.rs 0 0 n),(1,.I n),(2,.fn (.func f) [] capt)],[(0,some ⟨1,zah l,0⟩)],16⟩
 have hins:=zkV f capt c [] l [] n 0 n (by simpa using hn) rfl (by simpa using hn) (by omega) hs hc
 simp only [List.nil_append,List.append_nil] at hins
 refine zaa ?_
 refine zac (s:=?s1) rfl ?o1 ?q1
 case o1=>simp; rfl
 refine zab ⟨63,[(0,.rs 0 0 n),(1,.I n),(2,.fn (.func f) [] capt),(6,.I 20),(7,.I 0),(8,.I 20)],[(0,some ⟨1,zah l,0⟩)],48⟩ rfl ?_ ?_
 ·simp
  exact Le.keep rfl (Nat.le_refl _) (by simp) (by simp)
 refine zaa ?_
 refine zaf ?_
 refine zan (ι:=Unit) (fun _=>⟨63,[(0,.rs 0 0 n),(1,.I n),(2,.fn (.func f) [] capt),(6,.I 20),(7,.I 0),(8,.I 20)],[(0,some ⟨1,zah l,0⟩)],48⟩) (fun _=>True) (fun _=>0) () trivial (Le.refl _ _) ?_
 intro _ _
 refine zaa ?_
 refine zab ⟨63,[(0,.rs 0 0 n),(1,.I n),(2,.fn (.func f) [] capt),(6,.I 20),(7,.I 0),(8,.I 20),(13,.B false)],[(0,some ⟨1,zah l,0⟩)],72⟩ rfl ?_ ?_
 ·simp
  exact Le.keep rfl (Nat.le_refl _) (by simp; omega) (by simp)
 refine zad _ rfl (fun h=>by cases h) fun _=>zak (hit ?_)
 refine zab ⟨63,[(1,.I n),(6,.I 20)],[(0,some ⟨1,zah (ze6 c l),0⟩)],112⟩ rfl ?_ ?_
 ·simp
  refine zbw (i:=0) rfl (e':=⟨1,zah l,0⟩) (by simp [fcd]) hins (by simp) ?_ ?_
  ·simp [hs2,hs3,hs4]
  simp [fcd]
  exact Le.keep rfl (Nat.le_refl _) (by simp) (by simp)
 refine zaf ?_
 refine zan (ι:=Unit) (fun _=>⟨63,[(1,.I n),(6,.I 20)],[(0,some ⟨1,zah (ze6 c l),0⟩)],112⟩) (fun _=>True) (fun _=>0) () trivial (Le.refl _ _) ?_
 intro _ _
 refine zaa ?_
 refine zab ⟨63,[(1,.I n),(6,.I 20),(30,.B false)],[(0,some ⟨1,zah (ze6 c l),0⟩)],136⟩ rfl ?_ ?_
 ·simp
  exact Le.keep rfl (Nat.le_refl _) (by simp; omega) (by simp)
 refine zad _ rfl (fun h=>by cases h) fun _=>zak (hit ?_)
 exact ⟨.inl rfl,⟨[],rfl,[],[],by simp [List.range,List.range.loop],by simp,by simp,by simp,by simp [List.range,List.range.loop,fcd]⟩⟩
theorem zjr (f : FuncId) (capt : List AV) (c : Int → Int → Int) (l : List Int) (n : Nat) (hn : l.length = n) (hl : n < 20) (hs : zkh capt)
  (hc : ∀ x ∈ l,∀ y ∈ l,zaj Tryz.prog f (AV.I x :: AV.I y :: capt) [] (.I (c x y)) []) :
  zaj Tryz.prog zaR [.rs 0 0 n,.fn (.func f) [] capt] [⟨1,zah l,0⟩] (.tup []) [some ⟨1,zah (ze6 c l),0⟩]:=by
 have hs2 : ∀ ρ sn h,capt.map (conv ρ sn h 2) = capt:=fun _ _ _=>hs _ _ _ 1
 have hs3 : ∀ ρ sn h,capt.map (conv ρ sn h 3) = capt:=fun _ _ _=>hs _ _ _ 2
 have hs4 : ∀ ρ sn h,capt.map (conv ρ sn h 4) = capt:=fun _ _ _=>hs _ _ _ 3
 refine zcy.acalls (nbz rfl) (nbz rfl) (nbz rfl) ?_
 show awp _ 1 _ _ ⟨9,[(0,.rs 0 0 n),(1,.fn (.func f) [] capt)],[(0,some ⟨1,zah l,0⟩)],16⟩
 refine zac (s:=?s1) rfl ?o1 ?q1
 case o1 =>
  simp
  refine zbw (i:=0) rfl (e':=⟨1,zah l,0⟩) (by simp [fcd]) (zo6 f capt c l n hn hl hs hc) (by simp) ?_ ?_
  ·simp [hs2,hs3,hs4]
  simp [fcd]
  rfl
 exact ⟨.inl rfl,⟨[],rfl,[],[],by simp [List.range,List.range.loop],by simp,by simp,by simp,by simp [List.range,List.range.loop,fcd]⟩⟩
theorem zlA (D : List Int) (k : Nat) (hk : k < D.length) : zaj Tryz.prog zbe [.I k,.pv [ints D]] [] (.B (decide (0 ≤ D.getD k 0))) []:=by
 refine zfU.acalls (nbz rfl) (nbz rfl) (Nat.le_refl _) ?_
 show awp _ 0 _ _ ⟨9,[(0,.I k),(1,.pv [ints D])],[],16⟩
 refine zaa ?_
 refine zac (s:=?s0) rfl ?o0 ?q0
 case o0=>simp; rfl
 refine zaa ?_
 refine zac (s:=?s1) rfl ?o1 ?q1
 case o1=>simp [hk]; rfl
 refine zag ?_
 exact ⟨.inr rfl,zam.one (by simp [hk])⟩
theorem zmo (D : List Int) (a b : Nat) (ha : a < D.length) (hb : b < D.length) : zaj Tryz.prog zbD [.I a,.I b,.pv [ints D]] [] (.I (cmpI (D.getD a 0) (D.getD b 0))) []:=by
 refine zfL.acalls (nbz rfl) (nbz rfl) (Nat.le_refl _) ?_
 show awp _ 0 _ _ ⟨15,[(0,.I a),(1,.I b),(2,.pv [ints D])],[],16⟩
 refine zaa ?_
 refine zac (s:=?s0) rfl ?o0 ?q0
 case o0=>simp; rfl
 refine zaa ?_
 refine zcU (s:=?s1) (tr:=?t1) rfl ?o1 ?r1 ?q1
 case o1=>simp [ha,hb]; refine zal (zga ..) rfl ?_; simp; constructor <;> rfl
 case r1=>rfl
 refine zag ?_
 exact ⟨.inr rfl,zam.one (by simp [ha,hb])⟩
variable {g : Gr} {S : List Int}
theorem zoA {k : Nat} (hk : k < g.size.toNat) : (zdc g S).getD k 0 = dist g S k:=by simp [zdc,List.getD,hk]
theorem zkb : (zdc g S).length = g.size.toNat:=by simp [zdc]
def Lt (g : Gr) (S : List Int) (a b : Int) : Prop:=dist g S a < dist g S b ∨ dist g S a = dist g S b ∧ a < b
def cD (g : Gr) (S : List Int) (a b : Int) : Int:=cmpI (dist g S a) (dist g S b)
def ordN (g : Gr) (S : List Int) : Nat → List Int
 | 0=>[]
 | m + 1=>ordN g S m ++ za6 g.size.toNat fun k=>decide (dist g S k = m)
def ordL (g : Gr) (S : List Int) : List Int:=ordN g S g.size.toNat
theorem zcW {n : Nat} {q : Int → Bool} {x : Int} : x ∈ za6 n q ↔ (0 ≤ x ∧ x < n) ∧ q x = true:=by
 unfold za6
 simp only [List.mem_filter,List.mem_map,List.mem_range]
 constructor
 ·rintro ⟨⟨i,hi,rfl⟩,h⟩
  exact ⟨⟨by omega,by omega⟩,h⟩
 ·rintro ⟨⟨h1,h2⟩,h⟩
  exact ⟨⟨x.toNat,by omega,by omega⟩,h⟩
theorem zhF (n : Nat) (q : Int → Bool) : (za6 n q).Pairwise (· < ·):=by
 unfold za6
 refine List.Pairwise.filter _ ?_
 rw [List.pairwise_map]
 exact List.pairwise_lt_range.imp fun h=>by omega
theorem zhd {m : Nat} {x : Int} : x ∈ ordN g S m ↔ (0 ≤ x ∧ x < g.size.toNat) ∧ 0 ≤ dist g S x ∧ dist g S x < m:=by
 induction m with
 | zero=>simp [ordN] <;> omega
 | succ m ih =>
   rw [ordN,List.mem_append,ih,zcW]
   simp only [decide_eq_true_eq]
   constructor
   ·rintro (⟨h1,h2,h3⟩ | ⟨h1,h2⟩)
    ·exact ⟨h1,h2,by omega⟩
    ·exact ⟨h1,by omega,by omega⟩
   ·rintro ⟨h1,h2,h3⟩
    by_cases h4 : dist g S x = m
    ·exact .inr ⟨h1,h4⟩
    ·exact .inl ⟨h1,h2,by omega⟩
theorem zko (m : Nat) : (ordN g S m).Pairwise (Lt g S):=by
 induction m with
 | zero=>exact .nil
 | succ m ih =>
   rw [ordN,List.pairwise_append]
   refine ⟨ih,?_,fun a ha b hb=>?_⟩
   ·refine (zhF _ _).imp_of_mem fun {a b} ha hb hab=>?_
    have h1:=(zcW.1 ha).2
    have h2:=(zcW.1 hb).2
    simp at h1 h2
    exact .inr ⟨by omega,hab⟩
   ·have h1:=zhd.1 ha
    have h2:=(zcW.1 hb).2
    simp at h2
    exact .inl (by omega)
theorem zrx {a b : Int} : cD g S a b < 0 ↔ dist g S a < dist g S b:=by
 simp only [cD,cmpI]
 grind
theorem zhM : ∀ (r : List Int) (x : Int),r.Pairwise (fun a b=>Lt g S b a) → (∀ y ∈ r,y < x) → (zcr (cD g S) r x).Pairwise fun a b=>Lt g S b a
 | [],x,_,_=>by simp [zcr]
 | y :: r,x,hp,hx=>by
   unfold zcr
   rw [List.pairwise_cons] at hp
   split
   ·rename_i h
    rw [zrx] at h
    rw [List.pairwise_cons]
    refine ⟨fun z hz=>?_,zhM r x hp.2 fun z hz=>hx z (List.mem_cons_of_mem _ hz)⟩
    have:=(zd6 (cD g S) r x).mem_iff.1 hz
    rcases List.mem_cons.1 this with rfl | hz
    ·exact .inl h
    ·exact hp.1 z hz
   ·rename_i h
    rw [zrx] at h
    rw [List.pairwise_cons,List.pairwise_cons]
    have hyx:=hx y List.mem_cons_self
    refine ⟨fun z hz=>?_,hp.1,hp.2⟩
    rcases List.mem_cons.1 hz with rfl | hz
    ·unfold Lt; omega
    ·have h1:=hp.1 z hz
     have h2:=hx z (List.mem_cons_of_mem _ hz)
     unfold Lt at *
     omega
theorem znv {l : List Int} (h : l.Pairwise (· < ·)) : (ze6 (cD g S) l).Pairwise (Lt g S):=by
 have key : ∀ (l acc : List Int),l.Pairwise (· < ·) → acc.Pairwise (fun a b=>Lt g S b a) → (∀ y ∈ acc,∀ x ∈ l,y < x) → (l.foldl (zcr (cD g S)) acc).Pairwise fun a b=>Lt g S b a:=by
  intro l
  induction l with
  | nil=>intro acc _ h _; exact h
  | cons x l ih =>
    intro acc hl hacc hlt
    rw [List.pairwise_cons] at hl
    refine ih _ hl.2 (zhM acc x hacc fun y hy=>hlt y hy x List.mem_cons_self) fun y hy z hz=>?_
    have:=(zd6 (cD g S) acc x).mem_iff.1 hy
    rcases List.mem_cons.1 this with rfl | hy
    ·exact hl.1 z hz
    ·exact hlt y hy z (List.mem_cons_of_mem _ hz)
 unfold ze6 zb3
 rw [List.pairwise_reverse]
 exact key l [] h .nil (by simp)
theorem zf1 {R : Int → Int → Prop} (hR : ∀ a b,R a b → ¬ R b a) : ∀ {l1 l2 : List Int},l1.Pairwise R → l2.Pairwise R → (∀ x,x ∈ l1 ↔ x ∈ l2) → l1 = l2
 | [],[],_,_,_=>rfl
 | [],b :: l2,_,_,h=>absurd ((h b).2 List.mem_cons_self) (by simp)
 | a :: l1,[],_,_,h=>absurd ((h a).1 List.mem_cons_self) (by simp)
 | a :: l1,b :: l2,h1,h2,h=>by
   rw [List.pairwise_cons] at h1 h2
   have hab : a = b:=by
    rcases List.mem_cons.1 ((h a).1 List.mem_cons_self) with e | ha
    ·exact e
    ·rcases List.mem_cons.1 ((h b).2 List.mem_cons_self) with e | hb
     ·exact e.symm
     ·exact absurd (h1.1 b hb) (hR _ _ (h2.1 a ha))
   subst hab
   congr 1
   refine zf1 hR h1.2 h2.2 fun x=>?_
   constructor
   ·intro hx
    rcases List.mem_cons.1 ((h x).1 (List.mem_cons_of_mem _ hx)) with rfl | hx2
    ·exact absurd (h1.1 x hx) (fun q=>hR _ _ q q)
    ·exact hx2
   ·intro hx
    rcases List.mem_cons.1 ((h x).2 (List.mem_cons_of_mem _ hx)) with rfl | hx2
    ·exact absurd (h2.1 x hx) (fun q=>hR _ _ q q)
    ·exact hx2
theorem zrd (hg : GrOk g) : ze6 (cD g S) (za6 g.size.toNat fun k=>decide (0 ≤ dist g S k)) = ordL g S:=by
 refine zf1 (R:=Lt g S) (fun a b h1 h2=>by unfold Lt at *; omega) (znv (zhF _ _)) (zko _) fun x=>?_
 have hp : x ∈ ze6 (cD g S) (za6 g.size.toNat fun k=>decide (0 ≤ dist g S k)) ↔ x ∈ za6 g.size.toNat fun k=>decide (0 ≤ dist g S k):=by
  unfold ze6
  rw [List.mem_reverse]
  exact (zd7 _ _).mem_iff
 rw [hp,zcW]
 have hm:=zhd (g:=g) (S:=S) (m:=g.size.toNat) (x:=x)
 unfold ordL
 rw [hm]
 simp only [decide_eq_true_eq]
 constructor
 ·rintro ⟨h1,h2⟩
  refine ⟨h1,h2,?_⟩
  rcases zpT hg (S:=S) (k:=x) ⟨h1.1,by omega⟩ with h | h <;> omega
 ·rintro ⟨h1,h2,_⟩
  exact ⟨h1,h2⟩
end Go.Proofs.YtfdbhehkkobfgaaGreat
