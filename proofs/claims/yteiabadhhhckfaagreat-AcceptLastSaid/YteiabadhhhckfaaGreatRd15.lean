/- Texts of this claim,merged. -/
import Derived.Test.YteiabadhhhckfaaGreatRd14
import Derived.Test.YteiabadhhhckfaaGreatRd7
set_option linter.unusedSimpArgs false
set_option linter.unusedVariables false
set_option linter.unusedSectionVars false
namespace Go.Proofs.YteiabadhhhckfaaGreat
open Go
theorem zmi (g : Gr) (p : Pol) : ∀ (n : Nat) (o : List Int),o.length = n → ∀ r ∈ refR g p o,r.2.length ≤ netN g
 | 0,o,h,r,hr=>by
   obtain rfl:=List.eq_nil_of_length_eq_zero h
   cases hr
 | n + 1,o,h,r,hr=>by
   have hne : o ≠ []:=fun e=>by rw [e] at h; cases h
   rw [← List.dropLast_concat_getLast hne] at hr
   have ih:=zmi g p n o.dropLast (by rw [List.length_dropLast,h]; rfl)
   by_cases hc : zaq g p (zaG (accR g p o.dropLast ++ [o.getLast hne]))
   ·rw [zen hc] at hr; exact ih r hr
   ·rw [zhr hc] at hr
    rcases List.mem_append.1 hr with h2 | h2
    ·exact ih r h2
    ·rw [List.mem_singleton] at h2
     rw [h2]
     exact zlI _ _
noncomputable abbrev accG (g : Gr) (p : Pol) : List Int:=accR g p (ordL (zai g p.lv) p.seeds)
noncomputable abbrev refG (g : Gr) (p : Pol) : List (Int × List Int):=refR g p (ordL (zai g p.lv) p.seeds)
theorem zh1 {g : Gr} (hg : GrOk g) (p : Pol) : (accG g p).length ≤ 64:=Nat.le_trans (znT _) (zkP hg p)
theorem zra {g : Gr} (hg : GrOk g) (p : Pol) : (refG g p).length ≤ 64:=Nat.le_trans (zkU _ _ _ _ rfl) (zkP hg p)
theorem zqe {g : Gr} (hg : GrOk g) (p : Pol) : ∀ r ∈ refG g p,r.2.length ≤ 130:=fun r hr=>by
 have h1:=zmi g p _ _ rfl r hr
 have h2:=zh5 hg
 have h3:=hg.1.2.1
 omega
theorem zqG {g : Gr} {p : Pol} {ks f : List Int} (hg : GrOk g) (hp : zbb g.size p) (hr : ∀ x ∈ ks,0 ≤ x ∧ x < g.size) (hs : p.seeds.length ≤ 64) (hl : ks.length ≤ 64) (hf : zmK g p ks f) : f.length ≤ 1200:=by
 have h1:=zgz hg hp hr hs hl
 have h2:=hf.ok.fit.len
 have h3:=h1.2.2.1
 simp only at h3
 omega
theorem zrk {g : Gr} (p : Pol) : ∀ x ∈ accG g p,0 ≤ x ∧ x < g.size:=fun x hx=>by
 have h:=zcP (zcb hx)
 exact h
theorem ztg : zaj Tryz.prog zg4 [] [] (.tup [eG gF,eP pF]) []:=by
 refine zoz.acalls (Nat.le_of_ble_eq_true rfl) (Nat.le_of_ble_eq_true rfl) (Nat.le_refl _) ?_
 show awp _ 0 _ _ ⟨9,[],[],16⟩
 refine rx (s:=?s1) [0,1] [16,24] [] rfl ?o1 ?q1
 case o1=>simp; rfl
 refine zab ⟨9,[(0,.pt 16 0 0),(1,.pt 24 0 0)],[(16,some ⟨3,[[.I 3,eEs [⟨0,1,1⟩,⟨0,2,1⟩],.nilS]],0⟩),(24,some ⟨3,[[ints [0],ints [2,1],.I 1]],0⟩)],300⟩ rfl ?_ ?_
 ·simp
  exact Le.go [(16,16),(24,24)] [48,64,72] rfl rfl (by simp) (by simp)
 refine zag ?_
 exact ⟨.inr rfl,zan.out [] [16,24] rfl (by simp) (by simp) (wkT2 (wkA3 (.refl _) (.refl _) (.nil _ _)) (wkA3 (.refl _) (.refl _) (.refl _))) (by simp)⟩
set_option maxRecDepth 100000 in
set_option maxHeartbeats 4000000 in
open Classical in
theorem zcm : zaj Tryz.prog za9 [] [] (.B true) []:=by
 obtain ⟨f,hf,hrun⟩:=zcZ gF pF zjK zlv (by decide) (by decide)
 have hchk:=zmG zjK zlv (by decide) hf
 have hcheck:=fun (R : List (Int × List Int)) (h1 : R.length ≤ 1000) (h2 : ∀ r ∈ R,r.2.length ≤ 140737488355328)=>ziH gF pF [0,1] f R zjK zlv (by decide) (by decide) (by decide) h1 (by have:=zqG zjK zlv (zhf (zd1 (zrk pF))) (by decide) (zeS _) hf; omega) h2
 have hrs:=zqe zjK pF
 unfold refG at hrs
 rw [zn9,ztK] at hrun hchk hf
 rw [zn9] at hrs
 obtain ⟨side,hside⟩:=ztz
 rw [hside] at hrun hchk hrs
 have hcheck:=hcheck [(2,side)] (by simp) (fun r hr=>by have:=hrs r hr; omega)
 rw [hchk] at hcheck
 have ha1:=zcF [0,1] f [(2,side)] 1 (by decide)
 have ha2:=zcF [0,1] f [(2,side)] 2 (by decide)
 rw [show decide ((1 : Int) ∈ [(0 : Int),1]) = true by decide] at ha1
 rw [show decide ((2 : Int) ∈ [(0 : Int),1]) = false by decide] at ha2
 have hs1:=zeF gF pF [0,2] zjK zlv (by decide) (by decide)
 have hs2:=zeF gF pF [0,1,2] zjK zlv (by decide) (by decide)
 have hy1 : zej gF pF [0,2]:=⟨zeP (by decide) (zqZ (by simp)),by decide,ztt⟩
 have hn1 : ¬ zej gF pF [0,1,2]:=fun h=>zln h.2.2
 rw [decide_eq_true hy1] at hs1
 rw [decide_eq_false hn1] at hs2
 refine zmI.acalls (Nat.le_of_ble_eq_true rfl) (Nat.le_of_ble_eq_true rfl) (Nat.le_refl _) ?_
 show awp _ 0 _ _ ⟨73,[],[],16⟩
 refine rx (s:=?s1) [] [] [] rfl ?o1 ?q1
 case o1=>simp; rfl
 refine zab ⟨73,[(1,.pv (gC gF)),(2,.pv (pC pF))],[],200⟩ rfl ?_ ?_
 ·simp
  refine zam ztg (by simp) ?_
  simp
  exact Le.go [] [56,64] rfl rfl (by simp) (by simp)
 refine zab ⟨73,[(1,.pv (gC gF)),(2,.pv (pC pF)),(3,.pv [ints [0,1],ints f,.vs 2 false (zaM [(2,side)])]),(4,.I 0)],[],400⟩ rfl ?_ ?_
 ·simp
  refine zam hrun (by simp) ?_
  simp
  exact Le.go [] [248] rfl rfl (by simp; exact .refl _) (by simp)
 refine zab ⟨73,[(0,.B true)],[],2000⟩ rfl ?_ ?_
 ·simp
  refine zam hcheck (by simp) ?_
  simp
  refine zam ha1 (by simp) ?_
  simp
  refine zam ha2 (by simp) ?_
  simp
  refine zhE [784] hs1 (by simp) (.sc _) ?_
  simp
  refine zhE [832] hs2 (by simp) (.sc _) ?_
  simp
  exact Le.go [] [] rfl rfl (by simp) (by simp)
 refine zag ?_
 exact ⟨.inr rfl,zan.one (by simp)⟩
variable {g : Gr} {p : Pol}
theorem zj0 (g : Gr) (p : Pol) : (accR g p (ordL (zai g p.lv) p.seeds)).Nodup:=(zbH _ _).sublist (zdG _ _ rfl)
theorem h64 (hg : GrOk g) {a : List Int} (h : ∀ x ∈ a,0 ≤ x ∧ x < g.size) : ∀ x ∈ a,0 ≤ x ∧ x < 64:=fun x hx=>by
 have:=h x hx
 have:=hg.1.2.1
 omega
variable {g : Gr} {p : Pol}
theorem zqr (w : Int → Int) (hw : ∀ x,0 ≤ w x) : ∀ {s a : List Int},s.Nodup → (∀ x ∈ s,x ∈ a) → (s.map w).sum ≤ (a.map w).sum
 | [],a,_,_=>by
   have : ∀ a : List Int,0 ≤ (a.map w).sum:=fun a=>by
    induction a with
    | nil=>exact Int.le_refl _
    | cons x a ih=>simp only [List.map_cons,List.sum_cons]; have:=hw x; omega
   exact this a
 | x :: s,a,hn,h=>by
   rw [List.nodup_cons] at hn
   have h1:=List.perm_cons_erase (h x (List.mem_cons_self ..))
   have ih:=zqr w hw (s:=s) (a:=a.erase x) hn.2 fun y hy=>(List.mem_erase_of_ne (by rintro rfl; exact hn.1 hy)).2 (h y (List.mem_cons_of_mem _ hy))
   have h2 : (a.map w).sum = ((x :: a.erase x).map w).sum:=by
    have hp : ∀ {a b : List Int},a.Perm b → (a.map w).sum = (b.map w).sum:=fun h=>by
     induction h with
     | nil=>rfl
     | cons x _ ih=>simp only [List.map_cons,List.sum_cons,ih]
     | swap x y l=>simp only [List.map_cons,List.sum_cons]; omega
     | trans _ _ i1 i2=>exact i1.trans i2
    exact hp h1
   rw [h2]
   simp only [List.map_cons,List.sum_cons]
   omega
variable {g : Gr} {p : Pol}
def zhP (p : Pol) (S : List Int) (k : Int) (e : Ed) : Bool:=decide (e.f = k) && (decide (p.lv ≤ e.v) && S.contains e.t)
def decv (g : Gr) (p : Pol) (S : List Int) (k : Int) : Bool:=g.edges.any (zhP p S k)
def totK (g : Gr) (p : Pol) (S : List Int) (k : Int) : Int:=if S.contains k && p.seeds.contains k then (zat g p).getD k.toNat 0 else if !S.contains k && decv g p S k then max 0 ((zat g p).getD k.toNat 0 - 1) else 0
def totB (g : Gr) (p : Pol) (S : List Int) (n : Nat) : Int:=((List.range n).map fun (i : Nat)=>totK g p S i).sum
theorem zit (S : List Int) (n : Nat) : totB g p S (n + 1) = totB g p S n + totK g p S n:=by
 unfold totB
 rw [List.range_succ,List.map_append,List.sum_append]
 simp
theorem zga {α : Type} {q : α → Bool} {f w : α → Int} : ∀ {l : List α},(∀ x ∈ l,q x = true → f x ≤ w x) → (∀ x ∈ l,0 ≤ w x) → ((l.filter q).map f).sum ≤ (l.map w).sum
 | [],_,_=>Int.le_refl _
 | x :: l,h1,h2=>by
   have ih:=zga (l:=l) (q:=q) (f:=f) (w:=w) (fun y hy=>h1 y (List.mem_cons_of_mem _ hy)) fun y hy=>h2 y (List.mem_cons_of_mem _ hy)
   have h3:=h2 x (List.mem_cons_self ..)
   have h4:=h1 x (List.mem_cons_self ..)
   rw [List.filter_cons]
   by_cases hq : q x = true
   ·rw [if_pos hq]
    have:=h4 hq
    simp only [List.map_cons,List.sum_cons]
    omega
   ·rw [if_neg hq]
    simp only [List.map_cons,List.sum_cons]
    omega
theorem zis {α : Type} (f w : α → Int) : ∀ l : List α,(l.map fun x=>f x + w x).sum = (l.map f).sum + (l.map w).sum
 | []=>rfl
 | x :: l=>by
   have:=zis f w l
   simp only [List.map_cons,List.sum_cons,this]
   omega
def zeL (g : Gr) (p : Pol) (S : List Int) (x : Int) : Bool :=
 decide (x = 0) || (decide (2 ≤ x) && (if x % 2 = 0 then !S.contains ((x - 2) / 2) else !S.contains ((x - 3) / 2) && !decv g p S ((x - 3) / 2)))
theorem zh9 {S : List Int} {k : Int} (h : 0 ≤ k) : zeL g p S (2 + 2 * k) = !S.contains k:=by
 unfold zeL
 rw [decide_eq_false (by omega),decide_eq_true (by omega),if_pos (by omega),show (2 + 2 * k - 2) / 2 = k by omega]
 rfl
theorem zlJ {S : List Int} {k : Int} (h : 0 ≤ k) : zeL g p S (3 + 2 * k) = (!S.contains k && !decv g p S k):=by
 unfold zeL
 rw [decide_eq_false (by omega),decide_eq_true (by omega),if_neg (by omega),show (3 + 2 * k - 3) / 2 = k by omega]
 rfl
theorem ztx (hg : GrOk g) (hp : zbb g.size p) (S : List Int) : zio g p (zeL g p S) ≤ totB g p S g.size.toNat:=by
 have hcn:=zeT (g:=g) hp
 have hc0 : ∀ x : Int,0 ≤ (zat g p).getD x.toNat 0:=fun x=>by
  rw [List.getD_eq_getElem?_getD]
  cases hh : (zat g p)[x.toNat]? with
  | none=>simp
  | some v=>exact hcn v (List.mem_of_getElem? hh)
 obtain ⟨wA,hwA⟩ : ∃ wA : Int → Int,∀ k,wA k = if S.contains k && p.seeds.contains k then (zat g p).getD k.toNat 0 else 0:=⟨_,fun _=>rfl⟩
 obtain ⟨wB,hwB⟩ : ∃ wB : Int → Int,∀ k,wB k = if !S.contains k && decv g p S k then max 0 ((zat g p).getD k.toNat 0 - 1) else 0:=⟨_,fun _=>rfl⟩
 have hwA0 : ∀ k,0 ≤ wA k:=fun k=>by
  have:=hc0 k
  rw [hwA]; split <;> omega
 have hwB0 : ∀ k,0 ≤ wB k:=fun k=>by
  rw [hwB]; split <;> omega
 have htot : ∀ k,totK g p S k = wA k + wB k:=fun k=>by
  unfold totK
  rw [hwA,hwB]
  cases S.contains k <;> cases p.seeds.contains k <;> simp
 have hsum : totB g p S g.size.toNat = (((List.range g.size.toNat).map fun (i : Nat)=>(i : Int)).map wA).sum + ((List.range g.size.toNat).map fun (i : Nat)=>wB (i : Int)).sum:=by
  unfold totB
  rw [List.map_map,← zis]
  congr 1
  exact List.map_congr_left fun x _=>htot _
 have hcl : (zat g p).length = g.size.toNat:=zaT
 unfold zio
 simp only [zgi,netA,za1,List.map_append,List.sum_append,List.map_map,List.filter_nil,List.map_nil,List.sum_nil]
 have hs0 : ∀ x ∈ p.seeds,0 ≤ x ∧ x < g.size:=fun x hx=>by have:=hp.2.1.nodup.2 x hx; omega
 have h1 : ((p.seeds.filter fun x=>decide (0 < (zat g p).getD x.toNat 0)).map ((fun e : Ed=>if zeL g p S e.f = true ∧ zeL g p S e.t = false then e.v else 0) ∘ fun x : Int=>(⟨0,2 + 2 * x,(zat g p).getD x.toNat 0⟩ : Ed))).sum ≤ (((List.range g.size.toNat).map fun (i : Nat)=>(i : Int)).map wA).sum:=by
  have e1 : ((p.seeds.filter fun x=>decide (0 < (zat g p).getD x.toNat 0)).map ((fun e : Ed=>if zeL g p S e.f = true ∧ zeL g p S e.t = false then e.v else 0) ∘ fun x : Int=>(⟨0,2 + 2 * x,(zat g p).getD x.toNat 0⟩ : Ed))) = (p.seeds.filter fun x=>decide (0 < (zat g p).getD x.toNat 0)).map wA:=by
   refine List.map_congr_left fun x hx=>?_
   have hx1:=(List.mem_filter.1 hx).1
   have h2:=(hs0 x hx1).1
   have h3 : p.seeds.contains x = true:=List.contains_iff_mem.2 hx1
   simp only [Function.comp]
   rw [hwA,h3,zh9 h2,show zeL g p S 0 = true from rfl]
   cases S.contains x <;> simp
  rw [e1]
  refine zqr wA hwA0 ((zdM hp.2.1.pair).filter _) fun x hx=>?_
  have h2:=hs0 x (List.mem_filter.1 hx).1
  exact List.mem_map.2 ⟨x.toNat,List.mem_range.2 (by omega),by omega⟩
 have h2 : (((List.range (zat g p).length).filter fun i=>decide (0 < (zat g p).getD i 0)).map ((fun e : Ed=>if zeL g p S e.f = true ∧ zeL g p S e.t = false then e.v else 0) ∘ fun i : Nat=>(⟨2 + 2 * (i : Int),3 + 2 * (i : Int),(zat g p).getD i 0 - 1⟩ : Ed))).sum ≤ ((List.range g.size.toNat).map fun (i : Nat)=>wB (i : Int)).sum:=by
  rw [hcl]
  refine zga (fun i hi hq=>?_) fun i _=>hwB0 _
  simp only [Function.comp]
  rw [hwB,zh9 (by omega),zlJ (by omega),Int.toNat_natCast]
  cases S.contains (i : Int) <;> cases decv g p S (i : Int) <;> simp <;> omega
 have h3 : (((zai g p.lv).edges.filter fun e=>decide (0 < (zat g p).getD e.f.toNat 0)).map ((fun e : Ed=>if zeL g p S e.f = true ∧ zeL g p S e.t = false then e.v else 0) ∘ fun e : Ed=>(⟨3 + 2 * e.f,2 + 2 * e.t,64⟩ : Ed))).sum ≤ 0:=by
  have e1 : ∀ l : List Ed,(∀ e ∈ l,e ∈ (zai g p.lv).edges) → (l.map ((fun e : Ed=>if zeL g p S e.f = true ∧ zeL g p S e.t = false then e.v else 0) ∘ fun e : Ed=>(⟨3 + 2 * e.f,2 + 2 * e.t,64⟩ : Ed))).sum ≤ 0:=by
   intro l
   induction l with
   | nil=>intro _; exact Int.le_refl _
   | cons e l ih =>
     intro h
     have ih:=ih fun y hy=>h y (List.mem_cons_of_mem _ hy)
     have he:=List.mem_filter.1 (h e (List.mem_cons_self ..))
     have hf:=hg.fits e he.1
     have hlv : p.lv ≤ e.v:=by have:=he.2; simp at this; omega
     unfold Fits at hf
     simp only [List.map_cons,List.sum_cons,Function.comp] at ih ⊢
     rw [zh9 (by omega),zlJ (by omega)]
     have hno : ¬ ((!S.contains e.f && !decv g p S e.f) = true ∧ (!S.contains e.t) = false):=by
      rintro ⟨a,b⟩
      simp only [Bool.and_eq_true,Bool.not_eq_true',Bool.not_eq_false'] at a b
      have hd : decv g p S e.f = true:=by
       unfold decv
       rw [List.any_eq_true]
       exact ⟨e,he.1,by unfold zhP; rw [decide_eq_true rfl,decide_eq_true hlv,b]; rfl⟩
      rw [hd] at a
      exact absurd a.2 (by simp)
     rw [if_neg hno]
     omega
  exact e1 _ fun e he=>(List.mem_filter.1 he).1
 omega
theorem zl6 (hg : GrOk g) (hp : zbb g.size p) {a : List Int} (hk : zbf g p a) (ha : zaq g p a) (S : List Int) : ((a.filter fun x=>S.contains x).length : Int) ≤ totB g p S g.size.toNat:=by
 have hsub : (a.filter fun x=>S.contains x).Sublist a:=List.filter_sublist
 have h1:=ha.sublist hg hp hk hsub
 have hk1 : zbf g p (a.filter fun x=>S.contains x):=hk.sub fun x hx=>hsub.subset hx
 have h2:=(zbP hg hp hk1).1 h1 (zeL g p S) rfl rfl
 rw [zj4 fun k hk2=>by
  have h3:=List.mem_filter.1 hk2
  have h4:=hk.rng k h3.1
  rw [zh9 h4.1,h3.2]
  rfl] at h2
 have:=ztx hg hp S
 omega
theorem zgR (hp : zbb g.size p) (S : List Int) (k : Nat) : 0 ≤ totK g p S k ∧ totK g p S k ≤ 1000:=by
 have hcb:=zec (g:=g) hp
 have hc : 0 ≤ (zat g p).getD k 0 ∧ (zat g p).getD k 0 ≤ 1000:=by
  rw [List.getD_eq_getElem?_getD]
  cases hh : (zat g p)[k]? with
  | none=>simp
  | some v=>have:=hcb v (List.mem_of_getElem? hh); exact this
 unfold totK
 rw [Int.toNat_natCast]
 split
 ·exact hc
 ·split <;> omega
theorem zgZ (hp : zbb g.size p) (S : List Int) : ∀ n : Nat,0 ≤ totB g p S n ∧ totB g p S n ≤ 1000 * n
 | 0=>⟨Int.le_refl _,Int.le_refl _⟩
 | n + 1=>by
   have h1:=zgZ hp S n
   have h2:=zgR (g:=g) hp S n
   rw [zit]
   omega
variable {g : Gr} {p : Pol}
def sv (A : List Ed) : List Int:=(A.filter fun e=>decide (e.t = 1)).map fun e=>(e.f - 2) / 2
theorem zqO (hg : GrOk g) (hp : zbb g.size p) (hs : p.seeds.length ≤ 64) {o : List Int} (hon : o.Nodup) (hok : zbf g p o) (i : Nat) : zaq g p (zaG (accR g p (o.take i))) :=
 (zm7 hg hp hs _ (o.take i) rfl (hon.sublist (List.take_sublist _ _)) (hok.sub fun _ hx=>List.mem_of_mem_take hx)).1
def cntS (S a : List Int) (i : Nat) : Nat:=((a.take i).filter fun x=>S.contains x).length
theorem zpt (S a : List Int) (i : Nat) : cntS S a i ≤ a.length:=Nat.le_trans (List.length_filter_le ..) (List.length_take_le' ..)
theorem zqL {S a : List Int} {i : Nat} (h : i < a.length) : cntS S a (i + 1) = if S.contains a[i] = true then cntS S a i + 1 else cntS S a i:=by
 unfold cntS
 rw [List.take_succ_eq_append_getElem h,List.filter_append]
 by_cases hc : S.contains a[i] = true
 ·rw [if_pos hc]
  simp only [List.filter_cons,hc]
  simp
 ·rw [if_neg hc]
  simp only [List.filter_cons,hc]
  simp
theorem zlK {l : List Ed} {q : Ed → Bool} {j : Nat} (h : j < l.length) : (l.take (j + 1)).any q = ((l.take j).any q || q l[j]):=by
 rw [List.take_succ_eq_append_getElem h,List.any_append]
 simp
set_option maxRecDepth 100000 in
set_option maxHeartbeats 4000000 in
theorem zfv (L : List Int) : zaj Tryz.prog zdD [ints L] [] (.B true) []:=by
 refine zgf.acalls (Nat.le_of_ble_eq_true rfl) (Nat.le_of_ble_eq_true rfl) (Nat.le_refl _) ?_
 show awp _ 0 _ _ ⟨133,[(0,ints L)],[],16⟩
 have hlight:=zlb L
 refine rx (s:=?s1) [0] [] [] rfl ?o1 ?q1
 case o1=>simp; rfl
 refine zaa ?_
 refine zab ⟨133,[(0,ints L),(19,.B (!decide (L.length ≤ 400)))],[],100⟩ rfl ?_ ?_
 ·simp
  refine zam hlight (by simp) ?_
  simp
  exact Le.go [] [] rfl rfl (by simp <;> exact wkB (by rw [Bool.eq_iff_iff]; simp)) (by simp)
 refine zad _ rfl (fun h3=>?_) fun h3=>?_
 ·refine rx (s:=?s4) [2] [] [] rfl ?o4 ?q4
  case o4=>simp; refine zam zcm (by simp) ?_; simp; rfl
  refine zag ?_
  exact ⟨.inr rfl,zan.one (by simp)⟩
 have h3 : L.length ≤ 400:=by simpa using h3
 obtain ⟨g,b1,⟨hg,hg2,hg9,hb1⟩,hcg⟩:=zqk L h3
 obtain ⟨⟨p,b2⟩,⟨hp1,hp2,hp3,hb2⟩,hcp⟩:=zk1 L b1 g h3 hb1 (by omega) (by omega)
 simp only at hp1 hp2 hp3 hb2 hcp
 have hel:=hg.edges_le
 have hgl:=hg.gone_le
 refine zae ?_
 refine zab ⟨133,[(3,.pt 20 0 0)],[(20,some (dice L 0))],200⟩ rfl ?_ ?_
 ·simp
  refine za3 (znj L) (by simp) ?_
  simp
  exact Le.go [(108,20)] [] rfl rfl (by simp) (by simp)
 refine zab ⟨133,[(3,.pt 20 0 0),(4,.pv (gC g))],[(20,some (dice L b1))],300⟩ rfl ?_ ?_
 ·simp
  refine zba (i:=20) rfl (e':=dice L 0) (by simp) hcg (by simp) (by simp) ?_
  simp
  exact Le.go [(20,20)] [216] rfl rfl (by simp) (by simp)
 refine zab ⟨133,[(3,.pt 20 0 0),(4,.pv (gC g)),(5,.pv (pC p))],[(20,some (dice L b2))],400⟩ rfl ?_ ?_
 ·simp
  refine zba (i:=20) rfl (e':=dice L b1) (by simp) hcp (by simp) (by simp) ?_
  simp
  exact Le.go [(20,20)] [324] rfl rfl (by simp) (by simp)
 obtain ⟨fl,hfl,hrun⟩:=zcZ g p hg hp1 (by omega) (by omega)
 have hsz:=hg.1.1
 have hsz2:=hg.1.2.1
 have hal:=zh1 hg p
 have hrl:=zra hg p
 have hok:=zfm hg hp1
 have hsome:=zpL L b2 g.size.toNat h3 hb2 (by omega)
 have hSl:=zgr (L:=L) (a:=b2) g.size.toNat
 have hcan:=zqO (g:=g) (p:=p) hg hp1 (by omega) (zbH _ _) hok (ordL (zai g p.lv) p.seeds).length
 rw [List.take_length] at hcan
 have hakr : zbf g p (accR g p (ordL (zai g p.lv) p.seeds)):=hok.sub fun x hx=>zcb hx
 have hacn:=zj0 g p
 have hcb:=zec (g:=g) hp1
 have hcl : (zat g p).length = g.size.toNat:=zaT
 have hcap:=zhw g p hg (by omega)
 simp only [accG,refG] at hal hrl
 rw [show ((g.size.toNat : Nat) : Int) = g.size by omega] at hsome
 obtain ⟨b3,hb3⟩ : ∃ b3,b3 = (zcv L b2 g.size.toNat).2:=⟨_,rfl⟩
 obtain ⟨S,hS⟩ : ∃ S,S = (zcv L b2 g.size.toNat).1:=⟨_,rfl⟩
 rw [← hb3,← hS] at hsome
 rw [← hS] at hSl
 obtain ⟨acc,hacc⟩ : ∃ acc,acc = accR g p (ordL (zai g p.lv) p.seeds):=⟨_,rfl⟩
 obtain ⟨R,hR⟩ : ∃ R,R = refR g p (ordL (zai g p.lv) p.seeds):=⟨_,rfl⟩
 rw [← hacc,← hR] at hrun
 rw [← hacc] at hal hcan hakr hacn
 have hbound:=zl6 hg hp1 hakr (hcan.perm hg hp1 hakr.join (zgM hacn (h64 hg hakr.rng)).symm) S
 have htr:=zgZ (g:=g) hp1 S
 have htk:=zgR (g:=g) hp1 S
 have htn : ∀ k : Nat,k < (zat g p).length → totK g p S k = if S.contains (k : Int) && p.seeds.contains (k : Int) then (zat g p).getD k 0 else if !S.contains (k : Int) && decv g p S k then max 0 ((zat g p).getD k 0 - 1) else 0:=fun k _=>rfl
 rw [← hcl] at hcap
 obtain ⟨C,hC⟩ : ∃ C,C = zat g p:=⟨_,rfl⟩
 rw [← hC] at hcap hcl hcb
 simp only [← hC] at htn
 have hCt : ∀ h : Int → List AV,List.take C.length (List.map h C) = List.map h C:=fun h=>List.take_of_length_le (by simp)
 have hhasS:=fun k=>zf2 S k (by omega)
 have hhasP:=fun k=>zf2 p.seeds k (by omega)
 refine zab ⟨133,[(4,.pv (gC g)),(5,.pv (pC p)),(6,ints S)],[],500⟩ rfl ?_ ?_
 ·simp
  refine zba (i:=20) rfl (e':=dice L b2) (by simp) hsome (by simp) (by simp) ?_
  simp
  exact Le.go [] [424] rfl rfl (by simp [fcd,zal]) (by simp)
 refine zab ⟨133,[(4,.pv (gC g)),(5,.pv (pC p)),(6,ints S),(7,.pv [ints acc,ints fl,.vs 2 false (zaM R)]),(8,.I 0)],[],600⟩ rfl ?_ ?_
 ·simp
  refine zam hrun (by simp) ?_
  simp
  exact Le.go [] [548] rfl rfl (by simp) (by simp)
 refine zaa ?_
 refine zab ⟨133,[(4,.pv (gC g)),(5,.pv (pC p)),(6,ints S),(7,.pv [ints acc,ints fl,.vs 2 false (zaM R)]),(8,.I 0),(39,.B false)],[],700⟩ rfl ?_ ?_
 ·simp
  exact Le.go [] [] rfl rfl (by simp) (by simp)
 refine zad _ rfl (fun h=>by cases h) fun _=>?_
 refine zae ?_
 refine zab ⟨133,[(4,.pv (gC g)),(5,.pv (pC p)),(6,ints S),(7,.pv [ints acc,ints fl,.vs 2 false (zaM R)]),(9,.I 0)],[],800⟩ rfl ?_ ?_
 ·simp
  exact Le.go [] [] rfl rfl (by simp) (by simp)
 refine zaa ?_
 refine zab ⟨133,[(4,.pv (gC g)),(5,.pv (pC p)),(6,ints S),(7,.pv [ints acc,ints fl,.vs 2 false (zaM R)]),(9,.I 0),(10,.I 0)],[],900⟩ rfl ?_ ?_
 ·simp
  exact Le.go [] [] rfl rfl (by simp) (by simp)
 refine zaf ?_
 refine zap (ι:=Nat) (fun i=>⟨133,[(4,.pv (gC g)),(5,.pv (pC p)),(6,ints S),(7,.pv [ints acc,ints fl,.vs 2 false (zaM R)]),(9,.I (cntS S acc i)),(10,.I i)],[],1000⟩) (fun i=>i ≤ acc.length) (fun i=>acc.length - i) 0 (Nat.zero_le _) (Le.go [] [] rfl rfl (by simp [cntS]) (by simp)) ?_
 intro i hi
 refine zaa ?_
 refine zab ⟨133,[(4,.pv (gC g)),(5,.pv (pC p)),(6,ints S),(7,.pv [ints acc,ints fl,.vs 2 false (zaM R)]),(9,.I (cntS S acc i)),(10,.I i),(44,.B (decide (i < acc.length)))],[],1100⟩ rfl ?_ ?_
 ·simp
  exact Le.go [] [] rfl rfl (by simp) (by simp)
 refine zad _ rfl (fun h13=>?_) fun h13=>?_
 ·simp at h13
  have hw1 : IntKind.i64.wrap ((i : Int) + 1) = (i : Int) + 1:=w64 (by omega) (by omega)
  have hcle:=zpt S acc i
  have hw2 : IntKind.i64.wrap ((cntS S acc i : Int) + 1) = (cntS S acc i : Int) + 1:=w64 (by omega) (by omega)
  have hcs:=zqL (S:=S) h13
  refine zae ?_
  refine zaI (ι:=Unit) (fun _=>⟨133,[(4,.pv (gC g)),(5,.pv (pC p)),(6,ints S),(7,.pv [ints acc,ints fl,.vs 2 false (zaM R)]),(9,.I (cntS S acc (i + 1))),(10,.I i)],[],2000⟩) (fun _=>True) ?_ fun _ _=>?_
  ·refine zaf ?_
   refine zab ⟨133,[(4,.pv (gC g)),(5,.pv (pC p)),(6,ints S),(7,.pv [ints acc,ints fl,.vs 2 false (zaM R)]),(9,.I (cntS S acc i)),(10,.I i),(53,.B (S.contains acc[i]))],[],1200⟩ rfl ?_ ?_
   ·simp [h13]
    refine zam (hhasS acc[i]) (by simp) ?_
    simp
    exact Le.go [] [] rfl rfl (by simp) (by simp)
   refine zad _ rfl (fun h20=>?_) fun h20=>?_
   ·rw [if_pos h20] at hcs
    refine zar rfl ?_
    simp
    exact Le.go [] [] rfl rfl (by simp [hw2,hcs]) (by simp)
   ·rw [if_neg (by rw [h20]; simp)] at hcs
    refine zae ?_
    exact ⟨(),trivial,Le.go [] [] rfl rfl (by simp [hcs]) (by simp)⟩
  refine zar rfl ?_
  simp
  exact ⟨i + 1,by omega,by omega,Le.go [] [] rfl rfl (by simp [hw1]) (by simp)⟩
 simp at h13
 obtain rfl : i = acc.length:=by omega
 have hcle:=zpt S acc acc.length
 have hcnt : (cntS S acc acc.length : Int) ≤ totB g p S g.size.toNat:=by unfold cntS; rw [List.take_length]; exact hbound
 obtain ⟨n,hn⟩ : ∃ n,n = cntS S acc acc.length:=⟨_,rfl⟩
 rw [← hn] at hcnt
 rw [← hn]
 refine zao ?_
 refine hit ?_
 refine zab ⟨133,[(4,.pv (gC g)),(5,.pv (pC p)),(6,ints S),(9,.I n),(11,ints C),(12,.I 0)],[],1200⟩ rfl ?_ ?_
 ·simp
  refine za3 hcap (by simp) ?_
  simp
  exact Le.go [] [1116] rfl rfl (by simp [fcd,hCt]) (by simp)
 refine zaa ?_
 refine zab ⟨133,[(4,.pv (gC g)),(5,.pv (pC p)),(6,ints S),(9,.I n),(11,ints C),(12,.I 0),(13,.I 0)],[],1300⟩ rfl ?_ ?_
 ·simp
  exact Le.go [] [] rfl rfl (by simp) (by simp)
 refine zaf ?_
 refine zap (ι:=Nat) (fun k=>⟨133,[(4,.pv (gC g)),(5,.pv (pC p)),(6,ints S),(9,.I n),(11,ints C),(12,.I (totB g p S k)),(13,.I k)],[],1400⟩) (fun k=>k ≤ g.size.toNat) (fun k=>g.size.toNat - k) 0 (Nat.zero_le _) (Le.go [] [] rfl rfl (by simp [totB]) (by simp)) ?_
 intro k hk
 refine zaa ?_
 refine zab ⟨133,[(4,.pv (gC g)),(5,.pv (pC p)),(6,ints S),(9,.I n),(11,ints C),(12,.I (totB g p S k)),(13,.I k),(62,.B (decide (k < g.size.toNat)))],[],1500⟩ rfl ?_ ?_
 ·simp
  exact Le.go [] [] rfl rfl (by simp <;> exact wkB (by rw [Bool.eq_iff_iff]; simp <;> omega)) (by simp)
 refine zad _ rfl (fun h13=>?_) fun h13=>?_
 ·simp at h13
  have hw1 : IntKind.i64.wrap ((k : Int) + 1) = (k : Int) + 1:=w64 (by omega) (by omega)
  have hkC : k < C.length:=by omega
  have hts:=zit (g:=g) (p:=p) S k
  have htn:=htn k hkC
  have htr1:=htr k
  have hcc:=hcb C[k] (List.getElem_mem hkC)
  have hgd : C.getD k 0 = C[k]:=by rw [List.getD_eq_getElem?_getD,List.getElem?_eq_getElem hkC]; rfl
  rw [hgd] at htn
  obtain ⟨c,hce⟩ : ∃ c,c = C[k]:=⟨_,rfl⟩
  rw [← hce] at htn hcc
  obtain ⟨sb,hsb⟩ : ∃ sb : Bool,sb = S.contains (k : Int):=⟨_,rfl⟩
  obtain ⟨db,hdb⟩ : ∃ db : Bool,db = p.seeds.contains (k : Int):=⟨_,rfl⟩
  have hhs:=hhasS k
  have hhp:=hhasP k
  rw [← hsb] at hhs htn
  rw [← hdb] at hhp htn
  obtain ⟨N,hN⟩ : ∃ N : Nat → Bool,∀ j,N j = (g.edges.take j).any (zhP p S k):=⟨_,fun _=>rfl⟩
  have hN0 : N 0 = false:=by rw [hN]; simp
  have hNe : N g.edges.length = decv g p S k:=by rw [hN,List.take_length]; rfl
  have hNs : ∀ (j : Nat) (h14 : j < g.edges.length),N (j + 1) = (N j || zhP p S k g.edges[j]):=fun j h14=>by rw [hN,hN,zlK h14]
  rw [← hNe] at htn
  obtain ⟨T,hT⟩ : ∃ T,T = totB g p S k:=⟨_,rfl⟩
  rw [← hT] at hts htr1
  rw [← hT]
  refine zae ?_
  refine zaI (ι:=Unit) (fun _=>⟨133,[(4,.pv (gC g)),(5,.pv (pC p)),(6,ints S),(9,.I n),(11,ints C),(12,.I (totB g p S (k + 1))),(13,.I k)],[],4000⟩) (fun _=>True) ?_ fun _ _=>?_
  ·refine zaf ?_
   refine zab ⟨133,[(4,.pv (gC g)),(5,.pv (pC p)),(6,ints S),(9,.I n),(11,ints C),(12,.I T),(13,.I k),(14,.B false)],[],1600⟩ rfl ?_ ?_
   ·simp
    exact Le.go [] [] rfl rfl (by simp) (by simp)
   refine zaa ?_
   refine zab ⟨133,[(4,.pv (gC g)),(5,.pv (pC p)),(6,ints S),(9,.I n),(11,ints C),(12,.I T),(13,.I k),(14,.B false),(15,.I 0)],[],1700⟩ rfl ?_ ?_
   ·simp
    exact Le.go [] [] rfl rfl (by simp) (by simp)
   refine zaf ?_
   refine zap (ι:=Nat) (fun j=>⟨133,[(4,.pv (gC g)),(5,.pv (pC p)),(6,ints S),(9,.I n),(11,ints C),(12,.I T),(13,.I k),(14,.B (N j)),(15,.I j)],[],1800⟩) (fun j=>j ≤ g.edges.length) (fun j=>g.edges.length - j) 0 (Nat.zero_le _) (Le.go [] [] rfl rfl (by simp [hN0]) (by simp)) ?_
   intro j hj
   refine zaa ?_
   refine zab ⟨133,[(4,.pv (gC g)),(5,.pv (pC p)),(6,ints S),(9,.I n),(11,ints C),(12,.I T),(13,.I k),(14,.B (N j)),(15,.I j),(69,.B (decide (j < g.edges.length)))],[],1900⟩ rfl ?_ ?_
   ·simp
    exact Le.go [] [] rfl rfl (by simp) (by simp)
   refine zad _ rfl (fun h14=>?_) fun h14=>?_
   ·simp at h14
    have hw2 : IntKind.i64.wrap ((j : Int) + 1) = (j : Int) + 1:=w64 (by omega) (by omega)
    have hab:=hNs j h14
    obtain ⟨e,hee⟩ : ∃ e,e = g.edges[j]:=⟨_,rfl⟩
    obtain ⟨a,hae⟩ : ∃ a : Bool,a = N j:=⟨_,rfl⟩
    rw [← hae,← hee] at hab
    rw [← hae]
    refine zae ?_
    refine zaI (ι:=Unit) (fun _=>⟨133,[(4,.pv (gC g)),(5,.pv (pC p)),(6,ints S),(9,.I n),(11,ints C),(12,.I T),(13,.I k),(14,.B (N (j + 1))),(15,.I j)],[],2800⟩) (fun _=>True) ?_ fun _ _=>?_
    ·refine zaf ?_
     refine zab ⟨133,[(4,.pv (gC g)),(5,.pv (pC p)),(6,ints S),(9,.I n),(11,ints C),(12,.I T),(13,.I k),(14,.B a),(15,.I j),(16,.pv (eC e))],[],2000⟩ rfl ?_ ?_
     ·simp [h14,← hee]
      exact Le.go [] [1940] rfl rfl (by simp) (by simp)
     refine zar rfl ?_
     cases a
     ·by_cases h1 : e.f = (k : Int)
      ·by_cases h2 : p.lv ≤ e.v
       ·simp [h1,h2]
        refine zam (hhasS e.t) (by simp) ?_
        simp
        exact Le.go [] [] rfl rfl (by simp [hab,zhP,h1,h2] <;> exact wkB (by rw [Bool.eq_iff_iff]; simp)) (by simp)
       ·simp [h1,h2]
        exact Le.go [] [] rfl rfl (by simp [hab,zhP,h1,h2]) (by simp)
      ·have h1b : (e.f == (k : Int)) = false:=by simp [h1]
       simp [h1b]
       exact Le.go [] [] rfl rfl (by simp [hab,zhP,h1]) (by simp)
     ·simp
      exact Le.go [] [] rfl rfl (by simp [hab]) (by simp)
    refine zar rfl ?_
    simp
    exact ⟨j + 1,by omega,by omega,Le.go [] [] rfl rfl (by simp [hw2]) (by simp)⟩
   simp at h14
   obtain rfl : j = g.edges.length:=by omega
   obtain ⟨vb,hvb⟩ : ∃ vb : Bool,vb = N g.edges.length:=⟨_,rfl⟩
   rw [← hvb] at htn
   rw [← hvb]
   refine zao ?_
   refine hit ?_
   refine zab ⟨133,[(4,.pv (gC g)),(5,.pv (pC p)),(6,ints S),(9,.I n),(11,ints C),(12,.I T),(13,.I k),(14,.B vb),(105,.B (sb && db))],[],2100⟩ rfl ?_ ?_
   ·simp
    refine zam hhs (by simp) ?_
    cases sb
    ·simp
     exact Le.go [] [] rfl rfl (by simp) (by simp)
    ·simp
     refine zam hhp (by simp) ?_
     simp
     exact Le.go [] [] rfl rfl (by simp) (by simp)
   refine zad _ rfl (fun h=>?_) fun h=>?_
   ·rw [if_pos h] at htn
    have hw3 : IntKind.i64.wrap (T + c) = T + c:=w64 (by omega) (by omega)
    refine zar rfl ?_
    simp [hkC,← hce]
    exact Le.go [] [] rfl rfl (by simp [hts,htn,hw3]) (by simp)
   ·rw [if_neg (by rw [h]; simp)] at htn
    refine zab ⟨133,[(4,.pv (gC g)),(5,.pv (pC p)),(6,ints S),(9,.I n),(11,ints C),(12,.I T),(13,.I k),(118,.B (!sb && vb))],[],2300⟩ rfl ?_ ?_
    ·simp
     refine zam hhs (by simp) ?_
     cases sb
     ·simp
      exact Le.go [] [] rfl rfl (by simp) (by simp)
     ·simp
      exact Le.go [] [] rfl rfl (by simp) (by simp)
    refine zad _ rfl (fun h2=>?_) fun h2=>?_
    ·rw [if_pos h2] at htn
     have hw4 : IntKind.i64.wrap (c - 1) = c - 1:=w64 (by omega) (by omega)
     have hmx : max 0 (c - 1) = if 1 < c then c - 1 else 0:=by split <;> omega
     have hw3 : IntKind.i64.wrap (T + max 0 (c - 1)) = T + max 0 (c - 1):=w64 (by omega) (by omega)
     rw [hmx] at htn hw3
     refine zar rfl ?_
     simp [hkC,← hce,hw4]
     exact Le.go [] [] rfl rfl (by simp [hts,htn,hw3]) (by simp)
    ·rw [if_neg (by rw [h2]; simp)] at htn
     refine zae ?_
     exact ⟨(),trivial,Le.go [] [] rfl rfl (by simp [hts,htn]) (by simp)⟩
  refine zar rfl ?_
  simp
  exact ⟨k + 1,by omega,by omega,Le.go [] [] rfl rfl (by simp [hw1]) (by simp)⟩
 simp at h13
 obtain rfl : k = g.size.toNat:=by omega
 refine zao ?_
 refine hit ?_
 refine zab ⟨133,[(2,.B true)],[],1600⟩ rfl ?_ ?_
 ·simp
  refine zam zcm (by simp) ?_
  simp [hcnt]
  exact Le.go [] [] rfl rfl (by simp) (by simp)
 refine zag ?_
 exact ⟨.inr rfl,zan.one (by simp)⟩
theorem zka {L : List Int} {a : Nat} : ∀ m,(zcv L a m).1.Pairwise (· < ·) ∧ ∀ x ∈ (zcv L a m).1,0 ≤ x ∧ x < m
 | 0=>⟨.nil,fun _ h=>(List.not_mem_nil h).elim⟩
 | m + 1=>by
   have ih:=zka (L:=L) (a:=a) m
   unfold zcv
   simp only
   split
   ·refine ⟨List.pairwise_append.2 ⟨ih.1,List.pairwise_singleton _ _,fun x hx y hy=>?_⟩,fun x hx=>?_⟩
    ·rw [List.mem_singleton] at hy
     have:=ih.2 x hx
     omega
    ·rcases List.mem_append.1 hx with h | h
     ·have:=ih.2 x h; omega
     ·rw [List.mem_singleton] at h; omega
   ·exact ⟨ih.1,fun x hx=>by have:=ih.2 x hx; omega⟩
set_option maxRecDepth 100000 in
set_option maxHeartbeats 4000000 in
theorem zjI (g : Gr) (p : Pol) (S : List Int) (hg : GrOk g) (hp1 : zbb g.size p) (hs : p.seeds.length ≤ 64) (hSl : S.length ≤ 1000) : zaj Tryz.prog zeM [eG g,eP p,ints S] [] (.I (totB g p S g.size.toNat)) []:=by
 refine zmF.acalls (Nat.le_of_ble_eq_true rfl) (Nat.le_of_ble_eq_true rfl) (Nat.le_refl _) ?_
 show awp _ 0 _ _ ⟨77,[(0,eG g),(1,eP p),(2,ints S)],[],16⟩
 have hsz:=hg.1.1
 have hsz2:=hg.1.2.1
 have hel:=hg.edges_le
 have hgl:=hg.gone_le
 have hcb:=zec (g:=g) hp1
 have hcl : (zat g p).length = g.size.toNat:=zaT
 have hcap:=zhw g p hg (by omega)
 have htr:=zgZ (g:=g) hp1 S
 have htk:=zgR (g:=g) hp1 S
 have htn : ∀ k : Nat,k < (zat g p).length → totK g p S k = if S.contains (k : Int) && p.seeds.contains (k : Int) then (zat g p).getD k 0 else if !S.contains (k : Int) && decv g p S k then max 0 ((zat g p).getD k 0 - 1) else 0:=fun k _=>rfl
 rw [← hcl] at hcap
 obtain ⟨C,hC⟩ : ∃ C,C = zat g p:=⟨_,rfl⟩
 rw [← hC] at hcap hcl hcb
 simp only [← hC] at htn
 have hCt : ∀ h : Int → List AV,List.take C.length (List.map h C) = List.map h C:=fun h=>List.take_of_length_le (by simp)
 have hhasS:=fun k=>zf2 S k (by omega)
 have hhasP:=fun k=>zf2 p.seeds k (by omega)
 refine zab ⟨77,[(2,ints S),(3,.pv (gC g)),(4,.pv (pC p))],[],100⟩ rfl ?_ ?_
 ·simp
  exact Le.go [] [16,24] rfl rfl (by simp) (by simp)
 refine zab ⟨77,[(2,ints S),(3,.pv (gC g)),(4,.pv (pC p)),(7,ints C)],[],300⟩ rfl ?_ ?_
 ·simp
  refine za3 hcap (by simp) ?_
  simp
  exact Le.go [] [116] rfl rfl (by simp [fcd,hCt]) (by simp)
 refine zab ⟨77,[(2,ints S),(3,.pv (gC g)),(4,.pv (pC p)),(7,ints C),(8,.I 0)],[],320⟩ rfl ?_ ?_
 ·simp
  exact Le.go [] [] rfl rfl (by simp) (by simp)
 refine zaa ?_
 refine zab ⟨77,[(2,ints S),(3,.pv (gC g)),(4,.pv (pC p)),(7,ints C),(8,.I 0),(9,.I 0)],[],400⟩ rfl ?_ ?_
 ·simp
  exact Le.go [] [] rfl rfl (by simp) (by simp)
 refine zaf ?_
 refine zap (ι:=Nat) (fun k=>⟨77,[(2,ints S),(3,.pv (gC g)),(4,.pv (pC p)),(7,ints C),(8,.I (totB g p S k)),(9,.I k)],[],500⟩) (fun k=>k ≤ g.size.toNat) (fun k=>g.size.toNat - k) 0 (Nat.zero_le _) (Le.go [] [] rfl rfl (by simp [totB]) (by simp)) ?_
 intro k hk
 refine zaa ?_
 refine zab ⟨77,[(2,ints S),(3,.pv (gC g)),(4,.pv (pC p)),(7,ints C),(8,.I (totB g p S k)),(9,.I k),(19,.B (decide (k < g.size.toNat)))],[],600⟩ rfl ?_ ?_
 ·simp
  exact Le.go [] [] rfl rfl (by simp <;> exact wkB (by rw [Bool.eq_iff_iff]; simp <;> omega)) (by simp)
 refine zad _ rfl (fun h13=>?_) fun h13=>?_
 ·simp at h13
  have hw1 : IntKind.i64.wrap ((k : Int) + 1) = (k : Int) + 1:=w64 (by omega) (by omega)
  have hkC : k < C.length:=by omega
  have hts:=zit (g:=g) (p:=p) S k
  have htn:=htn k hkC
  have htr1:=htr k
  have hcc:=hcb C[k] (List.getElem_mem hkC)
  have hgd : C.getD k 0 = C[k]:=by rw [List.getD_eq_getElem?_getD,List.getElem?_eq_getElem hkC]; rfl
  rw [hgd] at htn
  obtain ⟨c,hce⟩ : ∃ c,c = C[k]:=⟨_,rfl⟩
  rw [← hce] at htn hcc
  obtain ⟨sb,hsb⟩ : ∃ sb : Bool,sb = S.contains (k : Int):=⟨_,rfl⟩
  obtain ⟨db,hdb⟩ : ∃ db : Bool,db = p.seeds.contains (k : Int):=⟨_,rfl⟩
  have hhs:=hhasS k
  have hhp:=hhasP k
  rw [← hsb] at hhs htn
  rw [← hdb] at hhp htn
  obtain ⟨N,hN⟩ : ∃ N : Nat → Bool,∀ j,N j = (g.edges.take j).any (zhP p S k):=⟨_,fun _=>rfl⟩
  have hN0 : N 0 = false:=by rw [hN]; simp
  have hNe : N g.edges.length = decv g p S k:=by rw [hN,List.take_length]; rfl
  have hNs : ∀ (j : Nat) (h14 : j < g.edges.length),N (j + 1) = (N j || zhP p S k g.edges[j]):=fun j h14=>by rw [hN,hN,zlK h14]
  rw [← hNe] at htn
  obtain ⟨T,hT⟩ : ∃ T,T = totB g p S k:=⟨_,rfl⟩
  rw [← hT] at hts htr1
  rw [← hT]
  refine zae ?_
  refine zaI (ι:=Unit) (fun _=>⟨77,[(2,ints S),(3,.pv (gC g)),(4,.pv (pC p)),(7,ints C),(8,.I (totB g p S (k + 1))),(9,.I k)],[],4000⟩) (fun _=>True) ?_ fun _ _=>?_
  ·refine zaf ?_
   refine zaa ?_
   refine zab ⟨77,[(2,ints S),(3,.pv (gC g)),(4,.pv (pC p)),(7,ints C),(8,.I T),(9,.I k),(24,.B sb)],[],700⟩ rfl ?_ ?_
   ·simp
    refine zam hhs (by simp) ?_
    simp
    exact Le.go [] [] rfl rfl (by simp) (by simp)
   refine zad _ rfl (fun hs1=>?_) fun hs1=>?_
   ·have hs1 : sb = true:=hs1
    subst hs1
    refine zaa ?_
    refine zab ⟨77,[(2,ints S),(3,.pv (gC g)),(4,.pv (pC p)),(7,ints C),(8,.I T),(9,.I k),(28,.B db)],[],800⟩ rfl ?_ ?_
    ·simp
     refine zam hhp (by simp) ?_
     simp
     exact Le.go [] [] rfl rfl (by simp) (by simp)
    refine zad _ rfl (fun hd1=>?_) fun hd1=>?_
    ·have hd1 : db = true:=hd1
     subst hd1
     have htn : totK g p S k = c:=htn
     have hw3 : IntKind.i64.wrap (T + c) = T + c:=w64 (by omega) (by omega)
     refine zar rfl ?_
     simp [hkC,← hce,hw3]
     refine zao ?_
     refine hit ?_
     exact Le.go [] [] rfl rfl (by simp [hts,htn]) (by simp)
    ·have hd1 : db = false:=hd1
     subst hd1
     rw [if_neg (by simp),if_neg (by simp)] at htn
     refine zae ?_
     refine zao ?_
     refine hit ?_
     exact ⟨(),trivial,Le.go [] [] rfl rfl (by simp [hts,htn]) (by simp)⟩
   have hs1 : sb = false:=hs1
   subst hs1
   refine zae ?_
   refine zab ⟨77,[(2,ints S),(3,.pv (gC g)),(4,.pv (pC p)),(7,ints C),(8,.I T),(9,.I k),(10,.B false)],[],1600⟩ rfl ?_ ?_
   ·simp
    exact Le.go [] [] rfl rfl (by simp) (by simp)
   refine zaa ?_
   refine zab ⟨77,[(2,ints S),(3,.pv (gC g)),(4,.pv (pC p)),(7,ints C),(8,.I T),(9,.I k),(10,.B false),(11,.I 0)],[],1700⟩ rfl ?_ ?_
   ·simp
    exact Le.go [] [] rfl rfl (by simp) (by simp)
   refine zaf ?_
   refine zap (ι:=Nat) (fun j=>⟨77,[(2,ints S),(3,.pv (gC g)),(4,.pv (pC p)),(7,ints C),(8,.I T),(9,.I k),(10,.B (N j)),(11,.I j)],[],1800⟩) (fun j=>j ≤ g.edges.length) (fun j=>g.edges.length - j) 0 (Nat.zero_le _) (Le.go [] [] rfl rfl (by simp [hN0]) (by simp)) ?_
   intro j hj
   refine zaa ?_
   refine zab ⟨77,[(2,ints S),(3,.pv (gC g)),(4,.pv (pC p)),(7,ints C),(8,.I T),(9,.I k),(10,.B (N j)),(11,.I j),(39,.B (decide (j < g.edges.length)))],[],1900⟩ rfl ?_ ?_
   ·simp
    exact Le.go [] [] rfl rfl (by simp) (by simp)
   refine zad _ rfl (fun h14=>?_) fun h14=>?_
   ·simp at h14
    have hw2 : IntKind.i64.wrap ((j : Int) + 1) = (j : Int) + 1:=w64 (by omega) (by omega)
    have hab:=hNs j h14
    obtain ⟨e,hee⟩ : ∃ e,e = g.edges[j]:=⟨_,rfl⟩
    obtain ⟨a,hae⟩ : ∃ a : Bool,a = N j:=⟨_,rfl⟩
    rw [← hae,← hee] at hab
    rw [← hae]
    refine zae ?_
    refine zaI (ι:=Unit) (fun _=>⟨77,[(2,ints S),(3,.pv (gC g)),(4,.pv (pC p)),(7,ints C),(8,.I T),(9,.I k),(10,.B (N (j + 1))),(11,.I j)],[],2800⟩) (fun _=>True) ?_ fun _ _=>?_
    ·refine zaf ?_
     refine zab ⟨77,[(2,ints S),(3,.pv (gC g)),(4,.pv (pC p)),(7,ints C),(8,.I T),(9,.I k),(10,.B a),(11,.I j),(12,.pv (eC e))],[],2000⟩ rfl ?_ ?_
     ·simp [h14,← hee]
      exact Le.go [] [1940] rfl rfl (by simp) (by simp)
     refine zar rfl ?_
     cases a
     ·by_cases h1 : e.f = (k : Int)
      ·by_cases h2 : p.lv ≤ e.v
       ·simp [h1,h2]
        refine zam (hhasS e.t) (by simp) ?_
        simp
        exact Le.go [] [] rfl rfl (by simp [hab,zhP,h1,h2] <;> exact wkB (by rw [Bool.eq_iff_iff]; simp)) (by simp)
       ·simp [h1,h2]
        exact Le.go [] [] rfl rfl (by simp [hab,zhP,h1,h2]) (by simp)
      ·have h1b : (e.f == (k : Int)) = false:=by simp [h1]
       simp [h1b]
       exact Le.go [] [] rfl rfl (by simp [hab,zhP,h1]) (by simp)
     ·simp
      exact Le.go [] [] rfl rfl (by simp [hab]) (by simp)
    refine zar rfl ?_
    simp
    exact ⟨j + 1,by omega,by omega,Le.go [] [] rfl rfl (by simp [hw2]) (by simp)⟩
   simp at h14
   obtain rfl : j = g.edges.length:=by omega
   obtain ⟨vb,hvb⟩ : ∃ vb : Bool,vb = N g.edges.length:=⟨_,rfl⟩
   rw [← hvb] at htn
   rw [← hvb]
   refine zao ?_
   refine hit ?_
   refine zab ⟨77,[(2,ints S),(3,.pv (gC g)),(4,.pv (pC p)),(7,ints C),(8,.I T),(9,.I k),(67,.B vb)],[],2100⟩ rfl ?_ ?_
   ·simp
    exact Le.go [] [] rfl rfl (by simp) (by simp)
   refine zad _ rfl (fun h2=>?_) fun h2=>?_
   ·have h2 : vb = true:=h2
    subst h2
    rw [if_neg (by simp),if_pos (by simp)] at htn
    have hw4 : IntKind.i64.wrap (c - 1) = c - 1:=w64 (by omega) (by omega)
    have hmx : max 0 (c - 1) = if 1 < c then c - 1 else 0:=by split <;> omega
    have hw3 : IntKind.i64.wrap (T + max 0 (c - 1)) = T + max 0 (c - 1):=w64 (by omega) (by omega)
    rw [hmx] at htn hw3
    refine zar rfl ?_
    simp [hkC,← hce,hw4]
    exact Le.go [] [] rfl rfl (by simp [hts,htn,hw3]) (by simp)
   ·have h2 : vb = false:=h2
    subst h2
    rw [if_neg (by simp),if_neg (by simp)] at htn
    refine zae ?_
    exact ⟨(),trivial,Le.go [] [] rfl rfl (by simp [hts,htn]) (by simp)⟩
  refine zar rfl ?_
  simp
  exact ⟨k + 1,by omega,by omega,Le.go [] [] rfl rfl (by simp [hw1]) (by simp)⟩
 simp at h13
 obtain rfl : k = g.size.toNat:=by omega
 refine zao ?_
 refine hit ?_
 refine zab ⟨77,[(6,.I (totB g p S g.size.toNat))],[],700⟩ rfl ?_ ?_
 ·simp
  exact Le.go [] [] rfl rfl (by simp) (by simp)
 refine zag ?_
 exact ⟨.inr rfl,zan.one (by simp)⟩
def cntA (acc S : List Int) (i : Nat) : Nat:=((S.take i).filter fun x=>decide (x ∈ acc)).length
theorem zsB (acc S : List Int) (i : Nat) : cntA acc S i ≤ S.length:=Nat.le_trans (List.length_filter_le ..) (List.length_take_le' ..)
theorem zqX {acc S : List Int} {i : Nat} (h : i < S.length) : cntA acc S (i + 1) = if decide (S[i] ∈ acc) = true then cntA acc S i + 1 else cntA acc S i:=by
 unfold cntA
 rw [List.take_succ_eq_append_getElem h,List.filter_append]
 by_cases hc : S[i] ∈ acc
 ·rw [if_pos (decide_eq_true hc)]
  simp only [List.filter_cons,decide_eq_true hc]
  simp
 ·rw [if_neg (by simp [hc])]
  simp only [List.filter_cons,decide_eq_false hc]
  simp
theorem zqw {acc S : List Int} (hn : S.Pairwise (· < ·)) : cntA acc S S.length ≤ (acc.filter fun x=>S.contains x).length:=by
 unfold cntA
 rw [List.take_length]
 refine za6 ((zdM hn).filter _) fun x hx=>?_
 have h:=List.mem_filter.1 hx
 exact List.mem_filter.2 ⟨of_decide_eq_true h.2,List.contains_iff_mem.2 h.1⟩
structure RgSt where
 j : Nat
 G : Gr
set_option maxRecDepth 100000 in
set_option maxHeartbeats 4000000 in
theorem zfP (L : List Int) : zaj Tryz.prog zd0 [ints L] [] (.B true) []:=by
 refine zgP.acalls (Nat.le_of_ble_eq_true rfl) (Nat.le_of_ble_eq_true rfl) (Nat.le_refl _) ?_
 show awp _ 0 _ _ ⟨92,[(0,ints L)],[],16⟩
 have hlight:=zlb L
 refine rx (s:=?s1) [0] [] [] rfl ?o1 ?q1
 case o1=>simp; rfl
 refine zaa ?_
 refine zab ⟨92,[(0,ints L),(17,.B (!decide (L.length ≤ 400)))],[],100⟩ rfl ?_ ?_
 ·simp
  refine zam hlight (by simp) ?_
  simp
  exact Le.go [] [] rfl rfl (by simp <;> exact wkB (by rw [Bool.eq_iff_iff]; simp)) (by simp)
 refine zad _ rfl (fun h3=>?_) fun h3=>?_
 ·refine rx (s:=?s4) [2] [] [] rfl ?o4 ?q4
  case o4=>simp; refine zam zcm (by simp) ?_; simp; rfl
  refine zag ?_
  exact ⟨.inr rfl,zan.one (by simp)⟩
 have h3 : L.length ≤ 400:=by simpa using h3
 obtain ⟨g,b1,⟨hg,hg2,hg9,hb1⟩,hcg⟩:=zqk L h3
 obtain ⟨⟨p,b2⟩,⟨hp1,hp2,hp3,hb2⟩,hcp⟩:=zk1 L b1 g h3 hb1 (by omega) (by omega)
 simp only at hp1 hp2 hp3 hb2 hcp
 refine zae ?_
 refine zab ⟨92,[(3,.pt 20 0 0)],[(20,some (dice L 0))],200⟩ rfl ?_ ?_
 ·simp
  refine za3 (znj L) (by simp) ?_
  simp
  exact Le.go [(108,20)] [] rfl rfl (by simp) (by simp)
 refine zab ⟨92,[(3,.pt 20 0 0),(4,.pt 21 0 0)],[(20,some (dice L b1)),(21,some ⟨3,[gC g],0⟩)],300⟩ rfl ?_ ?_
 ·simp
  refine zba (i:=20) rfl (e':=dice L 0) (by simp) hcg (by simp) (by simp) ?_
  simp
  exact Le.go [(20,20),(216,21)] [] rfl rfl (by simp) (by simp)
 refine zab ⟨92,[(3,.pt 20 0 0),(4,.pt 21 0 0),(5,.pv (pC p))],[(20,some (dice L b2)),(21,some ⟨3,[gC g],0⟩)],400⟩ rfl ?_ ?_
 ·simp
  refine zba (i:=20) rfl (e':=dice L b1) (by simp) hcp (by simp) (by simp) ?_
  simp
  exact Le.go [(20,20),(21,21)] [324] rfl rfl (by simp) (by simp)
 have hsz2:=hg.1.2.1
 have hsome:=zpL L b2 g.size.toNat h3 hb2 (by omega)
 have hSl:=zgr (L:=L) (a:=b2) g.size.toNat
 have hSp:=(zka (L:=L) (a:=b2) g.size.toNat).1
 rw [show ((g.size.toNat : Nat) : Int) = g.size by omega] at hsome
 obtain ⟨b3,hb3⟩ : ∃ b3,b3 = (zcv L b2 g.size.toNat).2:=⟨_,rfl⟩
 obtain ⟨S,hS⟩ : ∃ S,S = (zcv L b2 g.size.toNat).1:=⟨_,rfl⟩
 rw [← hb3,← hS] at hsome
 rw [← hS] at hSl hSp
 have hS9 : S.length ≤ 9:=by omega
 refine zab ⟨92,[(4,.pt 20 0 0),(5,.pv (pC p)),(6,ints S)],[(20,some ⟨3,[gC g],0⟩)],500⟩ rfl ?_ ?_
 ·simp
  refine zba (i:=20) rfl (e':=dice L b2) (by simp) hsome (by simp) (by simp) ?_
  simp
  exact Le.go [(21,20)] [424] rfl rfl (by simp [fcd,zal]) (by simp)
 obtain ⟨s,hs⟩ : ∃ s,s = g.size:=⟨_,rfl⟩
 rw [← hs] at hp1 hg9
 refine zaa ?_
 refine zab ⟨92,[(4,.pt 20 0 0),(5,.pv (pC p)),(6,ints S),(7,.I 0)],[(20,some ⟨3,[gC g],0⟩)],600⟩ rfl ?_ ?_
 ·simp
  exact Le.go [(20,20)] [] rfl rfl (by simp) (by simp)
 refine zaf ?_
 refine zap (ι:=RgSt) (fun q=>⟨92,[(4,.pt 20 0 0),(5,.pv (pC p)),(6,ints S),(7,.I q.j)],[(20,some ⟨3,[gC q.G],0⟩)],700⟩) (fun q=>q.j ≤ S.length ∧ GrOk q.G ∧ q.G.size = s) (fun q=>S.length - q.j) ⟨0,g⟩ ⟨Nat.zero_le _,hg,hs.symm⟩ (Le.go [(20,20)] [] rfl rfl (by simp) (by simp)) ?_
 rintro ⟨i,G⟩ ⟨hi,hG,hGs⟩
 simp only at hi hG hGs ⊢
 refine zaa ?_
 refine zab ⟨92,[(4,.pt 20 0 0),(5,.pv (pC p)),(6,ints S),(7,.I i),(33,.B (decide (i < S.length)))],[(20,some ⟨3,[gC G],0⟩)],800⟩ rfl ?_ ?_
 ·simp
  exact Le.go [(20,20)] [] rfl rfl (by simp) (by simp)
 refine zad _ rfl (fun h13=>?_) fun h13=>?_
 ·simp at h13
  have hw1 : IntKind.i64.wrap ((i : Int) + 1) = (i : Int) + 1:=w64 (by omega) (by omega)
  obtain ⟨x,hx⟩ : ∃ x,x = S[i]:=⟨_,rfl⟩
  refine zae ?_
  refine zaI (ι:=Gr) (fun q=>⟨92,[(4,.pt 20 0 0),(5,.pv (pC p)),(6,ints S),(7,.I i)],[(20,some ⟨3,[gC q],0⟩)],4000⟩) (fun q=>GrOk q ∧ q.size = s) ?_ ?_
  ·refine zaf ?_
   refine zab ⟨92,[(4,.pt 20 0 0),(5,.pv (pC p)),(6,ints S),(7,.I i),(8,.I 0)],[(20,some ⟨3,[gC G],0⟩)],900⟩ rfl ?_ ?_
   ·simp
    exact Le.go [(20,20)] [] rfl rfl (by simp) (by simp)
   refine zaf ?_
   refine zap (ι:=RgSt) (fun q=>⟨92,[(4,.pt 20 0 0),(5,.pv (pC p)),(6,ints S),(7,.I i),(8,.I q.j)],[(20,some ⟨3,[gC q.G],0⟩)],1000⟩) (fun q=>q.j ≤ S.length ∧ GrOk q.G ∧ q.G.size = s) (fun q=>S.length - q.j) ⟨0,G⟩ ⟨Nat.zero_le _,hG,hGs⟩ (Le.go [(20,20)] [] rfl rfl (by simp) (by simp)) ?_
   clear hG hGs
   rintro ⟨j,G⟩ ⟨hj,hG,hGs⟩
   simp only at hj hG hGs ⊢
   refine zaa ?_
   refine zab ⟨92,[(4,.pt 20 0 0),(5,.pv (pC p)),(6,ints S),(7,.I i),(8,.I j),(39,.B (decide (j < S.length)))],[(20,some ⟨3,[gC G],0⟩)],1100⟩ rfl ?_ ?_
   ·simp
    exact Le.go [(20,20)] [] rfl rfl (by simp) (by simp)
   refine zad _ rfl (fun h14=>?_) fun h14=>?_
   ·simp at h14
    have hw2 : IntKind.i64.wrap ((j : Int) + 1) = (j : Int) + 1:=w64 (by omega) (by omega)
    obtain ⟨y,hy⟩ : ∃ y,y = S[j]:=⟨_,rfl⟩
    have hel:=hG.edges_le
    have hgl:=hG.gone_le
    obtain ⟨e,he⟩ : ∃ e : Ed,e = ⟨x,y,3⟩:=⟨_,rfl⟩
    have hwith:=zgt G e (by omega) (by omega)
    have hwok : (zcW G e).2 = 0 → GrOk (zcW G e).1 ∧ (zcW G e).1.size = s:=fun h0=>by
     obtain ⟨_,_,_,_,_,hpe,hok⟩:=zop h0
     rw [hpe]
     exact ⟨hok,hGs⟩
    obtain ⟨r,hr⟩ : ∃ r,r = zcW G e:=⟨_,rfl⟩
    rw [← hr] at hwith hwok
    refine zae ?_
    refine zaI (ι:=Gr) (fun q=>⟨92,[(4,.pt 20 0 0),(5,.pv (pC p)),(6,ints S),(7,.I i),(8,.I j)],[(20,some ⟨3,[gC q],0⟩)],2800⟩) (fun q=>GrOk q ∧ q.size = s) ?_ ?_
    ·refine zaf ?_
     refine zaF ⟨92,[(4,.pt 20 0 0),(5,.pv (pC p)),(6,ints S),(7,.I i),(8,.I j),(9,.pv (gC r.1)),(10,.I r.2)],[(20,some ⟨3,[gC G],0⟩)],1400⟩ rfl ?_ ?_
     ·simp [h13,h14,← hx,← hy]
      refine zam hwith (by simp [he]) ?_
      simp
      exact ⟨rfl,Le.go [(20,20)] [1212] rfl rfl (by simp) (by simp)⟩
     refine zab ⟨92,[(4,.pt 20 0 0),(5,.pv (pC p)),(6,ints S),(7,.I i),(8,.I j),(9,.pv (gC r.1)),(57,.B (decide (r.2 = 0)))],[(20,some ⟨3,[gC G],0⟩)],1500⟩ rfl ?_ ?_
     ·simp
      exact Le.go [(20,20)] [] rfl rfl (by simp <;> exact wkB (by rw [Bool.eq_iff_iff]; simp)) (by simp)
     refine zad _ rfl (fun h0=>?_) fun h0=>?_
     ·have h0:=hwok (of_decide_eq_true h0)
      refine zar rfl ?_
      simp [zaZ]
      exact ⟨r.1,h0,Le.go [(20,20)] [] rfl rfl (by simp) (by simp)⟩
     ·refine zae ?_
      exact ⟨G,⟨hG,hGs⟩,Le.go [(20,20)] [] rfl rfl (by simp) (by simp)⟩
    rintro G' ⟨hG',hGs'⟩
    refine zar rfl ?_
    simp
    exact ⟨⟨j + 1,G'⟩,⟨by simp only; omega,hG',hGs'⟩,by simp only; omega,Le.go [(20,20)] [] rfl rfl (by simp [hw2]) (by simp)⟩
   refine zao ?_
   refine hit ?_
   exact ⟨G,⟨hG,hGs⟩,Le.go [(20,20)] [] rfl rfl (by simp) (by simp)⟩
  rintro G' ⟨hG',hGs'⟩
  refine zar rfl ?_
  simp
  exact ⟨⟨i + 1,G'⟩,⟨by simp only; omega,hG',hGs'⟩,by simp only; omega,Le.go [(20,20)] [] rfl rfl (by simp [hw1]) (by simp)⟩
 rw [← hGs] at hp1 hg9
 have hel:=hG.edges_le
 have hgl:=hG.gone_le
 obtain ⟨fl,hfl,hrun⟩:=zcZ G p hG hp1 (by omega) (by omega)
 have hal:=zh1 hG p
 have hok:=zfm hG hp1
 have hcan:=zqO (g:=G) (p:=p) hG hp1 (by omega) (zbH _ _) hok (ordL (zai G p.lv) p.seeds).length
 rw [List.take_length] at hcan
 have hakr : zbf G p (accR G p (ordL (zai G p.lv) p.seeds)):=hok.sub fun x hx=>zcb hx
 have hacn:=zj0 G p
 simp only [accG] at hal
 obtain ⟨acc,hacc⟩ : ∃ acc,acc = accR G p (ordL (zai G p.lv) p.seeds):=⟨_,rfl⟩
 obtain ⟨R,hR⟩ : ∃ R,R = refR G p (ordL (zai G p.lv) p.seeds):=⟨_,rfl⟩
 rw [← hacc,← hR] at hrun
 rw [← hacc] at hal hcan hakr hacn
 have hbound:=zl6 hG hp1 hakr (hcan.perm hG hp1 hakr.join (zgM hacn (h64 hG hakr.rng)).symm) S
 have hlast:=zqw (acc:=acc) hSp
 have hbnd:=zjI G p S hG hp1 (by omega) (by omega)
 obtain ⟨T,hT⟩ : ∃ T,T = totB G p S G.size.toNat:=⟨_,rfl⟩
 rw [← hT] at hbound hbnd
 have hacc1:=fun k=>zcF acc fl R k (by omega)
 refine zao ?_
 refine hit ?_
 refine zab ⟨92,[(4,.pt 20 0 0),(5,.pv (pC p)),(6,ints S),(11,.pv [ints acc,ints fl,.vs 2 false (zaM R)]),(12,.I 0)],[(20,some ⟨3,[gC G],0⟩)],1000⟩ rfl ?_ ?_
 ·simp
  refine zam hrun (by simp) ?_
  simp
  exact Le.go [(20,20)] [848] rfl rfl (by simp) (by simp)
 refine zab ⟨92,[(4,.pt 20 0 0),(5,.pv (pC p)),(6,ints S),(11,.pv [ints acc,ints fl,.vs 2 false (zaM R)]),(12,.I 0),(13,.I 0)],[(20,some ⟨3,[gC G],0⟩)],1100⟩ rfl ?_ ?_
 ·simp
  exact Le.go [(20,20)] [] rfl rfl (by simp) (by simp)
 refine zaa ?_
 refine zab ⟨92,[(4,.pt 20 0 0),(5,.pv (pC p)),(6,ints S),(11,.pv [ints acc,ints fl,.vs 2 false (zaM R)]),(12,.I 0),(13,.I 0),(14,.I 0)],[(20,some ⟨3,[gC G],0⟩)],1200⟩ rfl ?_ ?_
 ·simp
  exact Le.go [(20,20)] [] rfl rfl (by simp) (by simp)
 refine zaf ?_
 refine zap (ι:=Nat) (fun i=>⟨92,[(4,.pt 20 0 0),(5,.pv (pC p)),(6,ints S),(11,.pv [ints acc,ints fl,.vs 2 false (zaM R)]),(12,.I 0),(13,.I (cntA acc S i)),(14,.I i)],[(20,some ⟨3,[gC G],0⟩)],1300⟩) (fun i=>i ≤ S.length) (fun i=>S.length - i) 0 (Nat.zero_le _) (Le.go [(20,20)] [] rfl rfl (by simp [cntA]) (by simp)) ?_
 clear h13 hi
 intro i hi
 refine zaa ?_
 refine zab ⟨92,[(4,.pt 20 0 0),(5,.pv (pC p)),(6,ints S),(11,.pv [ints acc,ints fl,.vs 2 false (zaM R)]),(12,.I 0),(13,.I (cntA acc S i)),(14,.I i),(68,.B (decide (i < S.length)))],[(20,some ⟨3,[gC G],0⟩)],1400⟩ rfl ?_ ?_
 ·simp
  exact Le.go [(20,20)] [] rfl rfl (by simp) (by simp)
 refine zad _ rfl (fun h13=>?_) fun h13=>?_
 ·simp at h13
  have hw1 : IntKind.i64.wrap ((i : Int) + 1) = (i : Int) + 1:=w64 (by omega) (by omega)
  have hcle:=zsB acc S i
  have hw2 : IntKind.i64.wrap ((cntA acc S i : Int) + 1) = (cntA acc S i : Int) + 1:=w64 (by omega) (by omega)
  have hcs:=zqX (acc:=acc) h13
  refine zae ?_
  refine zaI (ι:=Unit) (fun _=>⟨92,[(4,.pt 20 0 0),(5,.pv (pC p)),(6,ints S),(11,.pv [ints acc,ints fl,.vs 2 false (zaM R)]),(12,.I 0),(13,.I (cntA acc S (i + 1))),(14,.I i)],[(20,some ⟨3,[gC G],0⟩)],2200⟩) (fun _=>True) ?_ fun _ _=>?_
  ·refine zaf ?_
   refine zaF ⟨92,[(4,.pt 20 0 0),(5,.pv (pC p)),(6,ints S),(11,.pv [ints acc,ints fl,.vs 2 false (zaM R)]),(12,.I 0),(13,.I (cntA acc S i)),(14,.I i),(76,.B (decide (S[i] ∈ acc)))],[(20,some ⟨3,[gC G],0⟩)],1600⟩ rfl ?_ ?_
   ·simp [h13]
    refine zam (hacc1 S[i]) (by simp) ?_
    simp
    exact ⟨rfl,Le.go [(20,20)] [] rfl rfl (by simp) (by simp)⟩
   refine zad _ rfl (fun h20=>?_) fun h20=>?_
   ·rw [if_pos h20] at hcs
    refine zar rfl ?_
    simp
    exact Le.go [(20,20)] [] rfl rfl (by simp [hw2,hcs]) (by simp)
   ·rw [if_neg (by rw [h20]; simp)] at hcs
    refine zae ?_
    exact ⟨(),trivial,Le.go [(20,20)] [] rfl rfl (by simp [hcs]) (by simp)⟩
  refine zar rfl ?_
  simp
  exact ⟨i + 1,by omega,by omega,Le.go [(20,20)] [] rfl rfl (by simp [hw1]) (by simp)⟩
 simp at h13
 obtain rfl : i = S.length:=by omega
 obtain ⟨n,hn⟩ : ∃ n,n = cntA acc S S.length:=⟨_,rfl⟩
 rw [← hn] at hlast
 rw [← hn]
 have hle : (n : Int) ≤ T:=by omega
 refine zao ?_
 refine hit ?_
 refine zab ⟨92,[(2,.B true)],[],1800⟩ rfl ?_ ?_
 ·simp
  refine zam zcm (by simp) ?_
  simp
  refine zam hbnd (by simp) ?_
  simp [hle]
  exact Le.go [] [] rfl rfl (by simp) (by simp)
 refine zag ?_
 exact ⟨.inr rfl,zan.one (by simp)⟩
variable {g : Gr} {p : Pol} {S : List Int} {l : Int}
def zmo (g : Gr) (q : Ed → Bool) : Gr:=⟨g.size,g.edges.filter q,g.gone⟩
theorem GrOk.filt (h : GrOk g) (q : Ed → Bool) : GrOk (zmo g q):=by
 refine ⟨⟨h.1.1,h.1.2.1,Nat.le_trans (List.length_filter_le _ _) h.1.2.2.1,h.1.2.2.2⟩,fun i hi=>?_⟩
 have hm : (zmo g q).edges[i] ∈ g.edges:=(List.mem_filter.1 (List.getElem_mem hi)).1
 obtain ⟨j,hj,hje⟩:=List.mem_iff_getElem.1 hm
 have h1:=h.2 j hj
 rw [hje] at h1
 refine ⟨h1.1,h1.2.1,h1.2.2.1,fun h0=>?_⟩
 rw [zg0]
 have hp : (zmo g q).edges.Pairwise Bef:=h.pair.filter _
 exact List.pairwise_iff_getElem.1 hp (i - 1) i (by omega) hi (by omega)
theorem zfq (g : Gr) (v : Int) (q : Ed → Bool) : zai (zmo g q) v = zmo (zai g v) q:=by
 unfold zai zmo
 simp only [List.filter_filter]
 congr 1
 exact List.filter_congr fun x _=>Bool.and_comm _ _
def notF (l : Int) (e : Ed) : Bool:=!decide (e.f = l)
def notT (l : Int) (e : Ed) : Bool:=!decide (e.t = l)
abbrev noF (g : Gr) (l : Int) : Gr:=zmo g (notF l)
abbrev noT (g : Gr) (l : Int) : Gr:=zmo (noF g l) (notT l)
theorem zf4 {l : Int} {e : Ed} : notF l e = true ↔ e.f ≠ l:=by unfold notF; simp
theorem zh6 {l : Int} {e : Ed} : notT l e = true ↔ e.t ≠ l:=by unfold notT; simp
theorem zrZ (h : GrOk g) (hl : ∀ k,Key g k → 0 ≤ dist g S k → dist g S k ≤ dist g S l) : ∀ n,n ≤ g.size.toNat → ∀ k,dl (noF g l) S n k = dl g S n k
 | 0,_,k=>rfl
 | n + 1,hn,k=>by
   have ih:=zrZ h hl n (by omega)
   rw [dl,dl,ih k]
   by_cases h2 : 0 ≤ dl g S n k
   ·rw [if_pos h2,if_pos h2]
   ·rw [if_neg h2,if_neg h2]
    have e1 : (noF g l).edges.any (fun e=>decide (e.t = k) && decide (dl (noF g l) S n e.f = n)) = g.edges.any (fun e=>decide (e.t = k) && decide (dl g S n e.f = n)):=by
     rw [Bool.eq_iff_iff,List.any_eq_true,List.any_eq_true]
     constructor
     ·rintro ⟨e,he,h3⟩
      rw [ih] at h3
      exact ⟨e,(List.mem_filter.1 he).1,h3⟩
     ·rintro ⟨e,he,h3⟩
      refine ⟨e,List.mem_filter.2 ⟨he,zf4.2 fun hf=>?_⟩,by rw [ih]; exact h3⟩
      simp only [Bool.and_eq_true,decide_eq_true_eq] at h3
      have h4 : dl g S (n + 1) k = n + 1:=by
       rw [dl,if_neg h2,if_pos]
       rw [List.any_eq_true]
       exact ⟨e,he,by simp [h3.1,h3.2]⟩
      have h5 : dist g S k = n + 1:=by unfold dist; rw [zmY hn (by omega),h4]
      have h6 : dist g S l = n:=by unfold dist; rw [zmY (n:=n) (by omega) (by rw [← hf]; omega),← hf,h3.2]
      have hfit:=h.fits e he
      unfold Fits at hfit
      have:=hl k ⟨by omega,by omega⟩ (by omega)
      omega
    rw [e1]
theorem zp8 (hs : zcB g S l = false) : ∀ n,dl (noT g l) S n l = -1 ∧ ∀ k,k ≠ l → dl (noT g l) S n k = dl (noF g l) S n k
 | 0=>⟨by rw [dl,show zcB (noT g l) S l = zcB g S l from rfl,hs]; rfl,fun _ _=>rfl⟩
 | n + 1=>by
   obtain ⟨i1,i2⟩:=zp8 hs n
   constructor
   ·rw [dl,i1,if_neg (by omega),if_neg]
    rw [List.any_eq_true]
    rintro ⟨e,he,h3⟩
    simp only [Bool.and_eq_true,decide_eq_true_eq] at h3
    exact zh6.1 (List.mem_filter.1 he).2 h3.1
   ·intro k hk
    rw [dl,dl,i2 k hk]
    have e1 : (noT g l).edges.any (fun e=>decide (e.t = k) && decide (dl (noT g l) S n e.f = n)) = (noF g l).edges.any (fun e=>decide (e.t = k) && decide (dl (noF g l) S n e.f = n)):=by
     rw [Bool.eq_iff_iff,List.any_eq_true,List.any_eq_true]
     constructor
     ·rintro ⟨e,he,h3⟩
      have he1:=(List.mem_filter.1 he).1
      rw [i2 e.f (zf4.1 (List.mem_filter.1 he1).2)] at h3
      exact ⟨e,he1,h3⟩
     ·rintro ⟨e,he,h3⟩
      have h4 : e.t = k:=by simp only [Bool.and_eq_true,decide_eq_true_eq] at h3; exact h3.1
      exact ⟨e,List.mem_filter.2 ⟨he,zh6.2 (by rw [h4]; exact hk)⟩,by rw [i2 e.f (zf4.1 (List.mem_filter.1 he).2)]; exact h3⟩
    rw [e1]
theorem zkf {g' : Gr} (hz : g.size = g'.size) (h : ∀ k,dist g S k = dist g' S k) : ∀ m,ordN g S m = ordN g' S m
 | 0=>rfl
 | m + 1=>by
   rw [ordN,ordN,zkf hz h m,hz]
   congr 2
   funext k
   rw [h k]
theorem zlS (hs : zcB g S l = false) : ∀ m,ordN (noT g l) S m = (ordN (noF g l) S m).filter fun x=>!decide (x = l)
 | 0=>rfl
 | m + 1=>by
   have hd : dist (noT g l) S l = -1 ∧ ∀ k,k ≠ l → dist (noT g l) S k = dist (noF g l) S k:=zp8 hs _
   rw [ordN,ordN,zlS hs m,List.filter_append]
   congr 1
   show zaW g.size.toNat _ = (zaW g.size.toNat _).filter _
   unfold zaW
   rw [List.filter_filter]
   refine List.filter_congr fun x _=>?_
   by_cases hx : x = l
   ·subst hx
    rw [hd.1]
    simp
   ·rw [hd.2 x hx]
    simp [hx]
theorem zcK {α : Type} {f w : α → Int} : ∀ {L : List α},(∀ x ∈ L,f x ≤ w x) → (L.map f).sum ≤ (L.map w).sum
 | [],_=>Int.le_refl _
 | x :: L,h=>by
   have ih:=zcK (L:=L) (f:=f) (w:=w) fun y hy=>h y (List.mem_cons_of_mem _ hy)
   have h1:=h x (List.mem_cons_self ..)
   simp only [List.map_cons,List.sum_cons]
   omega
theorem zbG {α : Type} (q : α → Bool) (f : α → Int) : ∀ L : List α,((L.filter q).map f).sum = (L.map fun x=>if q x = true then f x else 0).sum
 | []=>rfl
 | x :: L=>by
   have ih:=zbG q f L
   rw [List.filter_cons]
   by_cases h : q x = true
   ·rw [if_pos h]
    simp only [List.map_cons,List.sum_cons,ih,if_pos h]
   ·rw [if_neg h]
    simp only [List.map_cons,List.sum_cons,ih,if_neg h]
    omega
structure Less (g : Gr) (p : Pol) (l : Int) : Prop where
 rng : 0 ≤ l ∧ l < g.size
 seed : l ∉ p.seeds
 cap : ∀ k : Int,0 ≤ k → k ≠ l → (zat (noT g l) p).getD k.toNat 0 = (zat (noF g l) p).getD k.toNat 0
 cap0 : (zat (noT g l) p).getD l.toNat 0 = 0
def setS (S : Int → Bool) (l x : Int) : Bool:=if x = 2 + 2 * l ∨ x = 3 + 2 * l then true else S x
section
variable {C : Int → Bool}
theorem zh7 (g : Gr) (p : Pol) (C : Int → Bool) : zio g p C =
  (p.seeds.map fun x=>if decide (0 < (zat g p).getD x.toNat 0) = true then (if C 0 = true ∧ C (2 + 2 * x) = false then (zat g p).getD x.toNat 0 else 0) else 0).sum
  + ((List.range (zat g p).length).map fun (i : Nat)=>if decide (0 < (zat g p).getD i 0) = true then (if C (2 + 2 * (i : Int)) = true ∧ C (3 + 2 * (i : Int)) = false then (zat g p).getD i 0 - 1 else 0) else 0).sum
  + ((zai g p.lv).edges.map fun e=>if decide (0 < (zat g p).getD e.f.toNat 0) = true then (if C (3 + 2 * e.f) = true ∧ C (2 + 2 * e.t) = false then 64 else 0) else 0).sum:=by
 unfold zio
 simp only [zgi,netA,za1,List.map_append,List.sum_append,List.map_map,List.filter_nil,List.map_nil,List.sum_nil]
 rw [zbG,zbG,zbG]
 simp only [Function.comp]
 omega
theorem zqM (hg : GrOk g) (hp : zbb g.size p) (hL : Less g p l) (C : Int → Bool) : zio (noT g l) p C ≤ zio (noF g l) p C:=by
 rw [zh7,zh7]
 have hlen : (zat (noT g l) p).length = (zat (noF g l) p).length:=by rw [zaT,zaT]; rfl
 have h1 : (p.seeds.map fun x=>if decide (0 < (zat (noT g l) p).getD x.toNat 0) = true then (if C 0 = true ∧ C (2 + 2 * x) = false then (zat (noT g l) p).getD x.toNat 0 else 0) else 0).sum ≤ (p.seeds.map fun x=>if decide (0 < (zat (noF g l) p).getD x.toNat 0) = true then (if C 0 = true ∧ C (2 + 2 * x) = false then (zat (noF g l) p).getD x.toNat 0 else 0) else 0).sum:=by
  refine zcK fun x hx=>?_
  have h2:=hp.2.1.nodup.2 x hx
  rw [hL.cap x h2.1 fun e=>hL.seed (e ▸ hx)]
  exact Int.le_refl _
 have h2 : ((List.range (zat (noT g l) p).length).map fun (i : Nat)=>if decide (0 < (zat (noT g l) p).getD i 0) = true then (if C (2 + 2 * (i : Int)) = true ∧ C (3 + 2 * (i : Int)) = false then (zat (noT g l) p).getD i 0 - 1 else 0) else 0).sum ≤ ((List.range (zat (noF g l) p).length).map fun (i : Nat)=>if decide (0 < (zat (noF g l) p).getD i 0) = true then (if C (2 + 2 * (i : Int)) = true ∧ C (3 + 2 * (i : Int)) = false then (zat (noF g l) p).getD i 0 - 1 else 0) else 0).sum:=by
  rw [hlen]
  refine zcK fun i _=>?_
  by_cases hi : (i : Int) = l
  ·have h0 : (zat (noT g l) p).getD i 0 = 0:=by have h9:=hL.cap0; rw [show l.toNat = i by omega] at h9; exact h9
   rw [h0,if_neg (by simp)]
   split
   ·rename_i h
    have:=of_decide_eq_true h
    split <;> omega
   ·exact Int.le_refl _
  ·have:=hL.cap i (by omega) hi
   rw [Int.toNat_natCast] at this
   rw [this]
   exact Int.le_refl _
 have h3 : ((zai (noT g l) p.lv).edges.map fun e=>if decide (0 < (zat (noT g l) p).getD e.f.toNat 0) = true then (if C (3 + 2 * e.f) = true ∧ C (2 + 2 * e.t) = false then (64 : Int) else 0) else 0).sum ≤ ((zai (noF g l) p.lv).edges.map fun e=>if decide (0 < (zat (noF g l) p).getD e.f.toNat 0) = true then (if C (3 + 2 * e.f) = true ∧ C (2 + 2 * e.t) = false then (64 : Int) else 0) else 0).sum:=by
  rw [zfq (noF g l)]
  show (((zai (noF g l) p.lv).edges.filter (notT l)).map _).sum ≤ _
  rw [zbG]
  refine zcK fun e he=>?_
  have hm:=List.mem_filter.1 (List.mem_filter.1 he).1
  have hf:=hg.fits e hm.1
  unfold Fits at hf
  rw [hL.cap e.f hf.1 (zf4.1 hm.2)]
  split
  ·exact Int.le_refl _
  ·split
   ·split <;> omega
   ·exact Int.le_refl _
 omega
theorem zrG (hg : GrOk g) (hp : zbb g.size p) (hL : Less g p l) (C : Int → Bool) : zio (noF g l) p (setS C l) ≤ zio (noT g l) p C:=by
 rw [zh7,zh7]
 have hl0:=hL.rng.1
 have hlen : (zat (noT g l) p).length = (zat (noF g l) p).length:=by rw [zaT,zaT]; rfl
 have hin : ∀ k : Int,k ≠ l → setS C l (2 + 2 * k) = C (2 + 2 * k):=fun k hk=>by unfold setS; rw [if_neg (by omega)]
 have hout : ∀ k : Int,k ≠ l → setS C l (3 + 2 * k) = C (3 + 2 * k):=fun k hk=>by unfold setS; rw [if_neg (by omega)]
 have hz : setS C l 0 = C 0:=by unfold setS; rw [if_neg (by omega)]
 have hil : setS C l (2 + 2 * l) = true:=by unfold setS; rw [if_pos (.inl rfl)]
 have hol : setS C l (3 + 2 * l) = true:=by unfold setS; rw [if_pos (.inr rfl)]
 have h1 : (p.seeds.map fun x=>if decide (0 < (zat (noF g l) p).getD x.toNat 0) = true then (if setS C l 0 = true ∧ setS C l (2 + 2 * x) = false then (zat (noF g l) p).getD x.toNat 0 else 0) else 0).sum ≤ (p.seeds.map fun x=>if decide (0 < (zat (noT g l) p).getD x.toNat 0) = true then (if C 0 = true ∧ C (2 + 2 * x) = false then (zat (noT g l) p).getD x.toNat 0 else 0) else 0).sum:=by
  refine zcK fun x hx=>?_
  have h2:=hp.2.1.nodup.2 x hx
  have hxl : x ≠ l:=fun e=>hL.seed (e ▸ hx)
  rw [hL.cap x h2.1 hxl,hz,hin x hxl]
  exact Int.le_refl _
 have h2 : ((List.range (zat (noF g l) p).length).map fun (i : Nat)=>if decide (0 < (zat (noF g l) p).getD i 0) = true then (if setS C l (2 + 2 * (i : Int)) = true ∧ setS C l (3 + 2 * (i : Int)) = false then (zat (noF g l) p).getD i 0 - 1 else 0) else 0).sum ≤ ((List.range (zat (noT g l) p).length).map fun (i : Nat)=>if decide (0 < (zat (noT g l) p).getD i 0) = true then (if C (2 + 2 * (i : Int)) = true ∧ C (3 + 2 * (i : Int)) = false then (zat (noT g l) p).getD i 0 - 1 else 0) else 0).sum:=by
  rw [hlen]
  refine zcK fun i _=>?_
  by_cases hi : (i : Int) = l
  ·have h0 : (zat (noT g l) p).getD i 0 = 0:=by have h9:=hL.cap0; rw [show l.toNat = i by omega] at h9; exact h9
   rw [h0,if_neg (by simp : ¬ (decide ((0 : Int) < 0) = true)),hi,hil,hol,if_neg (by simp : ¬ (true = true ∧ true = false))]
   split <;> exact Int.le_refl _
  ·have:=hL.cap i (by omega) hi
   rw [Int.toNat_natCast] at this
   rw [this,hin _ hi,hout _ hi]
   exact Int.le_refl _
 have h3 : ((zai (noF g l) p.lv).edges.map fun e=>if decide (0 < (zat (noF g l) p).getD e.f.toNat 0) = true then (if setS C l (3 + 2 * e.f) = true ∧ setS C l (2 + 2 * e.t) = false then (64 : Int) else 0) else 0).sum ≤ ((zai (noT g l) p.lv).edges.map fun e=>if decide (0 < (zat (noT g l) p).getD e.f.toNat 0) = true then (if C (3 + 2 * e.f) = true ∧ C (2 + 2 * e.t) = false then (64 : Int) else 0) else 0).sum:=by
  rw [zfq (noF g l)]
  show _ ≤ (((zai (noF g l) p.lv).edges.filter (notT l)).map _).sum
  rw [zbG]
  refine zcK fun e he=>?_
  have hm:=List.mem_filter.1 (List.mem_filter.1 he).1
  have hf:=hg.fits e hm.1
  unfold Fits at hf
  have hfl:=zf4.1 hm.2
  rw [hL.cap e.f hf.1 hfl,hout _ hfl]
  by_cases ht : e.t = l
  ·rw [ht,hil,if_neg (by simp : ¬ (C (3 + 2 * e.f) = true ∧ true = false)),if_neg (fun h=>zh6.1 h ht)]
   split <;> exact Int.le_refl _
  ·rw [hin _ ht,if_pos (zh6.2 ht)]
   exact Int.le_refl _
 omega
end
theorem zrz (hg : GrOk g) (hp : zbb g.size p) (hL : Less g p l) {ks : List Int} (hkl : l ∉ ks) (h1 : zbf (noF g l) p ks) (h2 : zbf (noT g l) p ks) : zaq (noF g l) p ks ↔ zaq (noT g l) p ks:=by
 have hgF : GrOk (noF g l):=hg.filt _
 have hgT : GrOk (noT g l):=hgF.filt _
 rw [zbP hgF hp h1,zbP hgT hp h2]
 constructor
 ·intro h C c0 c1
  have hl0:=hL.rng.1
  have h3:=h (setS C l) (by unfold setS; rw [if_neg (by omega)]; exact c0) (by unfold setS; rw [if_neg (by omega)]; exact c1)
  have h4:=zrG hg hp hL C
  have h5 : zfe (setS C l) ks = zfe C ks:=by
   unfold zfe
   congr 1
   refine List.map_congr_left fun k hk=>?_
   have hkk : k ≠ l:=fun e=>hkl (e ▸ hk)
   have h6 : setS C l (2 + 2 * k) = C (2 + 2 * k):=by unfold setS; rw [if_neg (by omega)]
   rw [h6]
  omega
 ·intro h C c0 c1
  have h3:=h C c0 c1
  have h4:=zqM hg hp hL C
  omega
theorem zmq {g' : Gr} {o' : List Int} (h : ∀ ks,(∀ x ∈ ks,x ∈ o') → (zaq g p ks ↔ zaq g' p ks)) : ∀ (n : Nat) (o : List Int),o.length = n → (∀ x ∈ o,x ∈ o') → accR g p o = accR g' p o
 | 0,o,hn,_=>by
   obtain rfl:=List.eq_nil_of_length_eq_zero hn
   rfl
 | n + 1,o,hn,ho=>by
   have hne : o ≠ []:=fun e=>by rw [e] at hn; cases hn
   rw [← List.dropLast_concat_getLast hne]
   have ih:=zmq h n o.dropLast (by rw [List.length_dropLast,hn]; rfl) fun x hx=>ho x (List.dropLast_subset _ hx)
   have hsub : ∀ x ∈ zaG (accR g p o.dropLast ++ [o.getLast hne]),x ∈ o':=fun x hx=>by
    rcases List.mem_append.1 (zdt.1 hx).1 with h1 | h1
    ·exact ho x (List.dropLast_subset _ (zcb h1))
    ·rw [List.mem_singleton] at h1
     rw [h1]
     exact ho _ (List.getLast_mem hne)
   by_cases hc : zaq g p (zaG (accR g p o.dropLast ++ [o.getLast hne]))
   ·rw [zbK hc,zbK (by rw [← ih]; exact (h _ hsub).1 hc),ih]
   ·rw [zdQ hc,zdQ (by rw [← ih]; exact fun h1=>hc ((h _ hsub).2 h1)),ih]
theorem zrq (hg : GrOk g) (hp : zbb g.size p) {o' : List Int} (ho : ordL (zai g p.lv) p.seeds = o' ++ [l]) (hs : p.seeds.contains l = false) :
  (accR (noF g l) p (ordL (zai (noF g l) p.lv) p.seeds)).filter (fun x=>!decide (x = l)) = accR (noT g l) p (ordL (zai (noT g l) p.lv) p.seeds):=by
 have hG:=hg.level p.lv
 have hgF : GrOk (noF g l):=hg.filt _
 have hgT : GrOk (noT g l):=hgF.filt _
 have hlo : l ∈ ordL (zai g p.lv) p.seeds:=by rw [ho]; simp
 have hlk:=(zgN hG).1 hlo
 have hlk1 : 0 ≤ l ∧ l < g.size:=hlk.1
 have hpair : (o' ++ [l]).Pairwise (Lt (zai g p.lv) p.seeds):=by rw [← ho]; exact zil _
 have hmax : ∀ k,Key (zai g p.lv) k → 0 ≤ dist (zai g p.lv) p.seeds k → dist (zai g p.lv) p.seeds k ≤ dist (zai g p.lv) p.seeds l:=fun k hk h0=>by
  have hm:=(zgN hG).2 ⟨hk,h0⟩
  rw [ho] at hm
  rcases List.mem_append.1 hm with h | h
  ·have:=(List.pairwise_append.1 hpair).2.2 k h l (by simp)
   unfold Lt at this
   omega
  ·rw [List.mem_singleton] at h
   rw [h]
   exact Int.le_refl _
 have hst : zcB (zai g p.lv) p.seeds l = false:=by unfold zcB; rw [hs]; rfl
 have eF : zai (noF g l) p.lv = noF (zai g p.lv) l:=zfq ..
 have eT : zai (noT g l) p.lv = noT (zai g p.lv) l:=by rw [zfq,eF]
 have hdF : ∀ k,dist (zai (noF g l) p.lv) p.seeds k = dist (zai g p.lv) p.seeds k:=fun k=>by
  rw [eF]
  exact zrZ hG hmax _ (Nat.le_refl _) k
 have hdT : dist (zai (noT g l) p.lv) p.seeds l = -1 ∧ ∀ k,k ≠ l → dist (zai (noT g l) p.lv) p.seeds k = dist (zai g p.lv) p.seeds k:=by
  rw [eT]
  have h:=zp8 hst (zai g p.lv).size.toNat
  exact ⟨h.1,fun k hk=>by rw [← hdF k,eF]; exact h.2 k hk⟩
 have hoF : ordL (zai (noF g l) p.lv) p.seeds = o' ++ [l]:=by
  rw [← ho]
  exact zkf (g:=zai (noF g l) p.lv) (g':=zai g p.lv) rfl hdF _
 have hln : l ∉ o':=fun h=>by
  have:=(List.pairwise_append.1 hpair).2.2 l h l (by simp)
  unfold Lt at this
  omega
 have hfo : o'.filter (fun x=>!decide (x = l)) = o':=List.filter_eq_self.2 fun x hx=>by
  have : x ≠ l:=fun e=>hln (e ▸ hx)
  simp [this]
 have hoT : ordL (zai (noT g l) p.lv) p.seeds = o':=by
  rw [eT]
  show ordN (noT (zai g p.lv) l) p.seeds _ = _
  rw [zlS hst]
  show (ordL (noF (zai g p.lv) l) p.seeds).filter _ = _
  rw [← eF,hoF,List.filter_append,hfo]
  simp
 have hL : Less g p l:=by
  refine ⟨hlk1,(fun h=>by rw [List.contains_iff_mem.2 h] at hs; cases hs),fun k h0 hk=>?_,?_⟩
  ·by_cases h1 : k < g.size
   ·rw [zgj h0 (show k < (noT g l).size from h1),zgj h0 (show k < (noF g l).size from h1),hdF,hdT.2 k hk]
   ·rw [ziJ (show (noT g l).size ≤ k by show g.size ≤ k; omega),ziJ (show (noF g l).size ≤ k by show g.size ≤ k; omega)]
  ·rw [zgj hlk1.1 (show l < (noT g l).size from hlk1.2),hdT.1]
   rfl
 have hkF : ∀ ks : List Int,(∀ x ∈ ks,x ∈ o') → zbf (noF g l) p ks:=fun ks h=>zhb hgF hp fun x hx=>by rw [hoF]; exact List.mem_append_left _ (h x hx)
 have hkT : ∀ ks : List Int,(∀ x ∈ ks,x ∈ o') → zbf (noT g l) p ks:=fun ks h=>zhb hgT hp fun x hx=>by rw [hoT]; exact h x hx
 have hsame:=zmq (g:=noF g l) (g':=noT g l) (p:=p) (o':=o') (fun ks h=>zrz hg hp hL (fun hm=>hln (h l hm)) (hkF ks h) (hkT ks h)) _ o' rfl fun _ h=>h
 rw [hoF,hoT,← hsame]
 have hfa : (accR (noF g l) p o').filter (fun x=>!decide (x = l)) = accR (noF g l) p o':=List.filter_eq_self.2 fun x hx=>by
  have : x ≠ l:=fun e=>hln (e ▸ zcb hx)
  simp [this]
 by_cases hc : zaq (noF g l) p (zaG (accR (noF g l) p o' ++ [l]))
 ·rw [zbK hc,List.filter_append,hfa]
  simp
 ·rw [zdQ hc,hfa]
abbrev gWx (g : Gr) (A : List Ed) (i : Nat) : List AV:=[.I g.size,.rs i 0 A.length,ints g.gone]
abbrev eW (A : List Ed) : Ent:=⟨3,A.map eC,0⟩
def edF (g : Gr) (l : Int) (i : Nat) : List Ed:=(g.edges.take i).filter (notF l)
def edT (g : Gr) (l : Int) (i : Nat) : List Ed:=(edF g l i).filter (notT l)
theorem zoj {g : Gr} {l : Int} {i : Nat} (h : i < g.edges.length) : edF g l (i + 1) = edF g l i ++ if notF l g.edges[i] = true then [g.edges[i]] else []:=by
 unfold edF
 rw [List.take_succ_eq_append_getElem h,List.filter_append]
 by_cases hc : notF l g.edges[i] = true
 ·rw [if_pos hc,List.filter_cons,if_pos hc]; rfl
 ·rw [if_neg hc,List.filter_cons,if_neg hc]; rfl
theorem zrd {g : Gr} {l : Int} {i : Nat} (h : i < g.edges.length) : edT g l (i + 1) = edT g l i ++ if notF l g.edges[i] = true ∧ notT l g.edges[i] = true then [g.edges[i]] else []:=by
 unfold edT
 rw [zoj h,List.filter_append]
 by_cases hc : notF l g.edges[i] = true
 ·rw [if_pos hc,List.filter_cons]
  by_cases hd : notT l g.edges[i] = true
  ·rw [if_pos hd,if_pos ⟨hc,hd⟩]; rfl
  ·rw [if_neg hd,if_neg (fun h=>hd h.2)]; rfl
 ·rw [if_neg hc,if_neg (fun h=>hc h.1)]; rfl
theorem zpV (g : Gr) (l : Int) (i : Nat) : (edF g l i).length ≤ g.edges.length:=Nat.le_trans (List.length_filter_le ..) (List.length_take_le' ..)
theorem zsy (g : Gr) (l : Int) (i : Nat) : (edT g l i).length ≤ g.edges.length:=Nat.le_trans (List.length_filter_le ..) (zpV g l i)
def zgL (l : Int) (a : List Int) (j : Nat) : List Int:=(a.take j).filter fun x=>!decide (x = l)
theorem zoN {l : Int} {a : List Int} {j : Nat} (h : j < a.length) : zgL l a (j + 1) = zgL l a j ++ if a[j] = l then [] else [a[j]]:=by
 unfold zgL
 rw [List.take_succ_eq_append_getElem h,List.filter_append]
 by_cases hc : a[j] = l
 ·rw [if_pos hc,List.filter_cons,if_neg (by simp [hc])]; rfl
 ·rw [if_neg hc,List.filter_cons,if_pos (by simp [hc])]; rfl
theorem zql (l : Int) (a : List Int) (j : Nat) : (zgL l a j).length ≤ a.length:=Nat.le_trans (List.length_filter_le ..) (List.length_take_le' ..)
set_option maxRecDepth 100000 in
set_option maxHeartbeats 4000000 in
theorem zfH (L : List Int) : zaj Tryz.prog zd4 [ints L] [] (.B true) []:=by
 refine zht.acalls (Nat.le_of_ble_eq_true rfl) (Nat.le_of_ble_eq_true rfl) (Nat.le_refl _) ?_
 show awp _ 0 _ _ ⟨138,[(0,ints L)],[],16⟩
 have hlight:=zlb L
 refine rx (s:=?s1) [0] [] [] rfl ?o1 ?q1
 case o1=>simp; rfl
 refine zaa ?_
 refine zab ⟨138,[(0,ints L),(20,.B (!decide (L.length ≤ 400)))],[],100⟩ rfl ?_ ?_
 ·simp
  refine zam hlight (by simp) ?_
  simp
  exact Le.go [] [] rfl rfl (by simp <;> exact wkB (by rw [Bool.eq_iff_iff]; simp)) (by simp)
 refine zad _ rfl (fun h3=>?_) fun h3=>?_
 ·refine rx (s:=?s4) [2] [] [] rfl ?o4 ?q4
  case o4=>simp; refine zam zcm (by simp) ?_; simp; rfl
  refine zag ?_
  exact ⟨.inr rfl,zan.one (by simp)⟩
 have h3 : L.length ≤ 400:=by simpa using h3
 obtain ⟨g,b1,⟨hg,hg2,hg9,hb1⟩,hcg⟩:=zqk L h3
 obtain ⟨⟨p,b2⟩,⟨hp1,hp2,hp3,hb2⟩,hcp⟩:=zk1 L b1 g h3 hb1 (by omega) (by omega)
 simp only at hp1 hp2 hp3 hb2 hcp
 have hel:=hg.edges_le
 have hgl:=hg.gone_le
 refine zae ?_
 refine zab ⟨138,[(3,.pt 20 0 0)],[(20,some (dice L 0))],200⟩ rfl ?_ ?_
 ·simp
  refine za3 (znj L) (by simp) ?_
  simp
  exact Le.go [(108,20)] [] rfl rfl (by simp) (by simp)
 refine zab ⟨138,[(3,.pt 20 0 0),(4,.pv (gC g))],[(20,some (dice L b1))],300⟩ rfl ?_ ?_
 ·simp
  refine zba (i:=20) rfl (e':=dice L 0) (by simp) hcg (by simp) (by simp) ?_
  simp
  exact Le.go [(20,20)] [216] rfl rfl (by simp) (by simp)
 refine zab ⟨138,[(3,.pt 20 0 0),(4,.pv (gC g)),(5,.pv (pC p))],[(20,some (dice L b2))],400⟩ rfl ?_ ?_
 ·simp
  refine zba (i:=20) rfl (e':=dice L b1) (by simp) hcp (by simp) (by simp) ?_
  simp
  exact Le.go [(20,20)] [324] rfl rfl (by simp) (by simp)
 have hlev:=zfz g p.lv (by omega) (by omega)
 have hord:=zjX (g:=zai g p.lv) (S:=p.seeds) (hg.level p.lv) (by omega)
 have hol:=zkP hg p
 have hlast:=fun (l : Int) (o' : List Int)=>zrq (g:=g) (p:=p) (l:=l) (o':=o') hg hp1
 obtain ⟨o,ho⟩ : ∃ o,o = ordL (zai g p.lv) p.seeds:=⟨_,rfl⟩
 rw [← ho] at hord hol
 simp only [← ho] at hlast
 refine zaF ⟨138,[(4,.pv (gC g)),(5,.pv (pC p)),(6,ints o)],[],600⟩ rfl ?_ ?_
 ·simp
  refine zam hlev (by simp) ?_
  simp
  refine za3 hord (by simp) ?_
  simp
  exact ⟨rfl,Le.go [] [448] rfl rfl (by simp [fcd,zal]) (by simp)⟩
 refine zaa ?_
 refine zab ⟨138,[(4,.pv (gC g)),(5,.pv (pC p)),(6,ints o),(38,.B (decide (o.length = 0)))],[],700⟩ rfl ?_ ?_
 ·simp
  exact Le.go [] [] rfl rfl (by simp <;> exact wkB (by rw [Bool.eq_iff_iff]; simp)) (by simp)
 refine zad _ rfl (fun h5=>?_) fun h5=>?_
 ·refine rx (s:=?s6) [2] [] [] rfl ?o6 ?q6
  case o6=>simp; refine zam zcm (by simp) ?_; simp; rfl
  refine zag ?_
  exact ⟨.inr rfl,zan.one (by simp)⟩
 have h5 : o.length ≠ 0:=by simpa using h5
 refine zae ?_
 have hne : o ≠ []:=fun e=>h5 (by rw [e]; rfl)
 obtain ⟨l,hl⟩ : ∃ l,l = o.getLast hne:=⟨_,rfl⟩
 have hoe : o = o.dropLast ++ [l]:=by rw [hl]; exact (List.dropLast_concat_getLast hne).symm
 have hlast:=hlast l o.dropLast hoe
 have hw0 : IntKind.i64.wrap ((o.length : Int) - 1) = ((o.length - 1 : Nat) : Int):=by rw [w64 (by omega) (by omega)]; omega
 have hol1 : o.length - 1 < o.length:=by omega
 have hat : o[o.length - 1] = l:=by rw [hl,List.getLast_eq_getElem]
 refine zab ⟨138,[(4,.pv (gC g)),(5,.pv (pC p)),(7,.I l)],[],800⟩ rfl ?_ ?_
 ·obtain ⟨m,hm⟩ : ∃ m,m = o.length - 1:=⟨_,rfl⟩
  simp only [← hm] at hw0 hol1 hat
  simp [hw0,hol1,hat]
  exact Le.go [] [] rfl rfl (by simp) (by simp)
 have hhas:=zf2 p.seeds l (by omega)
 refine zaa ?_
 refine zab ⟨138,[(4,.pv (gC g)),(5,.pv (pC p)),(7,.I l),(49,.B (p.seeds.contains l))],[],900⟩ rfl ?_ ?_
 ·simp
  refine zam hhas (by simp) ?_
  simp
  exact Le.go [] [] rfl rfl (by simp) (by simp)
 refine zad _ rfl (fun h6=>?_) fun h6=>?_
 ·refine rx (s:=?s7) [2] [] [] rfl ?o7 ?q7
  case o7=>simp; refine zam zcm (by simp) ?_; simp; rfl
  refine zag ?_
  exact ⟨.inr rfl,zan.one (by simp)⟩
 have h6 : p.seeds.contains l = false:=h6
 have hlast:=hlast h6
 refine zae ?_
 have hcopy:=zem g (by omega) (by omega)
 refine zaF ⟨138,[(4,.pv (gC g)),(5,.pv (pC p)),(7,.I l),(8,.pt 30 0 0),(9,.pt 40 0 0)],[(30,some ⟨3,[gC g],0⟩),(40,some ⟨3,[gC g],0⟩)],1200⟩ rfl ?_ ?_
 ·simp
  refine zmm hcopy (by simp) ?_
  simp
  refine zmm hcopy (by simp) ?_
  simp [zaZ]
  exact ⟨rfl,Le.go [(932,30),(940,40)] [908,909,924,925] rfl rfl (by simp) (by simp [fcd,zal])⟩
 refine zab ⟨138,[(4,.pv (gC g)),(5,.pv (pC p)),(7,.I l),(8,.pt 30 0 0),(9,.pt 40 0 0)],[(30,some ⟨3,[[.I g.size,.nilS,ints g.gone]],0⟩),(40,some ⟨3,[[.I g.size,.nilS,ints g.gone]],0⟩)],1300⟩ rfl ?_ ?_
 ·simp [zaZ]
  exact Le.go [(30,30),(40,40)] [] rfl rfl (by simp) (by simp)
 refine zaa ?_
 refine zab ⟨138,[(4,.pv (gC g)),(5,.pv (pC p)),(7,.I l),(8,.pt 30 0 0),(9,.pt 40 0 0),(10,.I 0)],[(30,some ⟨3,[[.I g.size,.nilS,ints g.gone]],0⟩),(40,some ⟨3,[[.I g.size,.nilS,ints g.gone]],0⟩)],1400⟩ rfl ?_ ?_
 ·simp
  exact Le.go [(30,30),(40,40)] [] rfl rfl (by simp) (by simp)
 refine zaf ?_
 refine zap (ι:=Nat) (fun i=>⟨138,[(4,.pv (gC g)),(5,.pv (pC p)),(7,.I l),(8,.pt 30 0 0),(9,.pt 40 0 0),(10,.I i)],[(30,some ⟨3,[gWx g (edF g l i) 31],0⟩),(31,some (eW (edF g l i))),(40,some ⟨3,[gWx g (edT g l i) 41],0⟩),(41,some (eW (edT g l i)))],1500⟩) (fun i=>i ≤ g.edges.length) (fun i=>g.edges.length - i) 0 (Nat.zero_le _)
  (Le.lst [(30,30),(40,40)] [] [(31,3),(41,3)] rfl (by simp) (by simp) (by simp) (by simp) (by simp) (by simp) (by simp) (by simp [Up]) (by simp [fcd,edF,edT]; exact ⟨zaC.row rfl (by omega) (by simp [UpL,Up,Wk.refl]),zaC.row rfl (by omega) (by simp [UpL,Up,Wk.refl])⟩)) ?_
 intro i hi
 refine zaa ?_
 refine zab ⟨138,[(4,.pv (gC g)),(5,.pv (pC p)),(7,.I l),(8,.pt 30 0 0),(9,.pt 40 0 0),(10,.I i),(61,.B (decide (i < g.edges.length)))],[(30,some ⟨3,[gWx g (edF g l i) 31],0⟩),(31,some (eW (edF g l i))),(40,some ⟨3,[gWx g (edT g l i) 41],0⟩),(41,some (eW (edT g l i)))],1600⟩ rfl ?_ ?_
 ·simp
  exact Le.go [(30,30),(31,31),(40,40),(41,41)] [] rfl rfl (by simp) (by simp [fcd,zal])
 refine zad _ rfl (fun h13=>?_) fun h13=>?_
 ·simp at h13
  have hw1 : IntKind.i64.wrap ((i : Int) + 1) = (i : Int) + 1:=w64 (by omega) (by omega)
  have hF:=zoj (l:=l) h13
  have hT:=zrd (l:=l) h13
  have hFl:=zpV g l i
  have hTl:=zsy g l i
  obtain ⟨e,he⟩ : ∃ e,e = g.edges[i]:=⟨_,rfl⟩
  rw [← he] at hF hT
  obtain ⟨X,hX⟩ : ∃ X,X = edF g l i:=⟨_,rfl⟩
  obtain ⟨Y,hY⟩ : ∃ Y,Y = edT g l i:=⟨_,rfl⟩
  rw [← hX] at hF hFl
  rw [← hY] at hT hTl
  rw [← hX,← hY]
  obtain ⟨X2,hX2⟩ : ∃ X2,X2 = edF g l (i + 1):=⟨_,rfl⟩
  obtain ⟨Y2,hY2⟩ : ∃ Y2,Y2 = edT g l (i + 1):=⟨_,rfl⟩
  rw [← hX2] at hF
  rw [← hY2] at hT
  refine zae ?_
  refine zaI (ι:=Unit) (fun _=>⟨138,[(4,.pv (gC g)),(5,.pv (pC p)),(7,.I l),(8,.pt 30 0 0),(9,.pt 40 0 0),(10,.I i)],[(30,some ⟨3,[gWx g X2 31],0⟩),(31,some (eW X2)),(40,some ⟨3,[gWx g Y2 41],0⟩),(41,some (eW Y2))],3000⟩) (fun _=>True) ?_ fun _ _=>?_
  ·refine zaf ?_
   refine zab ⟨138,[(4,.pv (gC g)),(5,.pv (pC p)),(7,.I l),(8,.pt 30 0 0),(9,.pt 40 0 0),(10,.I i),(11,.pv (eC e))],[(30,some ⟨3,[gWx g X 31],0⟩),(31,some (eW X)),(40,some ⟨3,[gWx g Y 41],0⟩),(41,some (eW Y))],1800⟩ rfl ?_ ?_
   ·simp [h13,← he]
    exact Le.go [(30,30),(31,31),(40,40),(41,41)] [1640] rfl rfl (by simp) (by simp [fcd,zal])
   refine zab ⟨138,[(4,.pv (gC g)),(5,.pv (pC p)),(7,.I l),(8,.pt 30 0 0),(9,.pt 40 0 0),(10,.I i),(11,.pv (eC e)),(72,.B (notF l e))],[(30,some ⟨3,[gWx g X 31],0⟩),(31,some (eW X)),(40,some ⟨3,[gWx g Y 41],0⟩),(41,some (eW Y))],1900⟩ rfl ?_ ?_
   ·simp
    exact Le.go [(30,30),(31,31),(40,40),(41,41)] [] rfl rfl (by simp <;> exact wkB (by rw [Bool.eq_iff_iff]; simp [notF])) (by simp [fcd])
   refine zad _ rfl (fun h20=>?_) fun h20=>?_
   ·have h20 : notF l e = true:=h20
    rw [if_pos h20] at hF
    refine zab ⟨138,[(4,.pv (gC g)),(5,.pv (pC p)),(7,.I l),(8,.pt 30 0 0),(9,.pt 40 0 0),(10,.I i),(11,.pv (eC e))],[(30,some ⟨3,[gWx g X2 31],0⟩),(31,some (eW X2)),(40,some ⟨3,[gWx g Y 41],0⟩),(41,some (eW Y))],2200⟩ rfl ?_ ?_
    ·rw [hF]
     simp [zaZ]
     refine ⟨by omega,by omega,?_⟩
     exact Le.go [(30,30),(1932,31),(40,40),(41,41)] [] rfl rfl (by simp) (by simp [fcd,zal])
    refine zab ⟨138,[(4,.pv (gC g)),(5,.pv (pC p)),(7,.I l),(8,.pt 30 0 0),(9,.pt 40 0 0),(10,.I i),(11,.pv (eC e)),(82,.B (notT l e))],[(30,some ⟨3,[gWx g X2 31],0⟩),(31,some (eW X2)),(40,some ⟨3,[gWx g Y 41],0⟩),(41,some (eW Y))],2300⟩ rfl ?_ ?_
    ·simp
     exact Le.go [(30,30),(31,31),(40,40),(41,41)] [] rfl rfl (by simp <;> exact wkB (by rw [Bool.eq_iff_iff]; simp [notT])) (by simp [fcd])
    refine zad _ rfl (fun h21=>?_) fun h21=>?_
    ·have h21 : notT l e = true:=h21
     rw [if_pos ⟨h20,h21⟩] at hT
     refine zar rfl ?_
     rw [hT]
     simp [zaZ]
     refine ⟨by omega,by omega,?_⟩
     exact Le.go [(30,30),(31,31),(40,40),(2332,41)] [] rfl rfl (by simp) (by simp [fcd,zal])
    ·have h21 : notT l e = false:=h21
     rw [if_neg (by rw [h21]; simp),List.append_nil] at hT
     rw [hT]
     refine zae ?_
     exact ⟨(),trivial,Le.go [(30,30),(31,31),(40,40),(41,41)] [] rfl rfl (by simp) (by simp [fcd])⟩
   ·have h20 : notF l e = false:=h20
    rw [if_neg (by rw [h20]; simp),List.append_nil] at hF
    rw [if_neg (by rw [h20]; simp),List.append_nil] at hT
    rw [hF,hT]
    refine zae ?_
    exact ⟨(),trivial,Le.go [(30,30),(31,31),(40,40),(41,41)] [] rfl rfl (by simp) (by simp [fcd])⟩
  refine zar rfl ?_
  simp
  exact ⟨i + 1,by omega,by omega,Le.go [(30,30),(31,31),(40,40),(41,41)] [] rfl rfl (by simp [hw1]) (by simp [fcd,← hX2,← hY2])⟩
 simp at h13
 obtain rfl : i = g.edges.length:=by omega
 have hgF : GrOk (noF g l):=hg.filt _
 have hgT : GrOk (noT g l):=hgF.filt _
 have heF : (noF g l).edges = edF g l g.edges.length:=by unfold edF; rw [List.take_length]; rfl
 have heT : (noT g l).edges = edT g l g.edges.length:=by unfold edT; rw [← heF]; rfl
 obtain ⟨fq,hfq,hrunq⟩:=zcZ (noF g l) p hgF hp1 (by omega) (by show g.size < 20; omega)
 obtain ⟨ft,hft,hrunt⟩:=zcZ (noT g l) p hgT hp1 (by omega) (by show g.size < 20; omega)
 have haq:=zh1 hgF p
 have hat2:=zh1 hgT p
 simp only [accG] at haq hat2
 rw [show eG (noF g l) = .agg [.I g.size,eEs (noF g l).edges,ints g.gone] from rfl,heF] at hrunq
 rw [show eG (noT g l) = .agg [.I g.size,eEs (noT g l).edges,ints g.gone] from rfl,heT] at hrunt
 obtain ⟨aq,haqe⟩ : ∃ aq,aq = accR (noF g l) p (ordL (zai (noF g l) p.lv) p.seeds):=⟨_,rfl⟩
 obtain ⟨at',hate⟩ : ∃ at',at' = accR (noT g l) p (ordL (zai (noT g l) p.lv) p.seeds):=⟨_,rfl⟩
 obtain ⟨Rq,hRq⟩ : ∃ R,R = refR (noF g l) p (ordL (zai (noF g l) p.lv) p.seeds):=⟨_,rfl⟩
 obtain ⟨Rt,hRt⟩ : ∃ R,R = refR (noT g l) p (ordL (zai (noT g l) p.lv) p.seeds):=⟨_,rfl⟩
 rw [← haqe,← hate] at hlast
 rw [← haqe] at haq
 rw [← hate] at hat2
 rw [← haqe,← hRq] at hrunq
 rw [← hate,← hRt] at hrunt
 obtain ⟨X,hX⟩ : ∃ X,X = edF g l g.edges.length:=⟨_,rfl⟩
 obtain ⟨Y,hY⟩ : ∃ Y,Y = edT g l g.edges.length:=⟨_,rfl⟩
 rw [← hX] at hrunq
 rw [← hY] at hrunt
 rw [← hX,← hY]
 have hkl : zgL l aq aq.length = at':=by unfold zgL; rw [List.take_length]; exact hlast
 have hsame:=zmN at' at' (by omega)
 rw [show decide (at' = at') = true from decide_eq_true rfl] at hsame
 refine zao ?_
 refine hit ?_
 refine zab ⟨138,[(5,.pv (pC p)),(7,.I l),(9,.pt 40 0 0),(12,.pv [ints aq,ints fq,.vs 2 false (zaM Rq)]),(13,.I 0)],[(40,some ⟨3,[gWx g Y 41],0⟩),(41,some (eW Y))],1800⟩ rfl ?_ ?_
 ·simp
  refine zl5 [31] (by simp) hrunq (by simp [fcd,zal]) ?_
  simp
  exact Le.go [(40,40),(41,41)] [1648] rfl rfl (by simp) (by simp [fcd,zal])
 refine zab ⟨138,[(5,.pv (pC p)),(7,.I l),(12,.pv [ints aq,ints fq,.vs 2 false (zaM Rq)]),(13,.I 0),(14,.pv [ints at',ints ft,.vs 2 false (zaM Rt)]),(15,.I 0)],[],2000⟩ rfl ?_ ?_
 ·simp
  refine zl5 [41] (by simp) hrunt (by simp [fcd,zal]) ?_
  simp
  exact Le.go [] [1848] rfl rfl (by simp) (by simp)
 refine zab ⟨138,[(5,.pv (pC p)),(7,.I l),(12,.pv [ints aq,ints fq,.vs 2 false (zaM Rq)]),(13,.I 0),(14,.pv [ints at',ints ft,.vs 2 false (zaM Rt)]),(15,.I 0),(16,.nilS)],[],2100⟩ rfl ?_ ?_
 ·simp
  exact Le.go [] [] rfl rfl (by simp) (by simp)
 refine zaa ?_
 refine zab ⟨138,[(5,.pv (pC p)),(7,.I l),(12,.pv [ints aq,ints fq,.vs 2 false (zaM Rq)]),(13,.I 0),(14,.pv [ints at',ints ft,.vs 2 false (zaM Rt)]),(15,.I 0),(16,.nilS),(17,.I 0)],[],2200⟩ rfl ?_ ?_
 ·simp
  exact Le.go [] [] rfl rfl (by simp) (by simp)
 refine zaf ?_
 refine zap (ι:=Nat) (fun j=>⟨138,[(5,.pv (pC p)),(7,.I l),(12,.pv [ints aq,ints fq,.vs 2 false (zaM Rq)]),(13,.I 0),(14,.pv [ints at',ints ft,.vs 2 false (zaM Rt)]),(15,.I 0),(16,.rs 60 0 (zgL l aq j).length),(17,.I j)],[(60,some ⟨1,zah (zgL l aq j),0⟩)],2300⟩) (fun j=>j ≤ aq.length) (fun j=>aq.length - j) 0 (Nat.zero_le _)
  (Le.lst [] [] [(60,1)] rfl (by simp) (by simp) (by simp) (by simp) (by simp) (by simp) (by simp) (by simp [Up,zgL]) (by simp [zgL])) ?_
 intro j hj
 refine zaa ?_
 refine zab ⟨138,[(5,.pv (pC p)),(7,.I l),(12,.pv [ints aq,ints fq,.vs 2 false (zaM Rq)]),(13,.I 0),(14,.pv [ints at',ints ft,.vs 2 false (zaM Rt)]),(15,.I 0),(16,.rs 60 0 (zgL l aq j).length),(17,.I j),(105,.B (decide (j < aq.length)))],[(60,some ⟨1,zah (zgL l aq j),0⟩)],2400⟩ rfl ?_ ?_
 ·simp
  exact Le.go [(60,60)] [] rfl rfl (by simp) (by simp [fcd,zal])
 refine zad _ rfl (fun h14=>?_) fun h14=>?_
 ·simp at h14
  have hw1 : IntKind.i64.wrap ((j : Int) + 1) = (j : Int) + 1:=w64 (by omega) (by omega)
  have hks:=zoN (l:=l) h14
  have hkn:=zql l aq j
  obtain ⟨x,hx⟩ : ∃ x,x = aq[j]:=⟨_,rfl⟩
  rw [← hx] at hks
  obtain ⟨K,hK⟩ : ∃ K,K = zgL l aq j:=⟨_,rfl⟩
  obtain ⟨K2,hK2⟩ : ∃ K2,K2 = zgL l aq (j + 1):=⟨_,rfl⟩
  rw [← hK,← hK2] at hks
  rw [← hK] at hkn
  rw [← hK]
  refine zae ?_
  refine zaI (ι:=Unit) (fun _=>⟨138,[(5,.pv (pC p)),(7,.I l),(12,.pv [ints aq,ints fq,.vs 2 false (zaM Rq)]),(13,.I 0),(14,.pv [ints at',ints ft,.vs 2 false (zaM Rt)]),(15,.I 0),(16,.rs 60 0 K2.length),(17,.I j)],[(60,some ⟨1,zah K2,0⟩)],3400⟩) (fun _=>True) ?_ fun _ _=>?_
  ·refine zaf ?_
   refine zab ⟨138,[(5,.pv (pC p)),(7,.I l),(12,.pv [ints aq,ints fq,.vs 2 false (zaM Rq)]),(13,.I 0),(14,.pv [ints at',ints ft,.vs 2 false (zaM Rt)]),(15,.I 0),(16,.rs 60 0 K.length),(17,.I j),(114,.B (!decide (x = l)))],[(60,some ⟨1,zah K,0⟩)],2600⟩ rfl ?_ ?_
   ·simp [h14,← hx]
    exact Le.go [(60,60)] [] rfl rfl (by simp <;> exact wkB (by rw [Bool.eq_iff_iff]; simp)) (by simp [fcd])
   refine zad _ rfl (fun h20=>?_) fun h20=>?_
   ·have h20 : ¬ x = l:=by simpa using h20
    rw [if_neg h20] at hks
    rw [hks]
    refine zar rfl ?_
    simp [h14,← hx]
    refine ⟨by omega,by omega,?_⟩
    exact Le.go [(2656,60)] [] rfl rfl (by simp) (by simp [fcd,zal])
   ·have h20 : x = l:=by simpa using h20
    rw [if_pos h20,List.append_nil] at hks
    rw [hks]
    refine zae ?_
    exact ⟨(),trivial,Le.go [(60,60)] [] rfl rfl (by simp) (by simp [fcd])⟩
  refine zar rfl ?_
  simp
  exact ⟨j + 1,by omega,by omega,Le.go [(60,60)] [] rfl rfl (by simp [hw1,← hK2]) (by simp [fcd,← hK2])⟩
 simp at h14
 obtain rfl : j = aq.length:=by omega
 rw [hkl]
 refine zao ?_
 refine hit ?_
 refine zab ⟨138,[(2,.B true)],[],2900⟩ rfl ?_ ?_
 ·simp
  refine zam zcm (by simp) ?_
  simp
  refine zl5 [60] (by simp) hsame (by simp [fcd,zal]) ?_
  simp
  exact Le.go [] [] rfl rfl (by simp) (by simp)
 refine zag ?_
 exact ⟨.inr rfl,zan.one (by simp)⟩
end Go.Proofs.YteiabadhhhckfaaGreat
