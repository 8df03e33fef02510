/- Texts of this claim,merged. -/
import Derived.Test.YteiabadhhhckfaaGreatRg16
import Derived.Test.YteiabadhhhckfaaGreatRg9
set_option linter.unusedSimpArgs false
set_option linter.unusedVariables false
set_option linter.unusedSectionVars false
namespace Go.Proofs.YteiabadhhhckfaaGreat
open Go
variable {g : Gr} {p : Pol}
def zeB (g : Gr) (p : Pol) : List Int:=p.seeds.filter fun k=>!g.gone.contains k
theorem zsl (w : Int → Int) (hw : ∀ x,0 ≤ w x) : ∀ {s a : List Int},s.Nodup → (∀ x ∈ s,x ∈ a) → (s.map w).sum ≤ (a.map w).sum
 | [],a,_,_=>by
   have : ∀ a : List Int,0 ≤ (a.map w).sum:=fun a=>by
    induction a with
    | nil=>exact Int.le_refl _
    | cons x a ih=>simp only [List.map_cons,List.sum_cons]; have:=hw x; omega
   exact this a
 | x :: s,a,hn,h=>by
   rw [List.nodup_cons] at hn
   have h1:=List.perm_cons_erase (h x (List.mem_cons_self ..))
   have ih:=zsl w hw (s:=s) (a:=a.erase x) hn.2 fun y hy=>(List.mem_erase_of_ne (by rintro rfl; exact hn.1 hy)).2 (h y (List.mem_cons_of_mem _ hy))
   have h2 : (a.map w).sum = ((x :: a.erase x).map w).sum:=by
    have hp : ∀ {a b : List Int},a.Perm b → (a.map w).sum = (b.map w).sum:=fun h=>by
     induction h with
     | nil=>rfl
     | cons x _ ih=>simp only [List.map_cons,List.sum_cons,ih]
     | swap x y l=>simp only [List.map_cons,List.sum_cons]; omega
     | trans _ _ i1 i2=>exact i1.trans i2
    exact hp h1
   rw [h2]
   simp only [List.map_cons,List.sum_cons]
   omega
theorem zij {α : Type} {w : α → Int} : ∀ {l : List α},(∀ x ∈ l,0 ≤ w x) → 0 ≤ (l.map w).sum
 | [],_=>Int.le_refl _
 | x :: l,h=>by
   have:=zij (l:=l) fun y hy=>h y (List.mem_cons_of_mem _ hy)
   have:=h x (List.mem_cons_self ..)
   simp only [List.map_cons,List.sum_cons]
   omega
theorem zqK (hp : zaV g.size p) (S : Int → Bool) (h0 : S 0 = true) : ((p.seeds.filter fun x=>decide (0 < (zaC g p).getD x.toNat 0)).map fun x=>if S (2 + 2 * x) = false then (zaC g p).getD x.toNat 0 else 0).sum ≤ zsp g p S:=by
 unfold zsp
 simp only [zi4,netA,zaX,List.map_append,List.sum_append,List.map_map,List.filter_nil,List.map_nil,List.sum_nil]
 have h1 : 0 ≤ (((List.range (zaC g p).length).filter fun i=>decide (0 < (zaC g p).getD i 0)).map ((fun e : Ed=>if S e.f = true ∧ S e.t = false then e.v else 0) ∘ fun i : Nat=>(⟨2 + 2 * (i : Int),3 + 2 * (i : Int),(zaC g p).getD i 0 - 1⟩ : Ed))).sum:=zij fun i hi=>by
  have : 0 < (zaC g p).getD i 0:=by simpa using (List.mem_filter.1 hi).2
  simp only [Function.comp]
  split <;> omega
 have h2 : 0 ≤ (((zai g p.lv).edges.filter fun e=>decide (0 < (zaC g p).getD e.f.toNat 0)).map ((fun e : Ed=>if S e.f = true ∧ S e.t = false then e.v else 0) ∘ fun e : Ed=>(⟨3 + 2 * e.f,2 + 2 * e.t,64⟩ : Ed))).sum:=zij fun e _=>by
  simp only [Function.comp]
  split <;> omega
 have h3 : ((p.seeds.filter fun x=>decide (0 < (zaC g p).getD x.toNat 0)).map ((fun e : Ed=>if S e.f = true ∧ S e.t = false then e.v else 0) ∘ fun x : Int=>(⟨0,2 + 2 * x,(zaC g p).getD x.toNat 0⟩ : Ed))) = (p.seeds.filter fun x=>decide (0 < (zaC g p).getD x.toNat 0)).map fun x=>if S (2 + 2 * x) = false then (zaC g p).getD x.toNat 0 else 0:=by
  refine List.map_congr_left fun x _=>?_
  simp only [Function.comp,h0,true_and]
 rw [h3]
 omega
theorem zsN (hg : GrOk g) (hp : zaV g.size p) {ks : List Int} (hn : ks.Nodup) (hs : ∀ k ∈ ks,k ∈ p.seeds) (hk : zbX g p ks) : zat g p ks:=by
 rw [zdw hg hp hk]
 intro S h0 h1
 have hb:=zqK (g:=g) hp S h0
 have hcn:=ziw (g:=g) hp
 have hc0 : ∀ x : Int,0 ≤ (zaC g p).getD x.toNat 0:=fun x=>by
  rw [List.getD_eq_getElem?_getD]
  cases hh : (zaC g p)[x.toNat]? with
  | none=>simp
  | some v=>exact hcn v (List.mem_of_getElem? hh)
 have h2:=zsl (fun x=>if S (2 + 2 * x) = false then (zaC g p).getD x.toNat 0 else 0) (fun x=>by have:=hc0 x; split <;> omega) hn (a:=p.seeds.filter fun x=>decide (0 < (zaC g p).getD x.toNat 0)) fun x hx=>List.mem_filter.2 ⟨hs x hx,decide_eq_true (hk.reach x hx)⟩
 have h3 : (ks.length : Int) ≤ (ks.map fun x=>if S (2 + 2 * x) = false then (zaC g p).getD x.toNat 0 else 0).sum + zfR S ks:=by
  have key : ∀ l : List Int,(∀ x ∈ l,zrj g p x) → (l.length : Int) ≤ (l.map fun x=>if S (2 + 2 * x) = false then (zaC g p).getD x.toNat 0 else 0).sum + zfR S l:=by
   intro l
   induction l with
   | nil=>intro _; exact Int.le_refl _
   | cons x l ih =>
     intro h
     have ih:=ih fun y hy=>h y (List.mem_cons_of_mem _ hy)
     have hx : 0 < (zaC g p).getD x.toNat 0:=h x (List.mem_cons_self ..)
     have hs : zfR S (x :: l) = (if S (2 + 2 * x) = true then 1 else 0) + zfR S l:=by
      unfold zfR
      rfl
     rw [hs]
     simp only [List.map_cons,List.sum_cons,List.length_cons]
     cases hS : S (2 + 2 * x)
     ·rw [if_pos rfl,if_neg (by simp)]
      omega
     ·rw [if_neg (by simp),if_pos rfl]
      omega
  exact key ks hk.reach
 omega
theorem zp5 (g : Gr) (S : List Int) : ∀ n,0 < n → ∃ l,ordN g S n = ordN g S 1 ++ l
 | 1,_=>⟨[],(List.append_nil _).symm⟩
 | n + 2,_=>by
   obtain ⟨l,hl⟩:=zp5 g S (n + 1) (by omega)
   exact ⟨l ++ za8 g.size.toNat fun k=>decide (dist g S k = ((n + 1 : Nat) : Int)),by rw [ordN,hl,List.append_assoc]⟩
theorem zs3 (hg : GrOk g) (hp : zaV g.size p) : ∃ l,ordL (zai g p.lv) p.seeds = zeB g p ++ l:=by
 by_cases hn : 0 < g.size.toNat
 ·obtain ⟨l,hl⟩:=zp5 (zai g p.lv) p.seeds g.size.toNat hn
  refine ⟨l,?_⟩
  have h1 : ordN (zai g p.lv) p.seeds 1 = zeB g p:=by
   refine zf2 ?_ ?_ fun x=>?_
   ·exact zgH g.size.toNat _
   ·exact (hp.2.1.pair).filter _
   ·rw [zhD]
    have h2 : (0 ≤ dist (zai g p.lv) p.seeds x ∧ dist (zai g p.lv) p.seeds x < (1 : Nat)) ↔ zds g p.seeds x = true:=by
     rw [show zds g p.seeds x = zds (zai g p.lv) p.seeds x from rfl,← zri (hg.level p.lv)]
     omega
    rw [h2]
    unfold zds zeB
    rw [List.mem_filter]
    simp only [Bool.and_eq_true,List.contains_iff_mem]
    constructor
    ·exact fun h=>h.2
    ·intro h
     have h3:=hp.2.1.nodup.2 x h.1
     exact ⟨⟨by omega,by show x < g.size.toNat; omega⟩,h⟩
  rw [← h1]
  exact hl
 ·have h0 : g.size.toNat = 0:=by omega
  refine ⟨[],?_⟩
  have h1 : zeB g p = []:=by
   unfold zeB
   rw [List.filter_eq_nil_iff]
   intro x hx
   have h3:=hp.2.1.nodup.2 x hx
   omega
  rw [h1]
  show ordN _ _ (g.size.toNat) = _
  rw [h0]
  rfl
theorem zsK {o : List Int} (h : ∀ n,n < o.length → zat g p (zav (o.take (n + 1)))) : ∀ n,n ≤ o.length → accR g p (o.take n) = o.take n
 | 0,_=>rfl
 | n + 1,hn=>by
   have ih:=zsK h n (by omega)
   rw [List.take_succ_eq_append_getElem (by omega)]
   have h1:=h n (by omega)
   rw [List.take_succ_eq_append_getElem (by omega)] at h1
   rw [zeh (by rw [ih]; exact h1),ih]
theorem zs1 (hg : GrOk g) (hp : zaV g.size p) : ∃ l,accR g p (ordL (zai g p.lv) p.seeds) = zeB g p ++ l:=by
 obtain ⟨l,hl⟩:=zs3 hg hp
 have hon:=zbK (zai g p.lv) p.seeds
 have hok:=zqq hg hp
 rw [hl] at hon hok
 have hsn:=(List.nodup_append.1 hon).1
 have hsk : zbX g p (zeB g p):=hok.sub fun x hx=>List.mem_append_left _ hx
 have h1 : accR g p (zeB g p) = zeB g p:=by
  have:=zsK (g:=g) (p:=p) (o:=zeB g p) (fun n hn=>by
   have hk : zbX g p ((zeB g p).take (n + 1)):=hsk.sub fun x hx=>List.mem_of_mem_take hx
   have hnn : ((zeB g p).take (n + 1)).Nodup:=hsn.sublist (List.take_sublist _ _)
   refine (zsN hg hp hnn (fun k hk2=>(List.mem_filter.1 (List.mem_of_mem_take hk2)).1) hk).perm hg hp hk (zjQ hnn (h64 hg hk.rng))) _ (Nat.le_refl _)
  rwa [List.take_length] at this
 obtain ⟨l2,hl2,_⟩:=zmK (g:=g) (p:=p) l (zeB g p)
 exact ⟨l2,by rw [hl,hl2,h1]⟩
variable {g : Gr} {p : Pol}
theorem ForR.uniq {key : Int} {x y : Expl} (hg : GrOk g) (hx : ForR g p (ordL (zai g p.lv) p.seeds) key x) (hy : ForR g p (ordL (zai g p.lv) p.seeds) key y) :
  x.key = y.key ∧ x.acc = y.acc ∧ x.before = y.before ∧ x.side = y.side ∧ x.paths.length = y.paths.length:=by
 obtain ⟨hx1,hx2,i,hi,hik,hib⟩:=hx.at_ hg
 obtain ⟨hy1,hy2,j,hj,hjk,hjb⟩:=hy.at_ hg
 have hij : i = j:=(List.getElem_inj (zbK (zai g p.lv) p.seeds)).1 (hik.trans hjk.symm)
 subst hij
 have hb : x.before = y.before:=hib.trans hjb.symm
 refine ⟨hx1.trans hy1.symm,?_⟩
 by_cases hacc : key ∈ accR g p (ordL (zai g p.lv) p.seeds)
 ·obtain ⟨x1,x2,W,⟨f,g',_,_,hl,_⟩,x3⟩:=hx.yes hacc
  obtain ⟨y1,y2,V,⟨f',g'',_,_,hl',_⟩,y3⟩:=hy.yes hacc
  refine ⟨x1.trans y1.symm,hb,x2.trans y2.symm,?_⟩
  rw [x3,y3,List.length_map,List.length_map]
  rw [hb] at hl
  omega
 ·obtain ⟨x1,x2,R,hR,hs⟩:=hx.no hacc
  obtain ⟨y1,y2,R',hR',hs'⟩:=hy.no hacc
  refine ⟨x1.trans y1.symm,hb,?_,by rw [x2,y2]⟩
  obtain ⟨a,ha,hak,hn⟩:=hR.right _ hs
  obtain ⟨b,hb',hbk,hn'⟩:=hR'.right _ hs'
  simp only at hak hbk hn hn'
  have h1 : a = i:=(List.getElem_inj (zbK (zai g p.lv) p.seeds)).1 (hak.trans hik.symm)
  have h2 : b = i:=(List.getElem_inj (zbK (zai g p.lv) p.seeds)).1 (hbk.trans hik.symm)
  subst h1
  subst h2
  rw [hn.eq,hn'.eq]
theorem ForR.acc_iff' {key : Int} {x : Expl} (h : ForR g p (ordL (zai g p.lv) p.seeds) key x) : x.acc = true ↔ key ∈ accR g p (ordL (zai g p.lv) p.seeds):=by
 by_cases hk : key ∈ accR g p (ordL (zai g p.lv) p.seeds)
 ·simp [hk,(h.yes hk).1]
 ·simp [hk,(h.no hk).1]
structure zsg (g : Gr) (p : Pol) (w : List Int) : Prop where
 len : w.length ≤ 64
 ne : 0 < w.length
 seed : w[0] ∈ p.seeds
 rng : ∀ (i : Nat) (h : i < w.length),0 ≤ w[i] ∧ w[i] < g.size
 cap : ∀ (i : Nat) (h : i < w.length),1 ≤ (zaC g p).getD w[i].toNat 0
 once : ∀ (i : Nat) (h : i < w.length),w[i] ∉ w.take i
 edge : ∀ (i : Nat) (h : i + 1 < w.length),w[i + 1] ∈ outs (zai g p.lv).edges w[i]
theorem zqd.steps (hg : GrOk g) (hp : zaV g.size p) {w : List Int} (h : zqd g p.lv p.seeds (ordL (zai g p.lv) p.seeds) w) : zsg g p w:=by
 have hne:=h.ne
 have hpos : 0 < w.length:=List.length_pos_iff.2 hne
 have hrng : ∀ k ∈ w,0 ≤ k ∧ k < g.size:=fun k hk=>by have h2:=zbF (h.2.1 k hk); exact h2
 have h64:=hg.1.2.1
 refine ⟨?_,hpos,?_,fun i hi=>hrng _ (List.getElem_mem hi),fun i hi=>?_,fun i hi hm=>?_,fun i hi=>zkI.2 (h.2.2.2 i hi)⟩
 ·have:=za5 (a:=w) (b:=(List.range 64).map Int.ofNat) h.2.2.1 fun x hx=>by
   have:=hrng x hx
   exact List.mem_map.2 ⟨x.toNat,List.mem_range.2 (by omega),by simp; omega⟩
  simpa using this
 ·obtain ⟨k,hk,hks⟩:=h.1
  rw [List.head?_eq_getElem?,List.getElem?_eq_getElem hpos] at hk
  rw [Option.some.inj hk]
  exact hks
 ·have h1:=h.2.1 _ (List.getElem_mem hi)
  have h2:=(zi7 (hg.level p.lv)).1 h1
  have h3:=(zga (g:=g) hp h2.1.1).2 ⟨h2.1.2,h2.2⟩
  omega
 ·obtain ⟨j,hj,e⟩:=List.mem_take_iff_getElem.1 hm
  have:=(List.getElem_inj h.2.2.1).1 e
  omega
structure zvK (g : Gr) (p : Pol) (P : List (List Int)) (ends : List Int) : Prop where
 len : P.length ≤ 64
 steps : ∀ (i : Nat) (h : i < P.length),zsg g p P[i]
 fresh : ∀ (i : Nat) (h : i < P.length) (hn : P[i] ≠ []),P[i].getLast hn ∉ lasts (P.take i)
 room : zkY (zaC g p) P
 same : zav (lasts P) = zav ends
 ends : P.length = ends.length
 lasts : (lasts P).length = P.length
theorem zfW.facts (hg : GrOk g) (hp : zaV g.size p) {P : List (List Int)} {ends : List Int} (h : zfW g p.lv p.seeds (ordL (zai g p.lv) p.seeds) (zaC g p) P ends) : zvK g p P ends:=by
 obtain ⟨h1,h2,h3,h4,h5,h6⟩:=h
 have hl:=zhA fun w hw=>(h3 w hw).ne
 have hp2 : (lasts P).Perm ends:=zb9 h5 h4 (by omega)
 have h64:=hg.1.2.1
 refine ⟨?_,fun i hi=>(h3 _ (List.getElem_mem hi)).steps hg hp,fun i hi hn hm=>?_,h6,?_,h1,hl⟩
 ·have:=za5 (a:=lasts P) (b:=(List.range 64).map Int.ofNat) h5 fun x hx=>by
   obtain ⟨w,hw,hxw⟩:=zr8 hx
   have:=zbF ((h3 w hw).2.1 x hxw)
   have e : (zai g p.lv).size = g.size:=rfl
   exact List.mem_map.2 ⟨x.toNat,List.mem_range.2 (by omega),by simp; omega⟩
  rw [← hl]
  simpa using this
 ·have hs:=zlt P i hi hn
  have hsub : (lasts (P.take (i + 1))).Sublist (lasts P):=(List.take_sublist _ _).filterMap _
  have hnd:=h5.sublist hsub
  rw [hs,List.nodup_append] at hnd
  exact hnd.2.2 _ hm _ (by simp) rfl
 ·exact zf2 (zeb _) (zeb _) fun x=>by rw [zcL,zcL,hp2.mem_iff]
def g1 : Gr:=⟨1,[],[]⟩
def p1 : Pol:=⟨[0],[2],1⟩
theorem zr6 : GrOk g1:=⟨⟨by decide +revert,by decide +revert,by decide +revert,fun i h=>by simp [g1] at h⟩,fun i h=>by simp [g1] at h⟩
theorem ztK : zaV g1.size p1:=by
 refine ⟨by decide +revert,fun i h=>?_,by decide +revert,by decide +revert,by decide +revert,by decide +revert,fun i h=>?_⟩
 ·obtain rfl : i = 0:=by simp [p1] at h; omega
  exact ⟨by decide +revert,by decide +revert,fun h=>by cases h⟩
 ·obtain rfl : i = 0:=by simp [p1] at h; omega
  exact ⟨by decide +revert,by decide +revert,fun h=>by cases h⟩
theorem zpC : ordL (zai g1 p1.lv) p1.seeds = [0]:=by decide
theorem zus {x : Expl} (h : ForR g1 p1 (ordL (zai g1 p1.lv) p1.seeds) 0 x) : x.acc = true ∧ x.paths = [[0]] ∧ x.before = []:=by
 obtain ⟨l,hl⟩:=zs1 zr6 ztK
 have hm : (0 : Int) ∈ accR g1 p1 (ordL (zai g1 p1.lv) p1.seeds):=by
  rw [hl]
  exact List.mem_append_left _ (by decide)
 obtain ⟨_,_,i,hi,hik,hib⟩:=h.at_ zr6
 have hb : x.before = []:=by
  have hi0 : i = 0:=by
   have:=hi
   rw [zpC] at this
   simp at this
   exact this
  rw [hib,hi0]
  rfl
 refine ⟨(h.yes hm).1,?_,hb⟩
 have hs:=h.yes_serves zr6 ztK hm
 rw [hb] at hs
 have hf:=hs.facts zr6 ztK
 have h1 : x.paths.length = 1:=hf.ends
 obtain ⟨w,hw⟩:=List.length_eq_one_iff.1 h1
 have hst:=hf.steps 0 (by omega)
 have hw0 : x.paths[0] = w:=by simp [hw]
 rw [hw0] at hst
 have hr : ∀ (j : Nat) (hj : j < w.length),w[j] = 0:=fun j hj=>by
  have:=hst.rng j hj
  have e : g1.size = 1:=rfl
  omega
 have hlen : w.length = 1:=by
  have h2:=hst.ne
  rcases Nat.lt_or_ge 1 w.length with h3 | h3
  ·exfalso
   have h4:=hst.once 1 h3
   apply h4
   rw [hr 1 h3,← hr 0 hst.ne]
   exact List.mem_take_iff_getElem.2 ⟨0,by omega,rfl⟩
  ·omega
 obtain ⟨a,ha⟩:=List.length_eq_one_iff.1 hlen
 have:=hr 0 hst.ne
 simp [ha] at this
 rw [hw,ha,this]
def begF (P : List (List Int)) (i : Nat) (k : Int) : Int:=(begC (P.take i) k : Nat)
def useF (P : List (List Int)) (i : Nat) (k : Int) : Int:=(useC (P.take i) k : Nat)
def useJ (P : List (List Int)) (i : Nat) (d : List Int) (j : Nat) (k : Int) : Int:=useF P i k + ((d.take j).count k : Nat)
def zbZ (P : List (List Int)) (i : Nat) : List Int:=lasts (P.take i)
theorem zsa (P : List (List Int)) : begF P 0 = fun _=>0:=by funext k; simp [begF,begC]
theorem zsc (P : List (List Int)) : useF P 0 = fun _=>0:=by funext k; simp [useF,useC]
theorem zm0 (P : List (List Int)) (i : Nat) (d : List Int) : useJ P i d 0 = useF P i:=by funext k; simp [useJ]
theorem zoD (P : List (List Int)) : zbZ P 0 = []:=rfl
theorem zsA {P : List (List Int)} {i : Nat} (h : i < P.length) {w : List Int} (hw : P[i] = w) (hl : 0 < w.length) : (fun y=>if y = w[0] then begF P i w[0] + 1 else begF P i y) = begF P (i + 1):=by
 funext y
 unfold begF
 rw [zsG P i h y,hw,List.head?_eq_getElem?,List.getElem?_eq_getElem hl]
 by_cases hy : y = w[0]
 ·subst hy; simp
 ·simp [hy,Ne.symm hy]
theorem zsV {P : List (List Int)} {i : Nat} {d : List Int} {j : Nat} (h : j < d.length) : (fun y=>if y = d[j] then useJ P i d j d[j] + 1 else useJ P i d j y) = useJ P i d (j + 1):=by
 funext y
 unfold useJ
 rw [zj2 d j h y]
 by_cases hy : y = d[j]
 ·subst hy; simp; omega
 ·simp [hy,Ne.symm hy]
theorem zji {P : List (List Int)} {i : Nat} {d : List Int} {j : Nat} (h : d.length ≤ j) : useJ P i d j = useJ P i d d.length:=by
 funext y
 unfold useJ
 rw [List.take_of_length_le h,List.take_length]
theorem zts {P : List (List Int)} {i : Nat} (h : i < P.length) {w : List Int} (hw : P[i] = w) : useJ P i w.dropLast w.dropLast.length = useF P (i + 1):=by
 funext y
 unfold useJ useF
 rw [zrr P i h y,hw,List.take_length]
 omega
theorem zlf {P : List (List Int)} {i : Nat} {d : List Int} (hP : P.length ≤ 64) (hw : ∀ w ∈ P,w.length ≤ 64) (hd : d.length ≤ 64) (j : Nat) (k : Int) : 0 ≤ useJ P i d j k ∧ useJ P i d j k ≤ 10000:=by
 have h1:=ztn (P:=P.take i) (m:=64) (fun x hx=>hw x (List.mem_of_mem_take hx)) k
 have h2:=List.length_take_le' i P
 have h3 : (d.take j).count k ≤ d.length:=Nat.le_trans List.count_le_length (List.length_take_le' j d)
 unfold useJ useF
 omega
theorem zqc {P : List (List Int)} (hP : P.length ≤ 64) (i : Nat) (k : Int) : 0 ≤ begF P i k ∧ begF P i k ≤ 64:=by
 have h1:=ztv (P.take i) k
 have h2:=List.length_take_le' i P
 unfold begF
 omega
theorem zsC (N : Nat) : rowR N (fun _=>0) = List.replicate N 0:=by unfold rowR; simp [List.map_const']
set_option maxRecDepth 100000 in
set_option maxHeartbeats 16000000 in
theorem zkX (g : Gr) (p : Pol) (P : List (List Int)) (ends : List Int) (hg : GrOk g) (hp : zaV g.size p) (hs : p.seeds.length ≤ 64) (h : zfW g p.lv p.seeds (ordL (zai g p.lv) p.seeds) (zaC g p) P ends) :
  zak Tryz.prog zfx [eG g,eP p,zaS P,ints ends] [] (.B true) []:=by
 refine zn5.acalls (nbz rfl) (nbz rfl) (Nat.zero_le _) ?_
 show awp _ 0 _ _ ⟨189,[(0,eG g),(1,eP p),(2,zaS P),(3,ints ends)],[],16⟩
 have hf:=h.facts hg hp
 clear h
 have hsz:=hg.1.1
 have hsz2:=hg.1.2.1
 have hel:=hg.edges_le
 have hgl:=hg.gone_le
 have hall:=zio g p hg (by omega)
 have hcl : (zaC g p).length = g.size.toNat:=by unfold zaC; rw [List.length_map,zhd]; rfl
 have hcb : ∀ k,0 ≤ (zaC g p).getD k 0 ∧ (zaC g p).getD k 0 ≤ 1000000:=fun k=>by
  rw [List.getD_eq_getElem?_getD]
  cases hh : (zaC g p)[k]? with
  | none=>simp
  | some v =>
    have hm:=List.mem_of_getElem? hh
    unfold zaC at hm
    obtain ⟨d,_,rfl⟩:=List.mem_map.1 hm
    have:=zeP hp d
    simp only [Option.getD_some]
    omega
 obtain ⟨N,hN⟩ : ∃ N : Nat,g.size = N:=⟨g.size.toNat,by omega⟩
 have hlev:=zcl g p.lv (by omega) (by omega)
 have hlel : (zai g p.lv).edges.length ≤ 1000:=Nat.le_trans (List.length_filter_le _ _) (by omega)
 have hst:=hf.steps
 have hPl:=hf.len
 have hroom:=hf.room
 obtain ⟨C,hC⟩ : ∃ C,C = zaC g p:=⟨_,rfl⟩
 rw [← hC,hN] at hall hcl
 rw [← hC] at hcb hroom
 rw [Int.toNat_natCast] at hall hcl
 have hcap : ∀ (i : Nat) (hi : i < P.length) (j : Nat) (hj : j < P[i].length),1 ≤ C.getD P[i][j].toNat 0:=fun i hi j hj=>by rw [hC]; exact (hst i hi).cap j hj
 have hPw : ∀ w ∈ P,w.length ≤ 64:=fun w hw=>by obtain ⟨i,hi,rfl⟩:=List.mem_iff_getElem.1 hw; exact (hst i hi).len
 refine rx (s:=?s1) [2,3,4,5] [] [16,24] rfl ?o1 ?q1
 case o1=>simp; rfl
 refine zaa ⟨189,[(2,zaS P),(3,ints ends),(4,.pv (gC g)),(5,.pv (pC p)),(9,ints C)],[],100⟩ rfl ?_ ?_
 ·simp
  refine zaM hall (by simp) ?_
  simp
  exact Le.go [] [56] rfl rfl (by simp [fcd,← hcl,zaj]) (by simp)
 refine zaq ⟨189,[(2,zaS P),(3,ints ends),(4,.pv (gC g)),(5,.pv (pC p)),(9,ints C),(10,.rs 30 0 N),(11,.rs 31 0 N)],[(30,some ⟨1,zae (rowR N (begF P 0)),0⟩),(31,some ⟨1,zae (rowR N (useF P 0)),0⟩)],200⟩ rfl ?_ ?_
 ·rw [zsa,zsc,zsC]
  simp [hN]
  refine ⟨by omega,by omega,by omega,by omega,rfl,LeH [(116,30),(140,31)] []⟩
 refine zaa ⟨189,[(2,zaS P),(3,ints ends),(4,.pv (gC g)),(5,.pv (pC p)),(9,ints C),(10,.rs 30 0 N),(11,.rs 31 0 N),(12,.nilS)],[(30,some ⟨1,zae (rowR N (begF P 0)),0⟩),(31,some ⟨1,zae (rowR N (useF P 0)),0⟩)],300⟩ rfl ?_ ?_
 ·simp
  exact LeI [(30,30),(31,31)] []
 refine zab ?_
 refine zaa ⟨189,[(2,zaS P),(3,ints ends),(4,.pv (gC g)),(5,.pv (pC p)),(9,ints C),(10,.rs 30 0 N),(11,.rs 31 0 N),(12,.nilS),(13,.I 0)],[(30,some ⟨1,zae (rowR N (begF P 0)),0⟩),(31,some ⟨1,zae (rowR N (useF P 0)),0⟩)],400⟩ rfl ?_ ?_
 ·simp
  exact LeI [(30,30),(31,31)] []
 refine zaf ?_
 refine zao (ι:=Nat) (fun i=>⟨189,[(2,zaS P),(3,ints ends),(4,.pv (gC g)),(5,.pv (pC p)),(9,ints C),(10,.rs 30 0 N),(11,.rs 31 0 N),(12,.rs 32 0 i),(13,.I i)],[(30,some ⟨1,zae (rowR N (begF P i)),0⟩),(31,some ⟨1,zae (rowR N (useF P i)),0⟩),(32,some ⟨1,zae (zbZ P i),0⟩)],400⟩)
  (fun i=>i ≤ P.length) (fun i=>P.length - i) 0 (Nat.zero_le _)
  (Le.lst [(30,30),(31,31)] [] [(32,1)] rfl (by simp) (by simp) (by simp) (by simp) (by simp) (by simp) (by simp) (by simp [Up]) (by simp [fcd,zoD]; exact ⟨zay.rfl' (by simp),zay.rfl' (by simp)⟩)) ?_
 intro i hi
 have hLl : (zbZ P i).length = i:=by
  unfold zbZ
  rw [zhA fun w hw=>by
   obtain ⟨j,hj,rfl⟩:=List.mem_take_iff_getElem.1 hw
   exact List.length_pos_iff.1 (hst j (by omega)).ne,List.length_take]
  omega
 refine zab ?_
 refine zaa ⟨189,[(2,zaS P),(3,ints ends),(4,.pv (gC g)),(5,.pv (pC p)),(9,ints C),(10,.rs 30 0 N),(11,.rs 31 0 N),(12,.rs 32 0 i),(13,.I i),(29,.B (decide (i < P.length)))],[(30,some ⟨1,zae (rowR N (begF P i)),0⟩),(31,some ⟨1,zae (rowR N (useF P i)),0⟩),(32,some ⟨1,zae (zbZ P i),0⟩)],500⟩ rfl ?_ ?_
 ·simp
  exact LeI [(30,30),(31,31),(32,32)] []
 refine zac _ rfl (fun h7=>?_) fun h7=>?_
 ·rw [decide_eq_true_eq] at h7
  have hwi : IntKind.i64.wrap ((i : Int) + 1) = ((i + 1 : Nat) : Int):=by rw [w64 (by omega) (by omega)]; omega
  obtain ⟨w,hw⟩ : ∃ w,w = P[i]:=⟨_,rfl⟩
  have hsw : zsg g p w:=hw ▸ hst i h7
  have hcw : ∀ (j : Nat) (hj : j < w.length),1 ≤ C.getD w[j].toNat 0:=fun j hj=>by subst hw; exact hcap i h7 j hj
  have hfr:=hf.fresh i h7
  have hPi : P[i]? = some w:=by rw [List.getElem?_eq_getElem h7,hw]
  have hwl:=hsw.len
  have hpos:=hsw.ne
  have hwne : w ≠ []:=List.length_pos_iff.1 hpos
  obtain ⟨w0,hw0⟩ : ∃ w0,w0 = w[0]:=⟨_,rfl⟩
  have hwg0 : w[0]? = some w0:=by rw [List.getElem?_eq_getElem hpos,hw0]
  have hr0:=hsw.rng 0 hpos
  rw [← hw0] at hr0
  have hhas0:=zdl p.seeds w0 (by omega)
  rw [decide_eq_true (by rw [hw0]; exact hsw.seed)] at hhas0
  have hwm : IntKind.i64.wrap ((w.length : Int) - 1) = ((w.length - 1 : Nat) : Int):=by rw [w64 (by omega) (by omega)]; omega
  refine zad ?_
  refine zab ?_
  refine zaf ?_
  refine zaa ⟨189,[(2,zaS P),(3,ints ends),(4,.pv (gC g)),(5,.pv (pC p)),(9,ints C),(10,.rs 30 0 N),(11,.rs 31 0 N),(12,.rs 32 0 i),(13,.I i),(14,ints w)],[(30,some ⟨1,zae (rowR N (begF P i)),0⟩),(31,some ⟨1,zae (rowR N (useF P i)),0⟩),(32,some ⟨1,zae (zbZ P i),0⟩)],600⟩ rfl ?_ ?_
  ·simp [h7,← hw]
   exact LeI [(30,30),(31,31),(32,32)] []
  refine zab ?_
  refine zaq ⟨189,[(2,zaS P),(3,ints ends),(4,.pv (gC g)),(5,.pv (pC p)),(9,ints C),(10,.rs 30 0 N),(11,.rs 31 0 N),(12,.rs 32 0 i),(13,.I i),(14,ints w),(47,.B false)],[(30,some ⟨1,zae (rowR N (begF P i)),0⟩),(31,some ⟨1,zae (rowR N (useF P i)),0⟩),(32,some ⟨1,zae (zbZ P i),0⟩)],800⟩ rfl ?_ ?_
  ·have hne0 : ((w.length : Int) == 0) = false:=by simp; omega
   simp [hne0,hpos,← hw0]
   refine zal hhas0 (by simp) ?_
   simp
   exact ⟨rfl,LeI [(30,30),(31,31),(32,32)] []⟩
  refine zac _ rfl (fun h=>by cases h) fun _=>?_
  refine zad ?_
  obtain ⟨d,hd⟩ : ∃ d,d = w.dropLast:=⟨_,rfl⟩
  have hdl : d.length = w.length - 1:=by rw [hd,List.length_dropLast]
  have hdw : ∀ (j : Nat) (hj : j < d.length),d[j] = w[j]'(by omega):=fun j hj=>by subst hd; rw [List.getElem_dropLast]
  have hdl64 : d.length ≤ 64:=by omega
  refine zab ?_
  refine zaa ⟨189,[(2,zaS P),(3,ints ends),(4,.pv (gC g)),(5,.pv (pC p)),(9,ints C),(10,.rs 30 0 N),(11,.rs 31 0 N),(12,.rs 32 0 i),(13,.I i),(14,ints w),(15,.I 0)],[(30,some ⟨1,zae (rowR N (begF P i)),0⟩),(31,some ⟨1,zae (rowR N (useJ P i d 0)),0⟩),(32,some ⟨1,zae (zbZ P i),0⟩)],900⟩ rfl ?_ ?_
  ·rw [zm0]
   simp
   exact LeI [(30,30),(31,31),(32,32)] []
  refine zaf ?_
  refine zao (ι:=Nat) (fun j=>⟨189,[(2,zaS P),(3,ints ends),(4,.pv (gC g)),(5,.pv (pC p)),(9,ints C),(10,.rs 30 0 N),(11,.rs 31 0 N),(12,.rs 32 0 i),(13,.I i),(14,ints w),(15,.I j)],[(30,some ⟨1,zae (rowR N (begF P i)),0⟩),(31,some ⟨1,zae (rowR N (useJ P i d j)),0⟩),(32,some ⟨1,zae (zbZ P i),0⟩)],900⟩)
   (fun j=>j ≤ w.length) (fun j=>w.length - j) 0 (Nat.zero_le _) (LeI [(30,30),(31,31),(32,32)] []) ?_
  intro j hj
  refine zab ?_
  refine zaa ⟨189,[(2,zaS P),(3,ints ends),(4,.pv (gC g)),(5,.pv (pC p)),(9,ints C),(10,.rs 30 0 N),(11,.rs 31 0 N),(12,.rs 32 0 i),(13,.I i),(14,ints w),(15,.I j),(51,.B (decide (j < w.length)))],[(30,some ⟨1,zae (rowR N (begF P i)),0⟩),(31,some ⟨1,zae (rowR N (useJ P i d j)),0⟩),(32,some ⟨1,zae (zbZ P i),0⟩)],1000⟩ rfl ?_ ?_
  ·simp
   exact LeI [(30,30),(31,31),(32,32)] []
  refine zac _ rfl (fun h14=>?_) fun h14=>?_
  ·rw [decide_eq_true_eq] at h14
   have hwj : IntKind.i64.wrap ((j : Int) + 1) = ((j + 1 : Nat) : Int):=by rw [w64 (by omega) (by omega)]; omega
   obtain ⟨k,hk⟩ : ∃ k,k = w[j]:=⟨_,rfl⟩
   have hwg : w[j]? = some k:=by rw [List.getElem?_eq_getElem h14,hk]
   have hkr:=hsw.rng j h14
   rw [← hk,hN] at hkr
   have hkc:=hcw j h14
   rw [← hk] at hkc
   have hkn : k.toNat < C.length:=by omega
   obtain ⟨c,hc⟩ : ∃ c,c = C.getD k.toNat 0:=⟨_,rfl⟩
   rw [← hc] at hkc
   have hCk : C[k.toNat]? = some c:=by rw [hc,List.getD_eq_getElem?_getD,List.getElem?_eq_getElem hkn,Option.getD_some]
   have hCk' : C[k.toNat] = c:=by rw [List.getElem?_eq_getElem hkn] at hCk; exact Option.some.inj hCk
   have hhas1:=zdl (w.take j) k (by rw [List.length_take]; omega)
   rw [decide_eq_false (by rw [hk]; exact hsw.once j h14)] at hhas1
   have hk0 : ¬ k < 0:=by omega
   have hk1 : ¬ (N : Int) ≤ k:=by omega
   have hk2 : ¬ c < 1:=by omega
   have hkC : (0 : Int) ≤ k ∧ k < C.length:=by omega
   refine zad ?_
   refine zab ?_
   refine zaf ?_
   refine zab ?_
   refine zaq ⟨189,[(2,zaS P),(3,ints ends),(4,.pv (gC g)),(5,.pv (pC p)),(9,ints C),(10,.rs 30 0 N),(11,.rs 31 0 N),(12,.rs 32 0 i),(13,.I i),(14,ints w),(15,.I j),(109,.B false)],[(30,some ⟨1,zae (rowR N (begF P i)),0⟩),(31,some ⟨1,zae (rowR N (useJ P i d j)),0⟩),(32,some ⟨1,zae (zbZ P i),0⟩)],1800⟩ rfl ?_ ?_
   ·by_cases hj0 : 0 < j
    ·have hjm : IntKind.i64.wrap ((j : Int) - 1) = ((j - 1 : Nat) : Int):=by rw [w64 (by omega) (by omega)]; omega
     have hj1 : j - 1 < w.length:=by omega
     have hed:=hsw.edge (j - 1) (by omega)
     obtain ⟨q,hq⟩ : ∃ q,q = w[j - 1]'(by omega):=⟨_,rfl⟩
     have hwq : w[j - 1]? = some q:=by rw [List.getElem?_eq_getElem hj1,hq]
     have hout:=znJ (zai g p.lv) q (by omega)
     have hedk : k ∈ outs (zai g p.lv).edges q:=by
      rw [hk,hq]
      have e : w[j] = w[j - 1 + 1]'(by omega):=by congr 1; omega
      rw [e]
      exact hed
     obtain ⟨O,hO⟩ : ∃ O,O = outs (zai g p.lv).edges q:=⟨_,rfl⟩
     have hOl : O.length ≤ 1000:=by rw [hO]; exact Nat.le_trans (zjw _ _) hlel
     have hhas2:=zdl O k (by omega)
     rw [← hO] at hout hedk
     rw [decide_eq_true hedk] at hhas2
     simp [h14,← hk,hN,hk0,hk1,hkC,hkn,hCk',hk2]
     refine ⟨by omega,?_⟩
     refine zal hhas1 (by simp [List.map_take]) ?_
     simp [hj0,h14,← hk,hN]
     refine zal hlev (by simp [hN]) ?_
     simp [hjm,hj1,← hq]
     refine zaM hout (by simp) ?_
     simp [h14,← hk]
     refine zeG [1376] hhas2 (by simp [zaj,fcd]) (.sc _) ?_
     simp
     exact ⟨rfl,LeI [(30,30),(31,31),(32,32)] []⟩
    ·simp [h14,← hk,hN,hk0,hk1,hkC,hkn,hCk',hk2]
     refine ⟨by omega,?_⟩
     refine zal hhas1 (by simp [List.map_take]) ?_
     simp [hj0]
     exact ⟨rfl,LeI [(30,30),(31,31),(32,32)] []⟩
   refine zac _ rfl (fun h=>by cases h) fun _=>?_
   refine zad ?_
   refine zaa ⟨189,[(2,zaS P),(3,ints ends),(4,.pv (gC g)),(5,.pv (pC p)),(9,ints C),(10,.rs 30 0 N),(11,.rs 31 0 N),(12,.rs 32 0 i),(13,.I i),(14,ints w),(15,.I j),(114,.B (decide (j < d.length)))],[(30,some ⟨1,zae (rowR N (begF P i)),0⟩),(31,some ⟨1,zae (rowR N (useJ P i d j)),0⟩),(32,some ⟨1,zae (zbZ P i),0⟩)],2000⟩ rfl ?_ ?_
   ·simp [hwm]
    exact Le.go [(30,30),(31,31),(32,32)] [] rfl rfl (by simp <;> exact wkB (by rw [Bool.eq_iff_iff]; simp; omega)) (by simp [fcd])
   refine zac _ rfl (fun h19=>?_) fun h19=>?_
   ·rw [decide_eq_true_eq] at h19
    have hdk : d[j] = k:=by rw [hk]; exact hdw j h19
    have hub:=zlf (P:=P) (i:=i) hPl hPw hdl64 j k
    have hsu:=zsV (P:=P) (i:=i) h19
    rw [hdk] at hsu
    obtain ⟨V,hV⟩ : ∃ V,V = useJ P i d j:=⟨_,rfl⟩
    rw [← hV] at hub hsu ⊢
    have hrg:=zco (N:=N) (g:=V) hkr.1 hkr.2
    have hrs:=zf7 (N:=N) (g:=V) (v:=V k + 1) hkr.1 hkr.2
    rw [hsu] at hrs
    have hwv : IntKind.i64.wrap (V k + 1) = V k + 1:=w64 (by omega) (by omega)
    refine zar rfl ?_
    simp [h14,← hk,hkr,hrg,hwv,zaw]
    refine zar rfl ?_
    simp
    exact ⟨j + 1,h14,by omega,Le.go [(30,30),(31,31),(32,32)] [] rfl rfl (by simp [hwj]) (by simp [fcd,← hrs])⟩
   rw [decide_eq_false_iff_not] at h19
   have hfu : useJ P i d (j + 1) = useJ P i d j:=by rw [zji (j:=j + 1) (by omega),zji (j:=j) (by omega)]
   refine zad ?_
   refine zar rfl ?_
   simp
   exact ⟨j + 1,h14,by omega,Le.go [(30,30),(31,31),(32,32)] [] rfl rfl (by simp [hwj]) (by simp [fcd,hfu])⟩
  rw [decide_eq_false_iff_not] at h14
  obtain rfl : j = w.length:=by omega
  have hua : useJ P i d w.length = useF P (i + 1):=by rw [zji (j:=w.length) (by omega),hd]; exact zts h7 hw.symm
  rw [hua]
  have hbs:=zsA h7 hw.symm hpos
  rw [← hw0] at hbs
  have hbb:=zqc hPl i w0
  have hwb : IntKind.i64.wrap (begF P i w0 + 1) = begF P i w0 + 1:=w64 (by omega) (by omega)
  have hr0' : 0 ≤ w0 ∧ w0 < N:=by omega
  have hrg:=zco (N:=N) (g:=begF P i) hr0'.1 hr0'.2
  have hrs:=zf7 (N:=N) (g:=begF P i) (v:=begF P i w0 + 1) hr0'.1 hr0'.2
  rw [hbs] at hrs
  refine zam ?_
  refine hit ?_
  refine zaa ⟨189,[(2,zaS P),(3,ints ends),(4,.pv (gC g)),(5,.pv (pC p)),(9,ints C),(10,.rs 30 0 N),(11,.rs 31 0 N),(12,.rs 32 0 i),(13,.I i),(14,ints w)],[(30,some ⟨1,zae (rowR N (begF P (i + 1))),0⟩),(31,some ⟨1,zae (rowR N (useF P (i + 1))),0⟩),(32,some ⟨1,zae (zbZ P i),0⟩)],2000⟩ rfl ?_ ?_
  ·simp [hpos,← hw0,hr0',hrg,hwb,zaw]
   exact Le.go [(30,30),(31,31),(32,32)] [] rfl rfl (by simp) (by simp [fcd,← hrs])
  obtain ⟨wl,hwlD⟩ : ∃ wl,wl = w.getLast hwne:=⟨_,rfl⟩
  have hwgl : w[w.length - 1]? = some wl:=by rw [hwlD,List.getLast_eq_getElem,List.getElem?_eq_getElem]
  have hwgl' : w[w.length - 1]'(by omega) = wl:=by rw [hwlD,List.getLast_eq_getElem]
  have hwl1 : w.length - 1 < w.length:=by omega
  have hls : zbZ P (i + 1) = zbZ P i ++ [wl]:=by
   unfold zbZ
   have hwne2 : P[i] ≠ []:=by rw [← hw]; exact hwne
   rw [zlt P i h7 hwne2]
   subst hw
   rw [hwlD]
  have hnl : wl ∉ zbZ P i:=by
   subst hw
   rw [hwlD]
   exact hfr hwne
  obtain ⟨Z,hZ⟩ : ∃ Z,Z = zbZ P i:=⟨_,rfl⟩
  rw [← hZ] at hLl hls hnl ⊢
  have hhas3:=zdl Z wl (by omega)
  rw [decide_eq_false hnl] at hhas3
  have htZ : ∀ h : Int → List AV,List.take i (List.map h Z) = List.map h Z:=fun h=>List.take_of_length_le (by simp; omega)
  refine zab ?_
  refine zaa ⟨189,[(2,zaS P),(3,ints ends),(4,.pv (gC g)),(5,.pv (pC p)),(9,ints C),(10,.rs 30 0 N),(11,.rs 31 0 N),(12,.rs 32 0 i),(13,.I i),(14,ints w),(139,.B false)],[(30,some ⟨1,zae (rowR N (begF P (i + 1))),0⟩),(31,some ⟨1,zae (rowR N (useF P (i + 1))),0⟩),(32,some ⟨1,zae Z,0⟩)],3000⟩ rfl ?_ ?_
  ·simp [hwm,hwl1,hwgl']
   refine zeG [32] hhas3 (by simp [htZ,hLl,fcd]) (.sc _) ?_
   simp
   exact LeI [(30,30),(31,31),(32,32)] []
  refine zac _ rfl (fun h=>by cases h) fun _=>?_
  refine zad ?_
  refine zar rfl ?_
  simp [hwm,hwl1,hwgl',htZ,hLl]
  refine ⟨by omega,by omega,?_⟩
  refine zar rfl ?_
  simp
  exact ⟨i + 1,h7,by omega,Le.go [(30,30),(31,31),(3064,32)] [] rfl rfl (by simp [hwi]) (by simp [fcd,hls])⟩
 rw [decide_eq_false_iff_not] at h7
 obtain rfl : i = P.length:=by omega
 have hBF : ∀ k : Nat,k < N → begF P P.length k ≤ C.getD k 0 ∧ useF P P.length k ≤ max 0 (C.getD k 0 - 1):=fun k hk=>by
  have h1:=hroom k (by omega)
  have e : C.getD k 0 = C[k]'(by omega):=by rw [List.getD_eq_getElem?_getD,List.getElem?_eq_getElem (by omega),Option.getD_some]
  unfold begF useF
  rw [List.take_length,e]
  exact h1
 have hZl : (zbZ P P.length).length = ends.length:=by unfold zbZ; rw [List.take_length,hf.lasts,hf.ends]
 have hZj : zav (zbZ P P.length) = zav ends:=by unfold zbZ; rw [List.take_length]; exact hf.same
 have hel2:=hf.ends
 obtain ⟨Z,hZ⟩ : ∃ Z,Z = zbZ P P.length:=⟨_,rfl⟩
 have hub:=fun k : Int=>zlf (P:=P) (i:=P.length) (d:=[]) hPl hPw (by simp) 0 k
 rw [zm0] at hub
 obtain ⟨B,hB⟩ : ∃ B,B = begF P P.length:=⟨_,rfl⟩
 obtain ⟨U,hU⟩ : ∃ U,U = useF P P.length:=⟨_,rfl⟩
 rw [← hZ] at hZl hZj hLl ⊢
 rw [← hB,← hU] at hBF
 rw [← hU] at hub
 rw [← hB,← hU]
 have htZ : ∀ h : Int → List AV,List.take P.length (List.map h Z) = List.map h Z:=fun h=>List.take_of_length_le (by simp; omega)
 refine zam ?_
 refine hit ?_
 refine zab ?_
 refine zaa ⟨189,[(3,ints ends),(4,.pv (gC g)),(9,ints C),(10,.rs 30 0 N),(11,.rs 31 0 N),(12,ints Z),(16,.I 0)],[(30,some ⟨1,zae (rowR N B),0⟩),(31,some ⟨1,zae (rowR N U),0⟩)],1000⟩ rfl ?_ ?_
 ·simp
  exact Le.go [(30,30),(31,31)] [32] rfl rfl (by simp [htZ,fcd,hLl]) (by simp [fcd])
 refine zaf ?_
 refine zao (ι:=Nat) (fun k=>⟨189,[(3,ints ends),(4,.pv (gC g)),(9,ints C),(10,.rs 30 0 N),(11,.rs 31 0 N),(12,ints Z),(16,.I k)],[(30,some ⟨1,zae (rowR N B),0⟩),(31,some ⟨1,zae (rowR N U),0⟩)],1000⟩) (fun k=>k ≤ N) (fun k=>N - k) 0 (Nat.zero_le _) (LeI [(30,30),(31,31)] []) ?_
 intro k hk
 refine zab ?_
 refine zaa ⟨189,[(3,ints ends),(4,.pv (gC g)),(9,ints C),(10,.rs 30 0 N),(11,.rs 31 0 N),(12,ints Z),(16,.I k),(152,.B (decide (k < N)))],[(30,some ⟨1,zae (rowR N B),0⟩),(31,some ⟨1,zae (rowR N U),0⟩)],1100⟩ rfl ?_ ?_
 ·simp [hN]
  exact Le.go [(30,30),(31,31)] [] rfl rfl (by simp [hN]) (by simp [fcd])
 refine zac _ rfl (fun h26=>?_) fun h26=>?_
 ·rw [decide_eq_true_eq] at h26
  have hwk : IntKind.i64.wrap ((k : Int) + 1) = ((k + 1 : Nat) : Int):=by rw [w64 (by omega) (by omega)]; omega
  obtain ⟨h1,h2⟩:=hBF k h26
  have hkN : (0 : Int) ≤ k ∧ (k : Int) < N:=by omega
  have hrb:=zco (N:=N) (g:=B) hkN.1 hkN.2
  have hru:=zco (N:=N) (g:=U) hkN.1 hkN.2
  rw [Int.toNat_natCast] at hrb hru
  have hkn : k < C.length:=by omega
  have hcb':=hcb k
  obtain ⟨c,hc⟩ : ∃ c,c = C.getD k 0:=⟨_,rfl⟩
  rw [← hc] at h1 h2 hcb'
  have hCk' : C[k]'(by omega) = c:=by rw [hc,List.getD_eq_getElem?_getD,List.getElem?_eq_getElem hkn,Option.getD_some]
  have hwc : IntKind.i64.wrap (c - 1) = c - 1:=w64 (by omega) (by omega)
  have hb1 : ¬ c < B k:=by omega
  have hb3 : ¬ (if 1 < c then c - 1 else 0) < U k:=by split <;> omega
  refine zad ?_
  refine zab ?_
  refine zaf ?_
  refine zaq ⟨189,[(3,ints ends),(4,.pv (gC g)),(9,ints C),(10,.rs 30 0 N),(11,.rs 31 0 N),(12,ints Z),(16,.I k),(176,.B false)],[(30,some ⟨1,zae (rowR N B),0⟩),(31,some ⟨1,zae (rowR N U),0⟩)],1400⟩ rfl ?_ ?_
  ·simp [hrb,hru,h26,hkn,hCk',hb1,hwc]
   exact ⟨rfl,Le.go [(30,30),(31,31)] [] rfl rfl (by simp [hb3]) (by simp [fcd])⟩
  refine zac _ rfl (fun h=>by cases h) fun _=>?_
  refine zad ?_
  refine zar rfl ?_
  simp
  exact ⟨k + 1,h26,by omega,Le.go [(30,30),(31,31)] [] rfl rfl (by simp [hwk]) (by simp [fcd])⟩
 have hj1:=zkd Z [] (by omega) (by simp)
 have hj2:=zkd ends [] (by omega) (by simp)
 rw [List.append_nil] at hj1 hj2
 rw [hZj] at hj1
 have hJl:=zcS ends
 have hsm:=zb6 (zav ends) (zav ends) (by omega) (by omega)
 rw [decide_eq_true rfl] at hsm
 obtain ⟨J,hJ⟩ : ∃ J,J = zav ends:=⟨_,rfl⟩
 rw [← hJ] at hj1 hj2 hsm
 refine zam ?_
 refine hit ?_
 refine zaa ⟨189,[(8,.B true)],[],2000⟩ rfl ?_ ?_
 ·simp
  refine zmz hj1 (by simp [Wk.refl,ints,Wk.nil]) ?_
  simp
  refine zmz hj2 (by simp [Wk.refl,ints,Wk.nil]) ?_
  simp
  refine zeG [1108,1124] hsm (by simp [zaj,fcd]) (.sc _) ?_
  simp [hZl]
  exact LeH [] []
 refine zah ?_
 exact ⟨.inr rfl,zan.one (by simp)⟩
section
variable {P : Program} {np id : Nat} {h : Nat → Option Ent} {K : AV → List Nat → List (Nat × Option Ent) → Prop} {f : FuncId} {first capt args args' : List AV} {res : AV}
theorem zuF (sn : List Nat) (hc : zak P f args' [] res []) (hw : WkL ((first ++ args ++ capt).map (conv [] sn h 4)) args') (hnp : ∀ i ∈ sn,np ≤ i)
  (hk : K (conv (((List.range 8).map (id + ·)).zipIdx.map fun (a,b)=>(b,a)) [] (fun _=>none) 4 res) sn (sn.filterMap fun i=>(h i).map fun e=>(i,some { e with ro:=e.rows.length }))) : aK P np id .call (.fn (.func f) first capt :: args) h K :=
 ⟨[],sn,true,args',[],res,[],by simp,by simp,fun _=>hnp,by rw [List.zipIdx_nil]; exact hw,rfl,hc,by simp,.inl rfl,by simpa using hk⟩
end
set_option maxRecDepth 100000 in
set_option maxHeartbeats 4000000 in
theorem zkB (g : Gr) (p : Pol) (key : Int) (hg : GrOk g) (hp : zaV g.size p) (hs : p.seeds.length ≤ 64) (hN : g.size < 20) (hkey : key ∉ ordL (zai g p.lv) p.seeds) :
  zak Tryz.prog zb4 [eG g,eP p,.I key] [] (.tup [eX ⟨0,false,[],[],[]⟩,.I 11]) []:=by
 have hsz:=hg.1.1
 have hsz2:=hg.1.2.1
 have hel:=hg.edges_le
 have hgl:=hg.gone_le
 have hchk:=zbE g p (by omega) (by omega) (by omega) (by have:=hp.2.2.2.1; omega)
 rw [if_pos hg,if_pos hp] at hchk
 have hre:=zcU g p hg hN (by omega)
 have hol : (ordL (zai g p.lv) p.seeds).length ≤ 64:=by
  have h1:=zdD (g:=zai g p.lv) (S:=p.seeds) hsz
  have h2 : (zai g p.lv).size = g.size:=rfl
  omega
 have hcon:=zdb (ordL (zai g p.lv) p.seeds) key (by omega)
 rw [decide_eq_false hkey] at hcon
 obtain ⟨o,ho⟩ : ∃ o,o = ordL (zai g p.lv) p.seeds:=⟨_,rfl⟩
 rw [← ho] at hre hcon
 refine zfv.acalls (nbz rfl) (nbz rfl) (Nat.zero_le _) ?_
 show awp _ 0 _ _ ⟨45,[(0,eG g),(1,eP p),(2,.I key)],[],16⟩
 refine zaa ⟨45,[(2,.I key),(3,.pv (gC g)),(4,.pv (pC p)),(6,.pt 32 0 0)],[(32,some ⟨5,[[.I 0,.B false,.nilS,.nilS,.nilS]],0⟩)],100⟩ rfl ?_ ?_
 ·simp
  exact LeH [(32,32)] [16,24]
 refine zab ?_
 refine zaa ⟨45,[(2,.I key),(3,.pv (gC g)),(4,.pv (pC p)),(6,.pt 32 0 0),(8,.I 0)],[(32,some ⟨5,[[.I 0,.B false,.nilS,.nilS,.nilS]],0⟩)],200⟩ rfl ?_ ?_
 ·simp
  refine zal hchk (by simp) ?_
  simp
  exact LeH [(32,32)] []
 refine zaa ⟨45,[(2,.I key),(3,.pv (gC g)),(4,.pv (pC p)),(6,.pt 32 0 0),(16,.B false)],[(32,some ⟨5,[[.I 0,.B false,.nilS,.nilS,.nilS]],0⟩)],300⟩ rfl ?_ ?_
 ·simp
  exact LeH [(32,32)] []
 refine zac _ rfl (fun h=>by cases h) fun _=>?_
 refine zad ?_
 refine zaa ⟨45,[(2,.I key),(3,.pv (gC g)),(4,.pv (pC p)),(6,.pt 32 0 0),(9,ints o)],[(32,some ⟨5,[[.I 0,.B false,.nilS,.nilS,.nilS]],0⟩)],400⟩ rfl ?_ ?_
 ·simp
  refine zaM hre (by simp) ?_
  simp
  exact Le.go [(32,32)] [316] rfl rfl (by simp [zaj,fcd]) (by simp)
 refine zab ?_
 refine zaa ⟨45,[(6,.pt 32 0 0),(25,.B true)],[(32,some ⟨5,[[.I 0,.B false,.nilS,.nilS,.nilS]],0⟩)],500⟩ rfl ?_ ?_
 ·simp
  refine zal hcon (by simp) ?_
  simp
  exact LeH [(32,32)] []
 refine zac _ rfl (fun _=>?_) fun h=>by cases h
 refine zaa ⟨45,[(6,.pt 32 0 0),(7,.I 11)],[(32,some ⟨5,[[.I 0,.B false,.nilS,.nilS,.nilS]],0⟩)],700⟩ rfl ?_ ?_
 ·simp [zaw]
  exact LeH [(32,32)] []
 refine zah ?_
 exact ⟨.inr rfl,zan.out [] [] rfl (by simp) (by simp) (by simp; exact wkX0 (.nil _ _) (.nil _ _) (.nil _ _)) (by simp)⟩
set_option maxRecDepth 100000 in
set_option maxHeartbeats 4000000 in
theorem zlA : zak Tryz.prog zec [] [] (.B true) []:=by
 obtain ⟨x,hx,hc⟩:=zgW g1 p1 0 zr6 ztK (by decide) (by decide) (by rw [zpC]; decide)
 obtain ⟨h1,h2,h3⟩:=zus hx
 have hsm:=zb6 [0] [0] (by decide) (by decide)
 rw [decide_eq_true rfl] at hsm
 obtain ⟨a1,a2,a3,a4,a5⟩:=x
 simp only at h1 h2 h3
 subst h1
 subst h2
 subst h3
 refine znP.acalls (nbz rfl) (nbz rfl) (Nat.zero_le _) ?_
 show awp _ 0 _ _ ⟨37,[],[],16⟩
 refine rx (s:=?s1) [] [] [] rfl ?o1 ?q1
 case o1=>simp; rfl
 refine zaa ⟨37,[(1,.pv (xE ⟨a1,true,[],[[0]],a5⟩)),(2,.I 0)],[],200⟩ rfl ?_ ?_
 ·simp
  refine zuF [32,40] hc (by simp [g1,p1,Wk.refl]; exact ⟨wkA3 (.refl _) (.nil _ _) (.nil _ _),.refl _⟩) (by simp) ?_
  simp [zaw]
  exact Le.go [] [88] rfl rfl (by simp; exact .refl _) (by simp)
 refine zaa ⟨37,[(0,.B true)],[],500⟩ rfl ?_ ?_
 ·simp
  refine zeG [336] hsm (by simp) (.sc _) ?_
  simp
  exact LeH [] []
 refine zah ?_
 exact ⟨.inr rfl,zan.one (by simp)⟩
set_option maxRecDepth 100000 in
set_option maxHeartbeats 4000000 in
theorem zgg (g : Gr) (p : Pol) (key : Int) (x y : Expl) (hg : GrOk g) (hp : zaV g.size p) (hs : p.seeds.length ≤ 64) (hx : ForR g p (ordL (zai g p.lv) p.seeds) key x) (hy : ForR g p (ordL (zai g p.lv) p.seeds) key y) :
  zak Tryz.prog zcA [eG g,eP p,eX x,eX y] [] (.B true) []:=by
 obtain ⟨h1,h2,h3,h4,h5⟩:=hx.uniq hg hy
 have hb:=hx.bounds hg hp
 have hyes:=fun h=>hx.yes_serves hg hp h
 have hai:=hx.acc_iff'
 obtain ⟨hkey,_,_⟩:=hx.at_ hg
 obtain ⟨k,ac,E,Pa,sd⟩:=x
 obtain ⟨k',ac',E',Pb,sd'⟩:=y
 simp only at h1 h2 h3 h4 h5 hai hyes hkey
 subst h1 h2 h3 h4
 have hE:=hb.b
 have hS:=hb.s
 have hPl:=hb.p
 simp only at hE hS hPl
 have hs1:=zb6 E E (by omega) (by omega)
 have hs2:=zb6 sd sd (by omega) (by omega)
 rw [decide_eq_true rfl] at hs1 hs2
 refine znq.acalls (nbz rfl) (nbz rfl) (Nat.zero_le _) ?_
 show awp _ 0 _ _ ⟨64,[(0,eG g),(1,eP p),(2,eX ⟨k,ac,E,Pa,sd⟩),(3,eX ⟨k,ac,E,Pb,sd⟩)],[],16⟩
 refine zaa ⟨64,[(4,.pv (gC g)),(5,.pv (pC p)),(6,.pv (xE ⟨k,ac,E,Pa,sd⟩)),(7,.pv (xE ⟨k,ac,E,Pb,sd⟩))],[],100⟩ rfl ?_ ?_
 ·simp
  exact LeH [] [16,24,32,40]
 have hPl2 : Pb.length = Pa.length:=h5.symm
 refine zaq ⟨64,[(8,.B true)],[],2000⟩ rfl ?_ ?_
 ·cases ac with
  | false =>
    simp
    refine zal hs1 (by simp) ?_
    simp
    refine zal hs2 (by simp) ?_
    simp [hPl2]
    exact ⟨rfl,LeH [] []⟩
  | true =>
    have hsv:=zkX g p Pa (E ++ [k]) hg hp hs (by rw [hkey]; exact hyes (hai.1 rfl))
    simp
    refine zal hs1 (by simp) ?_
    simp
    refine zal hs2 (by simp) ?_
    simp [hPl2]
    refine ⟨by omega,by omega,by omega,by omega,?_⟩
    refine zlb [508] (by simp) hsv (by simp [fcd,zaj]; exact List.take_of_length_le (by simp)) ?_
    simp
    exact ⟨rfl,LeH [] []⟩
 refine zah ?_
 exact ⟨.inr rfl,zan.one (by simp)⟩
open Classical in
noncomputable def chkE (g : Gr) (p : Pol) : Int:=if GrOk g then if zaV g.size p then 0 else 15 else 14
theorem znw {g : Gr} {p : Pol} : chkE g p = 0 ↔ GrOk g ∧ zaV g.size p:=by
 unfold chkE
 by_cases h1 : GrOk g
 ·by_cases h2 : zaV g.size p
  ·simp [h1,h2]
  ·simp [h1,h2]
 ·simp [h1]
theorem zim (g : Gr) (p : Pol) (hl : g.edges.length ≤ 140737488355328) (hl2 : g.gone.length ≤ 140737488355328) (hs : p.seeds.length ≤ 140737488355328) (ht : p.table.length ≤ 140737488355328) :
  zak Tryz.prog zbG [eG g,eP p] [] (.I (chkE g p)) []:=zbE g p hl hl2 hs ht
theorem zmX (g : Gr) (p : Pol) (hl : g.edges.length ≤ 140737488355328) (hl2 : g.gone.length ≤ 140737488355328) (hs : p.seeds.length ≤ 140737488355328) (ht : p.table.length ≤ 140737488355328) :
  zak Tryz.prog zbY [eG g,eP p] [] (.I (chkE g p)) []:=zbU g p hl hl2 hs ht
variable {g : Gr} {p : Pol}
theorem zkW (he : chkE g p ≠ 0) (hl : g.edges.length ≤ 140737488355328) (hl2 : g.gone.length ≤ 140737488355328) (hs : p.seeds.length ≤ 140737488355328) (ht : p.table.length ≤ 140737488355328) :
  zak Tryz.prog zd2 [eG g,eP p] [] (.tup [eAcc [] [] [],.I (chkE g p)]) []:=by
 refine zjy.acalls (nbz rfl) (nbz rfl) (Nat.zero_le _) ?_
 show awp _ 0 _ _ ⟨72,[(0,eG g),(1,eP p)],[],16⟩
 have hchk:=zim g p hl hl2 hs ht
 obtain ⟨e,hed⟩ : ∃ e,e = chkE g p:=⟨_,rfl⟩
 rw [← hed] at he hchk ⊢
 have he' : (e != 0) = true:=by simp [he]
 refine zaa ⟨72,[(2,.pv (gC g)),(3,.pv (pC p)),(4,.pt 32 0 0)],[(32,some ⟨3,[[.nilS,.nilS,.nilS]],0⟩)],100⟩ rfl ?_ ?_
 ·simp
  exact LeH [(32,32)] [16,24]
 refine zab ?_
 refine zaa ⟨72,[(2,.pv (gC g)),(3,.pv (pC p)),(4,.pt 32 0 0),(6,.I e)],[(32,some ⟨3,[[.nilS,.nilS,.nilS]],0⟩)],200⟩ rfl ?_ ?_
 ·simp
  refine zal hchk (by simp) ?_
  simp
  exact LeH [(32,32)] []
 refine zaa ⟨72,[(4,.pt 32 0 0),(6,.I e),(18,.B true)],[(32,some ⟨3,[[.nilS,.nilS,.nilS]],0⟩)],300⟩ rfl ?_ ?_
 ·simp
  exact Le.go [(32,32)] [] rfl rfl (by simp [he']) (by simp)
 refine zac _ rfl (fun _=>?_) fun h=>by cases h
 refine zaa ⟨72,[(4,.pt 32 0 0),(5,.I e)],[(32,some ⟨3,[[.nilS,.nilS,.nilS]],0⟩)],400⟩ rfl ?_ ?_
 ·simp [zaw]
  exact LeH [(32,32)] []
 refine zah ?_
 exact ⟨.inr rfl,zan.out [] [] rfl (by simp) (by simp) (by simp; exact wkT2 (wkA3 (.nil _ _) (.nil _ _) (.nil _ _)) (.refl _)) (by simp)⟩
theorem zj8 (key : Int) (he : chkE g p ≠ 0) (hl : g.edges.length ≤ 140737488355328) (hl2 : g.gone.length ≤ 140737488355328) (hs : p.seeds.length ≤ 140737488355328) (ht : p.table.length ≤ 140737488355328) :
  zak Tryz.prog zb4 [eG g,eP p,.I key] [] (.tup [eX ⟨0,false,[],[],[]⟩,.I (chkE g p)]) []:=by
 refine zfv.acalls (nbz rfl) (nbz rfl) (Nat.zero_le _) ?_
 show awp _ 0 _ _ ⟨45,[(0,eG g),(1,eP p),(2,.I key)],[],16⟩
 have hchk:=zim g p hl hl2 hs ht
 obtain ⟨e,hed⟩ : ∃ e,e = chkE g p:=⟨_,rfl⟩
 rw [← hed] at he hchk ⊢
 have he' : (e != 0) = true:=by simp [he]
 refine zaa ⟨45,[(3,.pv (gC g)),(4,.pv (pC p)),(6,.pt 32 0 0)],[(32,some ⟨5,[[.I 0,.B false,.nilS,.nilS,.nilS]],0⟩)],100⟩ rfl ?_ ?_
 ·simp
  exact LeH [(32,32)] [16,24]
 refine zab ?_
 refine zaa ⟨45,[(3,.pv (gC g)),(4,.pv (pC p)),(6,.pt 32 0 0),(8,.I e)],[(32,some ⟨5,[[.I 0,.B false,.nilS,.nilS,.nilS]],0⟩)],200⟩ rfl ?_ ?_
 ·simp
  refine zal hchk (by simp) ?_
  simp
  exact LeH [(32,32)] []
 refine zaa ⟨45,[(6,.pt 32 0 0),(8,.I e),(16,.B true)],[(32,some ⟨5,[[.I 0,.B false,.nilS,.nilS,.nilS]],0⟩)],300⟩ rfl ?_ ?_
 ·simp
  exact Le.go [(32,32)] [] rfl rfl (by simp [he']) (by simp)
 refine zac _ rfl (fun _=>?_) fun h=>by cases h
 refine zaa ⟨45,[(6,.pt 32 0 0),(7,.I e)],[(32,some ⟨5,[[.I 0,.B false,.nilS,.nilS,.nilS]],0⟩)],400⟩ rfl ?_ ?_
 ·simp [zaw]
  exact LeH [(32,32)] []
 refine zah ?_
 exact ⟨.inr rfl,zan.out [] [] rfl (by simp) (by simp) (by simp; exact wkX0 (.nil _ _) (.nil _ _) (.nil _ _)) (by simp)⟩
theorem zmJ (key : Int) (he : chkE g p ≠ 0) (hl : g.edges.length ≤ 140737488355328) (hl2 : g.gone.length ≤ 140737488355328) (hs : p.seeds.length ≤ 140737488355328) (ht : p.table.length ≤ 140737488355328) :
  zak Tryz.prog zc3 [eG g,eP p,.I key] [] (.tup [eX ⟨0,false,[],[],[]⟩,.I (chkE g p)]) []:=by
 refine zhI.acalls (nbz rfl) (nbz rfl) (Nat.zero_le _) ?_
 show awp _ 0 _ _ ⟨114,[(0,eG g),(1,eP p),(2,.I key)],[],16⟩
 have hchk:=zmX g p hl hl2 hs ht
 obtain ⟨e,hed⟩ : ∃ e,e = chkE g p:=⟨_,rfl⟩
 rw [← hed] at he hchk ⊢
 have he' : (e != 0) = true:=by simp [he]
 refine zaa ⟨114,[(3,.pv (gC g)),(4,.pv (pC p)),(6,.pt 32 0 0)],[(32,some ⟨5,[[.I 0,.B false,.nilS,.nilS,.nilS]],0⟩)],100⟩ rfl ?_ ?_
 ·simp
  exact LeH [(32,32)] [16,24]
 refine zab ?_
 refine zaa ⟨114,[(3,.pv (gC g)),(4,.pv (pC p)),(6,.pt 32 0 0),(8,.I e)],[(32,some ⟨5,[[.I 0,.B false,.nilS,.nilS,.nilS]],0⟩)],200⟩ rfl ?_ ?_
 ·simp
  refine zal hchk (by simp) ?_
  simp
  exact LeH [(32,32)] []
 refine zaa ⟨114,[(6,.pt 32 0 0),(8,.I e),(19,.B true)],[(32,some ⟨5,[[.I 0,.B false,.nilS,.nilS,.nilS]],0⟩)],300⟩ rfl ?_ ?_
 ·simp
  exact Le.go [(32,32)] [] rfl rfl (by simp [he']) (by simp)
 refine zac _ rfl (fun _=>?_) fun h=>by cases h
 refine zaa ⟨114,[(6,.pt 32 0 0),(7,.I e)],[(32,some ⟨5,[[.I 0,.B false,.nilS,.nilS,.nilS]],0⟩)],400⟩ rfl ?_ ?_
 ·simp [zaw]
  exact LeH [(32,32)] []
 refine zah ?_
 exact ⟨.inr rfl,zan.out [] [] rfl (by simp) (by simp) (by simp; exact wkX0 (.nil _ _) (.nil _ _) (.nil _ _)) (by simp)⟩
theorem zmh (he : chkE g p ≠ 0) (hl : g.edges.length ≤ 140737488355328) (hl2 : g.gone.length ≤ 140737488355328) (hs : p.seeds.length ≤ 140737488355328) (ht : p.table.length ≤ 140737488355328) :
  zak Tryz.prog zez [eG g,eP p] [] (.tup [eXs [],.I (chkE g p)]) []:=by
 refine zld.acalls (nbz rfl) (nbz rfl) (Nat.zero_le _) ?_
 show awp _ 0 _ _ ⟨45,[(0,eG g),(1,eP p)],[],16⟩
 have hchk:=zmX g p hl hl2 hs ht
 obtain ⟨e,hed⟩ : ∃ e,e = chkE g p:=⟨_,rfl⟩
 rw [← hed] at he hchk ⊢
 have he' : (e != 0) = true:=by simp [he]
 refine zaa ⟨45,[(2,.pv (gC g)),(3,.pv (pC p))],[],100⟩ rfl ?_ ?_
 ·simp
  exact LeH [] [16,24]
 refine zab ?_
 refine zaa ⟨45,[(2,.pv (gC g)),(3,.pv (pC p)),(6,.I e)],[],200⟩ rfl ?_ ?_
 ·simp
  refine zal hchk (by simp) ?_
  simp
  exact LeH [] []
 refine zaa ⟨45,[(6,.I e),(16,.B true)],[],300⟩ rfl ?_ ?_
 ·simp
  exact Le.go [] [] rfl rfl (by simp [he']) (by simp)
 refine zac _ rfl (fun _=>?_) fun h=>by cases h
 refine zaa ⟨45,[(4,.nilS),(5,.I e)],[],400⟩ rfl ?_ ?_
 ·simp
  exact LeH [] []
 refine zah ?_
 exact ⟨.inr rfl,zan.out [] [] rfl (by simp) (by simp) (by simp; exact wkT2 (.nil _ _) (.refl _)) (by simp)⟩
theorem zkb (he : chkE g p ≠ 0) (hl : g.edges.length ≤ 140737488355328) (hl2 : g.gone.length ≤ 140737488355328) (hs : p.seeds.length ≤ 140737488355328) (ht : p.table.length ≤ 140737488355328) :
  zak Tryz.prog zdt [eG g,eP p] [] (.tup [eXs [],.I (chkE g p)]) []:=by
 refine zis.acalls (nbz rfl) (nbz rfl) (Nat.zero_le _) ?_
 show awp _ 0 _ _ ⟨26,[(0,eG g),(1,eP p)],[],16⟩
 have hrun:=zkW he hl hl2 hs ht
 obtain ⟨e,hed⟩ : ∃ e,e = chkE g p:=⟨_,rfl⟩
 rw [← hed] at he hrun ⊢
 have he' : (e != 0) = true:=by simp [he]
 refine zaa ⟨26,[(2,.pv (gC g)),(3,.pv (pC p))],[],100⟩ rfl ?_ ?_
 ·simp
  exact LeH [] [16,24]
 refine zaa ⟨26,[(7,.I e)],[],200⟩ rfl ?_ ?_
 ·simp
  refine zal hrun (by simp) ?_
  simp [zaw]
  exact LeH [] [148]
 refine zab ?_
 refine zaa ⟨26,[(7,.I e),(16,.B true)],[],300⟩ rfl ?_ ?_
 ·simp
  exact Le.go [] [] rfl rfl (by simp [he']) (by simp)
 refine zac _ rfl (fun _=>?_) fun h=>by cases h
 refine zaa ⟨26,[(4,.nilS),(5,.I e)],[],400⟩ rfl ?_ ?_
 ·simp
  exact LeH [] []
 refine zah ?_
 exact ⟨.inr rfl,zan.out [] [] rfl (by simp) (by simp) (by simp; exact wkT2 (.nil _ _) (.refl _)) (by simp)⟩
open Classical in
theorem zkK (g : Gr) (e : Ed) (h0 : (zct g e).2 = 0) (hl : g.edges.length * 24 ≤ 140737488355328) (hl2 : g.gone.length * 8 ≤ 140737488355328) : zak Tryz.prog zeY [eG g,eE e] [] (.tup [.agg [.I g.size,.rs 0 0 (ziX g e).edges.length,ints g.gone],.I 0]) [some ⟨3,(ziX g e).edges.map eC,0⟩]:=by
 refine zjg.acalls (nbz rfl) (nbz rfl) (Nat.zero_le _) ?_
 show awp _ 0 _ _ ⟨103,[(0,eG g),(1,eE e)],[],16⟩
 refine zaa ⟨103,[(2,.pv (gC g)),(3,.pv (eC e)),(4,.pt 32 0 0)],[(32,some ⟨3,[[.I 0,.nilS,.nilS]],0⟩)],40⟩ rfl ?_ ?_
 ·simp
  exact Le.var1 32 [16,24] rfl rfl (nbz rfl) (by decide) rfl (by simp) (by simp) (by simp)
 refine zab ?_
 refine zab ?_
 refine zag (s:=?s1) rfl ?o1 ?q1
 case o1=>simp; refine zal (zep g (by omega) (by omega)) rfl ?_; simp; rfl
 refine zac _ rfl (fun h2=>?_) fun h2=>?_
 ·have hg : ¬ GrOk g:=by
   intro hg
   simp [hg] at h2
  exfalso
  have hr : zct g e = (zcD,14):=by grind [zct]
  rw [hr] at h0
  cases h0
 have hg : GrOk g:=by
  rcases Classical.em (GrOk g) with h | h
  ·exact h
  ·simp [h] at h2
 refine zad ?_
 refine zab ?_
 refine zag (s:=?s4) rfl ?o4 ?q4
 case o4=>simp; refine zal (zgl g _ _ (by omega)) rfl ?_; simp; rfl
 refine zab ?_
 refine zaf ?_
 refine zaa ⟨103,[(2,.pv (gC g)),(3,.pv (eC e)),(4,.pt 32 0 0),(6,.I (idxE g.edges ⟨e.f,e.t,0⟩)),(7,.B (decide (AtE g.edges (idxE g.edges ⟨e.f,e.t,0⟩) e.f e.t))),(22,.B (decide (¬ Fits g e)))],[(32,some ⟨3,[[.I 0,.nilS,.nilS]],0⟩)],40⟩ rfl ?_ ?_
 ·simp
  repeat' first
   | (refine zdU zbf rfl ?_; refine zal (zni _ _ (by omega)) rfl ?_; simp)
   | (refine zb2 (fun hb=>?_) (fun hb=>?_) <;> (try rw [hb]) <;> (try simp at hb) <;> simp [*])
  all_goals exact Le.var1 32 [] rfl rfl (nbz rfl) (by decide) rfl (by simp) (by simp) (by simp <;> exact wkB (by (try simp at *); grind [Fits]))
 refine zac _ rfl (fun h5=>?_) fun h5=>?_
 ·try simp at h5
  exfalso
  have hr : zct g e = (zcD,4):=by grind [zct]
  rw [hr] at h0
  cases h0
 try simp at h5
 refine zaa ⟨103,[(2,.pv (gC g)),(3,.pv (eC e)),(4,.pt 32 0 0),(6,.I (idxE g.edges ⟨e.f,e.t,0⟩)),(7,.B (decide (AtE g.edges (idxE g.edges ⟨e.f,e.t,0⟩) e.f e.t))),(67,.B (decide (¬ (1 ≤ e.v ∧ e.v ≤ 3))))],[(32,some ⟨3,[[.I 0,.nilS,.nilS]],0⟩)],40⟩ rfl ?_ ?_
 ·simp
  repeat' first
   | (refine zb2 (fun hb=>?_) (fun hb=>?_) <;> (try rw [hb]) <;> (try simp at hb) <;> simp [*])
  all_goals exact Le.var1 32 [] rfl rfl (nbz rfl) (by decide) rfl (by simp) (by simp) (by simp <;> exact wkB (by (try simp at *); grind [Fits]))
 refine zac _ rfl (fun h7=>?_) fun h7=>?_
 ·try simp at h7
  exfalso
  have hr : zct g e = (zcD,2):=by grind [zct]
  rw [hr] at h0
  cases h0
 try simp at h7
 refine zab ?_
 refine zag (s:=?s9) rfl ?o9 ?q9
 case o9=>simp; rfl
 refine zac _ rfl (fun h10=>?_) fun h10=>?_
 ·try simp at h10
  exfalso
  have hr : zct g e = (zcD,19):=by grind [zct]
  rw [hr] at h0
  cases h0
 try simp at h10
 refine zab ?_
 refine zag (s:=?s12) rfl ?o12 ?q12
 case o12=>simp; rfl
 refine zac _ rfl (fun h13=>?_) fun h13=>?_
 ·try simp at h13
  exfalso
  have hr : zct g e = (zcD,3):=by grind [zct]
  rw [hr] at h0
  cases h0
 try simp at h13
 refine zad ?_
 have hle:=zoR g.edges ⟨e.f,e.t,0⟩
 refine zab ?_
 refine zag (s:=?s20) rfl ?o20 ?q20
 case o20=>simp; refine zpr (zfh g hl hl2) rfl ?_; simp [fcd]; rfl
 have h500 : g.edges.length ≤ 500:=hg.1.2.2.1
 have hmin : min (idxE g.edges ⟨e.f,e.t,0⟩) g.edges.length = idxE g.edges ⟨e.f,e.t,0⟩:=Nat.min_eq_left hle
 clear h0
 unfold ziX
 generalize idxE g.edges ⟨e.f,e.t,0⟩ = k at *
 have htk : List.take (k + 1) (List.take k (List.map (fun e : Ed=>[AV.I e.f,AV.I e.t,AV.I e.v]) g.edges) ++ [[AV.I e.f,AV.I e.t,AV.I e.v]]) = List.take k (List.map (fun e : Ed=>[AV.I e.f,AV.I e.t,AV.I e.v]) g.edges) ++ [[AV.I e.f,AV.I e.t,AV.I e.v]]:=List.take_of_length_le (by simp; exact Nat.min_le_left _ _)
 obtain ⟨E,hE⟩ : ∃ E,E = g.edges.take k ++ e :: g.edges.drop k:=⟨_,rfl⟩
 have hEl : k + 1 + (g.edges.length - k) = E.length:=by subst hE; simp; omega
 have hrows : List.take k (List.map (fun e : Ed=>[AV.I e.f,AV.I e.t,AV.I e.v]) g.edges) ++ [AV.I e.f,AV.I e.t,AV.I e.v] :: List.drop k (List.map (fun e : Ed=>[AV.I e.f,AV.I e.t,AV.I e.v]) g.edges) = E.map fun e : Ed=>[AV.I e.f,AV.I e.t,AV.I e.v]:=by subst hE; simp [List.map_take,List.map_drop]
 rw [← hE]
 refine zab ?_
 refine zel (s:=?s15) (tr:=?t15) rfl ?o15 ?r15 ?q15
 case o15 =>
  simp [hmin,hle,htk,hEl,hrows]
  repeat' apply And.intro
  all_goals first | omega | rfl
 case r15=>rfl
 refine zab ?_
 refine zag (s:=?s16) rfl ?o16 ?q16
 case o16=>simp; rfl
 refine zah ?_
 refine ⟨.inr rfl,?_⟩
 show zan [(4,some (true,3)),(5,none)] 0 _ _ _
 refine zan.out (vs:=[.agg [.I g.size,.rs 224 0 E.length,.rs 105 0 g.gone.length],.I 0]) [224] [105] (by simp) (by simp) (by simp) ?_ (by simp [fcd,← hrows])
 simp [fcd,zaj]
abbrev gO (g : Gr) (i : Nat) : List AV:=[.I g.size,.rs i 0 g.edges.length,ints g.gone]
abbrev eO (g : Gr) : Ent:=⟨3,g.edges.map eC,g.edges.length⟩
structure GSt where
 k : Nat
 g : Gr
 b : Nat
set_option maxRecDepth 100000 in
set_option maxHeartbeats 4000000 in
theorem zrJ (L : List Int) (a : Nat) (hl : L.length ≤ 400) (ha : a ≤ L.length) :
  ∃ x : Gr × Nat,(GrOk x.1 ∧ 2 ≤ x.1.size ∧ x.1.size ≤ 9 ∧ x.2 ≤ L.length) ∧ zak Tryz.prog zdx [.pt 0 0 0] [dice L a] (.agg (gO x.1 1)) [some (dice L x.2),some (eO x.1)]:=by
 refine ziz.acallsX (args:=[.pt 0 0 0]) (hs:=[dice L a]) (fun x=>.agg (gO x.1 1)) (fun x=>[some (dice L x.2),some (eO x.1)]) (fun x : Gr × Nat=>GrOk x.1 ∧ 2 ≤ x.1.size ∧ x.1.size ≤ 9 ∧ x.2 ≤ L.length) (nbz rfl) (nbz rfl) (fun _=>nbz rfl) ?_
 show awp _ 1 _ _ ⟨53,[(0,.pt 0 0 0)],[(0,some (dice L a))],16⟩
 obtain ⟨s0,b1,⟨hb1,hs0⟩,hc1⟩:=zfA L a 8 hl ha (by omega) (by omega)
 have hw1 : IntKind.i64.wrap (2 + (s0 : Int)) = 2 + (s0 : Int):=w64 (by omega) (by omega)
 refine zaa ⟨53,[(0,.pt 0 0 0),(2,.pt 16 0 0)],[(0,some (dice L a)),(16,some zG)],24⟩ rfl ?_ ?_
 ·simp
  exact Le.keep rfl (Nat.le_refl _) (by simp) (by simp)
 refine zaa ⟨53,[(0,.pt 0 0 0),(2,.pt 16 0 0),(3,.pt 56 0 0)],[(0,some (dice L b1)),(16,some zG),(56,some ⟨3,[[.I (2 + s0),.nilS,.nilS]],0⟩)],72⟩ rfl ?_ ?_
 ·simp
  refine zbl (i:=0) rfl (e':=dice L a) (by simp [fcd]) hc1 (by simp) (by simp) ?_
  simp [hw1,fcd]
  exact Le.keep rfl (Nat.le_refl _) (by simp) (by simp)
 refine zaI (ι:=Int) (fun s=>⟨53,[(0,.pt 0 0 0),(2,.pt 16 0 0),(3,.pt 56 0 0)],[(0,some (dice L b1)),(16,some zG),(56,some ⟨3,[[.I s,.nilS,.nilS]],0⟩)],136⟩) (fun s=>2 ≤ s ∧ s ≤ 9) ?_ ?_
 ·refine zaa ⟨53,[(0,.pt 0 0 0),(2,.pt 16 0 0),(3,.pt 56 0 0),(16,.B (decide (L.length = 0)))],[(0,some (dice L b1)),(16,some zG),(56,some ⟨3,[[.I (2 + s0),.nilS,.nilS]],0⟩)],120⟩ rfl ?_ ?_
  ·simp
   exact Le.keep rfl (Nat.le_refl _) (by simp <;> rw [Bool.eq_iff_iff] <;> simp) (by simp)
  refine zac _ rfl (fun h=>?_) fun h=>zad ?_
  ·refine zar rfl ?_
   simp
   exact ⟨4,by omega,Le.keep rfl (Nat.le_refl _) (by simp) (by simp)⟩
  ·exact ⟨2 + s0,by omega,Le.keep rfl (nbz rfl) (by simp) (by simp)⟩
 rintro s ⟨hs2,hs9⟩
 refine zaI (ι:=List Int × Nat) (fun q=>⟨53,[(0,.pt 0 0 0),(2,.pt 16 0 0),(3,.pt 56 0 0)],[(0,some (dice L q.2)),(16,some zG),(56,some ⟨3,[[.I s,.nilS,ints q.1]],0⟩)],208⟩) (fun q=>Rise q.1 0 (s - 1) ∧ q.2 ≤ L.length) ?_ ?_
 ·obtain ⟨o,b2,hb2,hc2⟩:=zvp L b1 8 hl hb1 (by omega) (by omega)
  refine zaa ⟨53,[(0,.pt 0 0 0),(2,.pt 16 0 0),(3,.pt 56 0 0),(19,.B o)],[(0,some (dice L b2)),(16,some zG),(56,some ⟨3,[[.I s,.nilS,.nilS]],0⟩)],152⟩ rfl ?_ ?_
  ·simp
   refine zbl (i:=0) rfl (e':=dice L b1) (by simp [fcd]) hc2 (by simp) (by simp) ?_
   simp [fcd]
   exact Le.keep rfl (Nat.le_refl _) (by simp) (by simp)
  refine zac _ rfl (fun h=>?_) fun h=>zad ?_
  ·obtain ⟨v,b3,⟨hb3,hv⟩,hc3⟩:=zfA L b2 s hl hb2 (by omega) (by omega)
   refine zar rfl ?_
   simp
   refine zbl (i:=0) rfl (e':=dice L b2) (by simp [fcd]) hc3 (by simp) (by simp) ?_
   simp [fcd,zaw]
   refine ⟨[(v : Int)],b3,⟨zei (by simp) (by simp; omega),hb3⟩,LeI [(0,0),(16,16),(56,56)] [184]⟩
  ·refine ⟨([],b2),⟨zei (by simp) (by simp),hb2⟩,Le.ents [(0,0),(16,16),(56,56)] [] rfl (by simp) (by simp) (by simp) (by simp) (by simp) (by simp) fun p hp=>?_⟩
   simp at hp
   rcases hp with rfl | rfl | rfl
   ·exact ⟨0,_,_,rfl,by simp,rfl,zay.eq (by simp) (by simp)⟩
   ·exact ⟨16,_,_,rfl,by simp,rfl,zay.eq (by simp) (by simp)⟩
   ·exact ⟨56,_,_,rfl,by simp,rfl,zay.row (by simp; rfl) (by simp) (zt3 (by simp; exact .nil _ _))⟩
 rintro ⟨gone,b2⟩ ⟨hgone,hb2⟩
 simp only at hgone hb2
 obtain ⟨n0,b3,⟨hb3,hn0⟩,hc3⟩:=zfA L b2 23 hl hb2 (by omega) (by omega)
 refine zab ?_
 refine zaa ⟨53,[(0,.pt 0 0 0),(2,.pt 16 0 0),(3,.pt 56 0 0),(4,.I n0)],[(0,some (dice L b3)),(16,some zG),(56,some ⟨3,[[.I s,.nilS,ints gone]],0⟩)],232⟩ rfl ?_ ?_
 ·simp
  refine zbl (i:=0) rfl (e':=dice L b2) (by simp [fcd]) hc3 (by simp) (by simp) ?_
  simp [fcd]
  exact Le.keep rfl (Nat.le_refl _) (by simp) (by simp)
 refine zaf ?_
 refine zao (ι:=GSt) (fun q=>⟨53,[(0,.pt 0 0 0),(2,.pt 16 0 0),(3,.pt 56 0 0),(4,.I q.k)],[(0,some (dice L q.b)),(16,some zG),(56,some ⟨3,[gO q.g 60],0⟩),(60,some (eO q.g))],300⟩)
  (fun q=>q.k ≤ 23 ∧ GrOk q.g ∧ q.g.size = s ∧ q.b ≤ L.length) (fun q=>q.k) ⟨n0,⟨s,[],gone⟩,b3⟩ ⟨by simp only; omega,⟨⟨by simp only; omega,by simp only; omega,by simp,hgone⟩,fun i h=>by simp at h⟩,rfl,hb3⟩
  (Le.lst [(0,0),(16,16),(56,56)] [] [(60,3)] rfl (by simp) (by simp) (by simp) (by simp) (by simp) (by simp) (by simp) (by simp [Up]) (by simp [fcd]; exact ⟨zay.rfl' (by simp),zay.rfl' (by simp),zay.row rfl (by omega) (by simp [UpL,Up,Wk.refl])⟩)) ?_
 rintro ⟨k,g,b⟩ ⟨hk,hg,hgs,hb⟩
 simp only at hk hg hgs hb
 have hel:=hg.edges_le
 have hgl:=hg.gone_le
 refine zab ?_
 refine zaa ⟨53,[(0,.pt 0 0 0),(2,.pt 16 0 0),(3,.pt 56 0 0),(4,.I k),(29,.B (decide (0 < k)))],[(0,some (dice L b)),(16,some zG),(56,some ⟨3,[gO g 60],0⟩),(60,some (eO g))],400⟩ rfl ?_ ?_
 ·simp
  exact Le.keep rfl (nbz rfl) (by simp) (by simp)
 refine zac _ rfl (fun h=>zad ?_) fun h=>zam (Go.Proofs.YteiabadhhhckfaaGreat.hit ?_)
 ·simp only [decide_eq_true_eq] at h
  have hwk : IntKind.i64.wrap ((k : Int) - 1) = ((k - 1 : Nat) : Int):=by rw [w64 (by omega) (by omega)]; omega
  refine zaI (ι:=Gr × Nat) (fun q=>⟨53,[(0,.pt 0 0 0),(2,.pt 16 0 0),(3,.pt 56 0 0),(4,.I k)],[(0,some (dice L q.2)),(16,some zG),(56,some ⟨3,[gO q.1 60],0⟩),(60,some (eO q.1))],2000⟩) (fun q=>GrOk q.1 ∧ q.1.size = s ∧ q.2 ≤ L.length) ?_ ?_
  ·refine zaf ?_
   obtain ⟨f,b4,⟨hb4,hf⟩,hc4⟩:=zfA L b g.size hl hb (by omega) (by omega)
   obtain ⟨t,b5,⟨hb5,ht⟩,hc5⟩:=zfA L b4 g.size hl hb4 (by omega) (by omega)
   obtain ⟨v,b6,⟨hb6,hv⟩,hc6⟩:=zfA L b5 3 hl hb5 (by omega) (by omega)
   have hwv : IntKind.i64.wrap (1 + (v : Int)) = 1 + (v : Int):=w64 (by omega) (by omega)
   obtain ⟨e,he⟩ : ∃ e : Ed,e = ⟨f,t,1 + (v : Int)⟩:=⟨_,rfl⟩
   by_cases h0 : (zct g e).2 = 0
   ·obtain ⟨_,_,_,_,_,hpe,hok⟩:=ztO h0
    have hwith:=zkK g e h0 (by omega) (by omega)
    obtain ⟨w,hw⟩ : ∃ w,w = ziX g e:=⟨_,rfl⟩
    rw [← hw] at hwith hok
    have hws : w.size = g.size:=by rw [hw]; rfl
    have hwg : w.gone = g.gone:=by rw [hw]; rfl
    refine zaq ⟨53,[(0,.pt 0 0 0),(2,.pt 16 0 0),(3,.pt 56 0 0),(4,.I k),(5,.pt 70 0 0),(6,.I 0)],[(0,some (dice L b6)),(16,some zG),(56,some ⟨3,[gO g 60],0⟩),(60,some (eO g)),(70,some ⟨3,[gO w 61],0⟩),(61,some ⟨3,w.edges.map eC,0⟩)],1000⟩ rfl ?_ ?_
    ·simp
     refine zbl (i:=0) rfl (e':=dice L b) (by simp [fcd]) hc4 (by simp) (by simp) ?_
     simp [fcd]
     refine zbl (i:=0) rfl (e':=dice L b4) (by simp [fcd]) hc5 (by simp) (by simp) ?_
     simp [fcd]
     refine zbl (i:=0) rfl (e':=dice L b5) (by simp [fcd]) hc6 (by simp) (by simp) ?_
     simp [fcd,hwv]
     refine zlG (j:=60) (by decide) rfl hwith (by simp [he,fcd,zaj]) ?_
     simp [fcd]
     exact ⟨rfl,Le.go [(0,0),(16,16),(56,56),(60,60),(536,70),(504,61)] [] rfl rfl (by simp) (by simp [fcd,hws,hwg])⟩
    refine zaa ⟨53,[(0,.pt 0 0 0),(2,.pt 16 0 0),(3,.pt 56 0 0),(4,.I k),(5,.pt 70 0 0),(50,.B true)],[(0,some (dice L b6)),(16,some zG),(56,some ⟨3,[gO g 60],0⟩),(60,some (eO g)),(70,some ⟨3,[gO w 61],0⟩),(61,some ⟨3,w.edges.map eC,0⟩)],1200⟩ rfl ?_ ?_
    ·simp
     exact Le.keep rfl (nbz rfl) (by simp) (by simp)
    refine zac _ rfl (fun _=>?_) fun h=>by cases h
    refine zar rfl ?_
    simp [zaw]
    refine ⟨w,b6,⟨hok,by rw [hws]; exact hgs,hb6⟩,Le.ents [(0,0),(16,16),(56,56),(61,60)] [] rfl (by simp) (by simp) (by simp) (by simp) (by simp) (by simp) fun p hp=>?_⟩
    simp at hp
    rcases hp with rfl | rfl | rfl | rfl
    ·exact ⟨0,_,_,rfl,by simp,rfl,zay.eq (by simp [fcd]) (by simp)⟩
    ·exact ⟨16,_,_,rfl,by simp,rfl,zay.eq (by simp) (by simp)⟩
    ·exact ⟨56,_,_,rfl,by simp,rfl,zay.eq (by simp) (by simp)⟩
    ·exact ⟨61,_,_,rfl,by simp,rfl,by simp [fcd]; exact ⟨rfl,Nat.zero_le _,by simp,.inl rfl⟩⟩
   ·have hwith:=zmg g e (by omega) (by omega)
    obtain ⟨r,hr⟩ : ∃ r,r = zct g e:=⟨_,rfl⟩
    rw [← hr] at hwith h0
    refine zaq ⟨53,[(0,.pt 0 0 0),(2,.pt 16 0 0),(3,.pt 56 0 0),(4,.I k),(6,.I r.2)],[(0,some (dice L b6)),(16,some zG),(56,some ⟨3,[gO g 60],0⟩),(60,some (eO g))],1000⟩ rfl ?_ ?_
    ·simp
     refine zbl (i:=0) rfl (e':=dice L b) (by simp [fcd]) hc4 (by simp) (by simp) ?_
     simp [fcd]
     refine zbl (i:=0) rfl (e':=dice L b4) (by simp [fcd]) hc5 (by simp) (by simp) ?_
     simp [fcd]
     refine zbl (i:=0) rfl (e':=dice L b5) (by simp [fcd]) hc6 (by simp) (by simp) ?_
     simp [fcd,hwv]
     refine zlb [60] (by decide) hwith (by simp [he,fcd,zaj]) ?_
     simp
     exact ⟨rfl,LeI [(0,0),(16,16),(56,56),(60,60)] []⟩
    refine zaa ⟨53,[(0,.pt 0 0 0),(2,.pt 16 0 0),(3,.pt 56 0 0),(4,.I k),(50,.B false)],[(0,some (dice L b6)),(16,some zG),(56,some ⟨3,[gO g 60],0⟩),(60,some (eO g))],1200⟩ rfl ?_ ?_
    ·simp
     exact Le.keep rfl (nbz rfl) (by simp [h0]) (by simp)
    refine zac _ rfl (fun h=>by cases h) fun _=>?_
    refine zad ?_
    exact ⟨(g,b6),⟨hg,hgs,hb6⟩,Le.keep rfl (nbz rfl) (by simp) (by simp)⟩
  rintro ⟨g,b⟩ ⟨hg,hgs,hb⟩
  simp only at hg hgs hb
  refine zar rfl ?_
  simp [hwk]
  exact ⟨⟨k - 1,g,b⟩,⟨by simp only; omega,hg,hgs,hb⟩,by simp only; omega,LeI [(0,0),(16,16),(56,56),(60,60)] []⟩
 refine zaa ⟨53,[(2,.pt 16 0 0)],[(0,some (dice L b)),(16,some ⟨3,[gO g 60],0⟩),(60,some (eO g))],500⟩ rfl ?_ ?_
 ·simp [zaw]
  exact Le.keep rfl (nbz rfl) (by simp) (by simp)
 refine zah ?_
 refine zdZ.mk (.inr rfl) (g,b) ⟨hg,by show 2 ≤ g.size; omega,by show g.size ≤ 9; omega,hb⟩ ⟨_,rfl,[60],[],by simp [List.range,List.range.loop],by simp,by simp,?_,?_⟩
 ·simp [List.range,List.range.loop,fcd]
 ·simp [List.range,List.range.loop,fcd]
abbrev zX : Expl:=⟨0,false,[],[],[]⟩
theorem zvk {a b c a' b' c' : AV} (h1 : Wk a a') (h2 : Wk b b') (h3 : Wk c c') : Wk (.pv [a,b,c]) (.pv [a',b',c']) :=
 .pv _ _ rfl fun i=>match i with | 0=>h1 | 1=>h2 | 2=>h3 | _ + 3=>.refl _
structure EmSt where
 g : Gr
 p : Pol
 k : Int
theorem ztV (g : Gr) (p : Pol) (key : Int) (he : g.edges.length ≤ 1000) (hl : g.gone.length ≤ 1000) (hN : g.size < 20) (hs : p.seeds.length ≤ 64) (ht : p.table.length ≤ 1000) :
  ∃ (x y : Expl) (e : Int),(e = 0 ∧ zak Tryz.prog zcA [eG g,eP p,eX x,eX y] [] (.B true) [] ∨ e ≠ 0 ∧ x = zX) ∧
    zak Tryz.prog zb4 [eG g,eP p,.I key] [] (.tup [eX x,.I e]) [] ∧ zak Tryz.prog zc3 [eG g,eP p,.I key] [] (.tup [eX y,.I e]) []:=by
 by_cases hc : chkE g p = 0
 ·obtain ⟨hg,hp⟩:=znw.1 hc
  by_cases hk : key ∈ ordL (zai g p.lv) p.seeds
  ·obtain ⟨x,hx,h1⟩:=zgW g p key hg hp hs hN hk
   obtain ⟨y,hy,h2⟩:=zu2 g p key hg hp hs hk
   exact ⟨x,y,0,.inl ⟨rfl,zgg g p key x y hg hp hs hx hy⟩,h1,h2⟩
  ·exact ⟨zX,zX,11,.inr ⟨by decide,rfl⟩,zkB g p key hg hp hs hN hk,zvm g p key hg hp hs hk⟩
 ·exact ⟨zX,zX,chkE g p,.inr ⟨hc,rfl⟩,zj8 key hc (by omega) (by omega) (by omega) (by omega),zmJ key hc (by omega) (by omega) (by omega) (by omega)⟩
theorem ztk (g : Gr) (p : Pol) (he : g.edges.length ≤ 1000) (hl : g.gone.length ≤ 1000) (hN : g.size < 20) (hs : p.seeds.length ≤ 64) (ht : p.table.length ≤ 1000) :
  ∃ (X Y : List Expl) (e : Int),(X.length = Y.length ∧ X.length ≤ 64 ∧ ∀ i (h1 : i < X.length) (h2 : i < Y.length),zak Tryz.prog zcA [eG g,eP p,eX X[i],eX Y[i]] [] (.B true) []) ∧
    zak Tryz.prog zdt [eG g,eP p] [] (.tup [eXs X,.I e]) [] ∧ zak Tryz.prog zez [eG g,eP p] [] (.tup [eXs Y,.I e]) []:=by
 by_cases hc : chkE g p = 0
 ·obtain ⟨hg,hp⟩:=znw.1 hc
  obtain ⟨X,⟨hXl,hX⟩,h1⟩:=zmA g p hg hp hs hN
  obtain ⟨Y,⟨hYl,hY⟩,h2⟩:=zuB g p hg hp hs
  have hol : (ordL (zai g p.lv) p.seeds).length ≤ 64:=by
   have h1:=zdD (g:=zai g p.lv) (S:=p.seeds) hg.1.1
   have h2 : (zai g p.lv).size = g.size:=rfl
   omega
  exact ⟨X,Y,0,⟨by omega,by omega,fun i a b=>zgg g p _ _ _ hg hp hs (hX i a (by omega)) (hY i b (by omega))⟩,h1,h2⟩
 ·exact ⟨[],[],chkE g p,⟨rfl,by simp,fun i a=>by simp at a⟩,zkb hc (by omega) (by omega) (by omega) (by omega),zmh hc (by omega) (by omega) (by omega) (by omega)⟩
set_option maxRecDepth 100000 in
set_option maxHeartbeats 40000000 in
theorem zgd (L : List Int) (key odd : Int) : zak Tryz.prog zea [ints L,.I key,.sc (.int .u8 odd)] [] (.B true) []:=by
 refine zgT.acalls (nbz rfl) (nbz rfl) (Nat.le_refl _) ?_
 show awp _ 0 _ _ ⟨151,[(0,ints L),(1,.I key),(2,.sc (.int .u8 odd))],[],16⟩
 refine rx (s:=?s1) [0,1,2] [] [] rfl ?o1 ?q1
 case o1=>simp; rfl
 refine zab ?_
 refine rx (s:=?s2) [0,1,2,22] [] [] rfl ?o2 ?q2
 case o2=>simp; refine zal (zo6 L) (by simp) ?_; simp; rfl
 refine zac _ rfl (fun h3=>?_) fun h3=>?_
 ·refine rx (s:=?s4) [6] [] [] rfl ?o4 ?q4
  case o4=>simp; refine zal zlA (by simp) ?_; simp; rfl
  refine zah ?_
  exact ⟨.inr rfl,zan.one (by simp)⟩
 simp at h3
 obtain ⟨⟨g,b1⟩,⟨hg,hg2,hg9,hb1⟩,hcg⟩:=zrJ L 0 h3 (Nat.zero_le _)
 simp only at hg hg2 hg9 hb1 hcg
 obtain ⟨⟨p,b2⟩,⟨hp1,hp2,hp3,hb2⟩,hcp⟩:=ztp L b1 g h3 hb1 (by omega) (by omega)
 simp only at hp1 hp2 hp3 hb2 hcp
 obtain ⟨kk,b3,⟨hb3,hkk⟩,hcn⟩:=zfA L b2 g.size h3 hb2 (by omega) (by omega)
 have hel:=hg.edges_le
 have hgl:=hg.gone_le
 have htE : ∀ h : Ed → List AV,List.take g.edges.length (List.map h g.edges) = List.map h g.edges:=fun h=>List.take_of_length_le (by simp)
 refine zad ?_
 refine zaa ⟨151,[(1,.I key),(2,.sc (.int .u8 odd)),(7,.pt 20 0 0)],[(20,some (dice L 0))],100⟩ rfl ?_ ?_
 ·simp
  refine zaM (zuv L) (by simp) ?_
  simp
  exact LeH [(56,20)] []
 refine zaa ⟨151,[(1,.I key),(2,.sc (.int .u8 odd)),(7,.pt 20 0 0),(8,.pt 30 0 0)],[(20,some (dice L b1)),(30,some ⟨3,[gO g 41],0⟩),(41,some (eO g))],200⟩ rfl ?_ ?_
 ·simp
  refine zbl (i:=20) rfl (e':=dice L 0) (by simp) hcg (by simp) (by simp) ?_
  simp [zaw]
  exact LeI [(20,20),(116,30),(108,41)] []
 refine zaa ⟨151,[(1,.I key),(2,.sc (.int .u8 odd)),(7,.pt 20 0 0),(8,.pt 30 0 0),(9,.pt 31 0 0)],[(20,some (dice L b2)),(30,some ⟨3,[gO g 41],0⟩),(41,some (eO g)),(31,some ⟨3,[pC p],0⟩)],300⟩ rfl ?_ ?_
 ·simp
  refine zkm (i:=20) (j:=41) (by decide) (by decide) rfl rfl (e':=dice L b1) (by simp) hcp (by simp) (by simp [fcd,htE]) ?_
  simp [zaw]
  exact LeI [(20,20),(30,30),(41,41),(224,31)] []
 refine zaa ⟨151,[(1,.I key),(2,.sc (.int .u8 odd)),(7,.pt 20 0 0),(8,.pt 30 0 0),(9,.pt 31 0 0),(10,.I kk)],[(20,some (dice L b3)),(30,some ⟨3,[gO g 41],0⟩),(41,some (eO g)),(31,some ⟨3,[pC p],0⟩)],400⟩ rfl ?_ ?_
 ·simp
  refine zbl (i:=20) rfl (e':=dice L b2) (by simp) hcn (by simp) (by simp) ?_
  simp
  exact LeI [(20,20),(30,30),(41,41),(31,31)] []
 refine zaI (ι:=EmSt) (fun s=>⟨151,[(8,.pv (gC s.g)),(9,.pv (pC s.p)),(10,.I s.k)],[],3000⟩) (fun s=>s.g.edges.length ≤ 1000 ∧ s.g.gone.length ≤ 64 ∧ s.g.size < 20 ∧ s.p.seeds.length ≤ 64 ∧ s.p.table.length ≤ 1000) ?_ ?_
 ·refine zaa ⟨151,[(1,.I key),(7,.pt 20 0 0),(8,.pt 30 0 0),(9,.pt 31 0 0),(10,.I kk),(36,.sc (.int .u8 (odd.tmod 7)))],[(20,some (dice L b3)),(30,some ⟨3,[gO g 41],0⟩),(41,some (eO g)),(31,some ⟨3,[pC p],0⟩)],500⟩ rfl ?_ ?_
  ·simp
   exact LeI [(20,20),(30,30),(41,41),(31,31)] []
  obtain ⟨v,hv⟩ : ∃ v,v = odd.tmod 7:=⟨_,rfl⟩
  rw [← hv]
  refine zaf ?_
  refine rk (s:=?c0) [1,7,8,9,10,36,37] [20,30,41,31] rfl ?oc0 ?qc0
  case oc0=>simp; rfl
  refine zac _ rfl (fun _=>?_) fun _=>?_
  ·refine zar rfl ?_
   simp
   exact ⟨⟨g,p,key⟩,⟨by simp only; omega,by simp only; omega,by simp only; omega,by simp only; omega,by simp only; omega⟩,Le.go [] [30,41,31] rfl rfl (by simp [fcd,htE]) (by simp)⟩
  refine rk (s:=?c1) [7,8,9,10,36,40] [20,30,41,31] rfl ?oc1 ?qc1
  case oc1=>simp; rfl
  refine zac _ rfl (fun _=>?_) fun _=>?_
  ·refine zar rfl ?_
   simp [zaw]
   exact ⟨⟨g,{ p with table:=[] },kk⟩,⟨by simp only; omega,by simp only; omega,by simp only; omega,by simp only; omega,Nat.zero_le _⟩,Le.go [] [30,41,31] rfl rfl (by simp [fcd,htE]; exact zvk (.refl _) (.nil _ _) (.refl _)) (by simp)⟩
  refine rk (s:=?c2) [7,8,9,10,36,43] [20,30,41,31] rfl ?oc2 ?qc2
  case oc2=>simp; rfl
  refine zac _ rfl (fun _=>?_) fun _=>?_
  ·refine zar rfl ?_
   simp [zaw]
   exact ⟨⟨g,{ p with seeds:=[g.size] },kk⟩,⟨by simp only; omega,by simp only; omega,by simp only; omega,by simp,by simp only; omega⟩,Le.go [] [30,41,31,564] rfl rfl (by simp [fcd,htE]; exact .refl _) (by simp)⟩
  refine rk (s:=?c3) [7,8,9,10,36,49] [20,30,41,31] rfl ?oc3 ?qc3
  case oc3=>simp; rfl
  refine zac _ rfl (fun _=>?_) fun _=>?_
  ·refine zar rfl ?_
   simp [zaw,htE]
   have hd1 : ∀ (h : Ed → List AV) (u : List AV),List.take (g.edges.length + 1) (List.map h g.edges ++ [u]) = List.map h g.edges ++ [u]:=fun h u=>List.take_of_length_le (by simp)
   exact ⟨by omega,by omega,⟨{ g with edges:=g.edges ++ [⟨0,0,0⟩] },p,kk⟩,⟨by simp only [List.length_append,List.length_singleton]; omega,by simp only; omega,by simp only; omega,by simp only; omega,by simp only; omega⟩,Le.go [] [30,596,31] rfl rfl (by simp [fcd,htE,hd1]; exact zvk (.refl _) (wkE (by show _ = AV.vs 3 false ((g.edges ++ [(⟨0,0,0⟩ : Ed)]).map fun e : Ed=>[AV.I e.f,.I e.t,.I e.v]); rw [List.map_append]; rfl)) (.refl _)) (by simp)⟩
  refine rk (s:=?c4) [7,8,9,10,36,57] [20,30,41,31] rfl ?oc4 ?qc4
  case oc4=>simp; rfl
  refine zac _ rfl (fun _=>?_) fun _=>?_
  ·refine zar rfl ?_
   simp
   obtain ⟨lv,b4,⟨hb4,_⟩,hco⟩:=Of_a L b3 [0,4] h3 hb3 (by simp) (by simp)
   refine zkm (i:=20) (j:=588) (by decide) (by decide) rfl rfl (e':=dice L b3) (by simp) hco (by simp) (by simp) ?_
   simp [zaw]
   exact ⟨⟨g,{ p with lv:=lv },kk⟩,⟨by simp only; omega,by simp only; omega,by simp only; omega,by simp only; omega,by simp only; omega⟩,Le.go [] [30,41,31] rfl rfl (by simp [fcd,htE]) (by simp)⟩
  refine zad ?_
  exact ⟨⟨g,p,kk⟩,⟨by simp only; omega,by simp only; omega,by simp only; omega,by simp only; omega,by simp only; omega⟩,Le.go [] [30,41,31] rfl rfl (by simp [fcd,htE]) (by simp)⟩
 rintro ⟨g',p',k'⟩ ⟨i1,i2,i3,i4,i5⟩
 simp only at i1 i2 i3 i4 i5
 obtain ⟨x,y,e,hxy,hc1,hc2⟩:=ztV g' p' k' i1 (by omega) i3 i4 i5
 obtain ⟨X,Y,f,⟨hXY,hXl,hal⟩,hc3,hc4⟩:=ztk g' p' i1 (by omega) i3 i4 i5
 refine zaa ⟨151,[(8,.pv (gC g')),(9,.pv (pC p')),(10,.I k'),(11,.pv (xE x)),(12,.I e)],[],3200⟩ rfl ?_ ?_
 ·simp
  refine zal hc1 (by simp) ?_
  simp [zaw]
  exact LeH [] [3056]
 refine zaa ⟨151,[(8,.pv (gC g')),(9,.pv (pC p')),(11,.pv (xE x)),(12,.I e),(13,.pv (xE y)),(14,.I e)],[],3400⟩ rfl ?_ ?_
 ·simp
  refine zal hc2 (by simp) ?_
  simp [zaw]
  exact LeH [] [3256]
 refine zaa ⟨151,[(8,.pv (gC g')),(9,.pv (pC p')),(11,.pv (xE x)),(12,.I e),(13,.pv (xE y)),(14,.I e),(15,eXs X),(16,.I f)],[],3600⟩ rfl ?_ ?_
 ·simp
  refine zal hc3 (by simp) ?_
  simp
  exact LeH [] []
 refine zaa ⟨151,[(8,.pv (gC g')),(9,.pv (pC p')),(11,.pv (xE x)),(12,.I e),(13,.pv (xE y)),(14,.I e),(15,eXs X),(16,.I f),(17,eXs Y),(18,.I f)],[],3800⟩ rfl ?_ ?_
 ·simp
  refine zal hc4 (by simp) ?_
  simp
  exact LeH [] []
 refine zab ?_
 refine zaa ⟨151,[(8,.pv (gC g')),(9,.pv (pC p')),(15,eXs X),(17,eXs Y),(131,.B false)],[],4200⟩ rfl ?_ ?_
 ·rcases hxy with ⟨h1,h2⟩ | ⟨h1,h2⟩
  ·subst h1
   simp [hXY]
   refine zal h2 (by simp) ?_
   simp
   exact LeH [] []
  ·subst h2
   have e1 : (e == 0) = false:=by simp [h1]
   have e2 : (e != 0) = true:=by simp [h1]
   simp [hXY,e1,e2]
   exact LeH [] []
 refine zac _ rfl (fun h=>by cases h) fun _=>?_
 refine zad ?_
 refine zab ?_
 refine zaa ⟨151,[(8,.pv (gC g')),(9,.pv (pC p')),(15,eXs X),(17,eXs Y),(19,.I 0)],[],4300⟩ rfl ?_ ?_
 ·simp
  exact LeH [] []
 refine zaf ?_
 refine zao (ι:=Nat) (fun i=>⟨151,[(8,.pv (gC g')),(9,.pv (pC p')),(15,eXs X),(17,eXs Y),(19,.I i)],[],4300⟩) (fun i=>i ≤ X.length) (fun i=>X.length - i) 0 (Nat.zero_le _) (LeH [] []) ?_
 intro i hi
 refine zab ?_
 refine zaa ⟨151,[(8,.pv (gC g')),(9,.pv (pC p')),(15,eXs X),(17,eXs Y),(19,.I i),(135,.B (decide (i < X.length)))],[],4400⟩ rfl ?_ ?_
 ·simp
  exact LeH [] []
 refine zac _ rfl (fun h21=>?_) fun h21=>?_
 ·rw [decide_eq_true_eq] at h21
  have h22 : i < Y.length:=by omega
  have hwi : IntKind.i64.wrap ((i : Int) + 1) = ((i + 1 : Nat) : Int):=by rw [w64 (by omega) (by omega)]; omega
  have hali:=hal i h21 h22
  obtain ⟨a,ha⟩ : ∃ a,a = X[i]:=⟨_,rfl⟩
  obtain ⟨b,hb⟩ : ∃ b,b = Y[i]:=⟨_,rfl⟩
  rw [← ha,← hb] at hali
  refine zad ?_
  refine zab ?_
  refine zaf ?_
  refine zaq ⟨151,[(8,.pv (gC g')),(9,.pv (pC p')),(15,eXs X),(17,eXs Y),(19,.I i),(149,.B false)],[],4700⟩ rfl ?_ ?_
  ·simp [h21,← ha,h22,← hb]
   refine zal hali (by simp) ?_
   simp
   exact ⟨rfl,LeH [] []⟩
  refine zac _ rfl (fun h=>by cases h) fun _=>?_
  refine zad ?_
  refine zar rfl ?_
  simp
  exact ⟨i + 1,h21,by omega,Le.go [] [] rfl rfl (by simp [hwi]) (by simp)⟩
 rw [decide_eq_false_iff_not] at h21
 refine zam ?_
 refine hit ?_
 refine zaa ⟨151,[(6,.B true)],[],5000⟩ rfl ?_ ?_
 ·simp
  refine zal zlA (by simp) ?_
  simp
  exact LeH [] []
 refine zah ?_
 exact ⟨.inr rfl,zan.one (by simp)⟩
end Go.Proofs.YteiabadhhhckfaaGreat
