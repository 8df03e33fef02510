/- Texts of this claim,merged. -/
import Derived.Test.YteiabadhhhckfaaGreatRi9
import Derived.Test.YteiabadhhhckfaaGreatRi6
import Derived.Test.YteiabadhhhckfaaGreatRi7
import Derived.Shelf.SlIterI.Collect
import Derived.RangeFuncLeaves
set_option linter.unusedSimpArgs false
set_option linter.unusedVariables false
set_option linter.unusedSectionVars false
namespace Go.Proofs.YteiabadhhhckfaaGreat
open Go
def zda (g : Gr) (S : List Int) (k : Int) : Bool:=S.contains k && !g.gone.contains k
def dl (g : Gr) (S : List Int) : Nat → Int → Int
 | 0,k=>if zda g S k = true then 0 else -1
 | n + 1,k=>if 0 ≤ dl g S n k then dl g S n k else if g.edges.any (fun e=>decide (e.t = k) && decide (dl g S n e.f = n)) = true then (n : Int) + 1 else -1
def Key (g : Gr) (k : Int) : Prop:=0 ≤ k ∧ k < g.size
variable {g : Gr} {S : List Int}
theorem zbB (n : Nat) (k : Int) : -1 ≤ dl g S n k ∧ dl g S n k ≤ n:=by
 induction n with
 | zero=>unfold dl; split <;> omega
 | succ n ih=>unfold dl; split <;> (try split) <;> omega
theorem zfB {n : Nat} {k : Int} (h : 0 ≤ dl g S n k) : dl g S (n + 1) k = dl g S n k:=by
 rw [dl,if_pos h]
theorem zq6 {n m : Nat} {k : Int} (hnm : n ≤ m) (h : 0 ≤ dl g S n k) : dl g S m k = dl g S n k:=by
 induction m with
 | zero=>obtain rfl : n = 0:=by omega
         rfl
 | succ m ih =>
   rcases Nat.lt_or_ge n (m + 1) with h1 | h1
   ·have:=ih (by omega)
    rw [zfB (by omega),this]
   ·obtain rfl : n = m + 1:=by omega
    rfl
theorem zmO {n : Nat} {k : Int} (h : 0 ≤ dl g S (n + 1) k) (h2 : ¬ 0 ≤ dl g S n k) : dl g S (n + 1) k = n + 1 ∧ ∃ e ∈ g.edges,e.t = k ∧ dl g S n e.f = n:=by
 rw [dl,if_neg h2] at h ⊢
 split at h
 ·rename_i ha
  rw [if_pos ha]
  rw [List.any_eq_true] at ha
  obtain ⟨e,he,ha⟩:=ha
  simp at ha
  exact ⟨rfl,e,he,ha.1,ha.2⟩
 ·omega
theorem zuB {n : Nat} {k : Int} (h : 0 ≤ dl g S n k) : dl g S (dl g S n k).toNat k = dl g S n k:=by
 induction n with
 | zero =>
   have:=zbB (g:=g) (S:=S) 0 k
   have e : dl g S 0 k = 0:=by omega
   rw [e]; exact e
 | succ n ih =>
   by_cases h2 : 0 ≤ dl g S n k
   ·rw [zfB h2]; exact ih h2
   ·obtain ⟨e,_⟩:=zmO h h2
    rw [e]
    have : ((n : Int) + 1).toNat = n + 1:=by omega
    rw [this]; exact e
theorem zrr {n : Nat} {e : Ed} (he : e ∈ g.edges) (h : 0 ≤ dl g S n e.f) : 0 ≤ dl g S (n + 1) e.t ∧ dl g S (n + 1) e.t ≤ dl g S n e.f + 1:=by
 have hat:=zuB h
 have hr:=zbB (g:=g) (S:=S) n e.f
 obtain ⟨m,hm⟩ : ∃ m : Nat,dl g S n e.f = m:=⟨(dl g S n e.f).toNat,by omega⟩
 rw [hm] at hat hr ⊢
 simp at hat
 have key : 0 ≤ dl g S (m + 1) e.t ∧ dl g S (m + 1) e.t ≤ m + 1:=by
  have hr2:=zbB (g:=g) (S:=S) (m + 1) e.t
  refine ⟨?_,by omega⟩
  rw [dl]
  split
  ·assumption
  ·rw [if_pos]
   ·omega
   ·rw [List.any_eq_true]
    exact ⟨e,he,by simp [hat]⟩
 have:=zq6 (g:=g) (S:=S) (n:=m + 1) (m:=n + 1) (by omega) key.1
 rw [this]
 exact key
theorem znW (h : GrOk g) {n : Nat} (hn : ∀ k,Key g k → dl g S n k ≠ n) : ∀ (m : Nat),n ≤ m → ∀ k,Key g k → dl g S m k = dl g S n k ∧ dl g S m k ≠ m:=by
 intro m
 induction m with
 | zero =>
   intro hm k hk
   obtain rfl : n = 0:=by omega
   exact ⟨rfl,hn k hk⟩
 | succ m ih =>
   intro hm k hk
   rcases Nat.lt_or_ge n (m + 1) with h1 | h1
   ·have ihm:=ih (by omega)
    have e : dl g S (m + 1) k = dl g S m k:=by
     by_cases h2 : 0 ≤ dl g S m k
     ·exact zfB h2
     ·have hr:=zbB (g:=g) (S:=S) m k
      by_cases h3 : 0 ≤ dl g S (m + 1) k
      ·obtain ⟨_,e,he,_,h5⟩:=zmO h3 h2
       have hf:=h.fits e he
       exact absurd h5 (ihm e.f ⟨hf.1,by have:=hf.2.1; omega⟩).2
      ·have hr2:=zbB (g:=g) (S:=S) (m + 1) k
       omega
    have hr:=zbB (g:=g) (S:=S) m k
    rw [e,(ihm k hk).1]
    refine ⟨rfl,?_⟩
    rw [(ihm k hk).1] at hr
    omega
   ·obtain rfl : n = m + 1:=by omega
    exact ⟨rfl,hn k hk⟩
def reach (g : Gr) (S : List Int) (n : Nat) : Nat:=(List.range g.size.toNat).countP fun (i : Nat)=>decide (0 ≤ dl g S n (i : Int))
theorem zl7 {α : Type} {p q : α → Bool} : ∀ {l : List α},(∀ x ∈ l,p x = true → q x = true) → (∃ x ∈ l,q x = true ∧ p x = false) → l.countP p < l.countP q
 | [],_,h=>by obtain ⟨_,h,_⟩:=h; simp at h
 | a :: l,h1,h2=>by
   have hle : l.countP p ≤ l.countP q:=List.countP_mono_left fun x hx=>h1 x (List.mem_cons_of_mem _ hx)
   simp only [List.countP_cons]
   obtain ⟨x,hx,hq,hp⟩:=h2
   rcases List.mem_cons.1 hx with rfl | hx
   ·rw [hq,hp]
    simp
    omega
   ·have ih:=zl7 (fun x hx=>h1 x (List.mem_cons_of_mem _ hx)) ⟨x,hx,hq,hp⟩
    have ha:=h1 a List.mem_cons_self
    cases hpa : p a <;> cases hqa : q a <;> simp_all <;> omega
theorem zoh {n : Nat} {k : Int} (hk : Key g k) (h : dl g S (n + 1) k = n + 1) : reach g S n < reach g S (n + 1):=by
 refine zl7 (fun i _ hi=>?_) ⟨k.toNat,by simp; have:=hk.1; have:=hk.2; omega,?_,?_⟩
 ·simp at hi ⊢
  rw [zfB hi]; exact hi
 ·have e : ((k.toNat : Nat) : Int) = k:=by have:=hk.1; omega
  simp [e,h]
  omega
 ·have e : ((k.toNat : Nat) : Int) = k:=by have:=hk.1; omega
  simp only [e,decide_eq_false_iff_not]
  intro h2
  rw [zfB h2] at h
  have:=zbB (g:=g) (S:=S) n k
  omega
theorem ztH (h : GrOk g) {n : Nat} {k : Int} (hd : dl g S (n + 1) k = n + 1) : ∃ k',Key g k' ∧ dl g S n k' = n:=by
 have h2 : ¬ 0 ≤ dl g S n k:=by
  intro h2
  rw [zfB h2] at hd
  have:=zbB (g:=g) (S:=S) n k
  omega
 obtain ⟨_,e,he,_,h5⟩:=zmO (by omega) h2
 have hf:=h.fits e he
 exact ⟨e.f,⟨hf.1,by have:=hf.2.1; omega⟩,h5⟩
theorem zpe (h : GrOk g) : ∀ {n : Nat} {k : Int},Key g k → dl g S n k = n → n + 1 ≤ reach g S n
 | 0,k,hk,hd=>by
   have : 0 < reach g S 0:=List.countP_pos_iff.2 ⟨k.toNat,by simp; have:=hk.1; have:=hk.2; omega,by
    have e : ((k.toNat : Nat) : Int) = k:=by have:=hk.1; omega
    simp [e]
    omega⟩
   omega
 | n + 1,k,hk,hd=>by
   have hd' : dl g S (n + 1) k = (n : Int) + 1:=by simpa using hd
   obtain ⟨k',hk',h'⟩:=ztH h hd'
   have:=zpe h hk' h'
   have:=zoh hk hd'
   omega
theorem zsJ (n : Nat) : reach g S n ≤ g.size.toNat:=by
 have:=List.countP_le_length (p:=fun (i : Nat)=>decide (0 ≤ dl g S n (i : Int))) (l:=List.range g.size.toNat)
 simpa [reach] using this
theorem zoY (h : GrOk g) {n : Nat} {k : Int} (hk : Key g k) (hd : dl g S n k = n) : (n : Int) < g.size:=by
 have h1:=zpe h hk hd
 have h2:=zsJ (g:=g) (S:=S) n
 omega
def dist (g : Gr) (S : List Int) (k : Int) : Int:=dl g S g.size.toNat k
theorem zmd (h : GrOk g) {n : Nat} (hn : ∀ k,Key g k → dl g S n k ≠ n) (k : Int) (hk : Key g k) : dl g S n k = dist g S k:=by
 unfold dist
 rcases Nat.le_total n g.size.toNat with h1 | h1
 ·exact ((znW h hn _ h1 k hk).1).symm
 ·have hN : ∀ k,Key g k → dl g S g.size.toNat k ≠ g.size.toNat:=by
   intro k hk hd
   have:=zoY h hk hd
   omega
  exact (znW h hN _ h1 k hk).1
theorem zql (k : Int) : -1 ≤ dist g S k ∧ dist g S k ≤ g.size.toNat:=zbB _ _
theorem zqN (h : GrOk g) {k : Int} (hk : Key g k) : dist g S k < g.size ∨ g.size ≤ 0:=by
 have h1:=zql (g:=g) (S:=S) k
 by_cases h2 : dist g S k = g.size.toNat
 ·have:=zoY h hk h2
  omega
 ·have:=hk.1; have:=hk.2; omega
theorem zrB (h : GrOk g) {k : Int} : dist g S k = 0 ↔ zda g S k = true:=by
 unfold dist
 constructor
 ·intro hd
  have:=zuB (g:=g) (S:=S) (n:=g.size.toNat) (k:=k) (by omega)
  rw [hd] at this
  simp at this
  rw [dl] at this
  split at this
  ·assumption
  ·omega
 ·intro hs
  have h0 : dl g S 0 k = 0:=by rw [dl,if_pos hs]
  rw [zq6 (Nat.zero_le _) (by omega),h0]
theorem zqM (h : GrOk g) {e : Ed} (he : e ∈ g.edges) (hf : 0 ≤ dist g S e.f) : 0 ≤ dist g S e.t ∧ dist g S e.t ≤ dist g S e.f + 1:=by
 have hfit:=h.fits e he
 have h1:=zrr (S:=S) he hf
 have hN : ∀ k,Key g k → dl g S g.size.toNat k ≠ g.size.toNat:=by
  intro k hk hd
  have:=zoY h hk hd
  omega
 have h2:=(znW h hN (g.size.toNat + 1) (by omega) e.t ⟨hfit.2.2.1,by have:=hfit.2.2.2.1; omega⟩).1
 rw [h2] at h1
 exact h1
section
variable {P : Program} {np id : Nat} {h : Nat → Option Ent} {K : AV → List Nat → List (Nat × Option Ent) → Prop} {f : FuncId} {first capt args args' : List AV} {res : AV}
theorem ztr {i : Nat} (sn : List Nat) {e e' : Ent} {hs' : List (Option Ent)} (hij : ∀ j ∈ sn,j ≠ i) (hi : h i = some e) (hee : zay [(i,0)] sn h 4 e = e') (hc : zaj P f args' [e'] res hs') (h8 : hs'.length ≤ 9) (he : (first ++ args ++ capt).map (conv [(i,0)] sn h 4) = args')
  (hp : Plain res) (hpe : ∀ e,some e ∈ hs' → zkJ e)
  (hk : K (conv (swp [i] id) [] (fun _=>none) 4 res) (i :: sn) ((hs'.zipIdx.map fun (e,k)=>((i :: (List.range 8).map (id + ·)).getD k 0,e.map (zay (swp [i] id) [] (fun _=>none) 4))) ++ [])) : aK P np id .call (.fn (.func f) first capt :: args) h K :=
 ⟨[i],sn,false,args',[e'],res,hs',by simp,by simpa using hij,by simp,by rw [show [i].zipIdx = [(i,0)] from rfl,he]; exact zb1 _,by rw [show [i].zipIdx = [(i,0)] from rfl]; simpa [hi] using hee,hc,by simpa using h8,.inr ⟨hp,hpe⟩,by simpa [swp] using hk⟩
theorem ztw {j : Nat} {e ej : Ent} (hnp : np ≤ j) (hj : h j = some ej) (hc : zaj P f args' [] res [some e]) (he : (first ++ args ++ capt).map (conv [] [j] h 4) = args')
  (hk : K (conv (swp [] id) [] (fun _=>none) 4 res) [j] [(id,some (zay (swp [] id) [] (fun _=>none) 4 e)),(j,some { ej with ro:=ej.rows.length })]) : aK P np id .call (.fn (.func f) first capt :: args) h K :=
 ⟨[],[j],true,args',[],res,[some e],by simp,by simp,by simpa using hnp,by rw [List.zipIdx_nil,he]; exact zb1 _,rfl,hc,by simp,.inl rfl,by simpa [swp,hj] using hk⟩
end
theorem zn9 {l : List Int} {z : Nat} : zkJ ⟨1,zaf l ++ List.replicate z [AV.I 0],0⟩:=by
 intro row hrow x hx
 simp only [List.mem_append,List.mem_map,List.mem_replicate] at hrow
 rcases hrow with ⟨y,_,rfl⟩ | ⟨_,rfl⟩
 ·simp at hx; subst hx; exact .sc _
 ·simp at hx; subst hx; exact .sc _
theorem zsz (g : Gr) (S : List Int) (k : Int) (hS : S.length ≤ 1099511627776) (hg : g.gone.length ≤ 1099511627776) : zaj Tryz.prog zdG [eG g,ints S,.I k] [] (.B (zda g S k)) []:=by
 refine zjn.acalls (nbz rfl) (nbz rfl) (Nat.le_refl _) ?_
 show awp _ 0 _ _ ⟨17,[(0,eG g),(1,ints S),(2,.I k)],[],16⟩
 refine zaa ⟨17,[(1,ints S),(2,.I k),(3,.pv (gC g))],[],16⟩ rfl ?_ ?_
 ·simp
  exact Le.snap [16] rfl rfl (by simp)
 refine zaa ⟨17,[(6,.B (zda g S k))],[],16⟩ rfl ?_ ?_
 ·simp
  refine zdT zar rfl ?_
  refine zap (zdI S k (by omega)) rfl ?_
  simp
  refine zcc (fun hb=>?_) (fun hb=>?_)
  ·simp [hb]
   refine zdT zar rfl ?_
   refine zap (zdI g.gone k (by omega)) rfl ?_
   simp [hb]
   exact Le.snap [] rfl rfl (by simp [zda] <;> exact wkB (by simp_all))
  ·simp [hb]
   exact Le.snap [] rfl rfl (by simp [zda] <;> exact wkB (by simp_all))
 refine zah ?_
 exact ⟨.inr rfl,zal.one (by simp)⟩
theorem zrK (g : Gr) (S : List Int) (k : Int) (hS : S.length ≤ 1099511627776) (hg : g.gone.length ≤ 1099511627776) : zaj Tryz.prog zcj [.I k,.pv (gC g),.pv [ints S]] [] (.B (zda g S k)) []:=by
 refine zig.acalls (nbz rfl) (nbz rfl) (Nat.le_refl _) ?_
 show awp _ 0 _ _ ⟨9,[(0,.I k),(1,.pv (gC g)),(2,.pv [ints S])],[],16⟩
 refine zab ?_
 refine zae (s:=?s0) rfl ?o0 ?q0
 case o0=>simp; rfl
 refine zab ?_
 refine zae (s:=?s1) rfl ?o1 ?q1
 case o1=>simp; refine zap (zsz g S k hS hg) rfl ?_; simp; rfl
 refine zah ?_
 exact ⟨.inr rfl,zal.one (by simp)⟩
def offQ (D : List Int) (x : Int) : Bool:=!decide (0 ≤ x ∧ x < D.length) || decide (0 ≤ D.getD x.toNat 0)
theorem zqs (D : List Int) (x : Int) (hD : D.length ≤ 1000000) : zaj Tryz.prog zck [.I x,.pv [ints D]] [] (.B (offQ D x)) []:=by
 refine zh9.acalls (nbz rfl) (nbz rfl) (Nat.le_refl _) ?_
 show awp _ 0 _ _ ⟨17,[(0,.I x),(1,.pv [ints D])],[],16⟩
 have hw : IntKind.i64.wrap ((D.length : Int) - 1) = (D.length : Int) - 1:=w64 (by omega) (by omega)
 refine zab ?_
 refine zae (s:=?s0) rfl ?o0 ?q0
 case o0=>simp; rfl
 refine zaa ⟨17,[(3,.B (offQ D x))],[],16⟩ rfl ?_ ?_
 ·simp [hw]
  refine zdT zaO rfl ?_
  refine zap (zbt ..) rfl ?_
  simp
  by_cases hx : 0 ≤ x ∧ x < D.length
  ·obtain ⟨k,rfl⟩ : ∃ k : Nat,x = k:=⟨x.toNat,by omega⟩
   have hk : k < D.length:=by omega
   have hb : (!decide (0 ≤ (k : Int)) || !decide ((k : Int) ≤ (D.length : Int) - 1)) = false:=by simp; omega
   have ho : offQ D k = decide (0 ≤ D[k]):=by
    unfold offQ
    rw [decide_eq_true hx]
    simp [hk]
   rw [hb,ho]
   simp [hk]
   exact Le.snap [] rfl rfl (by simp)
  ·have hb : (!decide (0 ≤ x) || !decide (x ≤ (D.length : Int) - 1)) = true:=by simp; omega
   have ho : offQ D x = true:=by
    unfold offQ
    rw [decide_eq_false hx]
    rfl
   rw [hb,ho]
   simp
   exact Le.snap [] rfl rfl (by simp)
 refine zah ?_
 exact ⟨.inr rfl,zal.one (by simp)⟩
def zbA (g : Gr) (S : List Int) : List Int:=(List.range g.size.toNat).map fun (i : Nat)=>dist g S (i : Int)
def outL (g : Gr) (S : List Int) (d : Nat) : List Int:=(List.range g.size.toNat).map fun (i : Nat)=>if 0 ≤ dl g S d i ∧ dl g S d i < d then dl g S d i else -1
def outP (g : Gr) (S : List Int) (d : Nat) (F : List Int) : List Int:=(List.range g.size.toNat).map fun (i : Nat)=>if 0 ≤ dl g S d i ∧ dl g S d i < d then dl g S d i else if (i : Int) ∈ F then (d : Int) else -1
theorem zlH (g : Gr) (S : List Int) (d : Nat) : outP g S d [] = outL g S d:=by
 unfold outP outL
 simp
theorem zq0 {g : Gr} {S : List Int} (d : Nat) (F : List Int) (hF : ∀ x,x ∈ F ↔ Key g x ∧ dl g S d x = d) : outP g S d F = outL g S (d + 1):=by
 unfold outP outL
 refine List.map_congr_left fun i hi=>?_
 simp at hi
 have hkey : Key g i:=⟨by omega,by omega⟩
 have hr:=zbB (g:=g) (S:=S) d i
 have hr2:=zbB (g:=g) (S:=S) (d + 1) i
 have hm : (i : Int) ∈ F ↔ dl g S d i = d:=by rw [hF]; exact ⟨fun h=>h.2,fun h=>⟨hkey,h⟩⟩
 simp only [hm]
 by_cases h0 : 0 ≤ dl g S d i
 ·have e:=zfB h0
  rw [e]
  by_cases h1 : dl g S d i < d
  ·rw [if_pos ⟨h0,h1⟩,if_pos ⟨h0,by omega⟩]
  ·have h2 : dl g S d i = d:=by omega
   rw [if_neg (by omega),if_pos h2,if_pos ⟨h0,by omega⟩,h2]
 ·rw [if_neg (by omega),if_neg (by omega)]
  by_cases h3 : 0 ≤ dl g S (d + 1) i
  ·have:=(zmO h3 h0).1
   rw [if_neg (by omega)]
  ·rw [if_neg (by omega)]
theorem zgC (g : Gr) (S : List Int) (d : Nat) (F : List Int) : (outP g S d F).length = g.size.toNat:=by simp [outP]
theorem zph (g : Gr) (S : List Int) (d : Nat) : (outL g S d).length = g.size.toNat:=by simp [outL]
theorem zsL {g : Gr} {S : List Int} {d : Nat} {F : List Int} {k : Nat} (hk : k < g.size.toNat) (hd : dl g S d k = d) : (outP g S d F)[k]'(by rw [zgC]; exact hk) = if (k : Int) ∈ F then (d : Int) else -1:=by
 unfold outP
 simp only [List.getElem_map,List.getElem_range]
 rw [if_neg (by omega)]
theorem zqW {g : Gr} {S : List Int} {d : Nat} (F : List Int) {i : Nat} (hi : i < g.size.toNat) : (outP g S d F)[i]? = some (if 0 ≤ dl g S d i ∧ dl g S d i < d then dl g S d i else if (i : Int) ∈ F then (d : Int) else -1):=by
 simp [outP,hi]
theorem zsM {g : Gr} {S : List Int} {d : Nat} {F : List Int} {k : Nat} (hk : k < g.size.toNat) (hd : dl g S d k = d) : (outP g S d F).set k d = outP g S d (F ++ [(k : Int)]):=by
 apply List.ext_getElem?
 intro i
 by_cases hi : i < g.size.toNat
 ·rw [zqW _ hi,List.getElem?_set]
  by_cases hki : k = i
  ·subst hki
   rw [if_pos rfl,if_pos (by rw [zgC]; exact hk),if_neg (by omega),if_pos (by simp)]
  ·rw [if_neg hki,zqW _ hi]
   have : (i : Int) ∈ F ++ [(k : Int)] ↔ (i : Int) ∈ F:=by
    simp
    omega
   simp only [this]
 ·rw [List.getElem?_eq_none (by rw [List.length_set,zgC]; omega),List.getElem?_eq_none (by rw [zgC]; omega)]
theorem zpa {g : Gr} {S : List Int} {d : Nat} {F F' : List Int} (h : ∀ x,x ∈ F ↔ x ∈ F') : outP g S d F = outP g S d F':=by
 unfold outP
 simp only [h]
theorem zpY {l : List Ed} {F : List Int} {x : Int} (hx : x ∉ F) : (l.countP fun e=>decide (e.f ∈ F ++ [x])) = (l.countP fun e=>decide (e.f ∈ F)) + (outs l x).length:=by
 rw [zpW]
 induction l with
 | nil=>rfl
 | cons e l ih =>
   have e1 : decide (e.f ∈ F ++ [x]) = (decide (e.f ∈ F) || decide (e.f = x)):=by simp
   simp only [List.countP_cons,ih,e1]
   by_cases h1 : e.f ∈ F <;> by_cases h2 : e.f = x
   ·rw [h2] at h1; exact absurd h1 hx
   all_goals
    simp only [hx,h1,h2,decide_true,decide_false,Bool.or_true,Bool.or_false,Bool.true_or,Bool.false_or,if_true,Bool.false_eq_true,if_false]
    omega
structure Pol where
 seeds : List Int
 table : List Int
 lv : Int
def za8 (n : Int) (p : Pol) : Prop :=
 p.seeds ≠ [] ∧ Rise p.seeds 0 (n - 1) ∧ 1 ≤ p.table.length ∧ p.table.length ≤ 8 ∧ 1 ≤ p.lv ∧ p.lv ≤ 3 ∧ ∀ i (h : i < p.table.length),1 ≤ p.table[i] ∧ p.table[i] ≤ 1000 ∧ (0 < i → p.table[i] ≤ p.table[i - 1])
def zdK (p : Pol) (d : Int) : Int:=if d < 0 then 0 else p.table.getD d.toNat 1
theorem zgT {p : Pol} {d : Int} (h : d < 0) : zdK p d = 0:=if_pos h
theorem zo6 {p : Pol} {n : Int} (hp : za8 n p) {d : Int} (h : 0 ≤ d) : 1 ≤ zdK p d ∧ zdK p d ≤ 1000:=by
 unfold zdK
 rw [if_neg (by omega)]
 by_cases hd : d.toNat < p.table.length
 ·rw [List.getD_eq_getElem?_getD,List.getElem?_eq_getElem hd,Option.getD_some]
  have:=hp.2.2.2.2.2.2 d.toNat hd
  omega
 ·rw [List.getD_eq_getElem?_getD,List.getElem?_eq_none (by omega),Option.getD_none]
  omega
theorem zl6 {p : Pol} {n : Int} (hp : za8 n p) {d : Int} : 0 < zdK p d ↔ 0 ≤ d:=by
 constructor
 ·intro h
  refine Decidable.byContradiction fun h1=>?_
  rw [zgT (by omega)] at h
  omega
 ·intro h
  have:=zo6 hp h
  omega
theorem zgo {p : Pol} {n : Int} (hp : za8 n p) (d : Int) : 0 ≤ zdK p d ∧ zdK p d ≤ 1000:=by
 by_cases h : 0 ≤ d
 ·have:=zo6 hp h; omega
 ·rw [zgT (by omega)]; omega
theorem zmR (g : Gr) (v : Int) : zai (zai g v) v = zai g v:=by
 unfold zai
 simp only [List.filter_filter,Bool.and_self]
def zaG (g : Gr) (p : Pol) : List Int:=(zbA (zai g p.lv) p.seeds).map (zdK p)
def zaT (g : Gr) (p : Pol) (c : List Int) (sinks : List Int) : List Ed :=
 ((p.seeds.filter fun x=>decide (0 < c.getD x.toNat 0)).map fun x=>⟨0,2 + 2 * x,c.getD x.toNat 0⟩)
 ++ ((List.range c.length).filter fun i=>decide (0 < c.getD i 0)).map (fun i=>⟨2 + 2 * (i : Int),3 + 2 * (i : Int),c.getD i 0 - 1⟩)
 ++ ((sinks.filter fun x=>decide (0 < c.getD x.toNat 0)).map fun x=>⟨2 + 2 * x,1,1⟩)
 ++ (((zai g p.lv).edges.filter fun e=>decide (0 < c.getD e.f.toNat 0)).map fun e=>⟨3 + 2 * e.f,2 + 2 * e.t,64⟩)
structure Net where
 nodes : Int
 arcs : List Ed
def zi8 (n : Int) (a : Ed) : Prop:=0 ≤ a.f ∧ a.f ≤ n - 1 ∧ 0 ≤ a.t ∧ a.t ≤ n - 1 ∧ a.f ≠ a.t ∧ a.t ≠ 0 ∧ a.f ≠ 1 ∧ 0 ≤ a.v ∧ a.v ≤ 1048576
instance (n : Int) (a : Ed) : Decidable (zi8 n a):=by unfold zi8; infer_instance
def za4 (n : Net) : Prop:=2 ≤ n.nodes ∧ n.nodes ≤ 130 ∧ n.arcs.length ≤ 1200 ∧ ∀ a ∈ n.arcs,zi8 n.nodes a
instance (n : Net) : Decidable (za4 n):=by unfold za4; infer_instance
def zoV (n : Net) (side : List Int) : Prop:=za4 n ∧ Rise side 0 (n.nodes - 1) ∧ (0 : Int) ∈ side ∧ (1 : Int) ∉ side
def cutV (arcs : List Ed) (side : List Int) : Int:=(arcs.map fun a=>if a.f ∈ side ∧ a.t ∉ side then a.v else 0).sum
def znR (n : Net) (side : List Int) (most : Int) : Prop:=zoV n side ∧ cutV n.arcs side ≤ most
def zax (a : List Int) : List Int:=((List.range 64).map Int.ofNat).filter fun x=>decide (x ∈ a)
theorem zca {a : List Int} {x : Int} : x ∈ zax a ↔ x ∈ a ∧ 0 ≤ x ∧ x < 64:=by
 unfold zax
 simp only [List.mem_filter,List.mem_map,List.mem_range,decide_eq_true_eq]
 constructor
 ·rintro ⟨⟨i,hi,rfl⟩,h⟩
  exact ⟨h,Int.natCast_nonneg _,by show (i : Int) < 64; omega⟩
 ·rintro ⟨h,h0,h1⟩
  exact ⟨⟨x.toNat,by omega,by show ((x.toNat : Nat) : Int) = x; omega⟩,h⟩
theorem zdt (a : List Int) : (zax a).Pairwise (· < ·):=by
 unfold zax
 refine List.Pairwise.filter _ ?_
 rw [List.pairwise_map]
 exact List.pairwise_lt_range.imp fun {a b} h=>by show (a : Int) < (b : Int); omega
theorem za1 : ∀ {a b : List Int},a.Nodup → (∀ x ∈ a,x ∈ b) → a.length ≤ b.length
 | [],_,_,_=>Nat.zero_le _
 | x :: a,b,hn,hs=>by
   have hx : x ∈ b:=hs x (List.mem_cons_self ..)
   rw [List.nodup_cons] at hn
   have hb:=List.perm_cons_erase hx
   have hlb : (b.erase x).length + 1 = b.length:=by have:=hb.length_eq; simp at this; omega
   have:=za1 (b:=b.erase x) hn.2 fun y hy=>by
    have hne : y ≠ x:=fun e=>hn.1 (e ▸ hy)
    exact (List.mem_erase_of_ne hne).2 (hs y (List.mem_cons_of_mem _ hy))
   rw [List.length_cons]
   omega
theorem ziF {a : List Int} (hn : a.Nodup) (hr : ∀ k ∈ a,0 ≤ k ∧ k < 64) : srt a = zax a:=by
 have h1 : (zax a).Nodup:=(zdt a).imp fun {x y} h=>by omega
 have h2 : a.Perm (zax a):=zb2 hn (fun x hx=>zca.2 ⟨hx,hr x hx⟩) (za1 h1 fun x hx=>(zca.1 hx).1)
 exact List.Perm.eq_of_pairwise (le:=(· ≤ ·)) (fun x y _ _ h1 h2=>by omega) (zrG a) ((zdt a).imp fun {x y} h=>by omega) ((zfE a).trans h2)
def encS (s : Stp) : Int:=if s.2 then -((s.1 : Int) + 1) else (s.1 : Int) + 1
def decS (v : Int) : Stp:=if 0 < v then ((v - 1).toNat,false) else ((-v - 1).toNat,true)
theorem zn4 (s : Stp) : decS (encS s) = s:=by
 obtain ⟨i,b⟩:=s
 unfold decS encS
 cases b
 ·simp only [Bool.false_eq_true,if_false]
  rw [if_pos (by omega)]
  congr 1
  omega
 ·simp only [if_true]
  rw [if_neg (by omega)]
  congr 1
  omega
theorem zs6 (s : Stp) : encS s ≠ 0:=by unfold encS; split <;> omega
structure Bfs (N : Nat) (A : List Ed) (f D b : List Int) : Prop where
 tree : zqO A f D fun x=>decS (b.getD x.toNat 0)
 rng : ∀ x ∈ D,0 ≤ x ∧ x < N
 len : b.length = N
 zero : b.getD 0 0 = 0
 out : ∀ x : Int,0 ≤ x → x ∉ D → b.getD x.toNat 0 = 0
 inn : ∀ x ∈ D,x ≠ 0 → b.getD x.toNat 0 ≠ 0
def zeY (A : List Ed) (f D : List Int) (m : Nat) : Prop:=∀ s : Stp,s.1 < A.length → stF A s ∈ D.take m → 0 < za9 A f s → stT A s ∈ D
def zeZ (A : List Ed) (f D : List Int) (k : Int) (i : Nat) : Prop:=∀ s : Stp,s.1 < i → stF A s = k → 0 < za9 A f s → stT A s ∈ D
variable {N : Nat} {A : List Ed} {f D b : List Int}
theorem Bfs.start (hN : 0 < N) : Bfs N A f [0] (List.replicate N 0):=by
 have h0 : ∀ i,(List.replicate N (0 : Int)).getD i 0 = 0:=fun i=>by
  rw [List.getD_eq_getElem?_getD,List.getElem?_replicate]
  split <;> rfl
 exact ⟨⟨rfl,by simp,fun j h hj=>by simp at h; omega⟩,fun x hx=>by simp at hx; omega,by simp,h0 0,fun x _ _=>h0 _,fun x hx hn=>absurd (by simpa using hx) hn⟩
theorem Bfs.mem0 (h : Bfs N A f D b) : (0 : Int) ∈ D:=List.mem_of_mem_head? (by rw [h.tree.zero]; rfl)
theorem Bfs.push (h : Bfs N A f D b) {s : Stp} (hs : s.1 < A.length) (hF : stF A s ∈ D) (hr : 0 < za9 A f s) (hT : stT A s ∉ D) (h0 : 0 ≤ stT A s) (h1 : stT A s < N) : Bfs N A f (D ++ [stT A s]) (b.set (stT A s).toNat (encS s)):=by
 have hb : (stT A s).toNat < b.length:=by rw [h.len]; omega
 have hne : ∀ x : Int,0 ≤ x → x ≠ stT A s → (b.set (stT A s).toNat (encS s)).getD x.toNat 0 = b.getD x.toNat 0:=fun x hx hxn=>by
  rw [List.getD_eq_getElem?_getD,List.getElem?_set_ne (by omega),List.getD_eq_getElem?_getD]
 have heq : (b.set (stT A s).toNat (encS s)).getD (stT A s).toNat 0 = encS s:=by
  rw [List.getD_eq_getElem?_getD,List.getElem?_set_self hb,Option.getD_some]
 have hn0 : stT A s ≠ 0:=fun e=>hT (e ▸ h.mem0)
 refine ⟨⟨?_,?_,fun j hj hj0=>?_⟩,fun x hx=>?_,by rw [List.length_set]; exact h.len,?_,fun x hx hxn=>?_,fun x hx hxn=>?_⟩
 ·rw [List.head?_append,h.tree.zero]
  rfl
 ·rw [List.nodup_append]
  exact ⟨h.tree.nodup,by simp,fun a ha c hc=>by rw [List.mem_singleton] at hc; subst hc; rintro rfl; exact hT ha⟩
 ·rw [List.length_append,List.length_singleton] at hj
  by_cases hjl : j < D.length
  ·have hm:=List.getElem_mem hjl
   have hx : D[j] ≠ stT A s:=fun e=>hT (e ▸ hm)
   simp only [List.getElem_append_left hjl]
   rw [hne _ (h.rng _ hm).1 hx]
   obtain ⟨q1,q2,q3,q4⟩:=h.tree.step j hjl hj0
   refine ⟨q1,q2,?_,q4⟩
   rw [List.take_append_of_le_length (by omega)]
   exact q3
  ·obtain rfl : j = D.length:=by omega
   have e : (D ++ [stT A s])[D.length]'(by simp) = stT A s:=by simp
   simp only [e]
   rw [heq,zn4]
   refine ⟨hs,rfl,?_,hr⟩
   rw [List.take_append_of_le_length (Nat.le_refl _),List.take_length]
   exact hF
 ·rcases List.mem_append.1 hx with h2 | h2
  ·exact h.rng x h2
  ·rw [List.mem_singleton] at h2
   subst h2
   exact ⟨h0,h1⟩
 ·have:=hne 0 (Int.le_refl _) (Ne.symm hn0)
  simp only [Int.toNat_zero] at this
  rw [this]
  exact h.zero
 ·rw [List.mem_append,List.mem_singleton,not_or] at hxn
  rw [hne x hx hxn.2]
  exact h.out x hx hxn.1
 ·by_cases hxt : x = stT A s
  ·subst hxt
   rw [heq]
   exact zs6 s
  ·rcases List.mem_append.1 hx with h2 | h2
   ·rw [hne x (h.rng x h2).1 hxt]
    exact h.inn x h2 hxn
   ·exact absurd (List.mem_singleton.1 h2) hxt
theorem Bfs.few (h : Bfs N A f D b) : D.length ≤ N:=by
 have:=za1 (b:=(List.range N).map fun i : Nat=>(i : Int)) h.tree.nodup fun x hx=>by
  have:=h.rng x hx
  exact List.mem_map.2 ⟨x.toNat,List.mem_range.2 (by omega),by omega⟩
 simpa using this
def tryS (A : List Ed) (f : List Int) (k : Int) (s : Stp) (st : List Int × List Int) : List Int × List Int :=
 if stF A s = k ∧ 0 < za9 A f s ∧ stT A s ∉ st.1 then (st.1 ++ [stT A s],st.2.set (stT A s).toNat (encS s)) else st
theorem ziB {k : Int} {s : Stp} {st : List Int × List Int} : ∃ l,(tryS A f k s st).1 = st.1 ++ l:=by
 unfold tryS
 split
 ·exact ⟨_,rfl⟩
 ·exact ⟨[],by simp⟩
theorem zrf {k : Int} {s : Stp} {st : List Int × List Int} (h : Bfs N A f st.1 st.2) (hk : k ∈ st.1) (hs : s.1 < A.length) (h0 : 0 ≤ stT A s) (h1 : stT A s < N) : Bfs N A f (tryS A f k s st).1 (tryS A f k s st).2:=by
 unfold tryS
 split
 ·rename_i hc
  exact h.push hs (hc.1 ▸ hk) hc.2.1 hc.2.2 h0 h1
 ·exact h
theorem zoF {k : Int} {s : Stp} {st : List Int × List Int} (hF : stF A s = k) (hr : 0 < za9 A f s) : stT A s ∈ (tryS A f k s st).1:=by
 unfold tryS
 by_cases h : stT A s ∈ st.1
 ·rw [if_neg fun hc=>hc.2.2 h]
  exact h
 ·rw [if_pos ⟨hF,hr,h⟩]
  simp
theorem zeZ.try2 {k : Int} {i : Nat} {st : List Int × List Int} (h : zeZ A f st.1 k i) : zeZ A f (tryS A f k (i,true) (tryS A f k (i,false) st)).1 k (i + 1):=by
 obtain ⟨l1,e1⟩:=ziB (A:=A) (f:=f) (k:=k) (s:=(i,false)) (st:=st)
 obtain ⟨l2,e2⟩:=ziB (A:=A) (f:=f) (k:=k) (s:=(i,true)) (st:=tryS A f k (i,false) st)
 intro s hs hF hr
 obtain ⟨j,c⟩:=s
 rcases Nat.lt_succ_iff_lt_or_eq.1 hs with hj | hj
 ·rw [e2,e1]
  exact List.mem_append_left _ (List.mem_append_left _ (h (j,c) hj hF hr))
 ·have hj : j = i:=hj
  subst hj
  cases c
  ·rw [e2]
   exact List.mem_append_left _ (zoF hF hr)
  ·exact zoF hF hr
theorem zeY.next {m : Nat} (hm : m < D.length) {D' : List Int} (h : zeY A f D m) (hi : zeZ A f D' D[m] A.length) {l : List Int} (hD : D' = D ++ l) : zeY A f D' (m + 1):=by
 subst hD
 intro s hs hF hr
 rw [List.take_append_of_le_length (by omega),List.take_succ_eq_append_getElem hm] at hF
 rcases List.mem_append.1 hF with h1 | h1
 ·exact List.mem_append_left _ (h s hs h1 hr)
 ·exact hi s hs (List.mem_singleton.1 h1) hr
theorem zeY.all (h : zeY A f D D.length) : zeg A f D:=fun s hs hF hr=>h s hs (by rw [List.take_length]; exact hF) hr
def zbH (N : Nat) (D : List Int) : List Bool:=(List.range N).map fun k : Nat=>decide ((k : Int) ∈ D)
theorem zhR (N : Nat) (D : List Int) : (zbH N D).length = N:=by simp [zbH]
theorem zfJ {x : Int} (h0 : 0 ≤ x) (h1 : x < N) : (zbH N D)[x.toNat]? = some (decide (x ∈ D)):=by
 unfold zbH
 rw [List.getElem?_map,List.getElem?_range (by omega)]
 simp only [Option.map_some,Int.toNat_of_nonneg h0]
theorem zhO {x : Int} (h0 : 0 ≤ x) (h1 : x < N) : (zbH N D).set x.toNat true = zbH N (D ++ [x]):=by
 apply List.ext_getElem?
 intro j
 by_cases hj : j < N
 ·have e1 : (zbH N (D ++ [x]))[j]? = some (decide ((j : Int) ∈ D ++ [x])):=by
   have:=zfJ (N:=N) (D:=D ++ [x]) (x:=(j : Int)) (by omega) (by omega)
   simpa using this
  have e2 : (zbH N D)[j]? = some (decide ((j : Int) ∈ D)):=by
   have:=zfJ (N:=N) (D:=D) (x:=(j : Int)) (by omega) (by omega)
   simpa using this
  rw [List.getElem?_set,e1,e2,zhR]
  by_cases hx : x.toNat = j
  ·rw [if_pos hx,if_pos (by omega)]
   have : (j : Int) = x:=by omega
   simp [this]
  ·rw [if_neg hx]
   have : (j : Int) ≠ x:=by omega
   simp [this]
 ·rw [List.getElem?_eq_none (by rw [List.length_set,zhR]; omega),List.getElem?_eq_none (by rw [zhR]; omega)]
theorem zmx (hN : 0 < N) : (List.replicate N false).set 0 true = zbH N [0]:=by
 have h:=zhO (N:=N) (D:=[]) (x:=0) (Int.le_refl _) (by omega)
 have e : zbH N [] = List.replicate N false:=by
  unfold zbH
  apply List.ext_getElem (by simp)
  simp
 rw [e] at h
 exact h
end Go.Proofs.YteiabadhhhckfaaGreat
namespace Go.Proofs.YteiabadhhhckfaaGreat
open Go Go.RowKit Go.Shelf Go.Maps Go.Sort
attribute [local go_sem] Oper.semAt_some
def zhM : Go.Shelf.Ren:=⟨fun | 11=>180 | n=>n,fun | 0=>0 | 24=>22 | 26=>3 | 28=>152 | 33=>76 | n=>n,fun | n=>n⟩
theorem seqL : SlLaysZI.n11 Tryz.prog zhM:={
 mixed:=by kernel_rfl
 f11:=⟨Tryz.f180.name,by decide,Tryz.func180.trans (congrArg some (by kernel_rfl))⟩
 t0:=Tryz.underlying0
 a0:=Tryz.isAgg0
 z0:=Tryz.sizeOf0
 v0:=Tryz.zeroValue0
 t24:=Tryz.underlying22
 a24:=Tryz.isAgg22
 z24:=Tryz.sizeOf22
 v24:=Tryz.zeroValue22
 t26:=Tryz.underlying3
 a26:=Tryz.isAgg3
 z26:=Tryz.sizeOf3
 v26:=Tryz.zeroValue3
 t28:=Tryz.underlying152
 a28:=Tryz.isAgg152
 z28:=Tryz.sizeOf152
 v28:=Tryz.zeroValue152
 i26:=by kernel_rfl
}
theorem zod {l : List Int} {k : Nat} (h : k < l.length) : l.take (k + 1) = l.take k ++ [l[k]]:=List.take_succ_eq_append_getElem h
set_option maxRecDepth 100000 in
set_option maxHeartbeats 2000000 in
theorem zpM (F : Fence) (n : Nat) (h7 : F.fn 173) (hro : F.round = none) (hn : 1 ≤ n) (l Bs B0 b off cap : Nat) (a : Option Addr) (zs : List Int) (ha : zs ≠ [] → a = some ⟨b,off,none⟩) (hreach : zs.length ≤ 17592186044416) (J : List Int → World → Prop) (W : World)
  (hJ : ∀ pre W1,J pre W1 → ∀ j (h : j < zs.length),W1.cell? ⟨b,off + j,none⟩ = some (.int .i64 zs[j]))
  (hY : ∀ pre x W1,J pre W1 → pre.length < zs.length → YieldAt F (n - 1) Tryz.prog l #[.int .i64 x] W1 fun e W'=>e = .returned (.bool true) ∧ J (pre ++ [x]) W' ∧ KeepsWalks W1 W')
  (hBs : W.cell? ⟨Bs,B0,none⟩ = some (.slice a zs.length cap)) (h0 : J [] W) :
  CallsIn F n Tryz.prog 173 #[.func (.yield l) #[] #[],.pointer (some ⟨Bs,B0,none⟩)] W fun e W'=>(∃ v,e = .returned v) ∧ J zs W':=by
 refine callsIn_of_wp Tryz.func173 rfl h7 ?_ hro
 simp only [Tryz.ntmps173,List.size_toArray,List.length_cons,List.length_nil,Nat.reduceAdd,Nat.reduceSub,Array.replicate_succ,Array.replicate_zero,List.push_toArray,List.append_toArray,List.nil_append,List.cons_append]
 gi_wp2
 gi_loopw [7] (fun i wr=>∃ k : Nat,k ≤ zs.length ∧ i = .int .i64 k ∧ J (zs.take k) wr) (fun i _=>zs.length - (intOf i).toNat)
 case atStart=>exact ⟨0,Nat.zero_le _,rfl,by simpa using h0⟩
 case round =>
  obtain ⟨k,hk,rfl,hJs⟩:=hrel
  by_cases hlt : k < zs.length
  ·have hcx' : wr.cell? ⟨b,off + k,none⟩ = some (.int .i64 zs[k]):=hJ _ _ hJs k hlt
   obtain rfl:=ha (by rintro rfl; simp at hlt)
   obtain ⟨fn,tmps,assign,body,hy,hR⟩:=hY _ zs[k] wr hJs (by rw [List.length_take]; omega)
   gi_wp2
   refine hR.mono ?_
   rintro e W3 ⟨rfl,hJ3,hk3⟩
   gi_wp2
   go_roundw
   case rel=>exact ⟨k + 1,by omega,by simp,by rw [zod hlt]; exact hJ3⟩
   case measure=>simp [intOf]; omega
  ·obtain rfl : k = zs.length:=by omega
   gi_wp2
   go_end0
   exact ⟨⟨_,rfl⟩,by simpa using hJs⟩
set_option maxRecDepth 100000 in
set_option maxHeartbeats 2000000 in
theorem zlg (F : Fence) (n : Nat) (h11 : F.fn 180) (hFg : F.fn 173) (hro : F.round = none) (hn : 2 ≤ n) (Bs B0 b off cap : Nat) (a : Option Addr) (zs : List Int) (ha : zs ≠ [] → a = some ⟨b,off,none⟩) (hN : zs.length ≤ 1099511627776) (w : World)
  (hBs : w.cell? ⟨Bs,B0,none⟩ = some (.slice a zs.length cap)) (hBl : Bs < w.heap.size) (hbl : zs ≠ [] → b < w.heap.size) (hc : ∀ j (h : j < zs.length),w.cell? ⟨b,off + j,none⟩ = some (.int .i64 zs[j])) :
  CallsIn F n Tryz.prog 180 #[.slice none 0 0,.func (.func 173) #[] #[.pointer (some ⟨Bs,B0,none⟩)]] w fun e w'=>∃ v : Value,e = .returned v ∧ w'.ownsRow w.heap.size 3 1 v zs.length (zs.map encZ) ∧ Below w.heap.size w w':=by
 have h1 : 1 ≤ n:=by omega
 have hmax : zs.length ≤ maxLen:=by unfold maxLen; omega
 have L:=seqL
 have hne : (22 : Nat) ≠ 3:=by decide
 have eg : ∀ args w,(callFunc 173 args).run Tryz.prog w = .ok (.enter 173 args) w:=fun args w=>(enters_of Tryz.func173 (by kernel_rfl) rfl) args w
 refine callsIn_of_wp_marks Tryz.func180 rfl h11 ?_ hro
 simp only [Tryz.ntmps180,List.size_toArray,List.length_cons,List.length_nil,Nat.reduceAdd,Nat.reduceSub,Array.replicate_succ,Array.replicate_zero,List.push_toArray,List.append_toArray,List.nil_append,List.cons_append]
 gi_wp2
 refine wpIn_rangeFunc ?_
 intro fn hfn
 rw [hro]
 obtain ⟨W0,hW0⟩ : ∃ W0,w.alloc (.cells #[.slice none 0 0] 22) = W0:=⟨_,rfl⟩
 have hs0 : W0.heap.size = w.heap.size + 1:=by rw [← hW0]; simp
 have hv0 : W0.heap[w.heap.size]? = some (.cells #[.slice none 0 0] 22 (0,0)):=by rw [← hW0]; exact World.alloc_heap_new w _
 have hb0 : Below w.heap.size w W0:=by rw [← hW0]; exact (Below.refl _ w).alloc (Nat.le_refl _) _
 rw [hW0]
 obtain ⟨sv,hsv⟩ : ∃ sv : Value,sv = .func (.func 173) #[] #[.pointer (some ⟨Bs,B0,none⟩)]:=⟨_,rfl⟩
 rw [← hsv]
 obtain ⟨W1,hW1⟩ : ∃ W1,(W0.alloc (.deferred (some []))).alloc (.loop (AnyZI.apRec zhM fn sv w.heap.size W0.heap.size .ready none)) = W1:=⟨_,rfl⟩
 have hold : ∀ k,k < W0.heap.size → W1.heap[k]? = W0.heap[k]?:=fun k hk=>by
  rw [← hW1]; exact (Below.heap_alloc _ _ k (by simp; omega)).trans (Below.heap_alloc _ _ k hk)
 have hb1 : Below w.heap.size w W1:=by rw [← hW1]; exact (hb0.alloc hb0.size _).alloc (by have:=hb0.size; simp; omega) _
 have hs1 : W1.heap.size = W0.heap.size + 2:=by rw [← hW1]; simp
 have hM : AnyZI.ApAt zhM w fn sv w.heap.size (W0.heap.size + 1) W0.heap.size [] W1 :=
  ⟨⟨_,(hold w.heap.size (by omega)).trans hv0,⟨rfl,.inl ⟨rfl,rfl⟩⟩,by simp⟩,
   by rw [← hW1]; have:=World.alloc_heap_new (W0.alloc (.deferred (some []))) (.loop (AnyZI.apRec zhM fn sv w.heap.size W0.heap.size .ready none)); rwa [World.size_alloc] at this,
   by rw [← hW1]; exact (Below.heap_alloc _ _ _ (by simp)).trans (World.alloc_heap_new W0 _),hb1⟩
 refine ⟨W0.heap.size + 1,[{ target:=.collected W0.heap.size,args:=#[] }],W1,{ target:=.fn (.func 173) #[.pointer (some ⟨Bs,B0,none⟩)],args:=#[.func (.yield (W0.heap.size + 1)) #[] #[]] },W1,173,
  #[.func (.yield (W0.heap.size + 1)) #[] #[]] ++ #[.pointer (some ⟨Bs,B0,none⟩)],W1,?_,?_,?_,?_,fun _=>h1,?_⟩
 ·rw [← hW1]; exact run_enterLoop_outer _ _ _ _ _
 ·rw [hsv]; simp [resolve,go_sem]
 ·intro f' hf'; simp [Target.leads] at hf'; subst hf'; exact hFg
 ·simp [invoke,go_sem,eg]
 ·refine (zpM F (n - 1) hFg hro (by omega) (W0.heap.size + 1) Bs B0 b off cap a zs ha (by omega) (AnyZI.ApAt zhM w fn sv w.heap.size (W0.heap.size + 1) W0.heap.size) W1 (fun pre W' h' j hj=>(h'.below.cell (p:=⟨b,off + j,none⟩) (hbl (by rintro rfl; simp at hj))).trans (hc j hj))
   (fun pre x W hJ hl=>AnyZI.apYield { L with } F (n - 1 - 1) w fn hfn _ w.heap.size (W0.heap.size + 1) W0.heap.size (by omega) (by omega) (by omega) (Nat.le_refl _) (by omega) zs.length hmax (by omega) pre x W hJ hl) ((hb1.cell (p:=⟨Bs,B0,none⟩) hBl).trans hBs) hM).mono ?_
  rintro e W2 ⟨⟨v0,rfl⟩,h2⟩
  obtain ⟨v,hv,hrow,hnil⟩:=h2.box
  have hend:=run_endLoop (P:=Tryz.prog) h2.L (by simp [AnyZI.apRec])
  obtain ⟨W3,hW3⟩ : ∃ W3,W2.putObj (W0.heap.size + 1) (.loop { AnyZI.apRec zhM fn sv w.heap.size W0.heap.size .ready none with state:=.exhausted }) = W3:=⟨_,rfl⟩
  rw [hW3] at hend
  have hg3 : W2.grownBy W3 (some (W0.heap.size + 1)):=by rw [← hW3]; exact grownBy_putObj_a _ _ _
  have hv3 : W3.heap[w.heap.size]? = some (.cells #[v] 22 (0,0)):=by rw [← hW3]; exact (World.putObj_heap_other (by omega)).trans hv
  have hK3 : W3.heap[W0.heap.size]? = some (.deferred (some [])):=by rw [← hW3]; exact (World.putObj_heap_other (by omega)).trans h2.K
  have hrow3:=hrow.kept hg3 (ownsRow_ne_a hrow h2.L (fun cur e=>by first | cases e | exact hne (Obj.cells.inj e).2.1))
  have hb3 : Below w.heap.size w W3:=h2.below.grown hg3 h2.below.size (fun k e=>by cases e; omega)
  obtain ⟨hc3,hf3⟩:=cell_of_box_a hv3
  clear hW3
  refine ⟨none,W3,hend,?_⟩
  gi_wp2
  rw [← hs0]
  refine ⟨by simp,.inl ⟨_,_,rfl,run_takeDeferred hK3,?_⟩⟩
  exact ⟨_,results_tmp rfl _ _ _,v,rfl,hrow3.kept (grownBy_putObj_a _ _ _) (ownsRow_ne_a hrow3 hK3 (fun cur e=>by first | cases e | exact hne (Obj.cells.inj e).2.1)),hb3.grown (grownBy_putObj_a _ _ _) hb3.size (fun k e=>by cases e; omega)⟩
theorem zrd {P : Program} {np : Nat} {α : Type} : ∀ (ops : List zbz) (n i : Nat) (st : St) (tr : List (List Nat × List Nat)) (K : α → St → List (List Nat × List Nat) → Prop),zaZ P np n i ops st tr (fun s t=>∃ x,K x s t) → ∃ x,zaZ P np n i ops st tr (K x):=by
 intro ops
 induction ops with
 | nil=>intro n i st tr K h; exact h
 | cons o os ih =>
   intro n i st tr K h
   have hgo : ∀ (op : AOp) (xs : List AV) (h : Nat → Option Ent) (F : AV → List Nat → List (Nat × Option Ent) → (St → List (List Nat × List Nat) → Prop) → Prop),
     (∀ v rd up,F v rd up (fun s t=>∃ x,K x s t) → ∃ x,F v rd up (K x)) → aK P np (n + 8 * i) op xs h (fun v rd up=>F v rd up (fun s t=>∃ x,K x s t)) → ∃ x,aK P np (n + 8 * i) op xs h (fun v rd up=>F v rd up (K x)):=by
    intro op xs h F hF hk
    obtain ⟨v,rd,up,h1,h2⟩:=zov hk
    obtain ⟨x,hx⟩:=hF v rd up h1
    refine ⟨x,zqr (fun a b c e=>?_) h2⟩
    obtain ⟨rfl,rfl,rfl⟩:=e
    exact hx
   unfold zaZ at h ⊢
   cases hg : o.guard with
   | none =>
     simp only [hg] at h ⊢
     exact hgo _ _ _ (fun v rd up K'=>zaZ P np n (i + 1) os ((st.put o.dst v).upd up) (tr ++ [(rd,up.map (·.1))]) K') (fun v rd up=>ih _ _ _ _ _) h
   | some gw =>
     obtain ⟨g,want⟩:=gw
     simp only [hg] at h ⊢
     obtain ⟨b,hb,h⟩:=h
     by_cases hbw : b = some want
     ·rw [if_pos hbw] at h
      obtain ⟨x,hx⟩:=hgo _ _ _ (fun v rd up K'=>zaZ P np n (i + 1) os ((st.put o.dst v).upd up) (tr ++ [(rd,up.map (·.1))]) K') (fun v rd up=>ih _ _ _ _ _) h
      exact ⟨x,b,hb,by rw [if_pos hbw]; exact hx⟩
     ·rw [if_neg hbw] at h
      obtain ⟨x,hx⟩:=ih _ _ _ _ _ h
      exact ⟨x,b,hb,by rw [if_neg hbw]; exact hx⟩
theorem Le.trans' {np : Nat} {a b c : St} (h1 : Le np a b) (h2 : Le np b c) : Le np a c:=by
 intro T0 M0 w0 T M ac w ok hn
 obtain ⟨T',M',ok',hn'⟩:=h1 T0 M0 w0 T M ac w ok hn
 exact h2 T0 M0 w0 T' M' ac w ok' hn'
theorem zuA {P : Program} {np : Nat} : ∀ {c : zef} {α : Type} {Q : α → zdr → St → Prop} {st : St},awp P np c (fun e s=>∃ x,Q x e s) st → ∃ x,awp P np c (Q x) st:=by
 intro c
 induction c with
 | skip=>intro α Q st h; exact h
 | reg draw ops after =>
   intro α Q st hw
   obtain ⟨x,hx⟩:=zrd ops st.n 0 st [] (fun x st' tr=>(draw = true → zdF ops after tr = true) ∧ Q x .normal { st' with n:=st.n + 8 * ops.length })
    (zbU _ _ _ _ _ _ _ (fun s t h=>by obtain ⟨h1,x,h2⟩:=h; exact ⟨x,h1,h2⟩) hw.2)
   exact ⟨x,hw.1,hx⟩
 | seq a b iha ihb =>
   intro α Q st hw
   refine iha (zdq (fun e s hs=>?_) hw)
   cases e with
   | normal =>
     obtain ⟨st2,hle,h2⟩:=hs
     obtain ⟨x,hx⟩:=ihb h2
     exact ⟨x,st2,hle,hx⟩
   | exit id=>exact hs
   | ret=>exact hs
 | cond c a b iha ihb =>
   intro α Q st hw
   obtain ⟨t,ht,hw⟩:=hw
   cases t
   ·obtain ⟨x,hx⟩:=ihb hw
    exact ⟨x,false,ht,hx⟩
   ·obtain ⟨x,hx⟩:=iha hw
    exact ⟨x,true,ht,hx⟩
 | block id a iha =>
   intro α Q st hw
   refine iha (zdq (fun e s hs=>?_) hw)
   cases e with
   | normal=>exact hs
   | exit id' =>
     simp only at hs ⊢
     by_cases hi : id' = id
     ·simp only [if_pos hi] at hs ⊢; exact hs
     ·simp only [if_neg hi] at hs ⊢; exact hs
   | ret=>exact hs
 | loop a iha =>
   intro α Q st hw
   obtain ⟨I,⟨st0,k0,hle,hI⟩,hb⟩:=hw
   have key : ∀ k s,I k s → ∃ x,awp P np (.loop a) (Q x) s:=by
    intro k
    induction k using Nat.strongRecOn with
    | ind k ihk =>
      intro s hs
      have hpre : awp P np a (fun e s'=>∃ y : { y : α × Nat × (Nat → St → Prop) // ∀ k' s',y.2.2 k' s' → awp P np a (fun e st'=>match e with | .normal=>∃ st2 k2,Le np st' st2 ∧ y.2.2 k2 st2 ∧ k2 < k' | e=>Q y.1 e st') s' },
        match e with | .normal=>∃ st2,Le np s' st2 ∧ y.1.2.2 y.1.2.1 st2 | e=>Q y.1.1 e s') s:=by
       refine zdq (fun e s' h=>?_) (hb k s hs)
       cases e with
       | normal =>
         obtain ⟨st2,k2,h1,h2,h3⟩:=h
         obtain ⟨x,J,⟨st3,k3,h4,h5⟩,h6⟩:=ihk k2 h3 st2 h2
         exact ⟨⟨(x,k3,J),h6⟩,st3,Le.trans' h1 h4,h5⟩
       | exit id=>obtain ⟨x,h⟩:=h; exact ⟨⟨(x,0,fun _ _=>False),fun _ _ h=>h.elim⟩,h⟩
       | ret=>obtain ⟨x,h⟩:=h; exact ⟨⟨(x,0,fun _ _=>False),fun _ _ h=>h.elim⟩,h⟩
      obtain ⟨⟨⟨x,q,J⟩,hJ⟩,hy⟩:=iha hpre
      simp only at hJ hy
      refine ⟨x,fun k' s'=>J k' s' ∨ (k' = q + 1 ∧ s' = s),⟨s,q + 1,Le.refl _ _,.inr ⟨rfl,rfl⟩⟩,?_⟩
      rintro k' s' (h | ⟨rfl,rfl⟩)
      ·refine zdq (fun e s2 h2=>?_) (hJ k' s' h)
       cases e with
       | normal=>obtain ⟨st2,k2,h1,h2,h3⟩:=h2; exact ⟨st2,k2,h1,.inl h2,h3⟩
       | exit id=>exact h2
       | ret=>exact h2
      ·refine zdq (fun e s2 h2=>?_) hy
       cases e with
       | normal=>obtain ⟨st2,h1,h2⟩:=h2; exact ⟨st2,q,h1,.inl h2,Nat.lt_succ_self q⟩
       | exit id=>exact h2
       | ret=>exact h2
   obtain ⟨x,hx⟩:=key k0 st0 hI
   obtain ⟨J,⟨s3,k3,h4,h5⟩,h6⟩:=hx
   exact ⟨x,J,⟨s3,k3,Le.trans' hle h4,h5⟩,h6⟩
 | exit id=>intro α Q st h; exact h
 | ret=>intro α Q st h; exact h
 | bad=>intro α Q st h; exact h.elim
def zhc {α : Type} (rs : List (Nat × Option (Bool × Nat))) (np : Nat) (F : α → AV) (H : α → List (Option Ent)) (R : α → Prop) (e : zdr) (st : St) : Prop:=(e = .normal ∨ e = .ret) ∧ ∃ x,R x ∧ zal rs np st (F x) (H x)
theorem zhc.mk {α : Type} {rs : List (Nat × Option (Bool × Nat))} {np : Nat} {F : α → AV} {H : α → List (Option Ent)} {R : α → Prop} {e : zdr} {st : St} (he : e = .normal ∨ e = .ret) (x : α) (hx : R x) (h : zal rs np st (F x) (H x)) : zhc rs np F H R e st:=⟨he,x,hx,h⟩
theorem Src.acallsX {P : Program} {f : FuncId} {af : AFun} (s : Src P f af) {α : Type} (F : α → AV) (H : α → List (Option Ent)) (R : α → Prop) {args : List AV} {hs : List Ent}
  (hnt : args.length ≤ af.nt) (hn16 : hs.length ≤ 16) (hlen : ∀ x,hs.length ≤ (H x).length)
  (h : awp P hs.length af.code (zhc af.res hs.length F H R) (zfW af args hs)) : ∃ x,R x ∧ zaj P f args hs (F x) (H x):=by
 obtain ⟨⟨x,hx⟩,hw⟩:=zuA (α:={ x : α // R x }) (Q:=fun x e st=>(e = .normal ∨ e = .ret) ∧ zal af.res hs.length st (F x.1) (H x.1)) (zdq (fun e st h=>by
  obtain ⟨h1,x,h2,h3⟩:=h
  exact ⟨⟨x,h2⟩,h1,h3⟩) h)
 exact ⟨x,hx,s.acalls hnt hn16 (hlen x) hw⟩
def idm (l : List Nat) : List (Nat × Nat):=l.map fun i=>(i,i)
def cutS (live keep sn : List Nat) (n : Nat) (st : St) : St :=
 ⟨st.sz,live.map (fun i=>(i,conv (idm keep) sn st.hp 4 (st.get i))),keep.map (fun i=>(i,(st.hp i).map (zay (idm keep) sn st.hp 4))),n⟩
def roOk (keep : List Nat) (st : St) : Prop:=∀ i ∈ keep,∀ e,st.hp i = some e → e.ro ≤ e.rows.length
def zpn (np n : Nat) (ρ : List (Nat × Nat)) (sn : List Nat) : Bool :=
 decide (ρ.map (·.1)).Nodup && decide (ρ.map (·.2)).Nodup && ρ.all (fun p=>decide (p.2 < n) && (decide (np ≤ p.2) || p.1 == p.2)) && sn.all (fun i=>decide (np ≤ i) && !(ρ.map (·.1)).contains i) && decide (np ≤ n)
theorem Le.go {np : Nat} {st st' : St} (ρ : List (Nat × Nat)) (sn : List Nat) (hsz : st'.sz = st.sz) (hside : zpn np st'.n ρ sn = true)
  (ht : ∀ p ∈ st'.t,Wk (conv ρ sn st.hp 4 (st.get p.1)) p.2) (hh : ∀ p ∈ st'.h,∃ q ∈ ρ,q.2 = p.1 ∧ (st.hp q.1).map (zay ρ sn st.hp 4) = p.2 ∧ ∀ e,p.2 = some e → e.ro ≤ e.rows.length) : Le np st st':=by
 simp only [zpn,Bool.and_eq_true,List.all_eq_true,decide_eq_true_eq,Bool.or_eq_true,beq_iff_eq,Bool.not_eq_true',List.contains_eq_mem,decide_eq_false_iff_not] at hside
 obtain ⟨⟨⟨⟨h1,h2⟩,h3⟩,h4⟩,h5⟩:=hside
 refine Le.lst ρ sn [] hsz h1 h2 (fun p hp=>⟨(h3 p hp).1,fun hlt=>?_⟩) (by simp) (fun i hi=>h4 i hi) h5 (by simp) (fun p hp=>.inl (ht p hp)) fun p hp e' he'=>?_
 ·rcases (h3 p hp).2 with h | h
  ·omega
  ·exact h
 ·obtain ⟨q,hq,hq2,hm,hr⟩:=hh p hp
  rw [he'] at hm
  cases hs : st.hp q.1 with
  | none=>rw [hs] at hm; cases hm
  | some e =>
    rw [hs] at hm
    have hm' : zay ρ sn st.hp 4 e = e':=by simpa using hm
    exact .inl ⟨q,hq,hq2,e,hs,by rw [hm']; exact zaA.rfl' (hr e' he')⟩
theorem LeH {np : Nat} {st st' : St} (ρ : List (Nat × Nat)) (sn : List Nat) (hsz : st'.sz = st.sz:=by rfl) (hside : zpn np st'.n ρ sn = true:=by rfl) (ht : ∀ p ∈ st'.t,Wk (conv ρ sn st.hp 4 (st.get p.1)) p.2:=by simp) (hh : ∀ p ∈ st'.h,∃ q ∈ ρ,q.2 = p.1 ∧ (st.hp q.1).map (zay ρ sn st.hp 4) = p.2 ∧ ∀ e,p.2 = some e → e.ro ≤ e.rows.length:=by simp) : Le np st st':=Le.go ρ sn hsz hside ht hh
theorem LeI {np : Nat} {st st' : St} (ρ : List (Nat × Nat)) (sn : List Nat) (hsz : st'.sz = st.sz:=by rfl) (hside : zpn np st'.n ρ sn = true:=by rfl) (ht : ∀ p ∈ st'.t,Wk (conv ρ sn st.hp 4 (st.get p.1)) p.2:=by simp) (hh : ∀ p ∈ st'.h,∃ q ∈ ρ,q.2 = p.1 ∧ (st.hp q.1).map (zay ρ sn st.hp 4) = p.2 ∧ ∀ e,p.2 = some e → e.ro ≤ e.rows.length:=by simp [fcd]) : Le np st st':=Le.go ρ sn hsz hside ht hh
theorem Le.cut {np : Nat} {st : St} (live keep sn : List Nat) (n : Nat) (hside : zpn np n (idm keep) sn = true) (hr : roOk keep st) : Le np st (cutS live keep sn n st):=by
 refine Le.go (idm keep) sn rfl hside (fun p hp=>?_) fun p hp=>?_
 ·obtain ⟨i,_,rfl⟩:=List.mem_map.1 hp
  exact .refl _
 ·obtain ⟨i,hi,rfl⟩:=List.mem_map.1 hp
  refine ⟨(i,i),List.mem_map.2 ⟨i,hi,rfl⟩,rfl,rfl,fun e he=>?_⟩
  simp only at he
  cases hs : st.hp i with
  | none=>rw [hs] at he; cases he
  | some e0 =>
    rw [hs] at he
    have he' : zay (idm keep) sn st.hp 4 e0 = e:=by simpa using he
    subst he'
    have:=hr i hi e0 hs
    simpa [zay] using this
theorem rx {P : Program} {np : Nat} {ops : List zbz} {Q : zdr → St → Prop} {sz n : Nat} {t : List (Nat × AV)} {h : List (Nat × Option Ent)} {af : List (List Nat)} {b : zef} {s : St} (live keep sn : List Nat)
  (hd : ((ops.all fun o=>o.dst.all (· < sz)) && zpn np (n + 8 * ops.length) (idm keep) sn) = true) (ho : zaZ P np n 0 ops ⟨sz,t,h,n⟩ [] fun st' _=>roOk keep st' ∧ cutS live keep sn (n + 8 * ops.length) st' = s) (hq : awp P np b Q s) : awp P np (.seq (.reg false ops af) b) Q ⟨sz,t,h,n⟩:=by
 rw [Bool.and_eq_true] at hd
 refine zaa s hd.1 (zbU _ _ _ _ _ _ _ (fun st' _ hc=>?_) ho) hq
 obtain ⟨h1,rfl⟩:=hc
 exact Le.cut (st:=⟨st'.sz,st'.t,st'.h,n + 8 * ops.length⟩) live keep sn _ hd.2 h1
def cutK (live keep : List Nat) (n : Nat) (st : St) : St:=⟨st.sz,live.map (fun i=>(i,st.get i)),keep.map (fun i=>(i,st.hp i)),n⟩
theorem Le.cutk {np : Nat} {st : St} (live keep : List Nat) (n : Nat) (hn : st.n ≤ n) : Le np st (cutK live keep n st) :=
 Le.keep rfl hn (fun p hp=>by obtain ⟨i,_,rfl⟩:=List.mem_map.1 hp; rfl) fun p hp e he=>by
  obtain ⟨i,_,rfl⟩:=List.mem_map.1 hp
  exact he
theorem rk {P : Program} {np : Nat} {ops : List zbz} {Q : zdr → St → Prop} {sz n : Nat} {t : List (Nat × AV)} {h : List (Nat × Option Ent)} {af : List (List Nat)} {b : zef} {s : St} (live keep : List Nat)
  (hd : (ops.all fun o=>o.dst.all (· < sz)) = true) (ho : zaZ P np n 0 ops ⟨sz,t,h,n⟩ [] fun st' _=>cutK live keep (n + 8 * ops.length) st' = s) (hq : awp P np b Q s) : awp P np (.seq (.reg false ops af) b) Q ⟨sz,t,h,n⟩:=by
 refine zaa s hd (zbU _ _ _ _ _ _ _ (fun st' _ hc=>?_) ho) hq
 subst hc
 exact Le.cutk (st:=⟨st'.sz,st'.t,st'.h,n + 8 * ops.length⟩) live keep _ (Nat.le_refl _)
@[simp] theorem zvs : idm [] = []:=(rfl)
@[simp] theorem zuM {i : Nat} {l : List Nat} : idm (i :: l) = (i,i) :: idm l:=(rfl)
@[simp] theorem zuX {st : St} : roOk [] st = True:=by simp [roOk]
@[simp] theorem zuw {i : Nat} {l : List Nat} {st : St} : roOk (i :: l) st = ((∀ e,st.hp i = some e → e.ro ≤ e.rows.length) ∧ roOk l st):=by simp [roOk]
@[simp] theorem zuK {live keep sn : List Nat} {n sz m : Nat} {t : List (Nat × AV)} {h : List (Nat × Option Ent)} : cutS live keep sn n ⟨sz,t,h,m⟩ = ⟨sz,live.map (fun i=>(i,conv (idm keep) sn (St.mk sz t h m).hp 4 ((St.mk sz t h m).get i))),keep.map (fun i=>(i,((St.mk sz t h m).hp i).map (zay (idm keep) sn (St.mk sz t h m).hp 4))),n⟩:=(rfl)
@[simp] theorem zuS {live keep : List Nat} {n sz m : Nat} {t : List (Nat × AV)} {h : List (Nat × Option Ent)} : cutK live keep n ⟨sz,t,h,m⟩ = ⟨sz,live.map (fun i=>(i,(St.mk sz t h m).get i)),keep.map (fun i=>(i,(St.mk sz t h m).hp i)),n⟩:=(rfl)
abbrev pC (p : Pol) : List AV:=[ints p.seeds,ints p.table,.I p.lv]
abbrev eP (p : Pol) : AV:=.agg (pC p)
def znd (p : Pol) (i : Nat) : Prop:=∀ h : i < p.table.length,1 ≤ p.table[i] ∧ p.table[i] ≤ 1000 ∧ (0 < i → p.table[i] ≤ p.table[i - 1])
def zhY (n : Int) (p : Pol) : Prop:=p.seeds ≠ [] ∧ Rise p.seeds 0 (n - 1) ∧ (1 ≤ p.table.length ∧ p.table.length ≤ 8) ∧ (1 ≤ p.lv ∧ p.lv ≤ 3)
theorem zew {n : Int} {p : Pol} : za8 n p ↔ zhY n p ∧ ∀ i,znd p i:=by
 unfold za8 zhY znd
 constructor
 ·rintro ⟨a,b,c,d,e,f,g⟩; exact ⟨⟨a,b,⟨c,d⟩,e,f⟩,g⟩
 ·rintro ⟨⟨a,b,⟨c,d⟩,e,f⟩,g⟩; exact ⟨a,b,c,d,e,f,g⟩
theorem zj2 (p : Pol) (d : Int) : zaj Tryz.prog zfn [eP p,.I d] [] (.I (zdK p d)) []:=by
 refine zmf.acalls (nbz rfl) (nbz rfl) (Nat.le_refl _) ?_
 show awp _ 0 _ _ ⟨19,[(0,eP p),(1,.I d)],[],16⟩
 refine rx (s:=?s1) [1,2] [] [16] rfl ?o1 ?q1
 case o1=>simp; rfl
 refine zaI (ι:=Unit) (fun _=>⟨19,[],[],200⟩) (fun _=>0 ≤ d ∧ (p.table.length : Int) ≤ d) ?_ fun _ hd=>?_
 ·refine zag ?_
  refine rx (s:=?s2) [1,2,5] [] [] rfl ?o2 ?q2
  case o2=>simp; rfl
  refine zac _ rfl (fun h3=>?_) fun h3=>?_
  ·simp at h3
   refine rx (s:=?s4) [4] [] [] rfl ?o4 ?q4
   case o4=>simp; rfl
   refine zah ?_
   exact ⟨.inr rfl,zal.one (by simp [zgT h3])⟩
  simp at h3
  refine rx (s:=?s5) [1,2,8] [] [] rfl ?o5 ?q5
  case o5=>simp; rfl
  refine zac _ rfl (fun h6=>?_) fun h6=>?_
  ·simp at h6
   obtain ⟨k,rfl⟩ : ∃ k : Nat,d = k:=⟨d.toNat,by omega⟩
   have hk : k < p.table.length:=by omega
   refine rx (s:=?s7) [4] [] [] rfl ?o7 ?q7
   case o7=>simp [hk]; rfl
   refine zah ?_
   exact ⟨.inr rfl,zal.one (by simp [zdK,hk,show ¬ ((k : Int) < 0) by omega])⟩
  simp at h6
  refine zad ?_
  exact ⟨(),⟨h3,h6⟩,Le.keep rfl (nbz rfl) (by simp) (by simp)⟩
 refine rx (s:=?s8) [4] [] [] rfl ?o8 ?q8
 case o8=>simp; rfl
 refine zah ?_
 have h1 : zdK p d = 1:=by
  unfold zdK
  rw [if_neg (by omega),List.getD_eq_getElem?_getD,List.getElem?_eq_none (by omega)]
  rfl
 exact ⟨.inr rfl,zal.one (by simp [h1])⟩
theorem znP (p : Pol) (d : Int) : zaj Tryz.prog zjt [eP p,.I d] [] (.I (zdK p d)) []:=by
 refine zrJ.acalls (nbz rfl) (nbz rfl) (Nat.le_refl _) ?_
 show awp _ 0 _ _ ⟨17,[(0,eP p),(1,.I d)],[],16⟩
 refine rx (s:=?s1) [1,2] [] [16] rfl ?o1 ?q1
 case o1=>simp; rfl
 refine zab ?_
 refine rx (s:=?s2) [1,2,6] [] [] rfl ?o2 ?q2
 case o2=>simp; rfl
 refine zac _ rfl (fun h3=>?_) fun h3=>?_
 ·simp at h3
  refine rx (s:=?s4) [4] [] [] rfl ?o4 ?q4
  case o4=>simp; rfl
  refine zah ?_
  exact ⟨.inr rfl,zal.one (by simp [zgT h3])⟩
 simp at h3
 refine zad ?_
 refine zab ?_
 refine rx (s:=?s5) [1,2,11] [] [] rfl ?o5 ?q5
 case o5=>simp; rfl
 refine zac _ rfl (fun h6=>?_) fun h6=>?_
 ·simp at h6
  obtain ⟨k,rfl⟩ : ∃ k : Nat,d = k:=⟨d.toNat,by omega⟩
  have hk : k < p.table.length:=by omega
  refine rx (s:=?s7) [4] [] [] rfl ?o7 ?q7
  case o7=>simp [hk]; rfl
  refine zah ?_
  exact ⟨.inr rfl,zal.one (by simp [zdK,hk,show ¬ ((k : Int) < 0) by omega])⟩
 simp at h6
 refine zad ?_
 refine rx (s:=?s8) [4] [] [] rfl ?o8 ?q8
 case o8=>simp; rfl
 refine zah ?_
 have h1 : zdK p d = 1:=by
  unfold zdK
  rw [if_neg (by omega),List.getD_eq_getElem?_getD,List.getElem?_eq_none (by omega)]
  rfl
 exact ⟨.inr rfl,zal.one (by simp [h1])⟩
open Classical in
theorem zcZ (g : Gr) (p : Pol) (hl : g.edges.length ≤ 140737488355328) (hl2 : g.gone.length ≤ 140737488355328) (hs : p.seeds.length ≤ 140737488355328) (ht : p.table.length ≤ 140737488355328) :
  zaj Tryz.prog zbS [eG g,eP p] [] (.I (if GrOk g then if za8 g.size p then 0 else 15 else 14)) []:=by
 refine zju.acalls (nbz rfl) (nbz rfl) (Nat.le_refl _) ?_
 show awp _ 0 _ _ ⟨65,[(0,eG g),(1,eP p)],[],16⟩
 refine rx (s:=?s1) [2,3] [] [16,24] rfl ?o1 ?q1
 case o1=>simp; rfl
 refine zab ?_
 refine rx (s:=?s2) [2,3,5] [] [] rfl ?o2 ?q2
 case o2=>simp; refine zap (zke g hl hl2) (by simp) ?_; simp; rfl
 refine rx (s:=?s3) [2,3,5,11] [] [] rfl ?o3 ?q3
 case o3=>simp; rfl
 refine zac _ rfl (fun h4=>?_) fun h4=>?_
 ·simp at h4
  refine rx (s:=?s5) [4] [] [] rfl ?o5 ?q5
  case o5=>simp; rfl
  refine zah ?_
  exact ⟨.inr rfl,zal.one (by simp [h4])⟩
 simp at h4
 have hg0:=h4.1.1
 have hg1:=h4.1.2.1
 refine zad ?_
 refine zab ?_
 refine zaa ⟨65,[(3,.pv (pC p)),(38,.B (decide (¬ zhY g.size p)))],[],288⟩ rfl ?_ ?_
 ·simp
  repeat' first
   | (refine zdT zbo rfl ?_; have hw : IntKind.i64.wrap (g.size - 1) = g.size - 1:=w64 (by omega) (by omega); rw [hw]; refine zap (zdD _ _ _ hs) rfl ?_; simp)
   | (refine zdT zaO rfl ?_; refine zap (zbt ..) rfl ?_; simp)
   | (refine zcc (fun hb=>?_) (fun hb=>?_) <;> (try rw [hb]) <;> (try simp at hb) <;> simp [hb])
  all_goals exact Le.snap [] rfl rfl (by simp; first | exact wkB (by (try simp at *); grind [zhY]) | exact ⟨by rw [show pC p = [.vs 1 false [],ints p.table,.I p.lv] by simp [pC,ints,hb]]; exact .refl _,wkB (by (try simp at *); grind [zhY])⟩)
 refine zac _ rfl (fun h7=>?_) fun h7=>?_
 ·simp at h7
  refine rx (s:=?s8) [4] [] [] rfl ?o8 ?q8
  case o8=>simp; rfl
  refine zah ?_
  exact ⟨.inr rfl,zal.one (by simp [h4,zew,h7])⟩
 simp at h7
 refine zad ?_
 refine zab ?_
 refine rx (s:=?s9) [3,40,41,42] [] [] rfl ?o9 ?q9
 case o9=>simp; rfl
 refine zag ?_
 refine zao (ι:=Nat) (fun i=>⟨65,[(3,.pv (pC p)),(40,ints p.table),(41,.I p.table.length),(42,.I i)],[],320⟩) (fun i=>i ≤ p.table.length ∧ ∀ k,k < i → znd p k) (fun i=>p.table.length - i) 0 (by simp) (LeH [] []) ?_
 rintro i ⟨hi,hp⟩
 refine rx (s:=?s10) [3,40,41,42,43] [] [] rfl ?o10 ?q10
 case o10=>simp; rfl
 refine zab ?_
 refine zac _ rfl (fun h11=>?_) fun h11=>?_
 ·simp at h11
  have hw2 : IntKind.i64.wrap ((i : Int) + 1) = (i : Int) + 1:=w64 (by omega) (by omega)
  have hwp : 0 < i → IntKind.i64.wrap ((i : Int) - 1) = ((i - 1 : Nat) : Int):=fun h=>by rw [w64 (by omega) (by omega)]; omega
  have h11' : i - 1 < p.table.length:=by omega
  refine zad ?_
  refine zab ?_
  refine zag ?_
  refine rx (s:=?s12) [3,6,7,40,41,42] [] [] rfl ?o12 ?q12
  case o12=>simp [h11]; rfl
  refine zaa ⟨65,[(3,.pv (pC p)),(40,ints p.table),(41,.I p.table.length),(42,.I i),(63,.B (decide (¬ znd p i)))],[],504⟩ rfl ?_ ?_
  ·simp
   repeat' first
    | (refine zdT zaO rfl ?_; refine zap (zbt ..) rfl ?_; simp)
    | (refine zcc (fun hb=>?_) (fun hb=>?_) <;> (try rw [hb]) <;> (try simp at hb) <;> simp [hb,h11,h11',hwp])
   all_goals exact Le.snap [] rfl rfl (by simp; exact wkB (by (try simp at *); grind [znd]))
  refine zac _ rfl (fun h14=>?_) fun h14=>?_
  ·refine rx (s:=?s15) [4] [] [] rfl ?o15 ?q15
   case o15=>simp; rfl
   refine zah ?_
   have hn : ¬ za8 g.size p:=fun h=>by simp at h14; exact h14 ((zew.1 h).2 i)
   exact ⟨.inr rfl,zal.one (by simp [h4,hn])⟩
  simp at h14
  refine zad ?_
  refine zae (s:=?s16) rfl ?o16 ?q16
  case o16=>simp; rfl
  refine ⟨i + 1,⟨h11,fun k hk=>?_⟩,?_,Le.go [] [] rfl rfl (by simp [hw2]) (by simp)⟩
  ·rcases Nat.lt_succ_iff_lt_or_eq.1 hk with h | rfl
   ·exact hp k h
   ·exact h14
  ·omega
 simp at h11
 have hy : za8 g.size p:=zew.2 ⟨h7,fun k hk=>hp k (by omega) hk⟩
 refine zan ?_
 refine hit ?_
 refine rx (s:=?s17) [4] [] [] rfl ?o17 ?q17
 case o17=>simp; rfl
 refine zah ?_
 exact ⟨.inr rfl,zal.one (by simp [h4,hy])⟩
open Classical in
theorem zjh (g : Gr) (p : Pol) (hs : p.seeds.length ≤ 140737488355328) (ht : p.table.length ≤ 140737488355328) :
  zaj Tryz.prog zeS [eG g,eP p] [] (.B (decide (za8 g.size p))) []:=by
 refine zkY.acalls (nbz rfl) (nbz rfl) (Nat.le_refl _) ?_
 show awp _ 0 _ _ ⟨79,[(0,eG g),(1,eP p)],[],16⟩
 refine rx (s:=?s1) [2,3] [] [16,24] rfl ?o1 ?q1
 case o1=>simp; rfl
 refine zab ?_
 refine zaa ⟨79,[(3,.pv (pC p)),(39,.B (decide (¬ zhY g.size p)))],[],312⟩ rfl ?_ ?_
 ·simp
  repeat' first
   | (refine zdT zcQ rfl ?_; refine zap (zd6 _ _ hs) rfl ?_; simp)
   | (refine zcc (fun hb=>?_) (fun hb=>?_) <;> (try rw [hb]) <;> (try simp at hb) <;> simp [hb])
  all_goals exact Le.snap [] rfl rfl (by simp; first | exact wkB (by (try simp at *); grind [zhY]) | exact ⟨by rw [show pC p = [.vs 1 false [],ints p.table,.I p.lv] by simp [pC,ints,hb]]; exact .refl _,wkB (by (try simp at *); grind [zhY])⟩)
 refine zac _ rfl (fun h3=>?_) fun h3=>?_
 ·simp at h3
  refine rx (s:=?s4) [4] [] [] rfl ?o4 ?q4
  case o4=>simp; rfl
  refine zah ?_
  exact ⟨.inr rfl,zal.one (by simp [zew,h3])⟩
 simp at h3
 refine zad ?_
 refine zab ?_
 refine rx (s:=?s5) [3,5] [] [] rfl ?o5 ?q5
 case o5=>simp; rfl
 refine zag ?_
 refine zao (ι:=Nat) (fun i=>⟨79,[(3,.pv (pC p)),(5,.I i)],[],320⟩) (fun i=>i ≤ p.table.length ∧ ∀ k,k < i → znd p k) (fun i=>p.table.length - i) 0 (by simp) (LeH [] []) ?_
 rintro i ⟨hi,hp⟩
 refine zab ?_
 refine rx (s:=?s6) [3,5,44] [] [] rfl ?o6 ?q6
 case o6=>simp; rfl
 refine zac _ rfl (fun h7=>?_) fun h7=>?_
 ·simp at h7
  have hw2 : IntKind.i64.wrap ((i : Int) + 1) = (i : Int) + 1:=w64 (by omega) (by omega)
  have hwp : 0 < i → IntKind.i64.wrap ((i : Int) - 1) = ((i - 1 : Nat) : Int):=fun h=>by rw [w64 (by omega) (by omega)]; omega
  have h7' : i - 1 < p.table.length:=by omega
  refine zad ?_
  refine zab ?_
  refine zag ?_
  refine zaw ⟨79,[(3,.pv (pC p)),(5,.I i),(78,.B (decide (¬ znd p i)))],[],616⟩ rfl ?_ ?_
  ·simp [h7]
   repeat' first
    | (refine zcc (fun hb=>?_) (fun hb=>?_) <;> (try rw [hb]) <;> (try simp at hb) <;> simp [hb,h7,h7',hwp])
   all_goals exact ⟨rfl,Le.snap [] rfl rfl (by simp; exact wkB (by (try simp at *); grind [znd]))⟩
  refine zac _ rfl (fun h9=>?_) fun h9=>?_
  ·refine rx (s:=?s10) [4] [] [] rfl ?o10 ?q10
   case o10=>simp; rfl
   refine zah ?_
   have hn : ¬ za8 g.size p:=fun h=>by simp at h9; exact h9 ((zew.1 h).2 i)
   exact ⟨.inr rfl,zal.one (by simp [hn])⟩
  simp at h9
  refine zad ?_
  refine zae (s:=?s16) rfl ?o16 ?q16
  case o16=>simp; rfl
  refine ⟨i + 1,⟨h7,fun k hk=>?_⟩,?_,Le.go [] [] rfl rfl (by simp [hw2]) (by simp)⟩
  ·rcases Nat.lt_succ_iff_lt_or_eq.1 hk with h | rfl
   ·exact hp k h
   ·exact h9
  ·omega
 simp at h7
 have hy : za8 g.size p:=zew.2 ⟨h3,fun k hk=>hp k (by omega) hk⟩
 refine zan ?_
 refine hit ?_
 refine rx (s:=?s11) [4] [] [] rfl ?o11 ?q11
 case o11=>simp; rfl
 refine zah ?_
 exact ⟨.inr rfl,zal.one (by simp [hy])⟩
open Classical in
theorem zej (g : Gr) (p : Pol) (hl : g.edges.length ≤ 140737488355328) (hl2 : g.gone.length ≤ 140737488355328) (hs : p.seeds.length ≤ 140737488355328) (ht : p.table.length ≤ 140737488355328) :
  zaj Tryz.prog zd0 [eG g,eP p] [] (.I (if GrOk g then if za8 g.size p then 0 else 15 else 14)) []:=by
 refine znm.acalls (nbz rfl) (nbz rfl) (Nat.le_refl _) ?_
 show awp _ 0 _ _ ⟨12,[(0,eG g),(1,eP p)],[],16⟩
 refine rx (s:=?s1) [2,3] [] [16,24] rfl ?o1 ?q1
 case o1=>simp; rfl
 refine zab ?_
 refine rx (s:=?s2) [2,3,7] [] [] rfl ?o2 ?q2
 case o2=>simp; refine zap (zfX g hl hl2) (by simp) ?_; simp; rfl
 refine zac _ rfl (fun h3=>?_) fun h3=>?_
 ·simp at h3
  refine rx (s:=?s4) [4] [] [] rfl ?o4 ?q4
  case o4=>simp; rfl
  refine zah ?_
  exact ⟨.inr rfl,zal.one (by simp [h3])⟩
 simp at h3
 refine zad ?_
 refine zab ?_
 refine rx (s:=?s5) [11] [] [] rfl ?o5 ?q5
 case o5=>simp; refine zap (zjh g p hs ht) (by simp) ?_; simp; rfl
 refine zac _ rfl (fun h6=>?_) fun h6=>?_
 ·simp at h6
  refine rx (s:=?s7) [4] [] [] rfl ?o7 ?q7
  case o7=>simp; rfl
  refine zah ?_
  exact ⟨.inr rfl,zal.one (by simp [h3,h6])⟩
 simp at h6
 refine zad ?_
 refine rx (s:=?s8) [4] [] [] rfl ?o8 ?q8
 case o8=>simp; rfl
 refine zah ?_
 exact ⟨.inr rfl,zal.one (by simp [h3,h6])⟩
theorem Le.dn {st st' : St} {D D' : List (List AV)} (N : Nat) (i j i' j' : Nat) (sn : List Nat) (hsz : st'.sz = st.sz) (hh : st'.h = [(i',some ⟨1,[[.rs j' 0 N]],0⟩),(j',some ⟨1,D',0⟩)]) (hi : i' < st'.n) (hj : j' < st'.n) (hij : i ≠ j) (hij' : i' ≠ j') (hs : ∀ k ∈ sn,k ≠ i ∧ k ≠ j)
  (h1 : st.hp i = some ⟨1,[[.rs j 0 N]],0⟩) (h2 : st.hp j = some ⟨1,D,0⟩) (hD : D.map (·.map (conv [(i,i'),(j,j')] sn st.hp 4)) = D') (ht : ∀ p ∈ st'.t,Wk (conv [(i,i'),(j,j')] sn st.hp 4 (st.get p.1)) p.2) : Le 0 st st' :=
 Le.ents [(i,i'),(j,j')] sn hsz (by simpa using hij) (by simpa using hij') (by simp [hi,hj]) (by simpa using hs) (Nat.zero_le _) ht fun p hp=>by
  rw [hh] at hp
  simp at hp
  rcases hp with rfl | rfl
  ·exact ⟨i,_,_,rfl,by simp,h1,zaA.eq (by simp [hij]) (by simp)⟩
  ·exact ⟨j,_,_,rfl,by simp,h2,zaA.eq (by simp only [zay,hD]) (by simp)⟩
theorem zo5 {l : List Int} {lo hi : Int} (h : Rise l lo hi) : ∀ (i : Nat) (hi : i < l.length),lo + i ≤ l[i]
 | 0,hi=>by have:=(h 0 hi).1; simp; omega
 | i + 1,hi=>by
   have h1:=zo5 h i (by omega)
   have h2:=(h (i + 1) hi).2.2 (by omega)
   simp only [Nat.add_sub_cancel] at h2
   omega
theorem GrOk.gone_le {g : Gr} (h : GrOk g) : g.gone.length ≤ 64:=by
 have hr:=h.1.2.2.2
 have h1:=h.1.1
 have h2:=h.1.2.1
 rcases Nat.eq_zero_or_pos g.gone.length with h0 | h0
 ·omega
 ·have h3:=zo5 hr (g.gone.length - 1) (by omega)
  have h4:=(hr (g.gone.length - 1) (by omega)).2.1
  omega
theorem zoD {l : List Ed} {x t : Int} : t ∈ outs l x ↔ ∃ e ∈ l,e.f = x ∧ e.t = t:=by
 unfold outs
 simp only [List.mem_filterMap]
 constructor
 ·rintro ⟨e,he,h⟩
  split at h
  ·exact ⟨e,he,by assumption,by simpa using h⟩
  ·cases h
 ·rintro ⟨e,he,h1,h2⟩
  exact ⟨e,he,by rw [if_pos h1,h2]⟩
theorem zpy {g : Gr} {S : List Int} {d : Nat} {F X : List Int} (hg : GrOk g) (hF : ∀ x,x ∈ F ↔ Key g x ∧ dl g S d x = d) (hX : ∀ t,t ∈ X ↔ ∃ x ∈ F,t ∈ outs g.edges x) (x : Int) :
  x ∈ X.filter (fun e=>!offQ (outL g S (d + 1)) e) ↔ Key g x ∧ dl g S (d + 1) x = (d + 1 : Nat):=by
 rw [List.mem_filter,hX]
 have hlen:=zph g S (d + 1)
 have hsz:=hg.1.1
 constructor
 ·rintro ⟨⟨y,hy,hxy⟩,ho⟩
  obtain ⟨e,he,rfl,rfl⟩:=zoD.1 hxy
  have hyF:=(hF e.f).1 hy
  simp only [offQ,Bool.not_or,Bool.not_not,Bool.and_eq_true,decide_eq_true_eq,hlen] at ho
  have hk : Key g e.t:=⟨ho.1.1,by omega⟩
  have h1:=zrr (S:=S) (n:=d) he (by omega)
  refine ⟨hk,?_⟩
  have ho2:=ho.2
  obtain ⟨k,hk2⟩ : ∃ k : Nat,e.t = k:=⟨e.t.toNat,by have:=hk.1; omega⟩
  rw [hk2] at ho2 h1 ⊢
  have hkN : k < g.size.toNat:=by have:=hk.2; omega
  have hget : (outL g S (d + 1)).getD k 0 = if 0 ≤ dl g S (d + 1) k ∧ dl g S (d + 1) k < (d + 1 : Nat) then dl g S (d + 1) k else -1:=by
   simp [outL,List.getD,hkN]
  simp only [Int.toNat_natCast,hget] at ho2
  simp at ho2
  split at ho2 <;> omega
 ·rintro ⟨hk,hd⟩
  have h2 : ¬ 0 ≤ dl g S d x:=by
   intro h2
   rw [zfB h2] at hd
   have:=zbB (g:=g) (S:=S) d x
   omega
  obtain ⟨_,e,he,h4,h5⟩:=zmO (g:=g) (S:=S) (n:=d) (k:=x) (by omega) h2
  have hf:=hg.fits e he
  refine ⟨⟨e.f,(hF _).2 ⟨⟨hf.1,by have:=hf.2.1; omega⟩,h5⟩,zoD.2 ⟨e,he,rfl,h4⟩⟩,?_⟩
  obtain ⟨k,rfl⟩ : ∃ k : Nat,x = k:=⟨x.toNat,by have:=hk.1; omega⟩
  have hkN : k < g.size.toNat:=by have:=hk.2; omega
  have hget : (outL g S (d + 1)).getD k 0 = if 0 ≤ dl g S (d + 1) k ∧ dl g S (d + 1) k < (d + 1 : Nat) then dl g S (d + 1) k else -1:=by
   simp [outL,List.getD,hkN]
  simp only [offQ,Int.toNat_natCast,hget,hlen]
  rw [if_neg (by omega)]
  simp
  omega
theorem zlj {F : List Int} {i : Nat} (h : i < F.length) (x : Int) : x ∈ F.take (i + 1) ↔ x ∈ F.take i ++ [F[i]]:=by
 rw [← List.take_concat_get h,List.concat_eq_append]
set_option maxHeartbeats 4000000 in
set_option maxRecDepth 100000 in
theorem zfo (g : Gr) (S : List Int) (hg : GrOk g) (hS : S.length ≤ 1099511627776) : zaj Tryz.prog zdu [eG g,ints S] [] (.rs 0 0 g.size.toNat) [some ⟨1,zaf (zbA g S),0⟩]:=by
 refine zk4.acalls (nbz rfl) (nbz rfl) (Nat.zero_le _) ?_
 show awp _ 0 _ _ ⟨50,[(0,eG g),(1,ints S)],[],16⟩
 have hsz:=hg.1.1
 have hsz2:=hg.1.2.1
 have h500:=hg.1.2.2.1
 have hgone : g.gone.length ≤ 1000000:=Nat.le_trans hg.gone_le (by omega)
 obtain ⟨N,hN⟩ : ∃ N : Nat,N = g.size.toNat:=⟨_,rfl⟩
 have hNs : (if 0 < g.size then g.size else 0) = (N : Int):=by split <;> omega
 refine zaa ⟨50,[(2,.pv (gC g)),(3,.pv [ints S])],[],40⟩ rfl ?_ ?_
 ·simp
  exact Le.snap [16,24] rfl rfl (by simp)
 refine zaa ⟨50,[(2,.pv (gC g)),(3,.pv [ints S]),(5,.pt 80 0 0)],[(80,some ⟨1,[[.rs 72 0 N]],0⟩),(72,some ⟨1,List.replicate N [.I (-1)],0⟩)],96⟩ rfl ?_ ?_
 ·simp [hNs]
  refine ztw (j:=40) (Nat.zero_le _) rfl (zq4 (-1) N (by omega)) ?_ ?_
  ·simp
  simp
  exact Le.keep rfl (Nat.le_refl _) (by simp) (by simp)
 have h0 : List.replicate N [AV.I (-1)] = zaf (outL g S 0):=by
  unfold outL zaf
  rw [List.map_map]
  apply List.ext_getElem
  ·simp [hN]
  ·intro i h1 h2
   simp
   omega
 rw [h0]
 obtain ⟨F0,hF0⟩ : ∃ F,F = za3 N (zda g S):=⟨_,rfl⟩
 have hF0m : ∀ x,x ∈ F0 ↔ Key g x ∧ dl g S 0 x = ((0 : Nat) : Int):=by
  intro x
  rw [hF0]
  unfold za3
  simp only [List.mem_filter,List.mem_map,List.mem_range]
  constructor
  ·rintro ⟨⟨i,hi,rfl⟩,hs⟩
   exact ⟨⟨by omega,by omega⟩,by rw [dl,if_pos hs]; rfl⟩
  ·rintro ⟨⟨k1,k2⟩,hs⟩
   refine ⟨⟨x.toNat,by omega,by omega⟩,?_⟩
   rw [dl] at hs
   split at hs
   ·assumption
   ·simp at hs
 have hF0l : F0.length ≤ 500:=by have:=zfv N (zda g S); rw [hF0]; omega
 refine zaa ⟨50,[(2,.pv (gC g)),(5,.pt 80 0 0),(6,ints F0)],[(80,some ⟨1,[[.rs 72 0 N]],0⟩),(72,some ⟨1,zaf (outL g S 0),0⟩)],136⟩ rfl ?_ ?_
 ·simp
  refine zaU (zo9 zcj [.pv (gC g),.pv [ints S]] (zda g S) g.size (by omega) (fun ρ sn h n=>by simp) (fun k _=>zrK g S k hS (by omega))) (by simp) ?_
  rw [← hN,← hF0]
  simp [fcd]
  exact Le.dn N 80 72 80 72 [120] rfl rfl (by simp) (by simp) (by decide) (by decide) (by simp) rfl rfl (by simp [fcd]) (by simp [fcd,zak])
 refine zab ?_
 refine zaa ⟨50,[(2,.pv (gC g)),(5,.pt 80 0 0),(6,ints F0),(7,.I 0)],[(80,some ⟨1,[[.rs 72 0 N]],0⟩),(72,some ⟨1,zaf (outL g S 0),0⟩)],144⟩ rfl ?_ ?_
 ·simp
  exact Le.keep rfl (Nat.le_refl _) (by simp) (by simp)
 refine zag ?_
 refine zao (ι:=Nat × List Int) (fun p=>⟨50,[(2,.pv (gC g)),(5,.pt 80 0 0),(6,ints p.2),(7,.I p.1)],[(80,some ⟨1,[[.rs 72 0 N]],0⟩),(72,some ⟨1,zaf (outL g S p.1),0⟩)],144⟩) (fun p=>p.1 ≤ 64 ∧ p.2.length ≤ 500 ∧ ∀ x,x ∈ p.2 ↔ Key g x ∧ dl g S p.1 x = p.1) (fun p=>64 - p.1) (0,F0) ⟨by simp,hF0l,hF0m⟩ (Le.refl _ _) ?_
 rintro ⟨d,F⟩ ⟨hd,hFl,hFm⟩
 simp only at hd hFl hFm ⊢
 refine zab ?_
 refine zaa ⟨50,[(2,.pv (gC g)),(5,.pt 80 0 0),(6,ints F),(7,.I d),(22,.B (decide (0 < F.length)))],[(80,some ⟨1,[[.rs 72 0 N]],0⟩),(72,some ⟨1,zaf (outL g S d),0⟩)],168⟩ rfl ?_ ?_
 ·simp
  exact Le.keep rfl (Nat.le_refl _) (by simp <;> rw [Bool.eq_iff_iff] <;> simp) (by simp)
 refine zac _ rfl (fun h=>zad ?_) fun h=>zan (hit ?_)
 ·simp only [decide_eq_true_eq] at h
  have hdlt : (d : Int) < g.size:=by
   have:=hFm F[0]
   have h1:=(this.1 (List.getElem_mem _))
   exact zoY hg h1.1 h1.2
  refine zaI (ι:=List Int) (fun F'=>⟨50,[(2,.pv (gC g)),(5,.pt 80 0 0),(6,ints F'),(7,.I d)],[(80,some ⟨1,[[.rs 72 0 N]],0⟩),(72,some ⟨1,zaf (outL g S (d + 1)),0⟩)],144⟩) (fun F'=>F'.length ≤ 500 ∧ ∀ x,x ∈ F' ↔ Key g x ∧ dl g S (d + 1) x = (d + 1 : Nat)) ?_ ?_
  ·refine zag ?_
   refine zaa ⟨50,[(2,.pv (gC g)),(5,.pt 80 0 0),(6,ints F),(7,.I d),(8,.nilS)],[(80,some ⟨1,[[.rs 72 0 N]],0⟩),(72,some ⟨1,zaf (outL g S d),0⟩)],176⟩ rfl ?_ ?_
   ·simp
    exact Le.keep rfl (Nat.le_refl _) (by simp) (by simp)
   rw [← zlH]
   refine zab ?_
   refine zab ?_
   refine zae (s:=?s2) rfl ?o2 ?q2
   case o2=>simp; rfl
   refine zag ?_
   let C : Nat × List Int → St:=fun p=>⟨50,[(2,.pv (gC g)),(5,.pt 80 0 0),(7,.I d),(8,.rs 16 0 p.2.length),(25,ints F),(26,.I F.length),(27,.I p.1)],[(80,some ⟨1,[[.rs 72 0 N]],0⟩),(72,some ⟨1,zaf (outP g S d (F.take p.1)),0⟩),(16,some ⟨1,zaf p.2,0⟩)],200⟩
   refine zao C (fun p : Nat × List Int=>p.1 ≤ F.length ∧ (∀ t,t ∈ p.2 ↔ ∃ x ∈ F.take p.1,t ∈ outs g.edges x) ∧ p.2.length = g.edges.countP fun e=>decide (e.f ∈ F.take p.1)) (fun p : Nat × List Int=>F.length - p.1) (0,[]) ⟨Nat.zero_le _,by simp,by simp⟩ ?_ ?_
   ·refine Le.lst [(80,80),(72,72)] [] [(16,1)] rfl (by simp) (by simp) (by simp [C]) (by simp [C]) (by simp) (by simp) (by simp) (by simp [C,Up]) fun p hp e' he'=>?_
    simp [C] at hp
    rcases hp with rfl | rfl | rfl
    ·cases he'
     exact .inl ⟨(80,80),by simp,rfl,_,rfl,zaA.eq (by simp) (by simp)⟩
    ·cases he'
     exact .inl ⟨(72,72),by simp,rfl,_,rfl,zaA.eq (by simp [fcd,zlH]) (by simp)⟩
    ·cases he'
     exact .inr ⟨by simp,by simp,rfl⟩
   rintro ⟨i,X⟩ ⟨hi,hXm,hXl⟩
   simp only at hi hXm hXl ⊢
   have hXle : X.length ≤ 500:=by rw [hXl]; exact Nat.le_trans List.countP_le_length h500
   have hC : C (i,X) = ⟨50,[(2,.pv (gC g)),(5,.pt 80 0 0),(7,.I d),(8,.rs 16 0 X.length),(25,ints F),(26,.I F.length),(27,.I i)],[(80,some ⟨1,[[.rs 72 0 N]],0⟩),(72,some ⟨1,zaf (outP g S d (F.take i)),0⟩),(16,some ⟨1,zaf X,0⟩)],200⟩:=rfl
   rw [hC]
   refine zaa ⟨50,[(2,.pv (gC g)),(5,.pt 80 0 0),(7,.I d),(8,.rs 16 0 X.length),(25,ints F),(26,.I F.length),(27,.I i),(28,.B (decide (i < F.length)))],[(80,some ⟨1,[[.rs 72 0 N]],0⟩),(72,some ⟨1,zaf (outP g S d (F.take i)),0⟩),(16,some ⟨1,zaf X,0⟩)],208⟩ rfl ?_ ?_
   ·simp
    exact Le.keep rfl (Nat.le_refl _) (by simp) (by simp)
   refine zab ?_
   refine zac _ rfl (fun h2=>zad ?_) fun h2=>zan (hit ?_)
   ·simp only [decide_eq_true_eq] at h2
    have hx:=(hFm F[i]).1 (List.getElem_mem h2)
    obtain ⟨k,hk⟩ : ∃ k : Nat,F[i] = k:=⟨F[i].toNat,by have:=hx.1.1; omega⟩
    have hkN : k < g.size.toNat:=by have:=hx.1.2; omega
    have hkd : dl g S d k = d:=by rw [← hk]; exact hx.2
    have hmt:=zlj h2
    rw [hk] at hmt
    refine zaI (ι:=List Int) (fun X'=>⟨50,[(2,.pv (gC g)),(5,.pt 80 0 0),(7,.I d),(8,.rs 16 0 X'.length),(25,ints F),(26,.I F.length),(27,.I i)],[(80,some ⟨1,[[.rs 72 0 N]],0⟩),(72,some ⟨1,zaf (outP g S d (F.take (i + 1))),0⟩),(16,some ⟨1,zaf X',0⟩)],200⟩) (fun X'=>(∀ t,t ∈ X' ↔ ∃ x ∈ F.take (i + 1),t ∈ outs g.edges x) ∧ X'.length = g.edges.countP fun e=>decide (e.f ∈ F.take (i + 1))) ?_ ?_
    ·have hOlen : (outP g S d (F.take i)).length = N:=by rw [zgC,hN]
     have hOget:=zsL (g:=g) (S:=S) (d:=d) (F:=F.take i) hkN hkd
     have hOset0 : zaf ((outP g S d (F.take i)).set k d) = zaf (outP g S d (F.take (i + 1))):=by
      rw [zsM hkN hkd]
      congr 1
      exact zpa fun x=>(hmt x).symm
     have hOset : (zaf (outP g S d (F.take i))).set k [AV.I d] = zaf (outP g S d (F.take (i + 1))):=by
      rw [← hOset0,zaf,zaf,List.map_set]
     clear hOset0
     have hrow : (zaf (outP g S d (F.take i)))[k]? = some [AV.I (if (k : Int) ∈ F.take i then (d : Int) else -1)]:=by
      rw [List.getElem?_map,List.getElem?_eq_getElem (by omega),hOget]
      rfl
     have hOl : (zaf (outP g S d (F.take i))).length = N:=by simp [hOlen]
     generalize hO : zaf (outP g S d (F.take i)) = O at *
     refine zag ?_
     refine zaa ⟨50,[(2,.pv (gC g)),(5,.pt 80 0 0),(7,.I d),(8,.rs 16 0 X.length),(25,ints F),(26,.I F.length),(27,.I i),(10,.I k)],[(80,some ⟨1,[[.rs 72 0 N]],0⟩),(72,some ⟨1,O,0⟩),(16,some ⟨1,zaf X,0⟩)],232⟩ rfl ?_ ?_
     ·simp [h2,hk]
      exact Le.keep rfl (Nat.le_refl _) (by simp) (by simp)
     refine zab ?_
     refine zaa ⟨50,[(2,.pv (gC g)),(5,.pt 80 0 0),(7,.I d),(8,.rs 16 0 X.length),(25,ints F),(26,.I F.length),(27,.I i),(10,.I k),(35,.B (decide ((k : Int) ∈ F.take i)))],[(80,some ⟨1,[[.rs 72 0 N]],0⟩),(72,some ⟨1,O,0⟩),(16,some ⟨1,zaf X,0⟩)],272⟩ rfl ?_ ?_
     ·simp [hrow,show k < N by omega]
      refine Le.keep rfl (Nat.le_refl _) ?_ (by simp)
      by_cases hin : (k : Int) ∈ F.take i <;> simp [hin]
     refine zac _ rfl (fun h3=>zan (hit ?_)) fun h3=>zad ?_
     ·simp only [decide_eq_true_eq] at h3
      have hsame : ∀ x,x ∈ F.take (i + 1) ↔ x ∈ F.take i:=by
       intro x
       rw [hmt x]
       simp
       rintro rfl
       exact h3
      refine ⟨X,⟨fun t=>?_,?_⟩,?_⟩
      ·rw [hXm]
       simp only [hsame]
      ·rw [hXl]
       simp only [hsame]
      ·rw [zpa hsame,hO]
       refine Le.ents [(80,80),(72,72),(16,16)] [] rfl (by simp) (by simp) (by simp) (by simp) (by simp) (by simp) fun p hp=>?_
       simp at hp
       rcases hp with rfl | rfl | rfl
       ·exact ⟨80,_,_,rfl,by simp,rfl,zaA.eq (by simp) (by simp)⟩
       ·exact ⟨72,_,_,rfl,by simp,rfl,zaA.eq (by rw [← hO]; simp [fcd]) (by simp)⟩
       ·exact ⟨16,_,_,rfl,by simp,rfl,zaA.eq (by simp [fcd]) (by simp)⟩
     simp only [decide_eq_false_iff_not] at h3
     refine zaa ⟨50,[(2,.pv (gC g)),(5,.pt 80 0 0),(7,.I d),(8,.rs 16 0 X.length),(25,ints F),(26,.I F.length),(27,.I i),(10,.I k)],[(80,some ⟨1,[[.rs 72 0 N]],0⟩),(72,some ⟨1,zaf (outP g S d (F.take (i + 1))),0⟩),(16,some ⟨1,zaf X,0⟩)],312⟩ rfl ?_ ?_
     ·simp [hrow,show k < N by omega,zaJ]
      exact Le.keep rfl (Nat.le_refl _) (by simp) (by simp; exact hOset)
     have hcount:=zpY (l:=g.edges) h3
     have hol:=zn3 g.edges k
     refine zaq rfl ?_
     simp
     refine zaU (znq g k (by omega)) rfl ?_
     simp [fcd]
     have hcm : (fun e : Ed=>decide (e.f ∈ F.take (i + 1))) = fun e : Ed=>decide (e.f ∈ F.take i ++ [(k : Int)]):=by
      funext e
      simp only [hmt]
     refine ⟨by omega,by omega,X ++ zfw (outs g.edges k),⟨fun t=>?_,?_⟩,?_⟩
     ·rw [List.mem_append,zpt,hXm]
      simp only [hmt,List.mem_append,List.mem_singleton]
      constructor
      ·rintro (⟨x,hx,ht⟩ | ht)
       ·exact ⟨x,.inl hx,ht⟩
       ·exact ⟨k,.inr rfl,ht⟩
      ·rintro ⟨x,hx | rfl,ht⟩
       ·exact .inl ⟨x,hx,ht⟩
       ·exact .inr ht
     ·rw [List.length_append,zhs,hXl,hcm,hcount]
     ·have e1 : List.take X.length (zaf X) = zaf X:=List.take_of_length_le (by simp)
      have e2 : List.take (outs g.edges k).length (zaf (zfw (outs g.edges k))) = zaf (zfw (outs g.edges k)):=List.take_of_length_le (by rw [zaf,List.length_map,zhs]; exact Nat.le_refl _)
      have e3 : (X ++ zfw (outs g.edges k)).length = X.length + (outs g.edges k).length:=by rw [List.length_append,zhs]
      rw [e1,e3]
      refine Le.ents [(80,80),(72,72),(344,16)] [] rfl (by simp) (by simp) (by simp) (by simp) (by simp) (by simp) fun p hp=>?_
      simp at hp
      rcases hp with rfl | rfl | rfl
      ·exact ⟨80,_,_,rfl,by simp,rfl,zaA.eq (by simp) (by simp)⟩
      ·exact ⟨72,_,_,rfl,by simp,rfl,zaA.eq (by simp [fcd]) (by simp)⟩
      ·refine ⟨344,_,_,rfl,by simp,rfl,zaA.eq ?_ (by simp)⟩
       have e4 : zaf X ++ List.take (outs g.edges k).length (zaf (zfw (outs g.edges k))) = zaf X ++ zaf (zfw (outs g.edges k)):=by rw [e2]
       have e5 : (⟨1,zaf X ++ List.take (outs g.edges k).length (zaf (zfw (outs g.edges k))),0⟩ : Ent) = ⟨1,zaf X ++ zaf (zfw (outs g.edges k)),0⟩:=by rw [e4]
       refine (congrArg _ e5).trans ?_
       simp [fcd]
    rintro X' ⟨k1,k2⟩
    have hwi : IntKind.i64.wrap ((i : Int) + 1) = ((i + 1 : Nat) : Int):=by rw [w64 (by omega) (by omega)]; omega
    refine zaq rfl ?_
    simp [hwi]
    refine ⟨i + 1,X',⟨by omega,k1,k2⟩,by omega,Le.ents [(80,80),(72,72),(16,16)] [] rfl (by simp) (by simp) (by simp [C]) (by simp) (by simp [C]) (by simp [C]) fun p hp=>?_⟩
    simp [C] at hp
    rcases hp with rfl | rfl | rfl
    ·exact ⟨80,_,_,rfl,by simp,rfl,zaA.eq (by simp) (by simp)⟩
    ·exact ⟨72,_,_,rfl,by simp,rfl,zaA.eq (by simp [fcd]) (by simp)⟩
    ·exact ⟨16,_,_,rfl,by simp,rfl,zaA.eq (by simp [fcd]) (by simp)⟩
   simp only [decide_eq_false_iff_not] at h2
   obtain rfl : i = F.length:=by omega
   rw [List.take_of_length_le (Nat.le_refl _)] at hXm hXl ⊢
   rw [zq0 d F hFm]
   obtain ⟨F',hF'⟩ : ∃ F',F' = X.filter fun e=>!offQ (outL g S (d + 1)) e:=⟨_,rfl⟩
   have hF'l : F'.length ≤ X.length:=by rw [hF']; exact List.length_filter_le _ _
   have hDl:=zph g S (d + 1)
   have hdel:=zkq zck [.pv [ints (outL g S (d + 1))]] (offQ (outL g S (d + 1))) X X.length F'.length rfl (by rw [hF']) (by omega) (fun ρ sn h n=>by simp) (fun e _=>zqs (outL g S (d + 1)) e (by rw [hDl]; omega))
   rw [← hF'] at hdel
   have htk : List.take N (zaf (outL g S (d + 1))) = zaf (outL g S (d + 1)):=List.take_of_length_le (by rw [zaf,List.length_map,hDl]; omega)
   have hle : N ≤ (zaf (outL g S (d + 1))).length:=by rw [zaf,List.length_map,hDl]; omega
   have hnf:=fun x=>zpy hg hFm hXm x
   rw [← hF'] at hnf
   generalize hO : outL g S (d + 1) = O at *
   refine zaq rfl ?_
   simp
   refine ztr (i:=16) [80,72] (by simp) rfl (e':=⟨1,zaf X,0⟩) (by simp [fcd]) hdel (by simp) ?_ (.rs _ _ _) (by
    intro e he
    simp at he
    subst he
    exact zn9) ?_
   ·have hle2 : N ≤ O.length:=by simpa using hle
    have htk2 : List.take N (List.map (fun x=>[AV.I x]) O) = List.map (fun x=>[AV.I x]) O:=htk
    simp [fcd,hle2,htk2]
   simp [fcd]
   refine ⟨F',⟨by omega,hnf⟩,?_⟩
   rw [zlH,hO]
   exact Le.dn N 80 72 80 72 [16] rfl rfl (by simp) (by simp) (by decide) (by decide) (by simp) rfl rfl (by simp [fcd]) (by simp [fcd,zak])
  rintro F' ⟨k1,k2⟩
  have hwd : IntKind.i64.wrap ((d : Int) + 1) = ((d + 1 : Nat) : Int):=by rw [w64 (by omega) (by omega)]; omega
  refine zaq rfl ?_
  simp [hwd]
  exact ⟨d + 1,F',⟨by omega,k1,k2⟩,by omega,Le.dn N 80 72 80 72 [] rfl rfl (by simp) (by simp) (by decide) (by decide) (by simp) rfl rfl (by simp [fcd]) (by simp)⟩
 simp only [decide_eq_false_iff_not] at h
 have hnil : F = []:=List.eq_nil_of_length_eq_zero (by omega)
 have hstop : ∀ k,Key g k → dl g S d k ≠ d:=by
  intro k hk he
  have:=(hFm k).2 ⟨hk,he⟩
  rw [hnil] at this
  simp at this
 have hout : outL g S d = zbA g S:=by
  unfold outL zbA
  refine List.map_congr_left fun i hi=>?_
  simp at hi
  have hkey : Key g i:=⟨by omega,by omega⟩
  rw [zmd hg hstop i hkey]
  have hr:=zbB (g:=g) (S:=S) d i
  have:=hstop i hkey
  rw [zmd hg hstop i hkey] at this hr
  split <;> omega
 rw [hout]
 refine zab ?_
 refine zae (s:=?z9) rfl ?p9 ?r9
 case p9=>simp; rfl
 refine zah ?_
 rw [← hN]
 exact ⟨.inr rfl,zal.out [72] [] rfl (by simp) (by simp) (by simp) (by simp [fcd])⟩
def dP (g : Gr) (S : List Int) (n i : Nat) (k : Int) : Int:=if 0 ≤ dl g S n k then dl g S n k else if (g.edges.take i).any (fun e=>decide (e.t = k) && decide (dl g S n e.f = n)) = true then (n : Int) + 1 else -1
variable {g : Gr} {S : List Int}
theorem zoc (n : Nat) (k : Int) : dP g S n 0 k = dl g S n k:=by
 unfold dP
 have:=zbB (g:=g) (S:=S) n k
 split
 ·rfl
 ·simp; omega
theorem zuh (n : Nat) (k : Int) : dP g S n g.edges.length k = dl g S (n + 1) k:=by
 unfold dP
 rw [List.take_of_length_le (Nat.le_refl _),dl]
theorem zve (n i : Nat) (k : Int) : dP g S n i k = n ↔ dl g S n k = n:=by
 unfold dP
 have:=zbB (g:=g) (S:=S) n k
 split
 ·exact Iff.rfl
 ·split <;> omega
theorem zrD (n i : Nat) (hi : i < g.edges.length) (k : Int) : dP g S n (i + 1) k = if dl g S n g.edges[i].f = n ∧ dP g S n i g.edges[i].t = -1 ∧ k = g.edges[i].t then (n : Int) + 1 else dP g S n i k:=by
 have hany : ∀ k,(g.edges.take (i + 1)).any (fun e=>decide (e.t = k) && decide (dl g S n e.f = n)) = ((g.edges.take i).any (fun e=>decide (e.t = k) && decide (dl g S n e.f = n)) || (decide (g.edges[i].t = k) && decide (dl g S n g.edges[i].f = n))):=by
  intro k
  rw [← List.take_concat_get hi,List.concat_eq_append,List.any_append]
  simp
 unfold dP
 rw [hany]
 by_cases h1 : dl g S n g.edges[i].f = n
 ·by_cases h2 : k = g.edges[i].t
  ·subst h2
   simp only [h1,decide_true,Bool.and_self,Bool.or_true,if_true,and_true,true_and]
   have:=zbB (g:=g) (S:=S) n g.edges[i].t
   by_cases h3 : 0 ≤ dl g S n g.edges[i].t
   ·simp only [h3,if_true]
    rw [if_neg (by omega)]
   ·simp only [h3,if_false]
    split <;> simp
  ·have h3 : decide (g.edges[i].t = k) = false:=by simpa using fun h=>h2 h.symm
   simp only [h3,h2,Bool.false_and,Bool.or_false,and_false,if_false]
 ·simp only [h1,decide_false,Bool.and_false,Bool.or_false,false_and,if_false]
def zd3 (g : Gr) (S : List Int) (k : Nat) : List Int:=(List.range k).map fun (i : Nat)=>dl g S 0 (i : Int)
def midL (g : Gr) (S : List Int) (n i : Nat) : List Int:=(List.range g.size.toNat).map fun (k : Nat)=>dP g S n i (k : Int)
theorem ziC (n i : Nat) : (midL g S n i).length = g.size.toNat:=by simp [midL]
theorem zpN : midL g S 0 0 = zd3 g S g.size.toNat:=by unfold midL zd3; simp only [zoc]
theorem zqP (n : Nat) : midL g S n g.edges.length = midL g S (n + 1) 0:=by unfold midL; simp only [zuh,zoc]
theorem zrq : midL g S g.size.toNat 0 = zbA g S:=by unfold midL zbA dist; simp only [zoc]
theorem zoG (n i : Nat) {k : Nat} (hk : k < g.size.toNat) : (zaf (midL g S n i))[k]? = some [AV.I (dP g S n i k)]:=by
 simp [midL,hk]
theorem zqR (n i : Nat) (hi : i < g.edges.length) (h : ¬ (dl g S n g.edges[i].f = n ∧ dP g S n i g.edges[i].t = -1)) : midL g S n (i + 1) = midL g S n i:=by
 unfold midL
 refine List.map_congr_left fun k _=>?_
 rw [zrD n i hi,if_neg]
 rintro ⟨h1,h2,_⟩
 exact h ⟨h1,h2⟩
theorem zss (n i : Nat) (hi : i < g.edges.length) {k : Nat} (hk : g.edges[i].t = k) (hkN : k < g.size.toNat) (h1 : dl g S n g.edges[i].f = n) (h2 : dP g S n i g.edges[i].t = -1) : (zaf (midL g S n i)).set k [AV.I ((n : Int) + 1)] = zaf (midL g S n (i + 1)):=by
 have e : (midL g S n i).set k ((n : Int) + 1) = midL g S n (i + 1):=by
  apply List.ext_getElem?
  intro j
  by_cases hj : j < g.size.toNat
  ·have e1 : (midL g S n (i + 1))[j]? = some (dP g S n (i + 1) j):=by simp [midL,hj]
   have e2 : (midL g S n i)[j]? = some (dP g S n i j):=by simp [midL,hj]
   rw [List.getElem?_set,e1,e2,zrD n i hi,ziC]
   by_cases hkj : k = j
   ·subst hkj
    rw [if_pos rfl,if_pos hkN,if_pos ⟨h1,h2,hk.symm⟩]
   ·rw [if_neg hkj,if_neg]
    rintro ⟨_,_,h3⟩
    rw [hk] at h3
    omega
  ·rw [List.getElem?_eq_none (by rw [List.length_set,ziC]; omega),List.getElem?_eq_none (by rw [ziC]; omega)]
 rw [← e,zaf,zaf,List.map_set]
theorem zoy (k : Nat) : zd3 g S (k + 1) = zd3 g S k ++ [dl g S 0 k]:=by
 unfold zd3
 rw [List.range_succ,List.map_append]
 rfl
theorem Le.l1 {st st' : St} {D : List Int} (i j : Nat) (sn : List Nat) (hsz : st'.sz = st.sz) (hh : st'.h = [(j,some ⟨1,zaf D,0⟩)]) (hj : j < st'.n) (hs : ∀ k ∈ sn,k ≠ i) (he : st.hp i = some ⟨1,zaf D,0⟩) (ht : ∀ p ∈ st'.t,Wk (conv [(i,j)] sn st.hp 4 (st.get p.1)) p.2) : Le 0 st st' :=
 zhS hsz hh hj hs he (by simp [fcd]) (by simp) ht
set_option maxHeartbeats 4000000 in
set_option maxRecDepth 100000 in
theorem ze9 (g : Gr) (S : List Int) (hg : GrOk g) (hS : S.length ≤ 1099511627776) : zaj Tryz.prog zer [eG g,ints S] [] (.rs 0 0 g.size.toNat) [some ⟨1,zaf (zbA g S),0⟩]:=by
 refine zpT.acalls (nbz rfl) (nbz rfl) (Nat.zero_le _) ?_
 show awp _ 0 _ _ ⟨72,[(0,eG g),(1,ints S)],[],16⟩
 have hsz:=hg.1.1
 have hsz2:=hg.1.2.1
 have h500:=hg.1.2.2.1
 have hgone : g.gone.length ≤ 1000000:=Nat.le_trans hg.gone_le (by omega)
 obtain ⟨N,hN⟩ : ∃ N : Nat,N = g.size.toNat:=⟨_,rfl⟩
 refine zaa ⟨72,[(1,ints S),(2,.pv (gC g))],[],32⟩ rfl ?_ ?_
 ·simp
  exact Le.snap [16] rfl rfl (by simp)
 refine zab ?_
 refine zae (s:=?s1) rfl ?o1 ?q1
 case o1=>simp; rfl
 refine zab ?_
 refine zab ?_
 refine zae (s:=?s2) rfl ?o2 ?q2
 case o2=>simp; rfl
 refine zag ?_
 let C : Nat → St:=fun k=>⟨72,[(1,ints S),(2,.pv (gC g)),(5,.rs 16 0 k),(6,.I k)],[(16,some ⟨1,zaf (zd3 g S k),0⟩)],48⟩
 refine zao C (fun k=>k ≤ N) (fun k=>N - k) 0 (Nat.zero_le _) (Le.lst [] [] [(16,1)] rfl (by simp) (by simp) (by simp) (by simp [C]) (by simp) (by simp) (by simp) (by simp [C,Up]) (by simp [C,zd3])) ?_
 intro k hk
 have hCk : C k = ⟨72,[(1,ints S),(2,.pv (gC g)),(5,.rs 16 0 k),(6,.I k)],[(16,some ⟨1,zaf (zd3 g S k),0⟩)],48⟩:=rfl
 rw [hCk]
 refine zab ?_
 refine zaa ⟨72,[(1,ints S),(2,.pv (gC g)),(5,.rs 16 0 k),(6,.I k),(13,.B (decide ((k : Int) < g.size)))],[(16,some ⟨1,zaf (zd3 g S k),0⟩)],80⟩ rfl ?_ ?_
 ·simp
  exact Le.keep rfl (Nat.le_refl _) (by simp) (by simp)
 refine zac _ rfl (fun h=>zad ?_) fun h=>zan (hit ?_)
 ·simp only [decide_eq_true_eq] at h
  refine zaI (ι:=Unit) (fun _=>⟨72,[(1,ints S),(2,.pv (gC g)),(5,.rs 16 0 (k + 1)),(6,.I k)],[(16,some ⟨1,zaf (zd3 g S (k + 1)),0⟩)],48⟩) (fun _=>True) ?_ fun _ _=>?_
  ·rw [zoy]
   have hAl : (zd3 g S k).length = k:=by simp [zd3]
   generalize zd3 g S k = A at *
   refine zag ?_
   refine zaa ⟨72,[(1,ints S),(2,.pv (gC g)),(5,.rs 96 0 (k + 1)),(6,.I k)],[(96,some ⟨1,zaf A ++ [[.I (-1)]],0⟩)],112⟩ rfl ?_ ?_
   ·simp [List.replicate,hAl]
    refine ⟨by omega,by omega,?_⟩
    have e1 : List.take k (zaf A) = zaf A:=List.take_of_length_le (by simp [hAl])
    exact zhS (i:=96) (sn:=[]) rfl rfl (by simp) (by simp) rfl (by rw [e1]; simp [fcd]) (by simp) (by simp)
   refine zaa ⟨72,[(1,ints S),(2,.pv (gC g)),(5,.rs 96 0 (k + 1)),(6,.I k),(28,.B (zda g S k))],[(96,some ⟨1,zaf A ++ [[.I (-1)]],0⟩)],192⟩ rfl ?_ ?_
   ·simp
    refine zdT zbj rfl ?_
    refine zap (zo4 S k (by omega)) rfl ?_
    simp
    refine zcc (fun hb=>?_) (fun hb=>?_)
    ·simp [hb]
     refine zdT zbj rfl ?_
     refine zap (zo4 g.gone k (by omega)) rfl ?_
     simp [hb]
     exact zhS (i:=96) (sn:=[]) rfl rfl (by simp) (by simp) rfl (by simp [fcd]) (by simp) (by simp [zda] <;> exact wkB (by simp_all))
    ·simp [hb]
     exact zhS (i:=96) (sn:=[]) rfl rfl (by simp) (by simp) rfl (by simp [fcd]) (by simp) (by simp [zda] <;> exact wkB (by simp_all))
   refine zac _ rfl (fun h5=>?_) fun h5=>zad ?_
   ·have h0 : dl g S 0 k = 0:=by rw [dl,if_pos h5]
    rw [h0]
    refine zaq rfl ?_
    have hset : (zaf A ++ [[AV.I (-1)]]).set k [AV.I 0] = zaf A ++ [[AV.I 0]]:=by
     rw [List.set_append,if_neg (by simp [hAl])]
     simp [hAl]
    have hget : (zaf A ++ [[AV.I (-1)]])[k]? = some [AV.I (-1)]:=by
     rw [List.getElem?_append_right (by simp [hAl])]
     simp [hAl]
    simp [hget,zaJ,hset]
    refine ⟨by omega,zhS (i:=96) (sn:=[]) rfl rfl (by simp) (by simp) rfl (by simp [fcd]) (by simp) (by simp)⟩
   ·have h0 : dl g S 0 k = -1:=by rw [dl,if_neg (by simp [h5])]
    rw [h0]
    exact ⟨(),trivial,zhS (i:=96) (sn:=[]) rfl rfl (by simp) (by simp) rfl (by simp [fcd]) (by simp) (by simp)⟩
  have hwk : IntKind.i64.wrap ((k : Int) + 1) = ((k + 1 : Nat) : Int):=by rw [w64 (by omega) (by omega)]; omega
  refine zaq rfl ?_
  simp [hwk]
  exact ⟨k + 1,by omega,by omega,Le.l1 16 16 [] rfl rfl (by simp [C]) (by simp) rfl (by simp [C])⟩
 simp only [decide_eq_false_iff_not] at h
 obtain rfl : k = N:=by omega
 have hf : zd3 g S k = midL g S 0 0:=by rw [zpN,hN]
 rw [hf]
 refine zab ?_
 refine zaa ⟨72,[(2,.pv (gC g)),(5,.rs 16 0 k),(7,.I 0)],[(16,some ⟨1,zaf (midL g S 0 0),0⟩)],88⟩ rfl ?_ ?_
 ·simp
  exact Le.keep rfl (Nat.le_refl _) (by simp) (by simp)
 refine zag ?_
 refine zao (ι:=Nat) (fun n=>⟨72,[(2,.pv (gC g)),(5,.rs 16 0 k),(7,.I n)],[(16,some ⟨1,zaf (midL g S n 0),0⟩)],88⟩) (fun n=>n ≤ k) (fun n=>k - n) 0 (Nat.zero_le _) (Le.refl _ _) ?_
 intro n hn
 refine zab ?_
 refine zaa ⟨72,[(2,.pv (gC g)),(5,.rs 16 0 k),(7,.I n),(35,.B (decide ((n : Int) < g.size)))],[(16,some ⟨1,zaf (midL g S n 0),0⟩)],120⟩ rfl ?_ ?_
 ·simp
  exact Le.keep rfl (Nat.le_refl _) (by simp) (by simp)
 refine zac _ rfl (fun h=>zad ?_) fun h=>zan (hit ?_)
 ·simp only [decide_eq_true_eq] at h
  refine zaI (ι:=Unit) (fun _=>⟨72,[(2,.pv (gC g)),(5,.rs 16 0 k),(7,.I n)],[(16,some ⟨1,zaf (midL g S (n + 1) 0),0⟩)],88⟩) (fun _=>True) ?_ fun _ _=>?_
  ·rw [← zqP]
   refine zag ?_
   refine zaa ⟨72,[(2,.pv (gC g)),(5,.rs 16 0 k),(7,.I n),(8,.I 0)],[(16,some ⟨1,zaf (midL g S n 0),0⟩)],128⟩ rfl ?_ ?_
   ·simp
    exact Le.keep rfl (Nat.le_refl _) (by simp) (by simp)
   refine zag ?_
   refine zao (ι:=Nat) (fun i=>⟨72,[(2,.pv (gC g)),(5,.rs 16 0 k),(7,.I n),(8,.I i)],[(16,some ⟨1,zaf (midL g S n i),0⟩)],128⟩) (fun i=>i ≤ g.edges.length) (fun i=>g.edges.length - i) 0 (Nat.zero_le _) (Le.refl _ _) ?_
   intro i hi
   refine zab ?_
   refine zaa ⟨72,[(2,.pv (gC g)),(5,.rs 16 0 k),(7,.I n),(8,.I i),(42,.B (decide (i < g.edges.length)))],[(16,some ⟨1,zaf (midL g S n i),0⟩)],168⟩ rfl ?_ ?_
   ·simp
    exact Le.keep rfl (Nat.le_refl _) (by simp) (by simp)
   refine zac _ rfl (fun h2=>zad ?_) fun h2=>zan (hit ?_)
   ·simp only [decide_eq_true_eq] at h2
    refine zaI (ι:=Unit) (fun _=>⟨72,[(2,.pv (gC g)),(5,.rs 16 0 k),(7,.I n),(8,.I i)],[(16,some ⟨1,zaf (midL g S n (i + 1)),0⟩)],128⟩) (fun _=>True) ?_ fun _ _=>?_
    ·have hfit:=hg.fits g.edges[i] (List.getElem_mem h2)
     obtain ⟨a,ha⟩ : ∃ a : Nat,g.edges[i].f = a:=⟨g.edges[i].f.toNat,by have:=hfit.1; omega⟩
     obtain ⟨b,hb⟩ : ∃ b : Nat,g.edges[i].t = b:=⟨g.edges[i].t.toNat,by have:=hfit.2.2.1; omega⟩
     have haN : a < g.size.toNat:=by have:=hfit.2.1; omega
     have hbN : b < g.size.toNat:=by have:=hfit.2.2.2.1; omega
     have hga:=zoG (g:=g) (S:=S) n i haN
     have hgb:=zoG (g:=g) (S:=S) n i hbN
     have hml : (zaf (midL g S n i)).length = k:=by rw [zaf,List.length_map,ziC,hN]
     have hsame:=zqR (S:=S) n i h2
     have hset:=zss (S:=S) n i h2 hb hbN
     rw [ha] at hsame hset
     rw [hb] at hsame hset
     have hdat:=zve (g:=g) (S:=S) n i a
     generalize hD1 : dP g S n i a = va at *
     generalize hD2 : dP g S n i b = vb at *
     generalize hM : zaf (midL g S n i) = M at *
     have hwn : IntKind.i64.wrap ((n : Int) + 1) = (n : Int) + 1:=w64 (by omega) (by omega)
     refine zag ?_
     refine zaa ⟨72,[(2,.pv (gC g)),(5,.rs 16 0 k),(7,.I n),(8,.I i),(9,.pv (eC g.edges[i]))],[(16,some ⟨1,M,0⟩)],128⟩ rfl ?_ ?_
     ·simp [h2]
      exact zhS (i:=16) (sn:=[208]) rfl rfl (by simp) (by simp) rfl (by rw [← hM]; simp [fcd]) (by simp) (by simp)
     refine zaa ⟨72,[(2,.pv (gC g)),(5,.rs 16 0 k),(7,.I n),(8,.I i),(9,.pv (eC g.edges[i])),(64,.B (decide (va = n ∧ vb = -1)))],[(16,some ⟨1,M,0⟩)],248⟩ rfl ?_ ?_
     ·simp [ha,hb,hga,hgb,show a < k by omega,show b < k by omega]
      refine zcc (fun hx=>?_) (fun hx=>?_)
      ·simp [hx,ha,hb,hga,hgb,show a < k by omega,show b < k by omega]
       refine Le.keep rfl (Nat.le_refl _) (by simp <;> simp_all <;> rw [Bool.eq_iff_iff] <;> simp) (by simp)
      ·simp [hx]
       refine Le.keep rfl (Nat.le_refl _) (by simp <;> simp_all) (by simp)
     refine zac _ rfl (fun h5=>?_) fun h5=>zad ?_
     ·simp only [decide_eq_true_eq] at h5
      have hs2:=hset (hdat.1 h5.1) h5.2
      refine zaq rfl ?_
      simp [ha,hb,hgb,show b < k by omega,zaJ,hwn,hs2]
      exact Le.l1 16 16 [] rfl rfl (by simp) (by simp) rfl (by simp)
     ·simp only [decide_eq_false_iff_not] at h5
      rw [hsame (fun hq=>h5 ⟨hdat.2 hq.1,hq.2⟩),hM]
      exact ⟨(),trivial,zhS (i:=16) (sn:=[]) rfl rfl (by simp) (by simp) rfl (by rw [← hM]; simp [fcd]) (by simp) (by simp)⟩
    have hwi : IntKind.i64.wrap ((i : Int) + 1) = ((i + 1 : Nat) : Int):=by rw [w64 (by omega) (by omega)]; omega
    refine zaq rfl ?_
    simp [hwi]
    exact ⟨i + 1,by omega,by omega,Le.l1 16 16 [] rfl rfl (by simp) (by simp) rfl (by simp)⟩
   simp only [decide_eq_false_iff_not] at h2
   obtain rfl : i = g.edges.length:=by omega
   exact ⟨(),trivial,Le.l1 16 16 [] rfl rfl (by simp) (by simp) rfl (by simp)⟩
  have hwn : IntKind.i64.wrap ((n : Int) + 1) = ((n + 1 : Nat) : Int):=by rw [w64 (by omega) (by omega)]; omega
  refine zaq rfl ?_
  simp [hwn]
  exact ⟨n + 1,by omega,by omega,Le.l1 16 16 [] rfl rfl (by simp) (by simp) rfl (by simp)⟩
 simp only [decide_eq_false_iff_not] at h
 obtain rfl : n = k:=by omega
 rw [hN,zrq,← hN]
 refine zab ?_
 refine zae (s:=?z9) rfl ?p9 ?r9
 case p9=>simp; rfl
 refine zah ?_
 exact ⟨.inr rfl,zal.out [16] [] rfl (by simp) (by simp) (by simp) (by simp [fcd])⟩
end Go.Proofs.YteiabadhhhckfaaGreat
