/- Texts of this claim,merged. -/
import Derived.Test.YthmaflecfppoiaaGreatRn10
import Derived.Test.YthmaflecfppoiaaGreatRn7
import Derived.Test.YthmaflecfppoiaaGreatRn9
set_option linter.unusedSimpArgs false
set_option linter.unusedVariables false
set_option linter.unusedSectionVars false
namespace Go.Proofs.YthmaflecfppoiaaGreat
open Go
theorem Le.dn {st st' : St} {D D' : List (List AV)} (N : Nat) (i j i' j' : Nat) (sn : List Nat) (hsz : st'.sz = st.sz) (hh : st'.h = [(i',some ⟨1,[[.rs j' 0 N]],0⟩),(j',some ⟨1,D',0⟩)]) (hi : i' < st'.n) (hj : j' < st'.n) (hij : i ≠ j) (hij' : i' ≠ j') (hs : ∀ k ∈ sn,k ≠ i ∧ k ≠ j)
  (h1 : st.hp i = some ⟨1,[[.rs j 0 N]],0⟩) (h2 : st.hp j = some ⟨1,D,0⟩) (hD : D.map (·.map (conv [(i,i'),(j,j')] sn st.hp 4)) = D') (ht : ∀ p ∈ st'.t,Wk (conv [(i,i'),(j,j')] sn st.hp 4 (st.get p.1)) p.2) : Le 0 st st' :=
 Le.ents [(i,i'),(j,j')] sn hsz (by simpa using hij) (by simpa using hij') (by simp [hi,hj]) (by simpa using hs) (Nat.zero_le _) ht fun p hp=>by
  rw [hh] at hp
  simp at hp
  rcases hp with rfl | rfl
  ·exact ⟨i,_,_,rfl,by simp,h1,zaH.eq (by simp [hij]) (by simp)⟩
  ·exact ⟨j,_,_,rfl,by simp,h2,zaH.eq (by simp only [zaz,hD]) (by simp)⟩
theorem zmr {l : List Int} {lo hi : Int} (h : Rise l lo hi) : ∀ (i : Nat) (hi : i < l.length),lo + i ≤ l[i]
 | 0,hi=>by have:=(h 0 hi).1; simp; omega
 | i + 1,hi=>by
   have h1:=zmr h i (by omega)
   have h2:=(h (i + 1) hi).2.2 (by omega)
   simp only [Nat.add_sub_cancel] at h2
   omega
theorem GrOk.gone_le {g : Gr} (h : GrOk g) : g.gone.length ≤ 64:=by
 have hr:=h.1.2.2.2
 have h1:=h.1.1
 have h2:=h.1.2.1
 rcases Nat.eq_zero_or_pos g.gone.length with h0 | h0
 ·omega
 ·have h3:=zmr hr (g.gone.length - 1) (by omega)
  have h4:=(hr (g.gone.length - 1) (by omega)).2.1
  omega
theorem zq2 {l : List Ed} {x t : Int} : t ∈ outs l x ↔ ∃ e ∈ l,e.f = x ∧ e.t = t:=by
 unfold outs
 simp only [List.mem_filterMap]
 constructor
 ·rintro ⟨e,he,h⟩
  split at h
  ·exact ⟨e,he,by assumption,by simpa using h⟩
  ·cases h
 ·rintro ⟨e,he,h1,h2⟩
  exact ⟨e,he,by rw [if_pos h1,h2]⟩
theorem zrZ {g : Gr} {S : List Int} {d : Nat} {F X : List Int} (hg : GrOk g) (hF : ∀ x,x ∈ F ↔ Key g x ∧ dl g S d x = d) (hX : ∀ t,t ∈ X ↔ ∃ x ∈ F,t ∈ outs g.edges x) (x : Int) :
  x ∈ X.filter (fun e=>!offQ (outL g S (d + 1)) e) ↔ Key g x ∧ dl g S (d + 1) x = (d + 1 : Nat):=by
 rw [List.mem_filter,hX]
 have hlen:=zqZ g S (d + 1)
 have hsz:=hg.1.1
 constructor
 ·rintro ⟨⟨y,hy,hxy⟩,ho⟩
  obtain ⟨e,he,rfl,rfl⟩:=zq2.1 hxy
  have hyF:=(hF e.f).1 hy
  simp only [offQ,Bool.not_or,Bool.not_not,Bool.and_eq_true,decide_eq_true_eq,hlen] at ho
  have hk : Key g e.t:=⟨ho.1.1,by omega⟩
  have h1:=zsy (S:=S) (n:=d) he (by omega)
  refine ⟨hk,?_⟩
  have ho2:=ho.2
  obtain ⟨k,hk2⟩ : ∃ k : Nat,e.t = k:=⟨e.t.toNat,by have:=hk.1; omega⟩
  rw [hk2] at ho2 h1 ⊢
  have hkN : k < g.size.toNat:=by have:=hk.2; omega
  have hget : (outL g S (d + 1)).getD k 0 = if 0 ≤ dl g S (d + 1) k ∧ dl g S (d + 1) k < (d + 1 : Nat) then dl g S (d + 1) k else -1:=by
   simp [outL,List.getD,hkN]
  simp only [Int.toNat_natCast,hget] at ho2
  simp at ho2
  split at ho2 <;> omega
 ·rintro ⟨hk,hd⟩
  have h2 : ¬ 0 ≤ dl g S d x:=by
   intro h2
   rw [zgy h2] at hd
   have:=zbK (g:=g) (S:=S) d x
   omega
  obtain ⟨_,e,he,h4,h5⟩:=znT (g:=g) (S:=S) (n:=d) (k:=x) (by omega) h2
  have hf:=hg.fits e he
  refine ⟨⟨e.f,(hF _).2 ⟨⟨hf.1,by have:=hf.2.1; omega⟩,h5⟩,zq2.2 ⟨e,he,rfl,h4⟩⟩,?_⟩
  obtain ⟨k,rfl⟩ : ∃ k : Nat,x = k:=⟨x.toNat,by have:=hk.1; omega⟩
  have hkN : k < g.size.toNat:=by have:=hk.2; omega
  have hget : (outL g S (d + 1)).getD k 0 = if 0 ≤ dl g S (d + 1) k ∧ dl g S (d + 1) k < (d + 1 : Nat) then dl g S (d + 1) k else -1:=by
   simp [outL,List.getD,hkN]
  simp only [offQ,Int.toNat_natCast,hget,hlen]
  rw [if_neg (by omega)]
  simp
  omega
theorem zmN {F : List Int} {i : Nat} (h : i < F.length) (x : Int) : x ∈ F.take (i + 1) ↔ x ∈ F.take i ++ [F[i]]:=by
 rw [← List.take_concat_get h,List.concat_eq_append]
set_option maxHeartbeats 4000000 in
set_option maxRecDepth 100000 in
theorem zf8 (g : Gr) (S : List Int) (hg : GrOk g) (hS : S.length ≤ 1099511627776) : zai Tryz.prog zdT [eG g,ints S] [] (.rs 0 0 g.size.toNat) [some ⟨1,zah (zbJ g S),0⟩]:=by
 refine zna.acalls (nbz rfl) (nbz rfl) (Nat.zero_le _) ?_
 show awp _ 0 _ _ ⟨50,[(0,eG g),(1,ints S)],[],16⟩
 have hsz:=hg.1.1
 have hsz2:=hg.1.2.1
 have h500:=hg.1.2.2.1
 have hgone : g.gone.length ≤ 1000000:=Nat.le_trans hg.gone_le (by omega)
 obtain ⟨N,hN⟩ : ∃ N : Nat,N = g.size.toNat:=⟨_,rfl⟩
 have hNs : (if 0 < g.size then g.size else 0) = (N : Int):=by split <;> omega
 refine zaa ⟨50,[(2,.pv (gC g)),(3,.pv [ints S])],[],40⟩ rfl ?_ ?_
 ·simp
  exact Le.snap [16,24] rfl rfl (by simp)
 refine zaa ⟨50,[(2,.pv (gC g)),(3,.pv [ints S]),(5,.pt 80 0 0)],[(80,some ⟨1,[[.rs 72 0 N]],0⟩),(72,some ⟨1,List.replicate N [.I (-1)],0⟩)],96⟩ rfl ?_ ?_
 ·simp [hNs]
  refine zvB (j:=40) (Nat.zero_le _) rfl (ztK (-1) N (by omega)) ?_ ?_
  ·simp
  simp
  exact Le.keep rfl (Nat.le_refl _) (by simp) (by simp)
 have h0 : List.replicate N [AV.I (-1)] = zah (outL g S 0):=by
  unfold outL zah
  rw [List.map_map]
  apply List.ext_getElem
  ·simp [hN]
  ·intro i h1 h2
   simp
   omega
 rw [h0]
 obtain ⟨F0,hF0⟩ : ∃ F,F = zbi N (zfQ g S):=⟨_,rfl⟩
 have hF0m : ∀ x,x ∈ F0 ↔ Key g x ∧ dl g S 0 x = ((0 : Nat) : Int):=by
  intro x
  rw [hF0]
  unfold zbi
  simp only [List.mem_filter,List.mem_map,List.mem_range]
  constructor
  ·rintro ⟨⟨i,hi,rfl⟩,hs⟩
   exact ⟨⟨by omega,by omega⟩,by rw [dl,if_pos hs]; rfl⟩
  ·rintro ⟨⟨k1,k2⟩,hs⟩
   refine ⟨⟨x.toNat,by omega,by omega⟩,?_⟩
   rw [dl] at hs
   split at hs
   ·assumption
   ·simp at hs
 have hF0l : F0.length ≤ 500:=by have:=zgz N (zfQ g S); rw [hF0]; omega
 refine zaa ⟨50,[(2,.pv (gC g)),(5,.pt 80 0 0),(6,ints F0)],[(80,some ⟨1,[[.rs 72 0 N]],0⟩),(72,some ⟨1,zah (outL g S 0),0⟩)],136⟩ rfl ?_ ?_
 ·simp
  refine zaW (zrd zcv [.pv (gC g),.pv [ints S]] (zfQ g S) g.size (by omega) (fun ρ sn h n=>by simp) (fun k _=>zsO g S k hS (by omega))) (by simp) ?_
  rw [← hN,← hF0]
  simp [fcd]
  exact Le.dn N 80 72 80 72 [120] rfl rfl (by simp) (by simp) (by decide) (by decide) (by simp) rfl rfl (by simp [fcd]) (by simp [fcd,zap])
 refine zab ?_
 refine zaa ⟨50,[(2,.pv (gC g)),(5,.pt 80 0 0),(6,ints F0),(7,.I 0)],[(80,some ⟨1,[[.rs 72 0 N]],0⟩),(72,some ⟨1,zah (outL g S 0),0⟩)],144⟩ rfl ?_ ?_
 ·simp
  exact Le.keep rfl (Nat.le_refl _) (by simp) (by simp)
 refine zaf ?_
 refine zao (ι:=Nat × List Int) (fun p=>⟨50,[(2,.pv (gC g)),(5,.pt 80 0 0),(6,ints p.2),(7,.I p.1)],[(80,some ⟨1,[[.rs 72 0 N]],0⟩),(72,some ⟨1,zah (outL g S p.1),0⟩)],144⟩) (fun p=>p.1 ≤ 64 ∧ p.2.length ≤ 500 ∧ ∀ x,x ∈ p.2 ↔ Key g x ∧ dl g S p.1 x = p.1) (fun p=>64 - p.1) (0,F0) ⟨by simp,hF0l,hF0m⟩ (Le.refl _ _) ?_
 rintro ⟨d,F⟩ ⟨hd,hFl,hFm⟩
 simp only at hd hFl hFm ⊢
 refine zab ?_
 refine zaa ⟨50,[(2,.pv (gC g)),(5,.pt 80 0 0),(6,ints F),(7,.I d),(22,.B (decide (0 < F.length)))],[(80,some ⟨1,[[.rs 72 0 N]],0⟩),(72,some ⟨1,zah (outL g S d),0⟩)],168⟩ rfl ?_ ?_
 ·simp
  exact Le.keep rfl (Nat.le_refl _) (by simp <;> rw [Bool.eq_iff_iff] <;> simp) (by simp)
 refine zac _ rfl (fun h=>zae ?_) fun h=>zam (hit ?_)
 ·simp only [decide_eq_true_eq] at h
  have hdlt : (d : Int) < g.size:=by
   have:=hFm F[0]
   have h1:=(this.1 (List.getElem_mem _))
   exact zq0 hg h1.1 h1.2
  refine zaL (ι:=List Int) (fun F'=>⟨50,[(2,.pv (gC g)),(5,.pt 80 0 0),(6,ints F'),(7,.I d)],[(80,some ⟨1,[[.rs 72 0 N]],0⟩),(72,some ⟨1,zah (outL g S (d + 1)),0⟩)],144⟩) (fun F'=>F'.length ≤ 500 ∧ ∀ x,x ∈ F' ↔ Key g x ∧ dl g S (d + 1) x = (d + 1 : Nat)) ?_ ?_
  ·refine zaf ?_
   refine zaa ⟨50,[(2,.pv (gC g)),(5,.pt 80 0 0),(6,ints F),(7,.I d),(8,.nilS)],[(80,some ⟨1,[[.rs 72 0 N]],0⟩),(72,some ⟨1,zah (outL g S d),0⟩)],176⟩ rfl ?_ ?_
   ·simp
    exact Le.keep rfl (Nat.le_refl _) (by simp) (by simp)
   rw [← zm2]
   refine zab ?_
   refine zab ?_
   refine zad (s:=?s2) rfl ?o2 ?q2
   case o2=>simp; rfl
   refine zaf ?_
   let C : Nat × List Int → St:=fun p=>⟨50,[(2,.pv (gC g)),(5,.pt 80 0 0),(7,.I d),(8,.rs 16 0 p.2.length),(25,ints F),(26,.I F.length),(27,.I p.1)],[(80,some ⟨1,[[.rs 72 0 N]],0⟩),(72,some ⟨1,zah (outP g S d (F.take p.1)),0⟩),(16,some ⟨1,zah p.2,0⟩)],200⟩
   refine zao C (fun p : Nat × List Int=>p.1 ≤ F.length ∧ (∀ t,t ∈ p.2 ↔ ∃ x ∈ F.take p.1,t ∈ outs g.edges x) ∧ p.2.length = g.edges.countP fun e=>decide (e.f ∈ F.take p.1)) (fun p : Nat × List Int=>F.length - p.1) (0,[]) ⟨Nat.zero_le _,by simp,by simp⟩ ?_ ?_
   ·refine Le.lst [(80,80),(72,72)] [] [(16,1)] rfl (by simp) (by simp) (by simp [C]) (by simp [C]) (by simp) (by simp) (by simp) (by simp [C,Up]) fun p hp e' he'=>?_
    simp [C] at hp
    rcases hp with rfl | rfl | rfl
    ·cases he'
     exact .inl ⟨(80,80),by simp,rfl,_,rfl,zaH.eq (by simp) (by simp)⟩
    ·cases he'
     exact .inl ⟨(72,72),by simp,rfl,_,rfl,zaH.eq (by simp [fcd,zm2]) (by simp)⟩
    ·cases he'
     exact .inr ⟨by simp,by simp,rfl⟩
   rintro ⟨i,X⟩ ⟨hi,hXm,hXl⟩
   simp only at hi hXm hXl ⊢
   have hXle : X.length ≤ 500:=by rw [hXl]; exact Nat.le_trans List.countP_le_length h500
   have hC : C (i,X) = ⟨50,[(2,.pv (gC g)),(5,.pt 80 0 0),(7,.I d),(8,.rs 16 0 X.length),(25,ints F),(26,.I F.length),(27,.I i)],[(80,some ⟨1,[[.rs 72 0 N]],0⟩),(72,some ⟨1,zah (outP g S d (F.take i)),0⟩),(16,some ⟨1,zah X,0⟩)],200⟩:=rfl
   rw [hC]
   refine zaa ⟨50,[(2,.pv (gC g)),(5,.pt 80 0 0),(7,.I d),(8,.rs 16 0 X.length),(25,ints F),(26,.I F.length),(27,.I i),(28,.B (decide (i < F.length)))],[(80,some ⟨1,[[.rs 72 0 N]],0⟩),(72,some ⟨1,zah (outP g S d (F.take i)),0⟩),(16,some ⟨1,zah X,0⟩)],208⟩ rfl ?_ ?_
   ·simp
    exact Le.keep rfl (Nat.le_refl _) (by simp) (by simp)
   refine zab ?_
   refine zac _ rfl (fun h2=>zae ?_) fun h2=>zam (hit ?_)
   ·simp only [decide_eq_true_eq] at h2
    have hx:=(hFm F[i]).1 (List.getElem_mem h2)
    obtain ⟨k,hk⟩ : ∃ k : Nat,F[i] = k:=⟨F[i].toNat,by have:=hx.1.1; omega⟩
    have hkN : k < g.size.toNat:=by have:=hx.1.2; omega
    have hkd : dl g S d k = d:=by rw [← hk]; exact hx.2
    have hmt:=zmN h2
    rw [hk] at hmt
    refine zaL (ι:=List Int) (fun X'=>⟨50,[(2,.pv (gC g)),(5,.pt 80 0 0),(7,.I d),(8,.rs 16 0 X'.length),(25,ints F),(26,.I F.length),(27,.I i)],[(80,some ⟨1,[[.rs 72 0 N]],0⟩),(72,some ⟨1,zah (outP g S d (F.take (i + 1))),0⟩),(16,some ⟨1,zah X',0⟩)],200⟩) (fun X'=>(∀ t,t ∈ X' ↔ ∃ x ∈ F.take (i + 1),t ∈ outs g.edges x) ∧ X'.length = g.edges.countP fun e=>decide (e.f ∈ F.take (i + 1))) ?_ ?_
    ·have hOlen : (outP g S d (F.take i)).length = N:=by rw [zhY,hN]
     have hOget:=zuu (g:=g) (S:=S) (d:=d) (F:=F.take i) hkN hkd
     have hOset0 : zah ((outP g S d (F.take i)).set k d) = zah (outP g S d (F.take (i + 1))):=by
      rw [zun hkN hkd]
      congr 1
      exact zqE fun x=>(hmt x).symm
     have hOset : (zah (outP g S d (F.take i))).set k [AV.I d] = zah (outP g S d (F.take (i + 1))):=by
      rw [← hOset0,zah,zah,List.map_set]
     clear hOset0
     have hrow : (zah (outP g S d (F.take i)))[k]? = some [AV.I (if (k : Int) ∈ F.take i then (d : Int) else -1)]:=by
      rw [List.getElem?_map,List.getElem?_eq_getElem (by omega),hOget]
      rfl
     have hOl : (zah (outP g S d (F.take i))).length = N:=by simp [hOlen]
     generalize hO : zah (outP g S d (F.take i)) = O at *
     refine zaf ?_
     refine zaa ⟨50,[(2,.pv (gC g)),(5,.pt 80 0 0),(7,.I d),(8,.rs 16 0 X.length),(25,ints F),(26,.I F.length),(27,.I i),(10,.I k)],[(80,some ⟨1,[[.rs 72 0 N]],0⟩),(72,some ⟨1,O,0⟩),(16,some ⟨1,zah X,0⟩)],232⟩ rfl ?_ ?_
     ·simp [h2,hk]
      exact Le.keep rfl (Nat.le_refl _) (by simp) (by simp)
     refine zab ?_
     refine zaa ⟨50,[(2,.pv (gC g)),(5,.pt 80 0 0),(7,.I d),(8,.rs 16 0 X.length),(25,ints F),(26,.I F.length),(27,.I i),(10,.I k),(35,.B (decide ((k : Int) ∈ F.take i)))],[(80,some ⟨1,[[.rs 72 0 N]],0⟩),(72,some ⟨1,O,0⟩),(16,some ⟨1,zah X,0⟩)],272⟩ rfl ?_ ?_
     ·simp [hrow,show k < N by omega]
      refine Le.keep rfl (Nat.le_refl _) ?_ (by simp)
      by_cases hin : (k : Int) ∈ F.take i <;> simp [hin]
     refine zac _ rfl (fun h3=>zam (hit ?_)) fun h3=>zae ?_
     ·simp only [decide_eq_true_eq] at h3
      have hsame : ∀ x,x ∈ F.take (i + 1) ↔ x ∈ F.take i:=by
       intro x
       rw [hmt x]
       simp
       rintro rfl
       exact h3
      refine ⟨X,⟨fun t=>?_,?_⟩,?_⟩
      ·rw [hXm]
       simp only [hsame]
      ·rw [hXl]
       simp only [hsame]
      ·rw [zqE hsame,hO]
       refine Le.ents [(80,80),(72,72),(16,16)] [] rfl (by simp) (by simp) (by simp) (by simp) (by simp) (by simp) fun p hp=>?_
       simp at hp
       rcases hp with rfl | rfl | rfl
       ·exact ⟨80,_,_,rfl,by simp,rfl,zaH.eq (by simp) (by simp)⟩
       ·exact ⟨72,_,_,rfl,by simp,rfl,zaH.eq (by rw [← hO]; simp [fcd]) (by simp)⟩
       ·exact ⟨16,_,_,rfl,by simp,rfl,zaH.eq (by simp [fcd]) (by simp)⟩
     simp only [decide_eq_false_iff_not] at h3
     refine zaa ⟨50,[(2,.pv (gC g)),(5,.pt 80 0 0),(7,.I d),(8,.rs 16 0 X.length),(25,ints F),(26,.I F.length),(27,.I i),(10,.I k)],[(80,some ⟨1,[[.rs 72 0 N]],0⟩),(72,some ⟨1,zah (outP g S d (F.take (i + 1))),0⟩),(16,some ⟨1,zah X,0⟩)],312⟩ rfl ?_ ?_
     ·simp [hrow,show k < N by omega,zau]
      exact Le.keep rfl (Nat.le_refl _) (by simp) (by simp; exact hOset)
     have hcount:=zrS (l:=g.edges) h3
     have hol:=zp3 g.edges k
     refine zar rfl ?_
     simp
     refine zaW (zoM g k (by omega)) rfl ?_
     simp [fcd]
     have hcm : (fun e : Ed=>decide (e.f ∈ F.take (i + 1))) = fun e : Ed=>decide (e.f ∈ F.take i ++ [(k : Int)]):=by
      funext e
      simp only [hmt]
     refine ⟨by omega,by omega,X ++ zgA (outs g.edges k),⟨fun t=>?_,?_⟩,?_⟩
     ·rw [List.mem_append,zru,hXm]
      simp only [hmt,List.mem_append,List.mem_singleton]
      constructor
      ·rintro (⟨x,hx,ht⟩ | ht)
       ·exact ⟨x,.inl hx,ht⟩
       ·exact ⟨k,.inr rfl,ht⟩
      ·rintro ⟨x,hx | rfl,ht⟩
       ·exact .inl ⟨x,hx,ht⟩
       ·exact .inr ht
     ·rw [List.length_append,zi2,hXl,hcm,hcount]
     ·have e1 : List.take X.length (zah X) = zah X:=List.take_of_length_le (by simp)
      have e2 : List.take (outs g.edges k).length (zah (zgA (outs g.edges k))) = zah (zgA (outs g.edges k)):=List.take_of_length_le (by rw [zah,List.length_map,zi2]; exact Nat.le_refl _)
      have e3 : (X ++ zgA (outs g.edges k)).length = X.length + (outs g.edges k).length:=by rw [List.length_append,zi2]
      rw [e1,e3]
      refine Le.ents [(80,80),(72,72),(344,16)] [] rfl (by simp) (by simp) (by simp) (by simp) (by simp) (by simp) fun p hp=>?_
      simp at hp
      rcases hp with rfl | rfl | rfl
      ·exact ⟨80,_,_,rfl,by simp,rfl,zaH.eq (by simp) (by simp)⟩
      ·exact ⟨72,_,_,rfl,by simp,rfl,zaH.eq (by simp [fcd]) (by simp)⟩
      ·refine ⟨344,_,_,rfl,by simp,rfl,zaH.eq ?_ (by simp)⟩
       have e4 : zah X ++ List.take (outs g.edges k).length (zah (zgA (outs g.edges k))) = zah X ++ zah (zgA (outs g.edges k)):=by rw [e2]
       have e5 : (⟨1,zah X ++ List.take (outs g.edges k).length (zah (zgA (outs g.edges k))),0⟩ : Ent) = ⟨1,zah X ++ zah (zgA (outs g.edges k)),0⟩:=by rw [e4]
       refine (congrArg _ e5).trans ?_
       simp [fcd]
    rintro X' ⟨k1,k2⟩
    have hwi : IntKind.i64.wrap ((i : Int) + 1) = ((i + 1 : Nat) : Int):=by rw [w64 (by omega) (by omega)]; omega
    refine zar rfl ?_
    simp [hwi]
    refine ⟨i + 1,X',⟨by omega,k1,k2⟩,by omega,Le.ents [(80,80),(72,72),(16,16)] [] rfl (by simp) (by simp) (by simp [C]) (by simp) (by simp [C]) (by simp [C]) fun p hp=>?_⟩
    simp [C] at hp
    rcases hp with rfl | rfl | rfl
    ·exact ⟨80,_,_,rfl,by simp,rfl,zaH.eq (by simp) (by simp)⟩
    ·exact ⟨72,_,_,rfl,by simp,rfl,zaH.eq (by simp [fcd]) (by simp)⟩
    ·exact ⟨16,_,_,rfl,by simp,rfl,zaH.eq (by simp [fcd]) (by simp)⟩
   simp only [decide_eq_false_iff_not] at h2
   obtain rfl : i = F.length:=by omega
   rw [List.take_of_length_le (Nat.le_refl _)] at hXm hXl ⊢
   rw [zsC d F hFm]
   obtain ⟨F',hF'⟩ : ∃ F',F' = X.filter fun e=>!offQ (outL g S (d + 1)) e:=⟨_,rfl⟩
   have hF'l : F'.length ≤ X.length:=by rw [hF']; exact List.length_filter_le _ _
   have hDl:=zqZ g S (d + 1)
   have hdel:=zgZ zcw [.pv [ints (outL g S (d + 1))]] (offQ (outL g S (d + 1))) X X.length F'.length rfl (by rw [hF']) (by omega) (fun ρ sn h n=>by simp) (fun e _=>zs5 (outL g S (d + 1)) e (by rw [hDl]; omega))
   rw [← hF'] at hdel
   have htk : List.take N (zah (outL g S (d + 1))) = zah (outL g S (d + 1)):=List.take_of_length_le (by rw [zah,List.length_map,hDl]; omega)
   have hle : N ≤ (zah (outL g S (d + 1))).length:=by rw [zah,List.length_map,hDl]; omega
   have hnf:=fun x=>zrZ hg hFm hXm x
   rw [← hF'] at hnf
   generalize hO : outL g S (d + 1) = O at *
   refine zar rfl ?_
   simp
   refine zvg (i:=16) [80,72] (by simp) rfl (e':=⟨1,zah X,0⟩) (by simp [fcd]) hdel (by simp) ?_ (.rs _ _ _) (by
    intro e he
    simp at he
    subst he
    exact zqs) ?_
   ·have hle2 : N ≤ O.length:=by simpa using hle
    have htk2 : List.take N (List.map (fun x=>[AV.I x]) O) = List.map (fun x=>[AV.I x]) O:=htk
    simp [fcd,hle2,htk2]
   simp [fcd]
   refine ⟨F',⟨by omega,hnf⟩,?_⟩
   rw [zm2,hO]
   exact Le.dn N 80 72 80 72 [16] rfl rfl (by simp) (by simp) (by decide) (by decide) (by simp) rfl rfl (by simp [fcd]) (by simp [fcd,zap])
  rintro F' ⟨k1,k2⟩
  have hwd : IntKind.i64.wrap ((d : Int) + 1) = ((d + 1 : Nat) : Int):=by rw [w64 (by omega) (by omega)]; omega
  refine zar rfl ?_
  simp [hwd]
  exact ⟨d + 1,F',⟨by omega,k1,k2⟩,by omega,Le.dn N 80 72 80 72 [] rfl rfl (by simp) (by simp) (by decide) (by decide) (by simp) rfl rfl (by simp [fcd]) (by simp)⟩
 simp only [decide_eq_false_iff_not] at h
 have hnil : F = []:=List.eq_nil_of_length_eq_zero (by omega)
 have hstop : ∀ k,Key g k → dl g S d k ≠ d:=by
  intro k hk he
  have:=(hFm k).2 ⟨hk,he⟩
  rw [hnil] at this
  simp at this
 have hout : outL g S d = zbJ g S:=by
  unfold outL zbJ
  refine List.map_congr_left fun i hi=>?_
  simp at hi
  have hkey : Key g i:=⟨by omega,by omega⟩
  rw [zoe hg hstop i hkey]
  have hr:=zbK (g:=g) (S:=S) d i
  have:=hstop i hkey
  rw [zoe hg hstop i hkey] at this hr
  split <;> omega
 rw [hout]
 refine zab ?_
 refine zad (s:=?z9) rfl ?p9 ?r9
 case p9=>simp; rfl
 refine zag ?_
 rw [← hN]
 exact ⟨.inr rfl,zak.out [72] [] rfl (by simp) (by simp) (by simp) (by simp [fcd])⟩
def dP (g : Gr) (S : List Int) (n i : Nat) (k : Int) : Int:=if 0 ≤ dl g S n k then dl g S n k else if (g.edges.take i).any (fun e=>decide (e.t = k) && decide (dl g S n e.f = n)) = true then (n : Int) + 1 else -1
variable {g : Gr} {S : List Int}
theorem zpz (n : Nat) (k : Int) : dP g S n 0 k = dl g S n k:=by
 unfold dP
 have:=zbK (g:=g) (S:=S) n k
 split
 ·rfl
 ·simp; omega
theorem zvW (n : Nat) (k : Int) : dP g S n g.edges.length k = dl g S (n + 1) k:=by
 unfold dP
 rw [List.take_of_length_le (Nat.le_refl _),dl]
theorem zxy (n i : Nat) (k : Int) : dP g S n i k = n ↔ dl g S n k = n:=by
 unfold dP
 have:=zbK (g:=g) (S:=S) n k
 split
 ·exact Iff.rfl
 ·split <;> omega
theorem ztv (n i : Nat) (hi : i < g.edges.length) (k : Int) : dP g S n (i + 1) k = if dl g S n g.edges[i].f = n ∧ dP g S n i g.edges[i].t = -1 ∧ k = g.edges[i].t then (n : Int) + 1 else dP g S n i k:=by
 have hany : ∀ k,(g.edges.take (i + 1)).any (fun e=>decide (e.t = k) && decide (dl g S n e.f = n)) = ((g.edges.take i).any (fun e=>decide (e.t = k) && decide (dl g S n e.f = n)) || (decide (g.edges[i].t = k) && decide (dl g S n g.edges[i].f = n))):=by
  intro k
  rw [← List.take_concat_get hi,List.concat_eq_append,List.any_append]
  simp
 unfold dP
 rw [hany]
 by_cases h1 : dl g S n g.edges[i].f = n
 ·by_cases h2 : k = g.edges[i].t
  ·subst h2
   simp only [h1,decide_true,Bool.and_self,Bool.or_true,if_true,and_true,true_and]
   have:=zbK (g:=g) (S:=S) n g.edges[i].t
   by_cases h3 : 0 ≤ dl g S n g.edges[i].t
   ·simp only [h3,if_true]
    rw [if_neg (by omega)]
   ·simp only [h3,if_false]
    split <;> simp
  ·have h3 : decide (g.edges[i].t = k) = false:=by simpa using fun h=>h2 h.symm
   simp only [h3,h2,Bool.false_and,Bool.or_false,and_false,if_false]
 ·simp only [h1,decide_false,Bool.and_false,Bool.or_false,false_and,if_false]
def zeQ (g : Gr) (S : List Int) (k : Nat) : List Int:=(List.range k).map fun (i : Nat)=>dl g S 0 (i : Int)
def midL (g : Gr) (S : List Int) (n i : Nat) : List Int:=(List.range g.size.toNat).map fun (k : Nat)=>dP g S n i (k : Int)
theorem zjO (n i : Nat) : (midL g S n i).length = g.size.toNat:=by simp [midL]
theorem zro : midL g S 0 0 = zeQ g S g.size.toNat:=by unfold midL zeQ; simp only [zpz]
theorem ztG (n : Nat) : midL g S n g.edges.length = midL g S (n + 1) 0:=by unfold midL; simp only [zvW,zpz]
theorem zsG : midL g S g.size.toNat 0 = zbJ g S:=by unfold midL zbJ dist; simp only [zpz]
theorem zqT (n i : Nat) {k : Nat} (hk : k < g.size.toNat) : (zah (midL g S n i))[k]? = some [AV.I (dP g S n i k)]:=by
 simp [midL,hk]
theorem zsU (n i : Nat) (hi : i < g.edges.length) (h : ¬ (dl g S n g.edges[i].f = n ∧ dP g S n i g.edges[i].t = -1)) : midL g S n (i + 1) = midL g S n i:=by
 unfold midL
 refine List.map_congr_left fun k _=>?_
 rw [ztv n i hi,if_neg]
 rintro ⟨h1,h2,_⟩
 exact h ⟨h1,h2⟩
theorem ztY (n i : Nat) (hi : i < g.edges.length) {k : Nat} (hk : g.edges[i].t = k) (hkN : k < g.size.toNat) (h1 : dl g S n g.edges[i].f = n) (h2 : dP g S n i g.edges[i].t = -1) : (zah (midL g S n i)).set k [AV.I ((n : Int) + 1)] = zah (midL g S n (i + 1)):=by
 have e : (midL g S n i).set k ((n : Int) + 1) = midL g S n (i + 1):=by
  apply List.ext_getElem?
  intro j
  by_cases hj : j < g.size.toNat
  ·have e1 : (midL g S n (i + 1))[j]? = some (dP g S n (i + 1) j):=by simp [midL,hj]
   have e2 : (midL g S n i)[j]? = some (dP g S n i j):=by simp [midL,hj]
   rw [List.getElem?_set,e1,e2,ztv n i hi,zjO]
   by_cases hkj : k = j
   ·subst hkj
    rw [if_pos rfl,if_pos hkN,if_pos ⟨h1,h2,hk.symm⟩]
   ·rw [if_neg hkj,if_neg]
    rintro ⟨_,_,h3⟩
    rw [hk] at h3
    omega
  ·rw [List.getElem?_eq_none (by rw [List.length_set,zjO]; omega),List.getElem?_eq_none (by rw [zjO]; omega)]
 rw [← e,zah,zah,List.map_set]
theorem zqv (k : Nat) : zeQ g S (k + 1) = zeQ g S k ++ [dl g S 0 k]:=by
 unfold zeQ
 rw [List.range_succ,List.map_append]
 rfl
theorem Le.l1 {st st' : St} {D : List Int} (i j : Nat) (sn : List Nat) (hsz : st'.sz = st.sz) (hh : st'.h = [(j,some ⟨1,zah D,0⟩)]) (hj : j < st'.n) (hs : ∀ k ∈ sn,k ≠ i) (he : st.hp i = some ⟨1,zah D,0⟩) (ht : ∀ p ∈ st'.t,Wk (conv [(i,j)] sn st.hp 4 (st.get p.1)) p.2) : Le 0 st st' :=
 zi3 hsz hh hj hs he (by simp [fcd]) (by simp) ht
set_option maxHeartbeats 4000000 in
set_option maxRecDepth 100000 in
theorem zgb (g : Gr) (S : List Int) (hg : GrOk g) (hS : S.length ≤ 1099511627776) : zai Tryz.prog zfa [eG g,ints S] [] (.rs 0 0 g.size.toNat) [some ⟨1,zah (zbJ g S),0⟩]:=by
 refine zrX.acalls (nbz rfl) (nbz rfl) (Nat.zero_le _) ?_
 show awp _ 0 _ _ ⟨72,[(0,eG g),(1,ints S)],[],16⟩
 have hsz:=hg.1.1
 have hsz2:=hg.1.2.1
 have h500:=hg.1.2.2.1
 have hgone : g.gone.length ≤ 1000000:=Nat.le_trans hg.gone_le (by omega)
 obtain ⟨N,hN⟩ : ∃ N : Nat,N = g.size.toNat:=⟨_,rfl⟩
 refine zaa ⟨72,[(1,ints S),(2,.pv (gC g))],[],32⟩ rfl ?_ ?_
 ·simp
  exact Le.snap [16] rfl rfl (by simp)
 refine zab ?_
 refine zad (s:=?s1) rfl ?o1 ?q1
 case o1=>simp; rfl
 refine zab ?_
 refine zab ?_
 refine zad (s:=?s2) rfl ?o2 ?q2
 case o2=>simp; rfl
 refine zaf ?_
 let C : Nat → St:=fun k=>⟨72,[(1,ints S),(2,.pv (gC g)),(5,.rs 16 0 k),(6,.I k)],[(16,some ⟨1,zah (zeQ g S k),0⟩)],48⟩
 refine zao C (fun k=>k ≤ N) (fun k=>N - k) 0 (Nat.zero_le _) (Le.lst [] [] [(16,1)] rfl (by simp) (by simp) (by simp) (by simp [C]) (by simp) (by simp) (by simp) (by simp [C,Up]) (by simp [C,zeQ])) ?_
 intro k hk
 have hCk : C k = ⟨72,[(1,ints S),(2,.pv (gC g)),(5,.rs 16 0 k),(6,.I k)],[(16,some ⟨1,zah (zeQ g S k),0⟩)],48⟩:=rfl
 rw [hCk]
 refine zab ?_
 refine zaa ⟨72,[(1,ints S),(2,.pv (gC g)),(5,.rs 16 0 k),(6,.I k),(13,.B (decide ((k : Int) < g.size)))],[(16,some ⟨1,zah (zeQ g S k),0⟩)],80⟩ rfl ?_ ?_
 ·simp
  exact Le.keep rfl (Nat.le_refl _) (by simp) (by simp)
 refine zac _ rfl (fun h=>zae ?_) fun h=>zam (hit ?_)
 ·simp only [decide_eq_true_eq] at h
  refine zaL (ι:=Unit) (fun _=>⟨72,[(1,ints S),(2,.pv (gC g)),(5,.rs 16 0 (k + 1)),(6,.I k)],[(16,some ⟨1,zah (zeQ g S (k + 1)),0⟩)],48⟩) (fun _=>True) ?_ fun _ _=>?_
  ·rw [zqv]
   have hAl : (zeQ g S k).length = k:=by simp [zeQ]
   generalize zeQ g S k = A at *
   refine zaf ?_
   refine zaa ⟨72,[(1,ints S),(2,.pv (gC g)),(5,.rs 96 0 (k + 1)),(6,.I k)],[(96,some ⟨1,zah A ++ [[.I (-1)]],0⟩)],112⟩ rfl ?_ ?_
   ·simp [List.replicate,hAl]
    refine ⟨by omega,by omega,?_⟩
    have e1 : List.take k (zah A) = zah A:=List.take_of_length_le (by simp [hAl])
    exact zi3 (i:=96) (sn:=[]) rfl rfl (by simp) (by simp) rfl (by rw [e1]; simp [fcd]) (by simp) (by simp)
   refine zaa ⟨72,[(1,ints S),(2,.pv (gC g)),(5,.rs 96 0 (k + 1)),(6,.I k),(28,.B (zfQ g S k))],[(96,some ⟨1,zah A ++ [[.I (-1)]],0⟩)],192⟩ rfl ?_ ?_
   ·simp
    refine zdW zaS rfl ?_
    refine zaj (zl2 S k (by omega)) rfl ?_
    simp
    refine zb1 (fun hb=>?_) (fun hb=>?_)
    ·simp [hb]
     refine zdW zaS rfl ?_
     refine zaj (zl2 g.gone k (by omega)) rfl ?_
     simp [hb]
     exact zi3 (i:=96) (sn:=[]) rfl rfl (by simp) (by simp) rfl (by simp [fcd]) (by simp) (by simp [zfQ] <;> exact wkB (by simp_all))
    ·simp [hb]
     exact zi3 (i:=96) (sn:=[]) rfl rfl (by simp) (by simp) rfl (by simp [fcd]) (by simp) (by simp [zfQ] <;> exact wkB (by simp_all))
   refine zac _ rfl (fun h5=>?_) fun h5=>zae ?_
   ·have h0 : dl g S 0 k = 0:=by rw [dl,if_pos h5]
    rw [h0]
    refine zar rfl ?_
    have hset : (zah A ++ [[AV.I (-1)]]).set k [AV.I 0] = zah A ++ [[AV.I 0]]:=by
     rw [List.set_append,if_neg (by simp [hAl])]
     simp [hAl]
    have hget : (zah A ++ [[AV.I (-1)]])[k]? = some [AV.I (-1)]:=by
     rw [List.getElem?_append_right (by simp [hAl])]
     simp [hAl]
    simp [hget,zau,hset]
    refine ⟨by omega,zi3 (i:=96) (sn:=[]) rfl rfl (by simp) (by simp) rfl (by simp [fcd]) (by simp) (by simp)⟩
   ·have h0 : dl g S 0 k = -1:=by rw [dl,if_neg (by simp [h5])]
    rw [h0]
    exact ⟨(),trivial,zi3 (i:=96) (sn:=[]) rfl rfl (by simp) (by simp) rfl (by simp [fcd]) (by simp) (by simp)⟩
  have hwk : IntKind.i64.wrap ((k : Int) + 1) = ((k + 1 : Nat) : Int):=by rw [w64 (by omega) (by omega)]; omega
  refine zar rfl ?_
  simp [hwk]
  exact ⟨k + 1,by omega,by omega,Le.l1 16 16 [] rfl rfl (by simp [C]) (by simp) rfl (by simp [C])⟩
 simp only [decide_eq_false_iff_not] at h
 obtain rfl : k = N:=by omega
 have hf : zeQ g S k = midL g S 0 0:=by rw [zro,hN]
 rw [hf]
 refine zab ?_
 refine zaa ⟨72,[(2,.pv (gC g)),(5,.rs 16 0 k),(7,.I 0)],[(16,some ⟨1,zah (midL g S 0 0),0⟩)],88⟩ rfl ?_ ?_
 ·simp
  exact Le.keep rfl (Nat.le_refl _) (by simp) (by simp)
 refine zaf ?_
 refine zao (ι:=Nat) (fun n=>⟨72,[(2,.pv (gC g)),(5,.rs 16 0 k),(7,.I n)],[(16,some ⟨1,zah (midL g S n 0),0⟩)],88⟩) (fun n=>n ≤ k) (fun n=>k - n) 0 (Nat.zero_le _) (Le.refl _ _) ?_
 intro n hn
 refine zab ?_
 refine zaa ⟨72,[(2,.pv (gC g)),(5,.rs 16 0 k),(7,.I n),(35,.B (decide ((n : Int) < g.size)))],[(16,some ⟨1,zah (midL g S n 0),0⟩)],120⟩ rfl ?_ ?_
 ·simp
  exact Le.keep rfl (Nat.le_refl _) (by simp) (by simp)
 refine zac _ rfl (fun h=>zae ?_) fun h=>zam (hit ?_)
 ·simp only [decide_eq_true_eq] at h
  refine zaL (ι:=Unit) (fun _=>⟨72,[(2,.pv (gC g)),(5,.rs 16 0 k),(7,.I n)],[(16,some ⟨1,zah (midL g S (n + 1) 0),0⟩)],88⟩) (fun _=>True) ?_ fun _ _=>?_
  ·rw [← ztG]
   refine zaf ?_
   refine zaa ⟨72,[(2,.pv (gC g)),(5,.rs 16 0 k),(7,.I n),(8,.I 0)],[(16,some ⟨1,zah (midL g S n 0),0⟩)],128⟩ rfl ?_ ?_
   ·simp
    exact Le.keep rfl (Nat.le_refl _) (by simp) (by simp)
   refine zaf ?_
   refine zao (ι:=Nat) (fun i=>⟨72,[(2,.pv (gC g)),(5,.rs 16 0 k),(7,.I n),(8,.I i)],[(16,some ⟨1,zah (midL g S n i),0⟩)],128⟩) (fun i=>i ≤ g.edges.length) (fun i=>g.edges.length - i) 0 (Nat.zero_le _) (Le.refl _ _) ?_
   intro i hi
   refine zab ?_
   refine zaa ⟨72,[(2,.pv (gC g)),(5,.rs 16 0 k),(7,.I n),(8,.I i),(42,.B (decide (i < g.edges.length)))],[(16,some ⟨1,zah (midL g S n i),0⟩)],168⟩ rfl ?_ ?_
   ·simp
    exact Le.keep rfl (Nat.le_refl _) (by simp) (by simp)
   refine zac _ rfl (fun h2=>zae ?_) fun h2=>zam (hit ?_)
   ·simp only [decide_eq_true_eq] at h2
    refine zaL (ι:=Unit) (fun _=>⟨72,[(2,.pv (gC g)),(5,.rs 16 0 k),(7,.I n),(8,.I i)],[(16,some ⟨1,zah (midL g S n (i + 1)),0⟩)],128⟩) (fun _=>True) ?_ fun _ _=>?_
    ·have hfit:=hg.fits g.edges[i] (List.getElem_mem h2)
     obtain ⟨a,ha⟩ : ∃ a : Nat,g.edges[i].f = a:=⟨g.edges[i].f.toNat,by have:=hfit.1; omega⟩
     obtain ⟨b,hb⟩ : ∃ b : Nat,g.edges[i].t = b:=⟨g.edges[i].t.toNat,by have:=hfit.2.2.1; omega⟩
     have haN : a < g.size.toNat:=by have:=hfit.2.1; omega
     have hbN : b < g.size.toNat:=by have:=hfit.2.2.2.1; omega
     have hga:=zqT (g:=g) (S:=S) n i haN
     have hgb:=zqT (g:=g) (S:=S) n i hbN
     have hml : (zah (midL g S n i)).length = k:=by rw [zah,List.length_map,zjO,hN]
     have hsame:=zsU (S:=S) n i h2
     have hset:=ztY (S:=S) n i h2 hb hbN
     rw [ha] at hsame hset
     rw [hb] at hsame hset
     have hdat:=zxy (g:=g) (S:=S) n i a
     generalize hD1 : dP g S n i a = va at *
     generalize hD2 : dP g S n i b = vb at *
     generalize hM : zah (midL g S n i) = M at *
     have hwn : IntKind.i64.wrap ((n : Int) + 1) = (n : Int) + 1:=w64 (by omega) (by omega)
     refine zaf ?_
     refine zaa ⟨72,[(2,.pv (gC g)),(5,.rs 16 0 k),(7,.I n),(8,.I i),(9,.pv (eC g.edges[i]))],[(16,some ⟨1,M,0⟩)],128⟩ rfl ?_ ?_
     ·simp [h2]
      exact zi3 (i:=16) (sn:=[208]) rfl rfl (by simp) (by simp) rfl (by rw [← hM]; simp [fcd]) (by simp) (by simp)
     refine zaa ⟨72,[(2,.pv (gC g)),(5,.rs 16 0 k),(7,.I n),(8,.I i),(9,.pv (eC g.edges[i])),(64,.B (decide (va = n ∧ vb = -1)))],[(16,some ⟨1,M,0⟩)],248⟩ rfl ?_ ?_
     ·simp [ha,hb,hga,hgb,show a < k by omega,show b < k by omega]
      refine zb1 (fun hx=>?_) (fun hx=>?_)
      ·simp [hx,ha,hb,hga,hgb,show a < k by omega,show b < k by omega]
       refine Le.keep rfl (Nat.le_refl _) (by simp <;> simp_all <;> rw [Bool.eq_iff_iff] <;> simp) (by simp)
      ·simp [hx]
       refine Le.keep rfl (Nat.le_refl _) (by simp <;> simp_all) (by simp)
     refine zac _ rfl (fun h5=>?_) fun h5=>zae ?_
     ·simp only [decide_eq_true_eq] at h5
      have hs2:=hset (hdat.1 h5.1) h5.2
      refine zar rfl ?_
      simp [ha,hb,hgb,show b < k by omega,zau,hwn,hs2]
      exact Le.l1 16 16 [] rfl rfl (by simp) (by simp) rfl (by simp)
     ·simp only [decide_eq_false_iff_not] at h5
      rw [hsame (fun hq=>h5 ⟨hdat.2 hq.1,hq.2⟩),hM]
      exact ⟨(),trivial,zi3 (i:=16) (sn:=[]) rfl rfl (by simp) (by simp) rfl (by rw [← hM]; simp [fcd]) (by simp) (by simp)⟩
    have hwi : IntKind.i64.wrap ((i : Int) + 1) = ((i + 1 : Nat) : Int):=by rw [w64 (by omega) (by omega)]; omega
    refine zar rfl ?_
    simp [hwi]
    exact ⟨i + 1,by omega,by omega,Le.l1 16 16 [] rfl rfl (by simp) (by simp) rfl (by simp)⟩
   simp only [decide_eq_false_iff_not] at h2
   obtain rfl : i = g.edges.length:=by omega
   exact ⟨(),trivial,Le.l1 16 16 [] rfl rfl (by simp) (by simp) rfl (by simp)⟩
  have hwn : IntKind.i64.wrap ((n : Int) + 1) = ((n + 1 : Nat) : Int):=by rw [w64 (by omega) (by omega)]; omega
  refine zar rfl ?_
  simp [hwn]
  exact ⟨n + 1,by omega,by omega,Le.l1 16 16 [] rfl rfl (by simp) (by simp) rfl (by simp)⟩
 simp only [decide_eq_false_iff_not] at h
 obtain rfl : n = k:=by omega
 rw [hN,zsG,← hN]
 refine zab ?_
 refine zad (s:=?z9) rfl ?p9 ?r9
 case p9=>simp; rfl
 refine zag ?_
 exact ⟨.inr rfl,zak.out [16] [] rfl (by simp) (by simp) (by simp) (by simp [fcd])⟩
def zdc (c : Int → Int → Int) : List Int → Int → List Int
 | [],x=>[x]
 | y :: r,x=>if c x y < 0 then y :: zdc c r x else x :: y :: r
def zcy (c : Int → Int → Int) (M : List Int) : List Int:=M.foldl (zdc c) []
def zgX (c : Int → Int → Int) (M : List Int) : List Int:=(zcy c M).reverse
theorem zfu (c : Int → Int → Int) : ∀ (r : List Int) (x : Int),(zdc c r x).Perm (x :: r)
 | [],x=>.refl _
 | y :: r,x=>by
   unfold zdc
   split
   ·exact ((zfu c r x).cons y).trans (.swap _ _ _)
   ·exact .refl _
theorem zmq (c : Int → Int → Int) (M : List Int) (k : Nat) (h : k < M.length) : zcy c (M.take (k + 1)) = zdc c (zcy c (M.take k)) M[k]:=by
 unfold zcy
 rw [← List.take_concat_get h,List.concat_eq_append,List.foldl_append]
 rfl
theorem zfG (c : Int → Int → Int) (M : List Int) : (zcy c M).Perm M:=by
 have key : ∀ (M acc : List Int),(M.foldl (zdc c) acc).Perm (M ++ acc):=by
  intro M
  induction M with
  | nil=>intro acc; exact .refl _
  | cons x M ih =>
    intro acc
    refine (ih _).trans ?_
    refine ((zfu c acc x).append_left M).trans ?_
    simp only [List.cons_append]
    exact List.perm_middle
 simpa [zcy] using key M []
theorem zjb (c : Int → Int → Int) (M : List Int) : (zcy c M).length = M.length:=(zfG c M).length_eq
theorem ztH (c : Int → Int → Int) (x : Int) : zcy c [x] = [x]:=rfl
theorem Le.np1 {st st' : St} {D : List Int} (sn : List Nat) (hsz : st'.sz = st.sz) (hn : 1 ≤ st'.n) (hh : st'.h = [(0,some ⟨1,zah D,0⟩)]) (hs : ∀ k ∈ sn,1 ≤ k) (he : st.hp 0 = some ⟨1,zah D,0⟩) (ht : ∀ p ∈ st'.t,Wk (conv [(0,0)] sn st.hp 4 (st.get p.1)) p.2) : Le 1 st st' :=
 Le.ents [(0,0)] sn hsz (by simp) (by simp) (by simp; omega) (fun k hk=>⟨hs k hk,by have:=hs k hk; simp; omega⟩) hn ht (fun p hp=>by
  rw [hh] at hp
  simp at hp
  subst hp
  exact ⟨0,_,_,rfl,by simp,he,zaH.eq (by simp [fcd]) (by simp)⟩)
theorem zs8 {H T : List Int} {y x : Int} {h : Nat} (hh : H.length = h) : (zah (H ++ y :: x :: T))[h]? = some [AV.I y] ∧ (zah (H ++ y :: x :: T))[h + 1]? = some [AV.I x]:=by
 subst hh
 constructor
 ·rw [List.getElem?_map,List.getElem?_append_right (by omega)]
  simp
 ·rw [List.getElem?_map,List.getElem?_append_right (by omega)]
  simp
theorem zvz {H T : List Int} {y x : Int} {h : Nat} (hh : H.length = h) : ((zah (H ++ y :: x :: T)).set (h + 1) [AV.I y]).set h [AV.I x] = zah (H ++ x :: y :: T):=by
 subst hh
 simp [zah,List.set_append]
set_option maxHeartbeats 4000000 in
set_option maxRecDepth 100000 in
theorem zoP (f : FuncId) (capt : List AV) (c : Int → Int → Int) (A M B : List Int) (n a b : Nat) (hn : (A ++ M ++ B).length = n) (ha : A.length = a) (hb : a + M.length = b) (hl : n ≤ 1000000) (hs : zkq capt)
  (hc : ∀ x ∈ M,∀ y ∈ M,zai Tryz.prog f (AV.I x :: AV.I y :: capt) [] (.I (c x y)) []) :
  zai Tryz.prog zaO [.rs 0 0 n,.I a,.I b,.fn (.func f) [] capt] [⟨1,zah (A ++ M ++ B),0⟩] (.tup []) [some ⟨1,zah (A ++ zgX c M ++ B),0⟩]:=by
 have hs2 : ∀ ρ sn h,capt.map (conv ρ sn h 2) = capt:=fun _ _ _=>hs _ _ _ 1
 have hs3 : ∀ ρ sn h,capt.map (conv ρ sn h 3) = capt:=fun _ _ _=>hs _ _ _ 2
 have hs4 : ∀ ρ sn h,capt.map (conv ρ sn h 4) = capt:=fun _ _ _=>hs _ _ _ 3
 refine zc8.acalls (nbz rfl) (nbz rfl) (nbz rfl) ?_
 show awp _ 1 _ _ ⟨53,[(0,.rs 0 0 n),(1,.I a),(2,.I b),(3,.fn (.func f) [] capt)],[(0,some ⟨1,zah (A ++ M ++ B),0⟩)],16⟩
 have hlen : a + (M.length + B.length) = n:=by
  simp only [List.length_append] at hn
  omega
 have hbn : b ≤ n:=by omega
 have hwa : IntKind.i64.wrap ((a : Int) + 1) = ((a + 1 : Nat) : Int):=by rw [w64 (by omega) (by omega)]; omega
 let Lk : Nat → List Int:=fun k=>A ++ ((zcy c (M.take k)).reverse ++ (M.drop k ++ B))
 have hL1 : A ++ M ++ B = Lk 1:=by
  cases M with
  | nil=>simp [Lk,zcy]
  | cons m M=>simp [Lk,ztH]
 rw [hL1]
 refine zaa ⟨53,[(0,.rs 0 0 n),(1,.I a),(2,.I b),(3,.fn (.func f) [] capt),(8,.I (a + 1 : Nat))],[(0,some ⟨1,zah (Lk 1),0⟩)],40⟩ rfl ?_ ?_
 ·simp [hwa]
  exact Le.keep rfl (Nat.le_refl _) (by simp) (by simp)
 refine zaf ?_
 refine zao (ι:=Nat) (fun k=>⟨53,[(0,.rs 0 0 n),(1,.I a),(2,.I b),(3,.fn (.func f) [] capt),(8,.I (a + k : Nat))],[(0,some ⟨1,zah (Lk k),0⟩)],40⟩) (fun k=>1 ≤ k ∧ k ≤ M.length + 1 ∧ (M.length ≤ k → zah (Lk k) = zah (A ++ zgX c M ++ B))) (fun k=>M.length + 1 - k) 1 ?_ (Le.refl _ _) ?_
 ·refine ⟨Nat.le_refl _,by omega,fun h=>?_⟩
  simp only [Lk]
  rw [List.take_of_length_le h,List.drop_eq_nil_of_le h]
  simp [zgX]
 rintro k ⟨hk1,hk2,hk3⟩
 refine zab ?_
 refine zaa ⟨53,[(0,.rs 0 0 n),(1,.I a),(2,.I b),(3,.fn (.func f) [] capt),(8,.I (a + k : Nat)),(14,.B (decide (k < M.length)))],[(0,some ⟨1,zah (Lk k),0⟩)],64⟩ rfl ?_ ?_
 ·simp
  exact Le.keep rfl (Nat.le_refl _) (by simp <;> omega) (by simp)
 refine zac _ rfl (fun h=>zae ?_) fun h=>zam (hit ?_)
 ·simp only [decide_eq_true_eq] at h
  refine zaL (ι:=Unit) (fun _=>⟨53,[(0,.rs 0 0 n),(1,.I a),(2,.I b),(3,.fn (.func f) [] capt),(8,.I (a + k : Nat))],[(0,some ⟨1,zah (Lk (k + 1)),0⟩)],64⟩) (fun _=>True) ?_ fun _ _=>?_
  ·have hx : M[k] ∈ M:=List.getElem_mem h
   have hdrop : M.drop k = M[k] :: M.drop (k + 1):=List.drop_eq_getElem_cons h
   have hsucc:=zmq c M k h
   generalize M[k] = x at *
   obtain ⟨D,hD⟩ : ∃ D,D = M.drop (k + 1) ++ B:=⟨_,rfl⟩
   obtain ⟨R,hR⟩ : ∃ R,R = zcy c (M.take k):=⟨_,rfl⟩
   have hRm : ∀ y ∈ R,y ∈ M:=fun y hy=>by
    rw [hR] at hy
    exact List.mem_of_mem_take ((zfG c _).mem_iff.1 hy)
   have hRl : R.length = k:=by rw [hR,zjb]; simp; omega
   have hDl : D.length + k + 1 = M.length + B.length:=by rw [hD]; simp; omega
   have hLk : Lk k = A ++ R.reverse ++ x :: D:=by simp only [Lk]; rw [hdrop,← hR,hD]; simp
   have hLk1 : Lk (k + 1) = A ++ (zdc c R x).reverse ++ D:=by simp only [Lk]; rw [hsucc,← hR,hD]; simp
   rw [hLk,hLk1]
   refine zaf ?_
   refine zaa ⟨53,[(0,.rs 0 0 n),(1,.I a),(2,.I b),(3,.fn (.func f) [] capt),(8,.I (a + k : Nat)),(9,.I (a + k : Nat))],[(0,some ⟨1,zah (A ++ R.reverse ++ x :: D),0⟩)],80⟩ rfl ?_ ?_
   ·simp
    exact Le.keep rfl (Nat.le_refl _) (by simp) (by simp)
   refine zaf ?_
   let C : List Int × List Int → St:=fun p=>⟨53,[(0,.rs 0 0 n),(1,.I a),(2,.I b),(3,.fn (.func f) [] capt),(8,.I (a + k : Nat)),(9,.I (a + p.2.length : Nat))],[(0,some ⟨1,zah (A ++ p.2.reverse ++ x :: (p.1 ++ D)),0⟩)],80⟩
   refine zao C (fun p : List Int × List Int=>zdc c R x = p.1.reverse ++ zdc c p.2 x ∧ p.1.length + p.2.length = k ∧ ∀ y ∈ p.2,y ∈ M) (fun p : List Int × List Int=>p.2.length) ([],R) ⟨rfl,by simpa using hRl,hRm⟩ ?_ ?_
   ·simp only [C,hRl,List.nil_append]
    exact Le.refl _ _
   rintro ⟨U,V⟩ ⟨hins,hUV,hVm⟩
   simp only at hins hUV hVm
   match V,hins,hUV,hVm with
   | [],hins,hUV,hVm =>
     have hC : C (U,[]) = ⟨53,[(0,.rs 0 0 n),(1,.I a),(2,.I b),(3,.fn (.func f) [] capt),(8,.I (a + k : Nat)),(9,.I a)],[(0,some ⟨1,zah (A ++ x :: (U ++ D)),0⟩)],80⟩:=by simp [C]
     rw [hC]
     refine zab ?_
     refine zan ⟨53,[(0,.rs 0 0 n),(1,.I a),(2,.I b),(3,.fn (.func f) [] capt),(8,.I (a + k : Nat)),(34,.B false)],[(0,some ⟨1,zah (A ++ x :: (U ++ D)),0⟩)],216⟩ rfl ?_ ?_
     ·simp
      exact ⟨rfl,Le.keep rfl (Nat.le_refl _) (by simp) (by simp)⟩
     refine zac _ rfl (fun h=>by cases h) fun h=>zam (hit ?_)
     have e : A ++ x :: (U ++ D) = A ++ (zdc c R x).reverse ++ D:=by rw [hins]; simp [zdc]
     rw [← e]
     exact ⟨(),trivial,Le.np1 [] rfl (by simp) rfl (by simp) rfl (by simp [hs2,hs3,hs4])⟩
   | y :: V',hins,hUV,hVm =>
     obtain ⟨H,hH⟩ : ∃ H,H = A ++ V'.reverse:=⟨_,rfl⟩
     obtain ⟨T,hT⟩ : ∃ T,T = U ++ D:=⟨_,rfl⟩
     obtain ⟨q,hq⟩ : ∃ q,q = a + V'.length:=⟨_,rfl⟩
     obtain ⟨j,hj⟩ : ∃ j,j = q + 1:=⟨_,rfl⟩
     have hHl : H.length = q:=by rw [hH,hq]; simp; omega
     have hgl : (H ++ y :: x :: T).length = n:=by
      have e : (H ++ y :: x :: T).length = H.length + (T.length + 2):=by simp
      rw [e,hHl,hT,List.length_append]
      simp at hUV
      omega
     have hg1:=(zs8 (T:=T) (y:=y) (x:=x) hHl).1
     have hg2:=(zs8 (T:=T) (y:=y) (x:=x) hHl).2
     have hset:=zvz (T:=T) (y:=y) (x:=x) hHl
     rw [← hj] at hg2 hset
     have hC : C (U,y :: V') = ⟨53,[(0,.rs 0 0 n),(1,.I a),(2,.I b),(3,.fn (.func f) [] capt),(8,.I (a + k : Nat)),(9,.I j)],[(0,some ⟨1,zah (H ++ y :: x :: T),0⟩)],80⟩:=by
      simp [C,hH,hT,hj,hq,Nat.add_assoc]
     rw [hC]
     have hcy:=hc x hx y (hVm y List.mem_cons_self)
     have hjn : j < n:=by rw [← hgl,hj,← hHl]; simp
     have hwj : IntKind.i64.wrap ((j : Int) - 1) = (q : Int):=by rw [w64 (by omega) (by omega)]; omega
     have hqn : q < n:=by omega
     have haj : a < j:=by omega
     have hRl2 : (zah (H ++ y :: x :: T)).length = n:=by rw [zah,List.length_map,hgl]
     generalize hX : zah (H ++ y :: x :: T) = X at *
     have hflat : ∀ ρ sn h m,X.map (List.map (conv ρ sn h (m + 1))) = X:=fun ρ sn h m=>by rw [← hX]; simp [fcd]
     refine zab ?_
     refine zan ⟨53,[(0,.rs 0 0 n),(1,.I a),(2,.I b),(3,.fn (.func f) [] capt),(8,.I (a + k : Nat)),(9,.I j),(34,.B (decide (c x y < 0)))],[(0,some ⟨1,X,0⟩)],216⟩ rfl ?_ ?_
     ·simp [haj,hjn,hqn,hg1,hg2,hwj]
      refine zaj hcy ?_ ?_
      ·simp [hs4]
      simp
      exact ⟨rfl,Le.keep rfl (Nat.le_refl _) (by simp) (by simp)⟩
     refine zac _ rfl (fun h5=>zae ?_) fun h5=>zam (hit ?_)
     ·simp only [decide_eq_true_eq] at h5
      have hg3 : (X.set j [AV.I y])[q]? = some [AV.I y]:=by
       rw [List.getElem?_set,if_neg (by omega)]
       exact hg1
      generalize hY : zah (H ++ x :: y :: T) = Y at hset
      refine zaL (ι:=Unit) (fun _=>⟨53,[(0,.rs 0 0 n),(1,.I a),(2,.I b),(3,.fn (.func f) [] capt),(8,.I (a + k : Nat)),(9,.I j)],[(0,some ⟨1,Y,0⟩)],360⟩) (fun _=>True) ?_ fun _ _=>?_
      ·refine zaf ?_
       refine zbx rfl ?_
       simp [hjn,hqn,hg1,hg2,hg3,hwj,zau]
       exact ⟨rfl,Le.keep rfl (Nat.le_refl _) (by simp) (by simp; exact hset)⟩
      refine zar rfl ?_
      simp [hwj]
      refine ⟨y :: U,V',⟨?_,?_,?_⟩,?_,?_⟩
      ·rw [hins,zdc,if_pos h5]; simp
      ·simp at hUV ⊢; omega
      ·exact fun z hz=>hVm z (List.mem_cons_of_mem _ hz)
      ·simp
      ·have hC2 : C (y :: U,V') = ⟨53,[(0,.rs 0 0 n),(1,.I a),(2,.I b),(3,.fn (.func f) [] capt),(8,.I (a + k : Nat)),(9,.I q)],[(0,some ⟨1,Y,0⟩)],80⟩:=by rw [← hY]; simp [C,hH,hT,hq]
       rw [hC2]
       have hflat2 : ∀ ρ sn h m,Y.map (List.map (conv ρ sn h (m + 1))) = Y:=fun ρ sn h m=>by rw [← hY]; simp [fcd]
       exact Le.ents [(0,0)] [] rfl (by simp) (by simp) (by simp) (by simp) (by simp) (by simp [hs2,hs3,hs4]) fun p hp=>by
        simp at hp
        subst hp
        exact ⟨0,_,_,rfl,by simp,rfl,zaH.eq (by simp only [zaz,hflat2]) (by simp)⟩
     ·simp only [decide_eq_false_iff_not] at h5
      have e : H ++ y :: x :: T = A ++ (zdc c R x).reverse ++ D:=by rw [hins,zdc,if_neg h5,hH,hT]; simp
      rw [← e,hX]
      exact ⟨(),trivial,Le.ents [(0,0)] [] rfl (by simp) (by simp) (by simp) (by simp) (by simp) (by simp [hs2,hs3,hs4]) fun p hp=>by
       simp at hp
       subst hp
       exact ⟨0,_,_,rfl,by simp,rfl,zaH.eq (by simp only [zaz,hflat]) (by simp)⟩⟩
  have hwk : IntKind.i64.wrap (((a + k : Nat) : Int) + 1) = ((a + (k + 1) : Nat) : Int):=by rw [w64 (by omega) (by omega)]; omega
  refine zar rfl ?_
  have hwk' : IntKind.i64.wrap ((a : Int) + (k : Int) + 1) = ((a + (k + 1) : Nat) : Int):=by rw [← hwk]; congr 1
  simp [hwk']
  refine ⟨k + 1,⟨by omega,by omega,fun h2=>?_⟩,by omega,?_⟩
  ·have he : M.length = k + 1:=by omega
   simp only [Lk]
   rw [List.take_of_length_le (by omega),List.drop_eq_nil_of_le (by omega)]
   simp [zgX]
  ·exact Le.np1 [] rfl (by simp) rfl (by simp) rfl (by simp [hs2,hs3,hs4])
 simp only [decide_eq_false_iff_not] at h
 rw [hk3 (by omega)]
 exact ⟨.inl rfl,⟨[],rfl,[],[],by simp [List.range,List.range.loop],by simp,by simp,by simp,by simp [List.range,List.range.loop,fcd]⟩⟩
set_option maxRecDepth 100000 in
theorem zsJ (f : FuncId) (capt : List AV) (c : Int → Int → Int) (l : List Int) (n : Nat) (hn : l.length = n) (hl : n < 20) (hs : zkq capt)
  (hc : ∀ x ∈ l,∀ y ∈ l,zai Tryz.prog f (AV.I x :: AV.I y :: capt) [] (.I (c x y)) []) :
  zai Tryz.prog zbF [.rs 0 0 n,.I n,.fn (.func f) [] capt] [⟨1,zah l,0⟩] (.tup []) [some ⟨1,zah (zgX c l),0⟩]:=by
 have hs2 : ∀ ρ sn h,capt.map (conv ρ sn h 2) = capt:=fun _ _ _=>hs _ _ _ 1
 have hs3 : ∀ ρ sn h,capt.map (conv ρ sn h 3) = capt:=fun _ _ _=>hs _ _ _ 2
 have hs4 : ∀ ρ sn h,capt.map (conv ρ sn h 4) = capt:=fun _ _ _=>hs _ _ _ 3
 refine zeW.acalls (nbz rfl) (nbz rfl) (nbz rfl) ?_
 show awp _ 1 _ _ ⟨63,[(0,.rs 0 0 n),(1,.I n),(2,.fn (.func f) [] capt)],[(0,some ⟨1,zah l,0⟩)],16⟩
 have hins:=zoP f capt c [] l [] n 0 n (by simpa using hn) rfl (by simpa using hn) (by omega) hs hc
 simp only [List.nil_append,List.append_nil] at hins
 refine zab ?_
 refine zad (s:=?s1) rfl ?o1 ?q1
 case o1=>simp; rfl
 refine zaa ⟨63,[(0,.rs 0 0 n),(1,.I n),(2,.fn (.func f) [] capt),(6,.I 20),(7,.I 0),(8,.I 20)],[(0,some ⟨1,zah l,0⟩)],48⟩ rfl ?_ ?_
 ·simp
  exact Le.keep rfl (Nat.le_refl _) (by simp) (by simp)
 refine zab ?_
 refine zaf ?_
 refine zao (ι:=Unit) (fun _=>⟨63,[(0,.rs 0 0 n),(1,.I n),(2,.fn (.func f) [] capt),(6,.I 20),(7,.I 0),(8,.I 20)],[(0,some ⟨1,zah l,0⟩)],48⟩) (fun _=>True) (fun _=>0) () trivial (Le.refl _ _) ?_
 intro _ _
 refine zab ?_
 refine zaa ⟨63,[(0,.rs 0 0 n),(1,.I n),(2,.fn (.func f) [] capt),(6,.I 20),(7,.I 0),(8,.I 20),(13,.B false)],[(0,some ⟨1,zah l,0⟩)],72⟩ rfl ?_ ?_
 ·simp
  exact Le.keep rfl (Nat.le_refl _) (by simp; omega) (by simp)
 refine zac _ rfl (fun h=>by cases h) fun _=>zam (hit ?_)
 refine zaa ⟨63,[(1,.I n),(6,.I 20)],[(0,some ⟨1,zah (zgX c l),0⟩)],112⟩ rfl ?_ ?_
 ·simp
  refine zbf (i:=0) rfl (e':=⟨1,zah l,0⟩) (by simp [fcd]) hins (by simp) ?_ ?_
  ·simp [hs2,hs3,hs4]
  simp [fcd]
  exact Le.keep rfl (Nat.le_refl _) (by simp) (by simp)
 refine zaf ?_
 refine zao (ι:=Unit) (fun _=>⟨63,[(1,.I n),(6,.I 20)],[(0,some ⟨1,zah (zgX c l),0⟩)],112⟩) (fun _=>True) (fun _=>0) () trivial (Le.refl _ _) ?_
 intro _ _
 refine zab ?_
 refine zaa ⟨63,[(1,.I n),(6,.I 20),(30,.B false)],[(0,some ⟨1,zah (zgX c l),0⟩)],136⟩ rfl ?_ ?_
 ·simp
  exact Le.keep rfl (Nat.le_refl _) (by simp; omega) (by simp)
 refine zac _ rfl (fun h=>by cases h) fun _=>zam (hit ?_)
 exact ⟨.inl rfl,⟨[],rfl,[],[],by simp [List.range,List.range.loop],by simp,by simp,by simp,by simp [List.range,List.range.loop,fcd]⟩⟩
theorem znE (f : FuncId) (capt : List AV) (c : Int → Int → Int) (l : List Int) (n : Nat) (hn : l.length = n) (hl : n < 20) (hs : zkq capt)
  (hc : ∀ x ∈ l,∀ y ∈ l,zai Tryz.prog f (AV.I x :: AV.I y :: capt) [] (.I (c x y)) []) :
  zai Tryz.prog zbc [.rs 0 0 n,.fn (.func f) [] capt] [⟨1,zah l,0⟩] (.tup []) [some ⟨1,zah (zgX c l),0⟩]:=by
 have hs2 : ∀ ρ sn h,capt.map (conv ρ sn h 2) = capt:=fun _ _ _=>hs _ _ _ 1
 have hs3 : ∀ ρ sn h,capt.map (conv ρ sn h 3) = capt:=fun _ _ _=>hs _ _ _ 2
 have hs4 : ∀ ρ sn h,capt.map (conv ρ sn h 4) = capt:=fun _ _ _=>hs _ _ _ 3
 refine zdh.acalls (nbz rfl) (nbz rfl) (nbz rfl) ?_
 show awp _ 1 _ _ ⟨9,[(0,.rs 0 0 n),(1,.fn (.func f) [] capt)],[(0,some ⟨1,zah l,0⟩)],16⟩
 refine zad (s:=?s1) rfl ?o1 ?q1
 case o1 =>
  simp
  refine zbf (i:=0) rfl (e':=⟨1,zah l,0⟩) (by simp [fcd]) (zsJ f capt c l n hn hl hs hc) (by simp) ?_ ?_
  ·simp [hs2,hs3,hs4]
  simp [fcd]
  rfl
 exact ⟨.inl rfl,⟨[],rfl,[],[],by simp [List.range,List.range.loop],by simp,by simp,by simp,by simp [List.range,List.range.loop,fcd]⟩⟩
theorem zp0 (D : List Int) (k : Nat) (hk : k < D.length) : zai Tryz.prog zbB [.I k,.pv [ints D]] [] (.B (decide (0 ≤ D.getD k 0))) []:=by
 refine zhR.acalls (nbz rfl) (nbz rfl) (Nat.le_refl _) ?_
 show awp _ 0 _ _ ⟨9,[(0,.I k),(1,.pv [ints D])],[],16⟩
 refine zab ?_
 refine zad (s:=?s0) rfl ?o0 ?q0
 case o0=>simp; rfl
 refine zab ?_
 refine zad (s:=?s1) rfl ?o1 ?q1
 case o1=>simp [hk]; rfl
 refine zag ?_
 exact ⟨.inr rfl,zak.one (by simp [hk])⟩
theorem zp1 (D : List Int) (a b : Nat) (ha : a < D.length) (hb : b < D.length) : zai Tryz.prog zb4 [.I a,.I b,.pv [ints D]] [] (.I (cmpI (D.getD a 0) (D.getD b 0))) []:=by
 refine zhD.acalls (nbz rfl) (nbz rfl) (Nat.le_refl _) ?_
 show awp _ 0 _ _ ⟨15,[(0,.I a),(1,.I b),(2,.pv [ints D])],[],16⟩
 refine zab ?_
 refine zad (s:=?s0) rfl ?o0 ?q0
 case o0=>simp; rfl
 refine zab ?_
 refine zds (s:=?s1) (tr:=?t1) rfl ?o1 ?r1 ?q1
 case o1=>simp [ha,hb]; refine zaj (ziX ..) rfl ?_; simp; constructor <;> rfl
 case r1=>rfl
 refine zag ?_
 exact ⟨.inr rfl,zak.one (by simp [ha,hb])⟩
variable {g : Gr} {S : List Int}
theorem zs1 {k : Nat} (hk : k < g.size.toNat) : (zbJ g S).getD k 0 = dist g S k:=by simp [zbJ,List.getD,hk]
theorem zkC : (zbJ g S).length = g.size.toNat:=by simp [zbJ]
def Lt (g : Gr) (S : List Int) (a b : Int) : Prop:=dist g S a < dist g S b ∨ dist g S a = dist g S b ∧ a < b
def cD (g : Gr) (S : List Int) (a b : Int) : Int:=cmpI (dist g S a) (dist g S b)
def ordN (g : Gr) (S : List Int) : Nat → List Int
 | 0=>[]
 | m + 1=>ordN g S m ++ zbi g.size.toNat fun k=>decide (dist g S k = m)
def ordL (g : Gr) (S : List Int) : List Int:=ordN g S g.size.toNat
theorem zeb {n : Nat} {q : Int → Bool} {x : Int} : x ∈ zbi n q ↔ (0 ≤ x ∧ x < n) ∧ q x = true:=by
 unfold zbi
 simp only [List.mem_filter,List.mem_map,List.mem_range]
 constructor
 ·rintro ⟨⟨i,hi,rfl⟩,h⟩
  exact ⟨⟨by omega,by omega⟩,h⟩
 ·rintro ⟨⟨h1,h2⟩,h⟩
  exact ⟨⟨x.toNat,by omega,by omega⟩,h⟩
theorem zkk (n : Nat) (q : Int → Bool) : (zbi n q).Pairwise (· < ·):=by
 unfold zbi
 refine List.Pairwise.filter _ ?_
 rw [List.pairwise_map]
 exact List.pairwise_lt_range.imp fun h=>by omega
theorem zjQ {m : Nat} {x : Int} : x ∈ ordN g S m ↔ (0 ≤ x ∧ x < g.size.toNat) ∧ 0 ≤ dist g S x ∧ dist g S x < m:=by
 induction m with
 | zero=>simp [ordN] <;> omega
 | succ m ih =>
   rw [ordN,List.mem_append,ih,zeb]
   simp only [decide_eq_true_eq]
   constructor
   ·rintro (⟨h1,h2,h3⟩ | ⟨h1,h2⟩)
    ·exact ⟨h1,h2,by omega⟩
    ·exact ⟨h1,by omega,by omega⟩
   ·rintro ⟨h1,h2,h3⟩
    by_cases h4 : dist g S x = m
    ·exact .inr ⟨h1,h4⟩
    ·exact .inl ⟨h1,h2,by omega⟩
theorem zn4 (m : Nat) : (ordN g S m).Pairwise (Lt g S):=by
 induction m with
 | zero=>exact .nil
 | succ m ih =>
   rw [ordN,List.pairwise_append]
   refine ⟨ih,?_,fun a ha b hb=>?_⟩
   ·refine (zkk _ _).imp_of_mem fun {a b} ha hb hab=>?_
    have h1:=(zeb.1 ha).2
    have h2:=(zeb.1 hb).2
    simp at h1 h2
    exact .inr ⟨by omega,hab⟩
   ·have h1:=zjQ.1 ha
    have h2:=(zeb.1 hb).2
    simp at h2
    exact .inl (by omega)
theorem zuJ {a b : Int} : cD g S a b < 0 ↔ dist g S a < dist g S b:=by
 simp only [cD,cmpI]
 grind
theorem zko : ∀ (r : List Int) (x : Int),r.Pairwise (fun a b=>Lt g S b a) → (∀ y ∈ r,y < x) → (zdc (cD g S) r x).Pairwise fun a b=>Lt g S b a
 | [],x,_,_=>by simp [zdc]
 | y :: r,x,hp,hx=>by
   unfold zdc
   rw [List.pairwise_cons] at hp
   split
   ·rename_i h
    rw [zuJ] at h
    rw [List.pairwise_cons]
    refine ⟨fun z hz=>?_,zko r x hp.2 fun z hz=>hx z (List.mem_cons_of_mem _ hz)⟩
    have:=(zfu (cD g S) r x).mem_iff.1 hz
    rcases List.mem_cons.1 this with rfl | hz
    ·exact .inl h
    ·exact hp.1 z hz
   ·rename_i h
    rw [zuJ] at h
    rw [List.pairwise_cons,List.pairwise_cons]
    have hyx:=hx y List.mem_cons_self
    refine ⟨fun z hz=>?_,hp.1,hp.2⟩
    rcases List.mem_cons.1 hz with rfl | hz
    ·unfold Lt; omega
    ·have h1:=hp.1 z hz
     have h2:=hx z (List.mem_cons_of_mem _ hz)
     unfold Lt at *
     omega
theorem zrF {l : List Int} (h : l.Pairwise (· < ·)) : (zgX (cD g S) l).Pairwise (Lt g S):=by
 have key : ∀ (l acc : List Int),l.Pairwise (· < ·) → acc.Pairwise (fun a b=>Lt g S b a) → (∀ y ∈ acc,∀ x ∈ l,y < x) → (l.foldl (zdc (cD g S)) acc).Pairwise fun a b=>Lt g S b a:=by
  intro l
  induction l with
  | nil=>intro acc _ h _; exact h
  | cons x l ih =>
    intro acc hl hacc hlt
    rw [List.pairwise_cons] at hl
    refine ih _ hl.2 (zko acc x hacc fun y hy=>hlt y hy x List.mem_cons_self) fun y hy z hz=>?_
    have:=(zfu (cD g S) acc x).mem_iff.1 hy
    rcases List.mem_cons.1 this with rfl | hy
    ·exact hl.1 z hz
    ·exact hlt y hy z (List.mem_cons_of_mem _ hz)
 unfold zgX zcy
 rw [List.pairwise_reverse]
 exact key l [] h .nil (by simp)
theorem zib {R : Int → Int → Prop} (hR : ∀ a b,R a b → ¬ R b a) : ∀ {l1 l2 : List Int},l1.Pairwise R → l2.Pairwise R → (∀ x,x ∈ l1 ↔ x ∈ l2) → l1 = l2
 | [],[],_,_,_=>rfl
 | [],b :: l2,_,_,h=>absurd ((h b).2 List.mem_cons_self) (by simp)
 | a :: l1,[],_,_,h=>absurd ((h a).1 List.mem_cons_self) (by simp)
 | a :: l1,b :: l2,h1,h2,h=>by
   rw [List.pairwise_cons] at h1 h2
   have hab : a = b:=by
    rcases List.mem_cons.1 ((h a).1 List.mem_cons_self) with e | ha
    ·exact e
    ·rcases List.mem_cons.1 ((h b).2 List.mem_cons_self) with e | hb
     ·exact e.symm
     ·exact absurd (h1.1 b hb) (hR _ _ (h2.1 a ha))
   subst hab
   congr 1
   refine zib hR h1.2 h2.2 fun x=>?_
   constructor
   ·intro hx
    rcases List.mem_cons.1 ((h x).1 (List.mem_cons_of_mem _ hx)) with rfl | hx2
    ·exact absurd (h1.1 x hx) (fun q=>hR _ _ q q)
    ·exact hx2
   ·intro hx
    rcases List.mem_cons.1 ((h x).2 (List.mem_cons_of_mem _ hx)) with rfl | hx2
    ·exact absurd (h2.1 x hx) (fun q=>hR _ _ q q)
    ·exact hx2
theorem zuA (hg : GrOk g) : zgX (cD g S) (zbi g.size.toNat fun k=>decide (0 ≤ dist g S k)) = ordL g S:=by
 refine zib (R:=Lt g S) (fun a b h1 h2=>by unfold Lt at *; omega) (zrF (zkk _ _)) (zn4 _) fun x=>?_
 have hp : x ∈ zgX (cD g S) (zbi g.size.toNat fun k=>decide (0 ≤ dist g S k)) ↔ x ∈ zbi g.size.toNat fun k=>decide (0 ≤ dist g S k):=by
  unfold zgX
  rw [List.mem_reverse]
  exact (zfG _ _).mem_iff
 rw [hp,zeb]
 have hm:=zjQ (g:=g) (S:=S) (m:=g.size.toNat) (x:=x)
 unfold ordL
 rw [hm]
 simp only [decide_eq_true_eq]
 constructor
 ·rintro ⟨h1,h2⟩
  refine ⟨h1,h2,?_⟩
  rcases zsY hg (S:=S) (k:=x) ⟨h1.1,by omega⟩ with h | h <;> omega
 ·rintro ⟨h1,h2,_⟩
  exact ⟨h1,h2⟩
section
variable {P : Program} {np id : Nat} {h : Nat → Option Ent} {K : AV → List Nat → List (Nat × Option Ent) → Prop} {f : FuncId} {first capt args args' : List AV} {res : AV}
theorem ziO (sn : List Nat) {e : Ent} (hc : zai P f args' [] res [some e]) (he : (first ++ args ++ capt).map (conv [] sn h 4) = args') (hp : Plain res) (hpe : zjg e)
  (hk : K (conv (swp [] id) [] (fun _=>none) 4 res) sn [(id,some (zaz (swp [] id) [] (fun _=>none) 4 e))]) : aK P np id .call (.fn (.func f) first capt :: args) h K :=
 ⟨[],sn,false,args',[],res,[some e],by simp,by simp,by simp,by rw [List.zipIdx_nil,he]; exact zbQ _,rfl,hc,by simp,.inr ⟨hp,fun e' he'=>by simp at he'; subst he'; exact hpe⟩,by simpa [swp] using hk⟩
end
theorem zqH {l : List Int} : zjg ⟨1,zah l,0⟩:=by
 intro row hrow x hx
 simp only [List.mem_map] at hrow
 obtain ⟨y,_,rfl⟩:=hrow
 simp at hx
 subst hx
 exact .sc _
variable {g : Gr} {S : List Int}
set_option maxHeartbeats 1000000 in
set_option maxRecDepth 100000 in
theorem zin (hg : GrOk g) (hN : g.size < 20) (hS : S.length ≤ 1099511627776) : zai Tryz.prog zev [eG g,ints S] [] (.rs 0 0 (ordL g S).length) [some ⟨1,zah (ordL g S),0⟩]:=by
 refine zkH.acalls (nbz rfl) (nbz rfl) (Nat.zero_le _) ?_
 show awp _ 0 _ _ ⟨18,[(0,eG g),(1,ints S)],[],16⟩
 have hsz:=hg.1.1
 obtain ⟨N,hNe⟩ : ∃ N : Nat,N = g.size.toNat:=⟨_,rfl⟩
 have hall:=zf8 g S hg hS
 have hDl : (zbJ g S).length = N:=by rw [zkC,hNe]
 have hDg : ∀ k : Nat,k < N → (zbJ g S).getD k 0 = dist g S k:=fun k hk=>zs1 (by omega)
 rw [← hNe] at hall
 obtain ⟨D,hD⟩ : ∃ D,D = zbJ g S:=⟨_,rfl⟩
 rw [← hD] at hall hDl hDg
 obtain ⟨W,hW⟩ : ∃ W,W = zbi N fun k=>decide (0 ≤ dist g S k):=⟨_,rfl⟩
 have hWl : W.length ≤ N:=by rw [hW]; exact zgz _ _
 have hWm : ∀ x ∈ W,0 ≤ x ∧ x < N:=fun x hx=>by rw [hW] at hx; exact (zeb.1 hx).1
 have hwhere : zai Tryz.prog zb9 [.I N,.fn (.func zbB) [] [.pv [ints D]]] [] (.rs 0 0 W.length) [some ⟨1,zah W,0⟩]:=by
  have:=zrd zbB [.pv [ints D]] (fun k=>decide (0 ≤ dist g S k)) N (by omega) (fun ρ sn h n=>by simp) (fun k hk=>by
   have h1:=zp0 D k (by omega)
   rw [hDg k (by omega)] at h1
   exact h1)
  simpa [← hW] using this
 have hsort:=znE zb4 [.pv [ints D]] (cD g S) W W.length rfl (by omega) (fun ρ sn h n=>by simp) (fun x hx y hy=>by
  obtain ⟨a,ha⟩ : ∃ a : Nat,x = a:=⟨x.toNat,by have:=hWm x hx; omega⟩
  obtain ⟨b,hb⟩ : ∃ b : Nat,y = b:=⟨y.toNat,by have:=hWm y hy; omega⟩
  have h1:=hWm x hx
  have h2:=hWm y hy
  subst ha hb
  have h3:=zp1 D a b (by omega) (by omega)
  rw [hDg a (by omega),hDg b (by omega)] at h3
  exact h3)
 have hord : zgX (cD g S) W = ordL g S:=by rw [hW,hNe]; exact zuA hg
 have hol : (ordL g S).length = W.length:=by
  rw [← hord]
  unfold zgX
  rw [List.length_reverse,zjb]
 rw [hord] at hsort
 have htk : List.take N (zah D) = zah D:=List.take_of_length_le (by simp [hDl])
 have hRl : (zah D).length = N:=by simp [hDl]
 refine zaa ⟨18,[(1,ints S),(2,.pv (gC g))],[],32⟩ rfl ?_ ?_
 ·simp
  exact Le.snap [16] rfl rfl (by simp)
 refine zaa ⟨18,[(5,.pv [ints D])],[],72⟩ rfl ?_ ?_
 ·simp
  refine zaW hall rfl ?_
  simp [fcd]
  exact Le.snap [48,56] rfl rfl (by simp [fcd,← hDl,zap])
 refine zaa ⟨18,[(5,.pv [ints D]),(6,.rs 96 0 W.length)],[(96,some ⟨1,zah W,0⟩)],112⟩ rfl ?_ ?_
 ·simp [hDl]
  refine zaW hwhere (by simp) ?_
  simp [fcd]
  exact Le.keep rfl (Nat.le_refl _) (by simp) (by simp)
 rw [hol]
 refine zaa ⟨18,[(6,.rs 96 0 W.length)],[(96,some ⟨1,zah (ordL g S),0⟩)],136⟩ rfl ?_ ?_
 ·simp
  refine zbf (i:=96) rfl (e':=⟨1,zah W,0⟩) (by simp [fcd]) hsort (by simp) (by simp) ?_
  simp [fcd]
  exact Le.keep rfl (Nat.le_refl _) (by simp) (by simp)
 refine zab ?_
 refine zad (s:=?s1) rfl ?o1 ?q1
 case o1=>simp; rfl
 refine zag ?_
 exact ⟨.inr rfl,zak.out [96] [] rfl (by simp) (by simp) (by simp) (by simp [fcd])⟩
set_option maxHeartbeats 1000000 in
set_option maxRecDepth 100000 in
theorem zg5 (hg : GrOk g) (hS : S.length ≤ 1099511627776) : zai Tryz.prog zeO [eG g,ints S] [] (.rs 0 0 (ordL g S).length) [some ⟨1,zah (ordL g S),0⟩]:=by
 refine znS.acalls (nbz rfl) (nbz rfl) (Nat.zero_le _) ?_
 show awp _ 0 _ _ ⟨35,[(0,eG g),(1,ints S)],[],16⟩
 have hsz:=hg.1.1
 have hsz2:=hg.1.2.1
 obtain ⟨N,hNe⟩ : ∃ N : Nat,N = g.size.toNat:=⟨_,rfl⟩
 have hall:=zgb g S hg hS
 have hDl : (zbJ g S).length = N:=by rw [zkC,hNe]
 have hDg : ∀ k : Nat,k < N → (zah (zbJ g S))[k]? = some [AV.I (dist g S k)]:=fun k hk=>by simp [zbJ,show k < g.size.toNat by omega]
 rw [← hNe] at hall
 obtain ⟨D,hD⟩ : ∃ D,D = zbJ g S:=⟨_,rfl⟩
 rw [← hD] at hall hDl hDg
 refine zaa ⟨35,[(1,ints S),(2,.pv (gC g))],[],32⟩ rfl ?_ ?_
 ·simp
  exact Le.snap [16] rfl rfl (by simp)
 refine zaa ⟨35,[(2,.pv (gC g)),(5,ints D)],[],64⟩ rfl ?_ ?_
 ·simp
  refine zaW hall rfl ?_
  simp [fcd]
  exact Le.snap [48] rfl rfl (by simp [fcd,← hDl,zap])
 refine zab ?_
 refine zad (s:=?s1) rfl ?o1 ?q1
 case o1=>simp; rfl
 refine zab ?_
 refine zab ?_
 refine zad (s:=?s2) rfl ?o2 ?q2
 case o2=>simp; rfl
 refine zaf ?_
 have hcount : ∀ n k : Nat,n ≤ N → k ≤ N → (ordN g S n ++ zbi k fun x=>decide (dist g S x = n)).length ≤ 100000:=by
  intro n k hn hk
  have h1 : ∀ m : Nat,m ≤ 64 → (ordN g S m).length ≤ m * 64:=by
   intro m
   induction m with
   | zero=>intro _; simp [ordN]
   | succ m ih =>
     intro hm
     rw [ordN,List.length_append]
     have:=ih (by omega)
     have:=zgz g.size.toNat fun k=>decide (dist g S k = m)
     omega
  have:=h1 n (by omega)
  have:=zgz k fun x=>decide (dist g S x = n)
  rw [List.length_append]
  omega
 let T : Nat → Nat → List Int:=fun n k=>ordN g S n ++ zbi k fun x=>decide (dist g S x = n)
 have hT0 : ∀ n,T n 0 = ordN g S n:=fun n=>by simp [T,zbi]
 have hTN : ∀ n,T n N = ordN g S (n + 1):=fun n=>by simp only [T]; rw [hNe]; rfl
 let C : Nat → St:=fun n=>⟨35,[(2,.pv (gC g)),(5,ints D),(6,.rs 16 0 (ordN g S n).length),(7,.I n)],[(16,some ⟨1,zah (ordN g S n),0⟩)],80⟩
 refine zao C (fun n=>n ≤ N) (fun n=>N - n) 0 (Nat.zero_le _) (Le.lst [] [] [(16,1)] rfl (by simp) (by simp) (by simp) (by simp [C]) (by simp) (by simp) (by simp) (by simp [C,Up,ordN]) (by simp [C,ordN])) ?_
 intro n hn
 have hCn : C n = ⟨35,[(2,.pv (gC g)),(5,ints D),(6,.rs 16 0 (ordN g S n).length),(7,.I n)],[(16,some ⟨1,zah (ordN g S n),0⟩)],80⟩:=rfl
 rw [hCn]
 refine zab ?_
 refine zaa ⟨35,[(2,.pv (gC g)),(5,ints D),(6,.rs 16 0 (ordN g S n).length),(7,.I n),(15,.B (decide ((n : Int) < g.size)))],[(16,some ⟨1,zah (ordN g S n),0⟩)],112⟩ rfl ?_ ?_
 ·simp
  exact Le.keep rfl (Nat.le_refl _) (by simp) (by simp)
 refine zac _ rfl (fun h=>zae ?_) fun h=>zam (hit ?_)
 ·simp only [decide_eq_true_eq] at h
  refine zaL (ι:=Unit) (fun _=>⟨35,[(2,.pv (gC g)),(5,ints D),(6,.rs 16 0 (ordN g S (n + 1)).length),(7,.I n)],[(16,some ⟨1,zah (ordN g S (n + 1)),0⟩)],80⟩) (fun _=>True) ?_ fun _ _=>?_
  ·rw [← hT0 n,← hTN n]
   refine zaf ?_
   refine zaa ⟨35,[(2,.pv (gC g)),(5,ints D),(6,.rs 16 0 (T n 0).length),(7,.I n),(8,.I 0)],[(16,some ⟨1,zah (T n 0),0⟩)],120⟩ rfl ?_ ?_
   ·simp
    exact Le.keep rfl (Nat.le_refl _) (by simp) (by simp)
   refine zaf ?_
   refine zao (ι:=Nat) (fun k=>⟨35,[(2,.pv (gC g)),(5,ints D),(6,.rs 16 0 (T n k).length),(7,.I n),(8,.I k)],[(16,some ⟨1,zah (T n k),0⟩)],120⟩) (fun k=>k ≤ N) (fun k=>N - k) 0 (Nat.zero_le _) (Le.refl _ _) ?_
   intro k hk
   have hTl:=hcount n k (by omega) hk
   have hTs : T n (k + 1) = T n k ++ if dist g S k = n then [(k : Int)] else []:=by
    simp only [T]
    rw [zki,List.append_assoc]
    congr 2
    by_cases hq : dist g S k = n <;> simp [hq]
   have hTe : T n k = ordN g S n ++ zbi k fun x=>decide (dist g S x = n):=rfl
   rw [← hTe] at hTl
   refine zab ?_
   refine zaa ⟨35,[(2,.pv (gC g)),(5,ints D),(6,.rs 16 0 (T n k).length),(7,.I n),(8,.I k),(21,.B (decide ((k : Int) < g.size)))],[(16,some ⟨1,zah (T n k),0⟩)],152⟩ rfl ?_ ?_
   ·simp
    exact Le.keep rfl (Nat.le_refl _) (by simp) (by simp)
   refine zac _ rfl (fun h2=>zae ?_) fun h2=>zam (hit ?_)
   ·simp only [decide_eq_true_eq] at h2
    have hkN : k < N:=by omega
    have hget:=hDg k hkN
    refine zaL (ι:=Unit) (fun _=>⟨35,[(2,.pv (gC g)),(5,ints D),(6,.rs 16 0 (T n (k + 1)).length),(7,.I n),(8,.I k)],[(16,some ⟨1,zah (T n (k + 1)),0⟩)],120⟩) (fun _=>True) ?_ fun _ _=>?_
    ·rw [hTs]
     generalize T n k = A at *
     refine zaf ?_
     refine zaa ⟨35,[(2,.pv (gC g)),(5,ints D),(6,.rs 16 0 A.length),(7,.I n),(8,.I k),(29,.B (decide (dist g S k = n)))],[(16,some ⟨1,zah A,0⟩)],200⟩ rfl ?_ ?_
     ·simp only [zwj,List.map_cons,List.map_nil]
      simp
      have hget2 : D[k]? = some (dist g S k):=by
       have:=hget
       rw [zah,List.getElem?_map] at this
       cases hq : D[k]? with
       | none=>rw [hq] at this; simp at this
       | some v=>rw [hq] at this; simp at this; rw [this]
      simp [hget2]
      exact Le.keep rfl (Nat.le_refl _) (by simp <;> rw [Bool.eq_iff_iff] <;> simp) (by simp)
     refine zac _ rfl (fun h5=>?_) fun h5=>zae ?_
     ·simp only [decide_eq_true_eq] at h5
      rw [if_pos h5]
      refine zar rfl ?_
      simp [List.replicate]
      refine ⟨by omega,by omega,zi3 (i:=224) (sn:=[]) rfl rfl (by simp) (by simp) rfl (by simp [fcd,zap]) (by simp) (by simp)⟩
     ·simp only [decide_eq_false_iff_not] at h5
      rw [if_neg h5,List.append_nil]
      exact ⟨(),trivial,Le.l1 16 16 [] rfl rfl (by simp) (by simp) rfl (by simp)⟩
    have hwk : IntKind.i64.wrap ((k : Int) + 1) = ((k + 1 : Nat) : Int):=by rw [w64 (by omega) (by omega)]; omega
    refine zar rfl ?_
    simp [hwk]
    exact ⟨k + 1,by omega,by omega,Le.l1 16 16 [] rfl rfl (by simp) (by simp) rfl (by simp)⟩
   simp only [decide_eq_false_iff_not] at h2
   obtain rfl : k = N:=by omega
   exact ⟨(),trivial,Le.l1 16 16 [] rfl rfl (by simp) (by simp) rfl (by simp)⟩
  have hwn : IntKind.i64.wrap ((n : Int) + 1) = ((n + 1 : Nat) : Int):=by rw [w64 (by omega) (by omega)]; omega
  refine zar rfl ?_
  simp [hwn]
  exact ⟨n + 1,by omega,by omega,Le.l1 16 16 [] rfl rfl (by simp [C]) (by simp) rfl (by simp [C])⟩
 simp only [decide_eq_false_iff_not] at h
 obtain rfl : n = N:=by omega
 have hfin : ordN g S n = ordL g S:=by rw [hNe]; rfl
 rw [hfin]
 refine zab ?_
 refine zad (s:=?z9) rfl ?p9 ?r9
 case p9=>simp; rfl
 refine zag ?_
 exact ⟨.inr rfl,zak.out [16] [] rfl (by simp) (by simp) (by simp) (by simp [fcd])⟩
def WayA (A : List Ed) : Int → List Nat → Int → Prop
 | u,[],w=>u = w
 | u,i :: l,w=>i < A.length ∧ (arcD A i).f = u ∧ WayA A (arcD A i).t l w
theorem WayA.snoc {A : List Ed} : ∀ {l : List Nat} {u w : Int} {i : Nat},WayA A u l w → i < A.length → (arcD A i).f = w → WayA A u (l ++ [i]) (arcD A i).t
 | [],u,w,i,h,h1,h2=>⟨h1,by rw [h2]; exact (show u = w from h).symm,rfl⟩
 | j :: l,u,w,i,h,h1,h2=>⟨h.1,h.2.1,WayA.snoc h.2.2 h1 h2⟩
def metA (A : List Ed) (l : List Nat) : List Int:=l.map fun i=>(arcD A i).t
theorem zs4 (A : List Ed) (l : List Nat) (i : Nat) : metA A (l ++ [i]) = metA A l ++ [(arcD A i).t]:=by simp [metA]
theorem WayA.take {A : List Ed} : ∀ {l : List Nat} {u w : Int} (n : Nat),WayA A u l w → ∀ x,(u :: metA A l)[n]? = some x → WayA A u (l.take n) x
 | l,u,w,0,_,x,hx=>by
   have : u = x:=by simpa using hx
   exact this
 | [],u,w,n + 1,_,x,hx=>by simp [metA] at hx
 | i :: l,u,w,n + 1,h,x,hx=>by
   refine ⟨h.1,h.2.1,WayA.take n h.2.2 x ?_⟩
   simpa [metA] using hx
theorem znb (l : List Nat) (n i : Nat) : (l.take n).count i ≤ l.count i:=(List.take_sublist n l).count_le i
structure zkY (A : List Ed) (f g : List Int) (l : List Nat) (w : Int) : Prop where
 len : g.length = A.length
 nonneg : ∀ i,0 ≤ g.getD i 0
 way : WayA A 0 l w
 met : ((0 : Int) :: metA A l).Nodup
 used : ∀ i,g.getD i 0 + (l.count i : Int) ≤ f.getD i 0
 ex : ∀ x,exF A g x = exF A f x - (if x = 0 then 1 else 0) + if x = w then 1 else 0
theorem zkY.start {A : List Ed} {f : List Int} (hl : f.length = A.length) (h0 : ∀ i,0 ≤ f.getD i 0) : zkY A f f [] 0 :=
 ⟨hl,h0,rfl,by simp [metA],fun i=>by simp,fun x=>by split <;> omega⟩
theorem zq5 (f : List Int) (i j : Nat) (v : Int) (h : i < f.length) : (f.set i v).getD j 0 = if i = j then v else f.getD j 0:=by
 by_cases hj : i = j
 ·subst hj
  rw [if_pos rfl,List.getD_eq_getElem?_getD,List.getElem?_set_self h,Option.getD_some]
 ·rw [if_neg hj,List.getD_eq_getElem?_getD,List.getElem?_set_ne hj,List.getD_eq_getElem?_getD]
theorem zkY.more {A : List Ed} {f g : List Int} {l : List Nat} {w : Int} (h : zkY A f g l w) {k : Nat} (hk : k < A.length) (hf : (arcD A k).f = w) (hg : 0 < g.getD k 0) :
  ((arcD A k).t ∉ ((0 : Int) :: metA A l) → zkY A f (g.set k (g.getD k 0 - 1)) (l ++ [k]) (arcD A k).t) ∧
  ∀ n,((0 : Int) :: metA A l)[n]? = some (arcD A k).t → zkY A f (g.set k (g.getD k 0 - 1)) (l.take n) (arcD A k).t:=by
 have hkl : k < g.length:=by rw [h.len]; exact hk
 have hnn : ∀ i,0 ≤ (g.set k (g.getD k 0 - 1)).getD i 0:=fun i=>by
  rw [zq5 g k i _ hkl]
  split
  ·omega
  ·exact h.nonneg i
 have hex : ∀ x,exF A (g.set k (g.getD k 0 - 1)) x = exF A f x - (if x = 0 then 1 else 0) + if x = (arcD A k).t then 1 else 0:=fun x=>by
  have h1:=zqS (A:=A) (f:=g) (δ:=-1) (s:=(k,false)) hk h.len x
  have h2 : zht (-1) g (k,false) = g.set k (g.getD k 0 - 1):=rfl
  have h3 : stF A (k,false) = w:=hf
  have h4 : stT A (k,false) = (arcD A k).t:=rfl
  rw [h2,h3,h4,h.ex x] at h1
  rw [h1]
  have e1 : (if w = x then (-1 : Int) else 0) = - if x = w then 1 else 0:=by
   by_cases hh : w = x
   ·rw [if_pos hh,if_pos hh.symm]
   ·rw [if_neg hh,if_neg fun e=>hh e.symm,Int.neg_zero]
  have e2 : (if (arcD A k).t = x then (-1 : Int) else 0) = - if x = (arcD A k).t then 1 else 0:=by
   by_cases hh : (arcD A k).t = x
   ·rw [if_pos hh,if_pos hh.symm]
   ·rw [if_neg hh,if_neg fun e=>hh e.symm,Int.neg_zero]
  rw [e1,e2]
  omega
 have hus : ∀ i,(g.set k (g.getD k 0 - 1)).getD i 0 + ((l ++ [k]).count i : Int) ≤ f.getD i 0:=fun i=>by
  have h1:=h.used i
  rw [zq5 g k i _ hkl,List.count_append]
  by_cases hi : k = i
  ·subst hi
   rw [if_pos rfl,show List.count k [k] = 1 by simp]
   omega
  ·rw [if_neg hi,show List.count i [k] = 0 from List.count_eq_zero.2 (by simpa using fun e=>hi e.symm)]
   omega
 refine ⟨fun hm=>⟨by rw [List.length_set]; exact h.len,hnn,h.way.snoc hk hf,?_,hus,hex⟩,fun n hn=>⟨by rw [List.length_set]; exact h.len,hnn,h.way.take n _ hn,?_,fun i=>?_,hex⟩⟩
 ·rw [zs4,← List.cons_append,List.nodup_append]
  exact ⟨h.met,by simp,fun a ha b hb=>by rw [List.mem_singleton] at hb; subst hb; rintro rfl; exact hm ha⟩
 ·have hs : ((0 : Int) :: metA A (l.take n)).Sublist ((0 : Int) :: metA A l):=((List.take_sublist n l).map _).cons_cons 0
  exact h.met.sublist hs
 ·have h1:=hus i
  have h2 : (l.take n).count i ≤ (l ++ [k]).count i:=Nat.le_trans (znb l n i) (by rw [List.count_append]; omega)
  omega
structure zhI (A : List Ed) (E : Int → Int → Prop) (seeds sinks : List Int) (c : Int → Int) : Prop where
 kind : ∀ i,i < A.length → (∃ x,x ∈ seeds ∧ 0 ≤ x ∧ arcD A i = ⟨0,2 + 2 * x,c x⟩) ∨ (∃ x,0 ≤ x ∧ arcD A i = ⟨2 + 2 * x,3 + 2 * x,c x - 1⟩) ∨ (∃ x,x ∈ sinks ∧ 0 ≤ x ∧ arcD A i = ⟨2 + 2 * x,1,1⟩) ∨ (∃ x y,0 ≤ x ∧ 0 ≤ y ∧ E x y ∧ arcD A i = ⟨3 + 2 * x,2 + 2 * y,64⟩)
 uniq : ∀ i j,i < A.length → j < A.length → (arcD A i).f = (arcD A j).f → (arcD A i).t = (arcD A j).t → i = j
inductive zhp (A : List Ed) (E : Int → Int → Prop) (sinks : List Int) (c : Int → Int) : Int → List Nat → List Int → Prop
 | last (k : Int) (i : Nat) : i < A.length → arcD A i = ⟨2 + 2 * k,1,1⟩ → k ∈ sinks → zhp A E sinks c k [i] []
 | more (k y : Int) (i j : Nat) (l : List Nat) (ks : List Int) : i < A.length → arcD A i = ⟨2 + 2 * k,3 + 2 * k,c k - 1⟩ → arcD A j = ⟨3 + 2 * k,2 + 2 * y,64⟩ → E k y → 0 ≤ y → zhp A E sinks c y l ks → zhp A E sinks c k (i :: j :: l) (y :: ks)
variable {A : List Ed} {E : Int → Int → Prop} {seeds sinks : List Int} {c : Int → Int}
theorem zhI.sinkless (h : zhI A E seeds sinks c) {i : Nat} (hi : i < A.length) : (arcD A i).f ≠ 1:=by
 rcases h.kind i hi with ⟨x,_,hx,e⟩ | ⟨x,hx,e⟩ | ⟨x,_,hx,e⟩ | ⟨x,y,hx,hy,_,e⟩ <;> rw [e] <;> simp only <;> omega
theorem zhI.path (h : zhI A E seeds sinks c) : ∀ (n : Nat) (l : List Nat) (k : Int),l.length ≤ n → 0 ≤ k → WayA A (2 + 2 * k) l 1 → ∃ ks,zhp A E sinks c k l ks
 | _,[],k,_,hk,hw=>by
   have : 2 + 2 * k = 1:=hw
   omega
 | n,[i],k,_,hk,hw=>by
   obtain ⟨h1,h2,h3⟩:=hw
   have h3' : (arcD A i).t = 1:=h3
   rcases h.kind i h1 with ⟨x,_,hx,e⟩ | ⟨x,hx,e⟩ | ⟨x,hs,hx,e⟩ | ⟨x,y,hx,hy,_,e⟩ <;> rw [e] at h2 h3' <;> simp only at h2 h3'
   ·omega
   ·omega
   ·have : x = k:=by omega
    subst this
    exact ⟨[],.last _ i h1 e hs⟩
   ·omega
 | 0,_ :: _ :: _,_,hn,_,_=>by simp at hn
 | n + 1,i :: j :: l,k,hn,hk,hw=>by
   obtain ⟨h1,h2,h4,h5,h6⟩:=hw
   rcases h.kind i h1 with ⟨x,_,hx,e⟩ | ⟨x,hx,e⟩ | ⟨x,hs,hx,e⟩ | ⟨x,y,hx,hy,_,e⟩
   ·rw [e] at h2; simp only at h2; omega
   ·rw [e] at h2 h5
    simp only at h2 h5
    have : x = k:=by omega
    subst this
    rcases h.kind j h4 with ⟨z,_,hz,e'⟩ | ⟨z,hz,e'⟩ | ⟨z,hs,hz,e'⟩ | ⟨z,y,hz,hy,hE,e'⟩
    ·rw [e'] at h5; simp only at h5; omega
    ·rw [e'] at h5; simp only at h5; omega
    ·rw [e'] at h5; simp only at h5; omega
    ·rw [e'] at h5 h6
     simp only at h5 h6
     have : z = x:=by omega
     subst this
     obtain ⟨ks,hp⟩:=h.path n l y (by simp at hn; omega) hy h6
     exact ⟨y :: ks,.more _ y i j l ks h1 e e' hE hy hp⟩
   ·rw [e] at h5
    simp only at h5
    exact absurd h5 (h.sinkless h4)
   ·rw [e] at h2; simp only at h2; omega
def keyT (t : Int) : Option Int:=if 2 ≤ t ∧ t % 2 = 0 then some ((t - 2) / 2) else none
def zcN (A : List Ed) (l : List Nat) : List Int:=(metA A l).filterMap keyT
theorem zlU {k : Int} (h : 0 ≤ k) : keyT (2 + 2 * k) = some k:=by
 unfold keyT
 rw [if_pos ⟨by omega,by omega⟩]
 congr 1
 omega
theorem zss (k : Int) : keyT (3 + 2 * k) = none:=if_neg (by omega)
theorem zsB : keyT 1 = none:=if_neg (by omega)
theorem zhp.keys {k : Int} {l : List Nat} {ks : List Int} (h : zhp A E sinks c k l ks) : zcN A l = ks:=by
 induction h with
 | last k i h1 h2 h3 =>
   unfold zcN metA
   rw [List.map_cons,List.map_nil,List.filterMap_cons,h2]
   simp only
   rw [zsB]
   rfl
 | more k y i j l ks h1 h2 h3 h4 h5 h6 ih =>
   unfold zcN metA at ih ⊢
   rw [List.map_cons,List.map_cons,List.filterMap_cons,h2]
   simp only
   rw [zss,List.filterMap_cons,h3]
   simp only
   rw [zlU h5,ih]
theorem zhp.edges {k : Int} {l : List Nat} {ks : List Int} (h : zhp A E sinks c k l ks) : ∀ i (hi : i + 1 < (k :: ks).length),E (k :: ks)[i] (k :: ks)[i + 1]:=by
 induction h with
 | last k i h1 h2 h3=>intro i hi; simp at hi
 | more k y i j l ks h1 h2 h3 h4 h5 h6 ih =>
   intro n hn
   cases n with
   | zero=>exact h4
   | succ n=>exact ih n (by simpa using hn)
theorem zhp.ends {k : Int} {l : List Nat} {ks : List Int} (h : zhp A E sinks c k l ks) : ∃ z,(k :: ks).getLast? = some z ∧ z ∈ sinks ∧ ∃ i ∈ l,i < A.length ∧ arcD A i = ⟨2 + 2 * z,1,1⟩:=by
 induction h with
 | last k i h1 h2 h3=>exact ⟨k,rfl,h3,i,List.mem_singleton.2 rfl,h1,h2⟩
 | more k y i j l ks h1 h2 h3 h4 h5 h6 ih =>
   obtain ⟨z,hz,hs,m,hm,hm2,hm3⟩:=ih
   exact ⟨z,by rw [List.getLast?_cons_cons]; exact hz,hs,m,List.mem_cons_of_mem _ (List.mem_cons_of_mem _ hm),hm2,hm3⟩
theorem zhp.uses (hu : ∀ i j,i < A.length → j < A.length → (arcD A i).f = (arcD A j).f → (arcD A i).t = (arcD A j).t → i = j) {k : Int} {l : List Nat} {ks : List Int} (h : zhp A E sinks c k l ks) {m : Int} {n : Nat} (hn : n < A.length) (hm : arcD A n = ⟨2 + 2 * m,3 + 2 * m,c m - 1⟩) : (k :: ks).dropLast.count m ≤ l.count n:=by
 induction h with
 | last k i h1 h2 h3=>simp
 | more k y i j l ks h1 h2 h3 h4 h5 h6 ih =>
   rw [List.dropLast_cons_of_ne_nil (by simp),List.count_cons]
   have h7 : l.count n ≤ (j :: l).count n:=by rw [List.count_cons]; omega
   rw [List.count_cons]
   by_cases hk : k = m
   ·subst hk
    have : i = n:=hu i n h1 hn (by rw [h2,hm]) (by rw [h2,hm])
    subst this
    simp only [beq_self_eq_true,if_true]
    omega
   ·have hk' : (k == m) = false:=by simpa using hk
    rw [hk']
    simp only [Bool.false_eq_true,if_false]
    omega
theorem zhp.mids {k : Int} {l : List Nat} {ks : List Int} (h : zhp A E sinks c k l ks) {m : Int} (hm : m ∈ (k :: ks).dropLast) : ∃ n,n < A.length ∧ arcD A n = ⟨2 + 2 * m,3 + 2 * m,c m - 1⟩:=by
 induction h with
 | last k i h1 h2 h3=>simp at hm
 | more k y i j l ks h1 h2 h3 h4 h5 h6 ih =>
   rw [List.dropLast_cons_of_ne_nil (by simp)] at hm
   rcases List.mem_cons.1 hm with rfl | hm
   ·exact ⟨i,h1,h2⟩
   ·exact ih hm
theorem zhI.whole (h : zhI A E seeds sinks c) {l : List Nat} (hw : WayA A 0 l 1) : ∃ x i l' ks,l = i :: l' ∧ i < A.length ∧ x ∈ seeds ∧ 0 ≤ x ∧ arcD A i = ⟨0,2 + 2 * x,c x⟩ ∧ zhp A E sinks c x l' ks ∧ zcN A l = x :: ks:=by
 cases l with
 | nil=>have : (0 : Int) = 1:=hw; omega
 | cons i l =>
   obtain ⟨h1,h2,h3⟩:=hw
   rcases h.kind i h1 with ⟨x,hs,hx,e⟩ | ⟨x,hx,e⟩ | ⟨x,hs,hx,e⟩ | ⟨x,y,hx,hy,_,e⟩
   ·rw [e] at h3
    obtain ⟨ks,hp⟩:=h.path l.length l x (Nat.le_refl _) hx h3
    refine ⟨x,i,l,ks,rfl,h1,hs,hx,e,hp,?_⟩
    have hk:=hp.keys
    unfold zcN metA at hk ⊢
    rw [List.map_cons,List.filterMap_cons,e]
    simp only
    rw [zlU hx,hk]
   ·rw [e] at h2; simp only at h2; omega
   ·rw [e] at h2; simp only at h2; omega
   ·rw [e] at h2; simp only at h2; omega
theorem zpF {l : List Nat} (h : (metA A l).Nodup) : (zcN A l).Nodup:=by
 unfold zcN
 refine List.Pairwise.filterMap _ (fun a a' hne b hb b' hb'=>?_) h
 unfold keyT at hb hb'
 split at hb <;> split at hb' <;> simp at hb hb' <;> omega
def sumN (g : List Nat → Nat) (W : List (List Nat)) : Nat:=(W.map g).sum
theorem zj8 (g : List Nat → Nat) (w : List Nat) (W : List (List Nat)) : sumN g (w :: W) = g w + sumN g W:=by simp [sumN]
theorem zlv {l : List Int} (h : ∀ x,l.count x ≤ 1) : l.Nodup:=by
 induction l with
 | nil=>exact List.nodup_nil
 | cons x l ih =>
   rw [List.nodup_cons]
   refine ⟨fun hm=>?_,ih fun y=>?_⟩
   ·have h1:=h x
    rw [List.count_cons_self] at h1
    have h2:=List.count_pos_iff.2 hm
    omega
   ·have h1:=h y
    rw [List.count_cons] at h1
    omega
theorem ztO {A : List Ed} {n : Nat} {k : Int} : ∀ {W : List (List Nat)},(∀ w ∈ W,(zcN A w).head? = some k → 1 ≤ w.count n) → begC (W.map (zcN A)) k ≤ sumN (List.count n) W
 | [],_=>by simp [begC,sumN]
 | w :: W,h=>by
   have ih:=ztO (n:=n) (k:=k) fun x hx=>h x (List.mem_cons_of_mem w hx)
   have h1:=h w (List.mem_cons_self ..)
   unfold begC at ih ⊢
   rw [List.map_cons,List.countP_cons,zj8]
   by_cases hk : (zcN A w).head? = some k
   ·have:=h1 hk
    simp only [hk,decide_true,if_true]
    omega
   ·simp only [hk,decide_false,Bool.false_eq_true,if_false]
    omega
theorem zoo {A : List Ed} {k : Int} : ∀ {W : List (List Nat)},begC (W.map (zcN A)) k = 0 ∨ ∃ w ∈ W,(zcN A w).head? = some k
 | []=>.inl rfl
 | w :: W=>by
   by_cases hk : (zcN A w).head? = some k
   ·exact .inr ⟨w,List.mem_cons_self ..,hk⟩
   ·rcases zoo (A:=A) (k:=k) (W:=W) with h | ⟨x,hx,hx2⟩
    ·left
     unfold begC at h ⊢
     rw [List.map_cons,List.countP_cons,h]
     simp [hk]
    ·exact .inr ⟨x,List.mem_cons_of_mem _ hx,hx2⟩
theorem zs9 {A : List Ed} {n : Nat} {k : Int} : ∀ {W : List (List Nat)},(∀ w ∈ W,(zcN A w).dropLast.count k ≤ w.count n) → useC (W.map (zcN A)) k ≤ sumN (List.count n) W
 | [],_=>by simp [useC,sumN]
 | w :: W,h=>by
   have ih:=zs9 (n:=n) (k:=k) fun x hx=>h x (List.mem_cons_of_mem w hx)
   have h1:=h w (List.mem_cons_self ..)
   unfold useC at ih ⊢
   rw [List.map_cons,List.flatMap_cons,List.count_append,zj8]
   omega
theorem zoR {A : List Ed} {k : Int} : ∀ {W : List (List Nat)},useC (W.map (zcN A)) k = 0 ∨ ∃ w ∈ W,k ∈ (zcN A w).dropLast
 | []=>.inl rfl
 | w :: W=>by
   by_cases hk : k ∈ (zcN A w).dropLast
   ·exact .inr ⟨w,List.mem_cons_self ..,hk⟩
   ·rcases zoR (A:=A) (k:=k) (W:=W) with h | ⟨x,hx,hx2⟩
    ·left
     unfold useC at h ⊢
     rw [List.map_cons,List.flatMap_cons,List.count_append,h,List.count_eq_zero.2 hk]
    ·exact .inr ⟨x,List.mem_cons_of_mem _ hx,hx2⟩
theorem zq1 {A : List Ed} {n : Nat} {k : Int} : ∀ {W : List (List Nat)},(∀ w ∈ W,(zcN A w).getLast? = some k → 1 ≤ w.count n) → (ziW (W.map (zcN A))).count k ≤ sumN (List.count n) W
 | [],_=>by simp [ziW,sumN]
 | w :: W,h=>by
   have ih:=zq1 (n:=n) (k:=k) fun x hx=>h x (List.mem_cons_of_mem w hx)
   have h1:=h w (List.mem_cons_self ..)
   unfold ziW at ih ⊢
   rw [List.map_cons,List.filterMap_cons,zj8]
   cases hl : (zcN A w).getLast? with
   | none=>simp only; omega
   | some z =>
     simp only [List.count_cons]
     by_cases hz : z = k
     ·subst hz
      have:=h1 hl
      simp only [beq_self_eq_true,if_true]
      omega
     ·have : (z == k) = false:=by simpa using hz
      rw [this]
      simp only [Bool.false_eq_true,if_false]
      omega
theorem zsd {A : List Ed} {E : Int → Int → Prop} {seeds sinks : List Int} {cl : List Int} {f : List Int} {W : List (List Nat)}
  (hk : zhI A E seeds sinks fun x=>cl.getD x.toNat 0) (hf : Fit2 A f) (hw : ∀ w ∈ W,WayA A 0 w 1 ∧ (metA A w).Nodup) (hs : ∀ i,i < A.length → (sumN (List.count i) W : Int) ≤ f.getD i 0) (hc : ∀ x ∈ cl,0 ≤ x) :
  znk cl (W.map (zcN A)) ∧ (ziW (W.map (zcN A))).Nodup ∧ (∀ k ∈ ziW (W.map (zcN A)),k ∈ sinks) ∧
  ∀ p ∈ W.map (zcN A),(∃ k,p.head? = some k ∧ k ∈ seeds) ∧ p.Nodup ∧ ∀ i (h : i + 1 < p.length),E p[i] p[i + 1]:=by
 have hfit:=(zc1.1 hf).2
 have hlast : ∀ w ∈ W,∃ z,(zcN A w).getLast? = some z ∧ z ∈ sinks ∧ ∃ i ∈ w,i < A.length ∧ arcD A i = ⟨2 + 2 * z,1,1⟩:=fun w hwW=>by
  obtain ⟨x,i,l',ks,rfl,hi,hxs,hx0,he,hp,hkk⟩:=hk.whole (hw w hwW).1
  obtain ⟨z,hz,hzs,m,hm,hm2,hm3⟩:=hp.ends
  exact ⟨z,by rw [hkk]; exact hz,hzs,m,List.mem_cons_of_mem _ hm,hm2,hm3⟩
 refine ⟨fun k hkl=>⟨?_,?_⟩,zlv fun z=>?_,fun z hz=>?_,fun p hp=>?_⟩
 ·have hck:=hc _ (List.getElem_mem hkl)
  have hcg : cl.getD k 0 = cl[k]:=by rw [List.getD_eq_getElem?_getD,List.getElem?_eq_getElem hkl,Option.getD_some]
  rcases zoo (A:=A) (k:=(k : Int)) (W:=W) with h | ⟨w,hwW,hh⟩
  ·rw [h]; exact hck
  ·obtain ⟨x,i,l',ks,rfl,hi,hxs,hx0,he,hp,hkk⟩:=hk.whole (hw w hwW).1
   rw [hkk] at hh
   have hxk : x = k:=Option.some.inj hh
   subst hxk
   have h1:=ztO (A:=A) (n:=i) (k:=(k : Int)) (W:=W) fun v hvW hvk=>by
    obtain ⟨y,j,l2,ks2,rfl,hj,_,_,he2,_,hkk2⟩:=hk.whole (hw v hvW).1
    rw [hkk2] at hvk
    have hyk : y = k:=Option.some.inj hvk
    have : j = i:=hk.uniq j i hj hi (by rw [he2,he]) (by rw [he2,he,hyk])
    subst this
    rw [List.count_cons_self]
    omega
   have h2:=hs i hi
   have h3:=(hfit i hi).2
   rw [he] at h3
   simp only [Int.toNat_natCast] at h3
   rw [hcg] at h3
   omega
 ·have hck:=hc _ (List.getElem_mem hkl)
  have hcg : cl.getD k 0 = cl[k]:=by rw [List.getD_eq_getElem?_getD,List.getElem?_eq_getElem hkl,Option.getD_some]
  rcases zoR (A:=A) (k:=(k : Int)) (W:=W) with h | ⟨w,hwW,hh⟩
  ·rw [h]; omega
  ·obtain ⟨x,i,l',ks,rfl,hi,hxs,hx0,he,hp,hkk⟩:=hk.whole (hw w hwW).1
   rw [hkk] at hh
   obtain ⟨n,hn,hnA⟩:=hp.mids hh
   have h1:=zs9 (A:=A) (n:=n) (k:=(k : Int)) (W:=W) fun v hvW=>by
    obtain ⟨y,j,l2,ks2,rfl,hj,_,_,he2,hp2,hkk2⟩:=hk.whole (hw v hvW).1
    rw [hkk2,List.count_cons]
    have:=hp2.uses hk.uniq hn hnA
    omega
   have h2:=hs n hn
   have h3:=(hfit n hn).2
   rw [hnA] at h3
   simp only [Int.toNat_natCast] at h3
   rw [hcg] at h3
   omega
 ·by_cases hz : z ∈ ziW (W.map (zcN A))
  ·obtain ⟨p,hp,hpz⟩:=List.mem_filterMap.1 hz
   obtain ⟨w,hwW,rfl⟩:=List.mem_map.1 hp
   obtain ⟨y,hy,hys,i,hiw,hi,hiA⟩:=hlast w hwW
   rw [hpz] at hy
   have hzy : z = y:=Option.some.inj hy
   subst hzy
   have h1:=zq1 (A:=A) (n:=i) (k:=z) (W:=W) fun v hvW hvz=>by
    obtain ⟨y,hy,_,j,hjv,hj,hjA⟩:=hlast v hvW
    rw [hvz] at hy
    have hzy : z = y:=Option.some.inj hy
    have : j = i:=hk.uniq j i hj hi (by rw [hjA,hiA,hzy]) (by rw [hjA,hiA])
    subst this
    exact List.count_pos_iff.2 hjv
   have h2:=hs i hi
   have h3:=(hfit i hi).2
   rw [hiA] at h3
   simp only at h3
   omega
  ·rw [List.count_eq_zero.2 hz]
   omega
 ·obtain ⟨p,hp,hpz⟩:=List.mem_filterMap.1 hz
  obtain ⟨w,hwW,rfl⟩:=List.mem_map.1 hp
  obtain ⟨y,hy,hys,_⟩:=hlast w hwW
  rw [hpz] at hy
  rw [Option.some.inj hy]
  exact hys
 ·obtain ⟨w,hwW,rfl⟩:=List.mem_map.1 hp
  refine ⟨?_,zpF (hw w hwW).2,?_⟩
  ·obtain ⟨x,i,l',ks,rfl,hi,hxs,hx0,he,hp,hkk⟩:=hk.whole (hw w hwW).1
   exact ⟨x,by rw [hkk]; rfl,hxs⟩
  ·obtain ⟨x,i,l',ks,rfl,hi,hxs,hx0,he,hp,hkk⟩:=hk.whole (hw w hwW).1
   have:=hp.edges
   intro n hn
   simp only [hkk] at hn ⊢
   exact this n hn
def zeC (e : Ed) : Int × Int:=(e.f,e.t)
theorem zmy {A : List Ed} (h : (A.map zeC).Nodup) {i j : Nat} (hi : i < A.length) (hj : j < A.length) (h1 : (arcD A i).f = (arcD A j).f) (h2 : (arcD A i).t = (arcD A j).t) : i = j:=by
 have hg : ∀ k (hk : k < A.length),(A.map zeC)[k]'(by simpa using hk) = zeC (arcD A k):=fun k hk=>by
  rw [List.getElem_map]
  unfold arcD
  rw [List.getD_eq_getElem?_getD,List.getElem?_eq_getElem hk,Option.getD_some]
 have he : zeC (arcD A i) = zeC (arcD A j):=by unfold zeC; rw [h1,h2]
 rcases Nat.lt_trichotomy i j with hlt | heq | hgt
 ·exact absurd ((hg i hi).trans (he.trans (hg j hj).symm)) (List.pairwise_iff_getElem.1 h i j (by simpa using hi) (by simpa using hj) hlt)
 ·exact heq
 ·exact absurd ((hg j hj).trans (he.symm.trans (hg i hi).symm)) (List.pairwise_iff_getElem.1 h j i (by simpa using hj) (by simpa using hi) hgt)
theorem zgv {α β : Type} {φ : α → β} {l : List α} (h : l.Nodup) (hi : ∀ a ∈ l,∀ b ∈ l,φ a = φ b → a = b) : (l.map φ).Nodup:=by
 rw [List.Nodup,List.pairwise_map]
 exact List.Pairwise.imp_of_mem (fun {a b} ha hb hab he=>hab (hi a ha b hb he)) h
theorem zqo {g : Gr} {p : Pol} {c sinks seeds' : List Int} {E : Int → Int → Prop} (hE : ∀ e ∈ (zal g p.lv).edges,0 < c.getD e.f.toNat 0 → E e.f e.t) (hS : ∀ x ∈ p.seeds,0 < c.getD x.toNat 0 → x ∈ seeds') (hs : p.seeds.Nodup) (hs0 : ∀ x ∈ p.seeds,0 ≤ x) (hk : sinks.Nodup) (hk0 : ∀ x ∈ sinks,0 ≤ x) (he : ((zal g p.lv).edges.map zeC).Nodup) (he0 : ∀ e ∈ (zal g p.lv).edges,0 ≤ e.f ∧ 0 ≤ e.t) :
  zhI (za8 g p c sinks) E seeds' sinks fun x=>c.getD x.toNat 0:=by
 refine ⟨fun i hi=>?_,fun i j hi hj=>zmy ?_ hi hj⟩
 ·have hm:=zd3 hi
  revert hm
  generalize arcD (za8 g p c sinks) i = a
  intro hm
  unfold za8 at hm
  rcases List.mem_append.1 hm with hm | hm
  ·rcases List.mem_append.1 hm with hm | hm
   ·rcases List.mem_append.1 hm with hm | hm
    ·obtain ⟨x,hx,rfl⟩:=List.mem_map.1 hm
     have hx:=List.mem_filter.1 hx
     exact .inl ⟨x,hS x hx.1 (by simpa using hx.2),hs0 x hx.1,rfl⟩
    ·obtain ⟨x,hx,rfl⟩:=List.mem_map.1 hm
     exact .inr (.inl ⟨x,Int.natCast_nonneg _,by simp⟩)
   ·obtain ⟨x,hx,rfl⟩:=List.mem_map.1 hm
    have hx:=(List.mem_filter.1 hx).1
    exact .inr (.inr (.inl ⟨x,hx,hk0 x hx,rfl⟩))
  ·obtain ⟨e,hx,rfl⟩:=List.mem_map.1 hm
   have hx:=List.mem_filter.1 hx
   have h0:=he0 e hx.1
   exact .inr (.inr (.inr ⟨e.f,e.t,h0.1,h0.2,hE e hx.1 (by simpa using hx.2),rfl⟩))
 ·unfold za8
  simp only [List.map_append,List.map_map]
  refine List.nodup_append.2 ⟨List.nodup_append.2 ⟨List.nodup_append.2 ⟨?_,?_,?_⟩,?_,?_⟩,?_,?_⟩
  ·exact zgv (hs.filter _) fun a _ b _ h=>by simp [zeC] at h; omega
  ·exact zgv (List.nodup_range.filter _) fun a _ b _ h=>by simp [zeC] at h; omega
  ·intro a ha b hb
   obtain ⟨x,hx,rfl⟩:=List.mem_map.1 ha
   obtain ⟨y,hy,rfl⟩:=List.mem_map.1 hb
   intro h
   simp [zeC] at h
   omega
  ·exact zgv (hk.filter _) fun a _ b _ h=>by simp [zeC] at h; omega
  ·intro a ha b hb
   obtain ⟨y,hy,rfl⟩:=List.mem_map.1 hb
   have hy0:=hk0 y (List.mem_filter.1 hy).1
   rcases List.mem_append.1 ha with ha | ha
   ·obtain ⟨x,hx,rfl⟩:=List.mem_map.1 ha
    intro h
    simp [zeC] at h
    omega
   ·obtain ⟨x,hx,rfl⟩:=List.mem_map.1 ha
    intro h
    simp [zeC] at h
    omega
  ·have h1 : ((zal g p.lv).edges.filter fun e=>decide (0 < c.getD e.f.toNat 0)).Pairwise fun a b=>zeC a ≠ zeC b:=by
    rw [List.Nodup,List.pairwise_map] at he
    exact he.filter _
   rw [List.Nodup,List.pairwise_map]
   refine h1.imp fun {a b} hab h=>hab ?_
   simp [zeC] at h
   unfold zeC
   rw [show a.f = b.f by omega,show a.t = b.t by omega]
  ·intro a ha b hb
   obtain ⟨e,hy,rfl⟩:=List.mem_map.1 hb
   have hy0:=he0 e (List.mem_filter.1 hy).1
   rcases List.mem_append.1 ha with ha | ha
   ·rcases List.mem_append.1 ha with ha | ha
    ·obtain ⟨x,hx,rfl⟩:=List.mem_map.1 ha
     intro h
     simp [zeC] at h
     omega
    ·obtain ⟨x,hx,rfl⟩:=List.mem_map.1 ha
     intro h
     simp [zeC] at h
     omega
   ·obtain ⟨x,hx,rfl⟩:=List.mem_map.1 ha
    intro h
    simp [zeC] at h
    omega
structure Expl where
 key : Int
 acc : Bool
 before : List Int
 paths : List (List Int)
 side : List Int
theorem zbj (g : Gr) (S : List Int) : (ordL g S).Nodup:=by
 refine (zn4 (g:=g) (S:=S) g.size.toNat).imp fun {a b} h e=>?_
 subst e
 unfold Lt at h
 omega
theorem zcg {g : Gr} {S : List Int} {k : Int} (h : k ∈ ordL g S) : 0 ≤ k ∧ k < g.size:=by
 have:=zjQ.1 h
 omega
open Classical in
noncomputable def zsM (g : Gr) (p : Pol) (x : Expl) : Int :=
 let order:=ordL (zal g p.lv) p.seeds
 let c:=zaN g p
 if x.key ∉ order then 11
 else if ¬ zgs order x.before x.key ∨ (x.acc = true ∧ x.side ≠ []) ∨ (x.acc = false ∧ x.paths ≠ []) then 1
 else if x.acc = true then (if ziq g p.lv p.seeds order c x.paths (x.before ++ [x.key]) then 0 else 52)
 else if zcV ⟨2 + 2 * g.size,za8 g p c (srt (x.before ++ [x.key]))⟩ x.side x.before.length then 0 else 52
open Classical in
noncomputable def zsw (g : Gr) (p : Pol) (x : Expl) : Int :=
 let order:=ordL (zal g p.lv) p.seeds
 let c:=zaN g p
 if x.key ∉ order then 11
 else if ¬ zgs order x.before x.key ∨ (x.acc = true ∧ x.side ≠ []) ∨ (x.acc = false ∧ x.paths ≠ []) then 1
 else if x.acc = true then (if zku g p.lv p.seeds order c x.paths (x.before ++ [x.key]) then 0 else 52)
 else if zcV ⟨2 + 2 * g.size,za8 g p c (zaw (x.before ++ [x.key]))⟩ x.side x.before.length then 0 else 52
theorem zrW {g : Gr} (hs : g.size ≤ 64) (p : Pol) (x : Expl) : zsM g p x = zsw g p x:=by
 unfold zsM zsw
 simp only
 have hno:=zbj (zal g p.lv) p.seeds
 have hra : ∀ k ∈ ordL (zal g p.lv) p.seeds,0 ≤ k ∧ k < 64:=fun k hk=>by
  have:=zcg hk
  have h2 : (zal g p.lv).size = g.size:=rfl
  omega
 generalize ordL (zal g p.lv) p.seeds = o at *
 by_cases h1 : x.key ∈ o
 ·by_cases h2 : ¬ zgs o x.before x.key ∨ (x.acc = true ∧ x.side ≠ []) ∨ (x.acc = false ∧ x.paths ≠ [])
  ·rw [if_neg (not_not_intro h1),if_pos h2,if_neg (not_not_intro h1),if_pos h2]
  ·rw [if_neg (not_not_intro h1),if_neg h2,if_neg (not_not_intro h1),if_neg h2]
   have h3 : zgs o x.before x.key:=Classical.byContradiction fun h=>h2 (.inl h)
   have h4:=h3.nodup hno
   have h5 : ∀ k ∈ x.before ++ [x.key],0 ≤ k ∧ k < 64:=fun k hk=>by
    rcases List.mem_append.1 hk with hk | hk
    ·exact hra k ((List.takeWhile_sublist _).subset (h3.subset hk))
    ·rw [List.mem_singleton] at hk
     rw [hk]
     exact hra _ h1
   rw [zjR h4 h5]
   by_cases ha : x.acc = true
   ·rw [if_pos ha,if_pos ha]
    by_cases hc : ziq g p.lv p.seeds o (zaN g p) x.paths (x.before ++ [x.key])
    ·rw [if_pos hc,if_pos ((zml h4).1 hc)]
    ·rw [if_neg hc,if_neg fun h=>hc ((zml h4).2 h)]
   ·rw [if_neg ha,if_neg ha]
 ·rw [if_pos h1,if_pos h1]
end Go.Proofs.YthmaflecfppoiaaGreat
