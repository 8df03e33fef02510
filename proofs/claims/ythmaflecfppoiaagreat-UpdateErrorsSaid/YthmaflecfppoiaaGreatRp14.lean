/- Texts of this claim,merged. -/
import Derived.Test.YthmaflecfppoiaaGreatRp9
import Derived.Test.YthmaflecfppoiaaGreatRp10
import Derived.Test.YthmaflecfppoiaaGreatRp13
import Derived.Test.YthmaflecfppoiaaGreatRp12
set_option linter.unusedSimpArgs false
set_option linter.unusedVariables false
set_option linter.unusedSectionVars false
namespace Go.Proofs.YthmaflecfppoiaaGreat
open Go
def famH (s N : Nat) (E : Nat→List (List AV)) : List (Nat × Option Ent):=(List.range N).map fun k=>(k+1000,some ⟨s,E k,0⟩)
def famV (E : Nat→List (List AV)) (k : Nat) : AV:=.rs (k+1000) 0 (E k).length
def famO (N : Nat) (E : Nat→List (List AV)) : List (List AV):=(List.range N).map fun k=>[famV E k]
theorem zit (N : Nat) (E : Nat→List (List AV)) : (famO N E).length=N:=by simp [famO]
theorem zh6 {N k : Nat} {E : Nat→List (List AV)} (h : k<N) : (famO N E)[k]? = some [famV E k]:=by simp [famO,h]
@[simp] theorem zxy {N k : Nat} {E : Nat→List (List AV)} (h : k<(famO N E).length) : (famO N E)[k]=[famV E k]:=by simp [famO]
theorem zee {α β : Type} {f : α→β} (hf : ∀ i j,f i=f j→i=j) : ∀ {l : List α},l.Nodup→(l.map f).Nodup
 | [],_=>List.nodup_nil
 | x::l,h=>by
   rw [List.nodup_cons] at h
   rw [List.map_cons,List.nodup_cons]
   refine ⟨fun hx=>?_,zee hf h.2⟩
   obtain ⟨y,hy,e⟩:=List.mem_map.1 hx
   exact h.1 (hf _ _ e ▸ hy)
theorem znV {α : Type} (f : Nat→Nat) (hf : ∀ i j,f i=f j→i=j) (g : Nat→α) (l : List Nat) (k : Nat) : lkp (l.map fun k=>(f k,g k)) (f k)=if k∈l then some (g k) else none:=by
 induction l with
 | nil=>simp [lkp]
 | cons i l ih =>
   simp only [List.map_cons,lkp]
   by_cases h : i=k
   ·subst h; simp
   ·have h1 : f i≠f k:=fun e=>h (hf _ _ e)
    have h2 : ¬ k=i:=fun e=>h e.symm
    simp [h1,ih,h2]
theorem zoA {α : Type} (f : Nat→Nat) (g : Nat→α) (l : List Nat) (j : Nat) (h : ∀ k∈l,f k≠j) : lkp (l.map fun k=>(f k,g k)) j=none:=by
 induction l with
 | nil=>simp [lkp]
 | cons i l ih =>
   simp only [List.map_cons,lkp]
   rw [if_neg (h i (by simp)),ih fun k hk=>h k (by simp [hk])]
theorem zvL {s N : Nat} {E : Nat→List (List AV)} {r : List (Nat × Option Ent)} {k : Nat} (h : k<N) : lkp (famH s N E++r) (k+1000)=some (some ⟨s,E k,0⟩):=by
 rw [zfi,famH,znV (fun k=>k+1000) (fun i j h=>by simpa using h)]
 simp [h]
theorem zqS {s N : Nat} {E : Nat→List (List AV)} {r : List (Nat × Option Ent)} {j : Nat} (h : j<1000∨1000+N≤j) : lkp (famH s N E++r) j=lkp r j:=by
 rw [zfi,famH,zoA (fun k=>k+1000) _ _ _ (fun k hk e=>by have:=List.mem_range.1 hk; omega)]
 simp
section
variable {sz n s N : Nat} {t : List (Nat × AV)} {E : Nat→List (List AV)} {r : List (Nat × Option Ent)}
theorem zwG {k : Nat} (h : k<N) : (⟨sz,t,famH s N E++r,n⟩ : St).hp (k+1000)=some ⟨s,E k,0⟩:=by
 show (lkp _ _).getD none=_
 rw [zvL h]
 rfl
theorem zkv {j : Nat} (h : j<1000) : (⟨sz,t,famH s N E++r,n⟩ : St).hp j=(⟨sz,t,r,n⟩ : St).hp j:=by
 show (lkp _ _).getD none=(lkp _ _).getD none
 rw [zqS (.inl h)]
theorem zu7 {j : Nat} (h : 1000+N≤j) : (⟨sz,t,famH s N E++r,n⟩ : St).hp j=(⟨sz,t,r,n⟩ : St).hp j:=by
 show (lkp _ _).getD none=(lkp _ _).getD none
 rw [zqS (.inr h)]
end
def famR (m a N : Nat) (L : List Nat) : List (Nat × Nat):=(m,a+1000)::(L++((List.range N).filter (· ≠ a)).map (· + 1000)).map fun j=>(j,j)
theorem zub {m a N : Nat} {L : List Nat} (hL : L.Nodup) (h1 : ∀ j∈L,j<1000) (hm : m∉L) (hm1 : m<1000∨1000+N≤m) : ((famR m a N L).map (·.1)).Nodup:=by
 simp only [famR,List.map_cons,List.map_map,fcd,List.map_id',List.nodup_cons,List.mem_append,List.mem_map,List.mem_filter,List.mem_range]
 refine ⟨?_,?_⟩
 ·rintro (h | ⟨k,⟨h,_⟩,e⟩)
  ·exact hm h
  ·omega
 ·refine List.nodup_append.2 ⟨hL,?_,?_⟩
  ·exact zee (fun i j h=>by simpa using h) (List.nodup_range.filter _)
  ·intro x hx y hy e
   simp only [List.mem_map] at hy
   obtain ⟨k,_,e2⟩:=hy
   have:=h1 x hx
   omega
theorem zuG {m a N : Nat} {L : List Nat} (hL : L.Nodup) (h1 : ∀ j∈L,j<1000) : ((famR m a N L).map (·.2)).Nodup:=by
 simp only [famR,List.map_cons,List.map_map,fcd,List.map_id',List.nodup_cons,List.mem_append,List.mem_map,List.mem_filter,List.mem_range]
 refine ⟨?_,?_⟩
 ·rintro (h | ⟨k,⟨_,h⟩,e⟩)
  ·have:=h1 _ h; omega
  ·simp at h; omega
 ·refine List.nodup_append.2 ⟨hL,?_,?_⟩
  ·exact zee (fun i j h=>by simpa using h) (List.nodup_range.filter _)
  ·intro x hx y hy e
   simp only [List.mem_map] at hy
   obtain ⟨k,_,e2⟩:=hy
   have:=h1 x hx
   omega
theorem zpn {m a N : Nat} {L : List Nat} : lkp (famR m a N L) m=some (a+1000):=by simp [famR,lkp]
theorem zfs {m a N j : Nat} {L : List Nat} (hm : m≠j) (h : j∈L ∨ ∃ k<N,k≠a∧j=k+1000) : lkp (famR m a N L) j=some j:=by
 rw [famR,lkp,if_neg hm,znV (fun j=>j) (fun i j h=>h) (fun j=>j),if_pos]
 rcases h with h | ⟨k,h1,h2,rfl⟩
 ·simp [h]
 ·simp [h1,h2]
def grow {α : Type} (E : Nat→List α) (a : Nat) (r : α) : Nat→List α:=fun k=>if k=a then E a++[r] else E k
theorem zgd (f : AV→AV) (hf : ∀ v,f (.sc v) = .sc v) (rows : List (List AV)) (hr : ∀ r∈rows,∀ x∈r,∃ v,x = .sc v) : rows.map (·.map f)=rows:=by
 conv=>rhs; rw [← List.map_id rows]
 refine List.map_congr_left fun r hr'=>?_
 conv=>rhs; rw [id,← List.map_id r]
 refine List.map_congr_left fun x hx=>?_
 obtain ⟨v,rfl⟩:=hr r hr' x hx
 exact hf v
theorem zsD {m a N : Nat} {L : List Nat} {E : Nat→List (List AV)} {row : List AV} {h : Nat→Option Ent} {len : Nat} (ha : a<N) (hm : m<1000∨1000+N≤m) (hlen : len=(E a).length+1) :
  ((famO N E).set a [.rs m 0 len]).map (·.map (conv (famR m a N L) [] h 4))=famO N (grow E a row):=by
 apply List.ext_getElem?
 intro j
 rw [List.getElem?_map,List.getElem?_set,zit]
 by_cases hj : a=j
 ·subst hj
  rw [if_pos rfl,if_pos ha,zh6 ha]
  simp [zpn,famV,grow,hlen]
 ·rw [if_neg hj]
  by_cases hjN : j<N
  ·rw [zh6 hjN,zh6 hjN]
   have h1 : lkp (famR m a N L) (j+1000)=some (j+1000):=zfs (by omega) (.inr ⟨j,hjN,fun e=>hj e.symm,rfl⟩)
   have h2 : j≠a:=fun e=>hj e.symm
   simp [famV,h1,grow,h2]
  ·simp [famO,hjN]
theorem Le.fam {np s N a m : Nat} {E : Nat→List (List AV)} {row : List AV} (L : List Nat) {st st' : St} (hsz : st'.sz=st.sz)
  (ha : a<N) (hL : L.Nodup) (h1 : ∀ j∈L,j<1000) (hm1 : 1000+N≤m) (hn : 1000+N≤st'.n) (hnp : np≤1000)
  (hE : ∀ k<N,∀ r∈E k,∀ x∈r,∃ v,x = .sc v) (hrow : ∀ x∈row,∃ v,x = .sc v)
  (hst : ∀ k<N,k≠a→st.hp (k+1000)=some ⟨s,E k,0⟩) (hsm : st.hp m=some ⟨s,E a++[row],0⟩)
  (hst' : ∀ k<N,st'.hp (k+1000)=some ⟨s,grow E a row k,0⟩)
  (hout : ∀ j,j∉L→(j<1000∨1000+N≤j)→st'.hp j=none)
  (ht : ∀ p∈st'.t,Wk (conv (famR m a N L) [] st.hp 4 (st.get p.1)) p.2)
  (hb : ∀ j∈L,∀ e',st'.hp j=some e' → ∃ e,st.hp j=some e∧zaI [] (zax (famR m a N L) [] st.hp 4 e) e') : Le np st st':=by
 have hm : m∉L:=fun h=>by have:=h1 m h; omega
 refine Le.mk (famR m a N L) [] [] hsz (zub hL h1 hm (.inr hm1)) (zuG hL h1) ?_ (by simp) (by simp) (by omega) (by simp) (fun i=>?_) ?_
 ·intro p hp
  simp only [famR,List.mem_cons,List.mem_map,List.mem_append,List.mem_filter,List.mem_range] at hp
  rcases hp with rfl | ⟨j,h | ⟨k,⟨h2,_⟩,rfl⟩,rfl⟩
  ·exact ⟨by simp only; omega,fun h=>by simp only at h; omega⟩
  ·have:=h1 j h
   exact ⟨by simp only; omega,fun _=>rfl⟩
  ·exact ⟨by simp only; omega,fun _=>rfl⟩
 ·unfold St.get at *
  cases hl : lkp st'.t i with
  | none=>exact .inl (.dead _)
  | some v=>exact .inl (ht _ (zbn hl))
 ·intro j e' he
  left
  by_cases hj : j∈L
  ·obtain ⟨e,h2,h3⟩:=hb j hj e' he
   refine ⟨j,e,?_,h2,h3⟩
   simp only [famR,List.mem_cons,List.mem_map,List.mem_append]
   exact .inr ⟨j,.inl hj,rfl⟩
  ·by_cases hr : j<1000∨1000+N≤j
   ·rw [hout j hj hr] at he; cases he
   ·obtain ⟨k,rfl⟩ : ∃ k,j=k+1000:=⟨j - 1000,by omega⟩
    have hk : k<N:=by omega
    rw [hst' k hk] at he
    cases he
    by_cases hka : k=a
    ·subst hka
     rw [show grow E k row k=E k++[row] from if_pos rfl]
     refine ⟨m,_,by simp [famR],hsm,?_⟩
     have : zax (famR m k N L) [] st.hp 4 ⟨s,E k++[row],0⟩=⟨s,E k++[row],0⟩:=by
      simp only [zax]
      rw [zgd _ fun v=>by simp [conv]]
      intro r hr x hx
      rcases List.mem_append.1 hr with h | h
      ·exact hE k hk r h x hx
      ·rw [List.mem_singleton.1 h] at hx; exact hrow x hx
     rw [this]
     exact zaI.rfl' (Nat.zero_le _)
    ·simp only [grow,if_neg hka]
     refine ⟨k+1000,_,?_,hst k hk hka,?_⟩
     ·simp only [famR,List.mem_cons,List.mem_map,List.mem_append,List.mem_filter,List.mem_range]
      exact .inr ⟨k+1000,.inr ⟨k,⟨hk,by simpa using hka⟩,rfl⟩,rfl⟩
     ·have : zax (famR m a N L) [] st.hp 4 ⟨s,E k,0⟩=⟨s,E k,0⟩:=by
       simp only [zax]
       rw [zgd _ (fun v=>by simp [conv]) _ (hE k hk)]
      rw [this]
      exact zaI.rfl' (Nat.zero_le _)
theorem Le.fam0 {np s N o : Nat} (L : List Nat) {st st' : St} (hsz : st'.sz=st.sz) (hs : s≠0) (hL : (o::L).Nodup) (h1 : ∀ j∈o::L,j<1000∧np≤1000) (hn : 1000+N≤st'.n)
  (ho : st.hp o=some ⟨1,(List.range N).map fun _=>[.nilS],0⟩) (ho' : st'.hp o=some ⟨1,famO N fun _=>[],0⟩)
  (hst' : ∀ k<N,st'.hp (k+1000)=some ⟨s,[],0⟩)
  (hout : ∀ j,j∉o::L→(j<1000∨1000+N≤j)→st'.hp j=none)
  (ht : ∀ p∈st'.t,Wk (conv ((o::L).map fun j=>(j,j)) [] st.hp 4 (st.get p.1)) p.2)
  (hb : ∀ j∈L,∀ e',st'.hp j=some e' → ∃ e,st.hp j=some e∧zaI [] (zax ((o::L).map fun j=>(j,j)) [] st.hp 4 e) e') : Le np st st':=by
 have hnl : ∀ p,p∈(List.range N).map (fun k=>(k+1000,s)) ↔ ∃ k<N,p=(k+1000,s):=fun p=>by
  rw [List.mem_map]
  exact ⟨fun ⟨k,h,e⟩=>⟨k,List.mem_range.1 h,e.symm⟩,fun ⟨k,h,e⟩=>⟨k,List.mem_range.2 h,e.symm⟩⟩
 have hid : ((o::L).map fun j=>(j,j)).map (·.1)=o::L:=by simp [fcd]
 have hid2 : ((o::L).map fun j=>(j,j)).map (·.2)=o::L:=by simp [fcd]
 refine Le.mk ((o::L).map fun j=>(j,j)) [] ((List.range N).map fun k=>(k+1000,s)) hsz (by rw [hid]; exact hL) (by rw [hid2]; exact hL) ?_ ?_ (by simp) (by have:=h1 o (by simp); omega) ?_ (fun i=>?_) ?_
 ·intro p hp
  obtain ⟨j,hj,rfl⟩:=List.mem_map.1 hp
  have:=h1 j hj
  exact ⟨by simp only; omega,fun _=>rfl⟩
 ·intro p hp
  obtain ⟨k,hk,rfl⟩:=(hnl p).1 hp
  have:=h1 o (by simp)
  refine ⟨by simp only; omega,by simp only; omega,?_,hs⟩
  rw [hid2]
  intro h
  have:=h1 _ h
  omega
 ·rw [List.map_map]
  exact zee (fun i j h=>by simpa using h) List.nodup_range
 ·unfold St.get at *
  cases hl : lkp st'.t i with
  | none=>exact .inl (.dead _)
  | some v=>exact .inl (ht _ (zbn hl))
 ·intro j e' he
  by_cases hjo : j=o
  ·subst hjo
   left
   rw [ho'] at he
   cases he
   refine ⟨j,_,by simp,ho,rfl,Nat.le_refl _,Nat.zero_le _,.inr ⟨by simp [zax],by simp [zax,famO],fun i=>?_⟩⟩
   by_cases hi : i<N
   ·simp only [zax,List.map_map,fcd,List.map_cons,List.map_nil,List.getD_eq_getElem?_getD,List.getElem?_map,List.getElem?_range hi,Option.map_some,Option.getD_some,famO,famV,List.length_nil]
    exact ⟨.inr ⟨by simp [conv],i+1000,s,rfl,(hnl _).2 ⟨i,hi,rfl⟩⟩,trivial⟩
   ·simp [zax,famO,List.getD_eq_getElem?_getD,hi,UpL]
  ·by_cases hj : j∈L
   ·left
    obtain ⟨e,h2,h3⟩:=hb j hj e' he
    refine ⟨j,e,by simp [hj],h2,h3.1,h3.2.1,h3.2.2.1,?_⟩
    rcases h3.2.2.2 with h | ⟨q1,q2,q3⟩
    ·exact .inl h
    ·refine .inr ⟨q1,q2,fun i=>?_⟩
     have key : ∀ {xs ys : List AV},UpL [] xs ys→UpL ((List.range N).map fun k=>(k+1000,s)) xs ys:=by
      intro xs
      induction xs with
      | nil=>intro ys h; cases ys <;> exact h
      | cons x xs ih =>
        intro ys h
        cases ys with
        | nil=>exact h
        | cons y ys =>
          refine ⟨?_,ih h.2⟩
          rcases h.1 with h | ⟨_,_,_,_,h⟩
          ·exact .inl h
          ·simp at h
     exact key (q3 i)
   ·by_cases hr : j<1000∨1000+N≤j
    ·rw [hout j (by simp [hjo,hj]) hr] at he; cases he
    ·obtain ⟨k,rfl⟩ : ∃ k,j=k+1000:=⟨j - 1000,by omega⟩
     have hk : k<N:=by omega
     rw [hst' k hk] at he
     cases he
     exact .inr ⟨(hnl _).2 ⟨k,hk,rfl⟩,rfl,rfl⟩
def famI (N : Nat) : List Nat:=(List.range N).map (· + 1000)
theorem zeQ {N j : Nat} : j∈famI N↔1000≤j∧j<1000+N:=by
 simp only [famI,List.mem_map,List.mem_range]
 exact ⟨fun ⟨k,h,e⟩=>by omega,fun h=>⟨j - 1000,by omega,by omega⟩⟩
theorem zuD {s N o : Nat} {ρ : List (Nat × Nat)} {sn : List Nat} {hp : Nat→Option Ent} {E : Nat→List (List AV)} (hE : ∀ k<N,∀ r∈E k,∀ x∈r,∃ v,x = .sc v)
  (hρ : lkp ρ o=none) (hsn : o∈sn) (hf : ∀ k<N,k+1000∈sn) (ho : hp o=some ⟨1,famO N E,0⟩) (hh : ∀ k<N,hp (k+1000)=some ⟨s,E k,0⟩) :
  conv ρ sn hp 4 (.rs o 0 N) = .vs 1 false ((List.range N).map fun k=>[.vs s false (E k)]):=by
 simp only [conv,hρ,hsn,if_true,ho,zit,Nat.zero_add,Nat.le_refl,List.drop_zero]
 rw [List.take_of_length_le (by rw [zit]; exact Nat.le_refl _),famO,List.map_map]
 congr 1
 refine List.map_congr_left fun k hk=>?_
 have hk:=List.mem_range.1 hk
 simp only [fcd,List.map_cons,List.map_nil,famV,conv,lkp,hf k hk,if_true,hh k hk,Nat.zero_add,Nat.le_refl,List.drop_zero,List.take_length]
 rw [zgd _ (fun v=>by simp [conv]) _ (hE k hk)]
theorem Le.famOut {np N o : Nat} {L : List Nat} {st st' : St} (hsz : st'.sz=st.sz) (hL : L.Nodup) (h1 : ∀ j∈L,j<1000) (hoL : o∉L) (hn : 1000≤st'.n) (hnp : np≤o) (hnp2 : np≤1000)
  (hout : ∀ j,j∉L→st'.hp j=none)
  (ht : ∀ p∈st'.t,Wk (conv (L.map fun j=>(j,j)) (o::famI N) st.hp 4 (st.get p.1)) p.2)
  (hb : ∀ j∈L,∀ e',st'.hp j=some e' → ∃ e,st.hp j=some e∧zaI [] (zax (L.map fun j=>(j,j)) (o::famI N) st.hp 4 e) e') : Le np st st':=by
 have hid : (L.map fun j=>(j,j)).map (·.1)=L:=by simp [fcd]
 have hid2 : (L.map fun j=>(j,j)).map (·.2)=L:=by simp [fcd]
 refine Le.mk (L.map fun j=>(j,j)) (o::famI N) [] hsz (by rw [hid]; exact hL) (by rw [hid2]; exact hL) ?_ (by simp) ?_ (by omega) (by simp) (fun i=>?_) ?_
 ·intro p hp
  obtain ⟨j,hj,rfl⟩:=List.mem_map.1 hp
  have:=h1 j hj
  exact ⟨by simp only; omega,fun _=>rfl⟩
 ·intro i hi
  rw [hid]
  rcases List.mem_cons.1 hi with rfl | hi
  ·exact ⟨hnp,hoL⟩
  ·have:=zeQ.1 hi
   exact ⟨by omega,fun h=>by have:=h1 i h; omega⟩
 ·unfold St.get at *
  cases hl : lkp st'.t i with
  | none=>exact .inl (.dead _)
  | some v=>exact .inl (ht _ (zbn hl))
 ·intro j e' he
  left
  by_cases hj : j∈L
  ·obtain ⟨e,h2,h3⟩:=hb j hj e' he
   exact ⟨j,e,by simp [hj],h2,h3⟩
  ·rw [hout j hj] at he; cases he
def zrw (s : Stp) : AV:=.agg [.I s.1,.sc (.bool s.2)]
open Classical in
noncomputable def camF (D b : List Int) : Int→Option AV:=fun x=>if x∈D then some (if x=0 then .agg [.I (-1),.sc (.bool false)] else zrw (decS (b.getD x.toNat 0))) else none
theorem zrX (b : List Int) : camF [0] b=fun x=>if x=0 then some (.agg [.I (-1),.sc (.bool false)]) else none:=by
 funext x
 by_cases h : x=0 <;> simp [camF,h]
theorem ztI {N : Nat} {A : List Ed} {f D b : List Int} (h : Bfs N A f D b) {s : Stp} (hT : stT A s∉D) (h0 : 0≤stT A s) (h1 : stT A s<N) :
  camF (D++[stT A s]) (b.set (stT A s).toNat (encS s))=fun x=>if x=stT A s then some (zrw s) else camF D b x:=by
 have hb : (stT A s).toNat<b.length:=by rw [h.len]; omega
 have hn0 : stT A s≠0:=fun e=>hT (e ▸ h.mem0)
 funext x
 by_cases hx : x=stT A s
 ·subst hx
  simp only [camF,List.mem_append,List.mem_singleton,or_true,if_true,if_neg hn0]
  rw [List.getD_eq_getElem?_getD,List.getElem?_set_self hb,Option.getD_some,zqw]
 ·simp only [camF,List.mem_append,List.mem_singleton,hx,or_false,if_false]
  by_cases hD : x∈D
  ·have hr:=h.rng x hD
   rw [if_pos hD,if_pos hD,List.getD_eq_getElem?_getD,List.getElem?_set_ne (by omega),List.getD_eq_getElem?_getD]
  ·rw [if_neg hD,if_neg hD]
theorem zhj (D b : List Int) (x : Int) : (camF D b x).isSome=decide (x∈D):=by
 by_cases h : x∈D <;> simp [camF,h]
abbrev zby (s : Stp) : List AV:=[.I s.1,.B s.2]
def zih (A : List Ed) : Nat→Nat→List Stp
 | 0,_=>[]
 | i+1,k=>zih A i k++(if (arcD A i).f=k then [(i,false)] else [])++(if (arcD A i).t=k then [(i,true)] else [])
theorem zmc {A : List Ed} {s : Stp} {k : Nat} : ∀ {i : Nat},s∈zih A i k↔s.1<i∧stF A s=k
 | 0=>by simp [zih]
 | i+1=>by
   obtain ⟨j,c⟩:=s
   have ih:=zmc (A:=A) (s:=(j,c)) (k:=k) (i:=i)
   simp only [zih,List.mem_append,ih]
   unfold stF
   simp only
   constructor
   ·rintro ((h | h) | h)
    ·exact ⟨by omega,h.2⟩
    ·split at h
     ·rename_i e
      simp at h
      obtain ⟨rfl,rfl⟩:=h
      exact ⟨by omega,by simpa using e⟩
     ·simp at h
    ·split at h
     ·rename_i e
      simp at h
      obtain ⟨rfl,rfl⟩:=h
      exact ⟨by omega,by simpa using e⟩
     ·simp at h
   ·rintro ⟨h1,h2⟩
    rcases Nat.lt_succ_iff_lt_or_eq.1 h1 with h | h
    ·exact .inl (.inl ⟨h,h2⟩)
    ·subst h
     cases c
     ·have : (arcD A j).f=k:=by simpa using h2
      rw [if_pos this]
      exact .inl (.inr (by simp))
     ·have : (arcD A j).t=k:=by simpa using h2
      rw [if_pos this]
      exact .inr (by simp)
theorem ziH (A : List Ed) (k : Nat) : ∀ i,(zih A i k).length≤2*i
 | 0=>Nat.le_refl _
 | i+1=>by
   have ih:=ziH A k i
   simp only [zih,List.length_append]
   split <;> split <;> simp <;> omega
def famE (A : List Ed) (i : Nat) : Nat→List (List AV):=fun k=>(zih A i k).map zby
theorem zq2 (A : List Ed) (i k : Nat) : ∀ r∈famE A i k,∀ x∈r,∃ v,x = .sc v:=by
 intro r hr x hx
 obtain ⟨s,_,rfl⟩:=List.mem_map.1 hr
 simp only [zby,List.mem_cons,List.not_mem_nil,or_false] at hx
 rcases hx with rfl | rfl
 ·exact ⟨_,rfl⟩
 ·exact ⟨_,rfl⟩
theorem zul (A : List Ed) (i k : Nat) : (famE A i k).length≤2*i:=by unfold famE; rw [List.length_map]; exact ziH A k i
theorem zt6 {E : Nat→List (List AV)} {a : Nat} {row : List AV} (hE : ∀ k,∀ r∈E k,∀ x∈r,∃ v,x=AV.sc v) (hr : ∀ x∈row,∃ v,x=AV.sc v) (k : Nat) : ∀ r∈grow E a row k,∀ x∈r,∃ v,x=AV.sc v:=by
 unfold grow
 intro r h
 split at h
 ·rcases List.mem_append.1 h with h | h
  ·exact hE a r h
  ·rw [List.mem_singleton.1 h]; exact hr
 ·exact hE k r h
theorem zsE {A : List Ed} {i a b : Nat} (ha : (arcD A i).f=a) (hb : (arcD A i).t=b) (hab : a≠b) : famE A (i+1)=grow (grow (famE A i) a (zby (i,false))) b (zby (i,true)):=by
 funext k
 simp only [famE,zih,grow,ha,hb,List.map_append,Int.natCast_inj]
 by_cases h1 : k=a
 ·subst h1
  simp [hab,hab.symm]
 ·by_cases h2 : k=b
  ·subst h2
   simp [hab,h1]
  ·have h3 : ¬ a=k:=fun e=>h1 e.symm
   have h4 : ¬ b=k:=fun e=>h2 e.symm
   simp [h1,h2,h3,h4]
theorem zkY (s : Stp) : ∀ x∈zby s,∃ v,x=AV.sc v:=by
 intro x hx
 simp only [zby,List.mem_cons,List.not_mem_nil,or_false] at hx
 rcases hx with rfl | rfl
 ·exact ⟨_,rfl⟩
 ·exact ⟨_,rfl⟩
abbrev atV (N : Nat) (A : List Ed) : AV:=.vs 1 false ((List.range N).map fun k=>[.vs 2 false (famE A A.length k)])
theorem Le.slot {np sz n n' : Nat} {t t' : List (Nat × AV)} {h : List (Nat × Option Ent)} (hn : n≤n') (ht : ∀ p∈t',(⟨sz,t,h,n⟩ : St).get p.1=p.2) : Le np ⟨sz,t,h,n⟩ ⟨sz,t',h,n'⟩:=by
 intro T0 M0 w0 T M a w ok hnp
 refine ⟨T,M,⟨ok.sz,ok.df,fun i=>?_,ok.hs,fun id g hg=>Nat.lt_of_lt_of_le (ok.dom id g hg) hn,ok.after⟩,Nat.le_trans hnp hn⟩
 show Rep T w M ((lkp t' i).getD .dead) _
 cases hl : lkp t' i with
 | none=>exact .dead _ _
 | some v =>
   have:=ht _ (zbn hl)
   simp only at this
   show Rep T w M v _
   rw [← this]
   exact ok.tm i
def famS (N : Nat) (L : List Nat) : List (Nat × Nat):=(L++famI N).map fun j=>(j,j)
theorem zia {N j : Nat} {L : List Nat} (h : j∈L ∨ ∃ k<N,j=k+1000) : lkp (famS N L) j=some j:=by
 rw [famS,znV (fun j=>j) (fun i j h=>h) (fun j=>j),if_pos]
 rcases h with h | ⟨k,h1,rfl⟩
 ·simp [h]
 ·exact List.mem_append_right _ (zeQ.2 (by omega))
theorem zqe {N j : Nat} {L : List Nat} (h : j∉L) (h2 : 1000+N≤j) : lkp (famS N L) j=none:=by
 rw [famS,znV (fun j=>j) (fun i j h=>h) (fun j=>j),if_neg]
 rw [List.mem_append,not_or]
 exact ⟨h,fun hm=>by have:=zeQ.1 hm; omega⟩
theorem ztJ {N : Nat} {L sn : List Nat} {E : Nat→List (List AV)} {h : Nat→Option Ent} : (famO N E).map (·.map (conv (famS N L) sn h 4))=famO N E:=by
 conv=>rhs; rw [← List.map_id (famO N E)]
 refine List.map_congr_left fun r hr=>?_
 obtain ⟨k,hk,rfl⟩:=List.mem_map.1 hr
 have:=zia (N:=N) (L:=L) (j:=k+1000) (.inr ⟨k,List.mem_range.1 hk,rfl⟩)
 simp [famV,this]
theorem Le.famS {np s N : Nat} {E : Nat→List (List AV)} (L sn : List Nat) {st st' : St} (hsz : st'.sz=st.sz)
  (hL : L.Nodup) (h1 : ∀ j∈L,j<1000) (hn : 1000+N≤st'.n) (hnp : np≤1000) (hsn : ∀ j∈sn,1000+N≤j)
  (hE : ∀ k<N,∀ r∈E k,∀ x∈r,∃ v,x = .sc v)
  (hst : ∀ k<N,st.hp (k+1000)=some ⟨s,E k,0⟩) (hst' : ∀ k<N,st'.hp (k+1000)=some ⟨s,E k,0⟩)
  (hout : ∀ j,j∉L→(j<1000∨1000+N≤j)→st'.hp j=none)
  (ht : ∀ p∈st'.t,Wk (conv (famS N L) sn st.hp 4 (st.get p.1)) p.2)
  (hb : ∀ j∈L,∀ e',st'.hp j=some e' → ∃ e,st.hp j=some e∧zaI [] (zax (famS N L) sn st.hp 4 e) e') : Le np st st':=by
 have hid : (Go.Proofs.YthmaflecfppoiaaGreat.famS N L).map (·.1)=L++famI N:=by simp [Go.Proofs.YthmaflecfppoiaaGreat.famS,fcd]
 have hid2 : (Go.Proofs.YthmaflecfppoiaaGreat.famS N L).map (·.2)=L++famI N:=by simp [Go.Proofs.YthmaflecfppoiaaGreat.famS,fcd]
 have hnd : (L++famI N).Nodup:=List.nodup_append.2 ⟨hL,zee (fun i j h=>by simpa using h) List.nodup_range,fun x hx y hy e=>by
  have:=h1 x hx
  have:=zeQ.1 hy
  omega⟩
 have hmem : ∀ j,(j,j)∈Go.Proofs.YthmaflecfppoiaaGreat.famS N L↔j∈L∨j∈famI N:=fun j=>by simp [Go.Proofs.YthmaflecfppoiaaGreat.famS]
 refine Le.mk (Go.Proofs.YthmaflecfppoiaaGreat.famS N L) sn [] hsz (by rw [hid]; exact hnd) (by rw [hid2]; exact hnd) ?_ (by simp) ?_ (by omega) (by simp) (fun i=>?_) ?_
 ·intro p hp
  obtain ⟨j,hj,rfl⟩:=List.mem_map.1 hp
  rcases List.mem_append.1 hj with h | h
  ·have:=h1 j h
   exact ⟨by simp only; omega,fun _=>rfl⟩
  ·have:=zeQ.1 h
   exact ⟨by simp only; omega,fun _=>rfl⟩
 ·intro j hj
  have:=hsn j hj
  refine ⟨by omega,?_⟩
  rw [hid,List.mem_append,not_or]
  exact ⟨fun h=>by have:=h1 j h; omega,fun h=>by have:=zeQ.1 h; omega⟩
 ·unfold St.get at *
  cases hl : lkp st'.t i with
  | none=>exact .inl (.dead _)
  | some v=>exact .inl (ht _ (zbn hl))
 ·intro j e' he
  left
  by_cases hj : j∈L
  ·obtain ⟨e,h2,h3⟩:=hb j hj e' he
   exact ⟨j,e,(hmem j).2 (.inl hj),h2,h3⟩
  ·by_cases hr : j<1000∨1000+N≤j
   ·rw [hout j hj hr] at he; cases he
   ·obtain ⟨k,rfl⟩ : ∃ k,j=k+1000:=⟨j - 1000,by omega⟩
    have hk : k<N:=by omega
    rw [hst' k hk] at he
    cases he
    refine ⟨k+1000,_,(hmem _).2 (.inr (zeQ.2 (by omega))),hst k hk,?_⟩
    have : zax (Go.Proofs.YthmaflecfppoiaaGreat.famS N L) sn st.hp 4 ⟨s,E k,0⟩=⟨s,E k,0⟩:=by
     simp only [zax]
     rw [zgd _ (fun v=>by simp [conv]) _ (hE k hk)]
    rw [this]
    exact zaI.rfl' (Nat.zero_le _)
abbrev oH (N : Nat) (A : List Ed) (m : Nat) (f : List Int) (E : Nat→List (List AV)) : List (Nat × Option Ent) :=
 famH 2 N E++[(0,some ⟨1,zah f,0⟩),(24,some ⟨4,[[.I 0,.nilS,.nilS,.nilS]],0⟩),(64,some ⟨1,famO N E,0⟩),(80,some ⟨4,[[.I N,eEs A,.rs 0 0 m,.rs 64 0 N]],0⟩)]
theorem zcT {sz n i j : Nat} {t : List (Nat × AV)} {h : List (Nat × Option Ent)} {v : Option Ent} (hij : i≠j) : (⟨sz,t,(i,v)::h,n⟩ : St).hp j=(⟨sz,t,h,n⟩ : St).hp j:=by
 rw [zqT,if_neg hij]
theorem zjp {sz n N m : Nat} {t : List (Nat × AV)} {A : List Ed} {f : List Int} {E : Nat→List (List AV)} {k : Nat} (h : k<N) : (⟨sz,t,oH N A m f E,n⟩ : St).hp (k+1000)=some ⟨2,E k,0⟩:=zwG h
theorem zpH {sz n N m j : Nat} {t : List (Nat × AV)} {A : List Ed} {f : List Int} {E : Nat→List (List AV)} (hj : j∉[0,24,64,80]) (hr : j<1000∨1000+N≤j) : (⟨sz,t,oH N A m f E,n⟩ : St).hp j=none:=by
 have hj' : j≠0∧j≠24∧j≠64∧j≠80:=by simpa using hj
 rcases hr with hr | hr
 ·rw [zkv hr]
  simp [hj'.1.symm,hj'.2.1.symm,hj'.2.2.1.symm,hj'.2.2.2.symm]
 ·rw [zu7 hr]
  simp [hj'.1.symm,hj'.2.1.symm,hj'.2.2.1.symm,hj'.2.2.2.symm]
section
variable {sz n N m : Nat} {t : List (Nat × AV)} {A : List Ed} {f : List Int} {E : Nat→List (List AV)}
theorem oH_0 : (⟨sz,t,oH N A m f E,n⟩ : St).hp 0=some ⟨1,zah f,0⟩:=by rw [zkv (by omega)]; simp
theorem zrM : (⟨sz,t,oH N A m f E,n⟩ : St).hp 24=some ⟨4,[[.I 0,.nilS,.nilS,.nilS]],0⟩:=by rw [zkv (by omega)]; simp
theorem zpI : (⟨sz,t,oH N A m f E,n⟩ : St).hp 64=some ⟨1,famO N E,0⟩:=by rw [zkv (by omega)]; simp
theorem zn8 : (⟨sz,t,oH N A m f E,n⟩ : St).hp 80=some ⟨4,[[.I N,eEs A,.rs 0 0 m,.rs 64 0 N]],0⟩:=by rw [zkv (by omega)]; simp
end
theorem Le.oStep {N a m x y n n' : Nat} {A : List Ed} {f : List Int} {E : Nat→List (List AV)} {row : List AV} {t t' : List (Nat × AV)} {h : List (Nat × Option Ent)} (ha : a<N) (hx : 1000+N≤x) (hy : 1000+N≤y) (hxy : x≠y) (hN : N≤900) (hn' : 1000+N≤n')
  (hE : ∀ k,∀ r∈E k,∀ z∈r,∃ v,z = .sc v) (hrow : ∀ z∈row,∃ v,z = .sc v)
  (hh : h=(64,some ⟨1,(famO N E).set a [.rs x 0 ((E a).length+1)],0⟩)::(x,some ⟨2,E a++[row],0⟩)::(a+1000,none)::(y,some ⟨2,[row],0⟩)::oH N A m f E)
  (ht : ∀ p∈t',Wk (conv (famR x a N [0,24,64,80]) [] (⟨54,t,h,n⟩ : St).hp 4 ((⟨54,t,h,n⟩ : St).get p.1)) p.2) : Le 1 ⟨54,t,h,n⟩ ⟨54,t',oH N A m f (grow E a row),n'⟩:=by
 have e64 : (⟨54,t,h,n⟩ : St).hp 64=some ⟨1,(famO N E).set a [.rs x 0 ((E a).length+1)],0⟩:=by rw [hh,zqT,if_pos rfl]
 have e0 : (⟨54,t,h,n⟩ : St).hp 0=some ⟨1,zah f,0⟩:=by rw [hh,zcT (by omega),zcT (by omega),zcT (by omega),zcT (by omega),oH_0]
 have e24 : (⟨54,t,h,n⟩ : St).hp 24=some ⟨4,[[.I 0,.nilS,.nilS,.nilS]],0⟩:=by rw [hh,zcT (by omega),zcT (by omega),zcT (by omega),zcT (by omega),zrM]
 have e80 : (⟨54,t,h,n⟩ : St).hp 80=some ⟨4,[[.I N,eEs A,.rs 0 0 m,.rs 64 0 N]],0⟩:=by rw [hh,zcT (by omega),zcT (by omega),zcT (by omega),zcT (by omega),zn8]
 have l0 : lkp (famR x a N [0,24,64,80]) 0=some 0:=zfs (by omega) (.inl (by simp))
 have l64 : lkp (famR x a N [0,24,64,80]) 64=some 64:=zfs (by omega) (.inl (by simp))
 refine Le.fam (s:=2) (N:=N) (a:=a) (m:=x) (E:=E) (row:=row) [0,24,64,80] rfl ha (by decide) (by simp) hx hn' (by omega) (fun k _=>hE k) hrow ?_ ?_ (fun k hk=>zjp hk) (fun j hj hr=>zpH hj hr) ht ?_
 ·intro k hk hka
  rw [hh,zcT (by omega),zcT (by omega),zcT (by omega),zcT (by omega),zjp hk]
 ·rw [hh,zcT (by omega),zqT,if_pos rfl]
 ·intro j hj e' he
  simp only [List.mem_cons,List.not_mem_nil,or_false] at hj
  rcases hj with rfl | rfl | rfl | rfl
  ·rw [oH_0] at he
   cases he
   exact ⟨_,e0,by simp only [zax]; rw [zgd _ (fun v=>by simp [conv]) _ (by simp)]; exact zaI.rfl' (Nat.zero_le _)⟩
  ·rw [zrM] at he
   cases he
   exact ⟨_,e24,by simp [zax]; exact zaI.rfl' (Nat.zero_le _)⟩
  ·rw [zpI] at he
   cases he
   refine ⟨_,e64,?_⟩
   simp only [zax]
   rw [zsD ha (.inr hx) rfl]
   exact zaI.rfl' (Nat.zero_le _)
  ·rw [zn8] at he
   cases he
   refine ⟨_,e80,?_⟩
   simp [zax,l0,l64]
   exact zaI.rfl' (Nat.zero_le _)
set_option maxRecDepth 100000 in
set_option maxHeartbeats 4000000 in
theorem ztp (N : Nat) (A : List Ed) (f : List Int) (m : Nat) (hn : za5 ⟨N,A⟩) : zai Tryz.prog zgQ [eN ⟨N,A⟩,.rs 0 0 m] [⟨1,zah f,0⟩] (.agg [.I N,eEs A,.rs 0 0 m,atV N A]) [some ⟨1,zah f,0⟩]:=by
 refine zrU.acalls (nbz rfl) (nbz rfl) (Nat.le_refl _) ?_
 show awp _ 1 _ _ ⟨54,[(0,eN ⟨N,A⟩),(1,.rs 0 0 m)],[(0,some ⟨1,zah f,0⟩)],16⟩
 obtain ⟨hn0,hn1,hal,hav⟩:=hn
 simp only at hn0 hn1 hal hav
 refine zaa ⟨54,[(1,.rs 0 0 m),(2,.pv (nC ⟨N,A⟩)),(4,.pt 24 0 0)],[(0,some ⟨1,zah f,0⟩),(24,some ⟨4,[[.I 0,.nilS,.nilS,.nilS]],0⟩)],32⟩ rfl ?_ ?_
 ·simp
  exact LeI [(0,0),(24,24)] [16]
 refine zaq ⟨54,[(2,.pv (nC ⟨N,A⟩)),(4,.pt 24 0 0),(5,.pt 80 0 0)],[(0,some ⟨1,zah f,0⟩),(24,some ⟨4,[[.I 0,.nilS,.nilS,.nilS]],0⟩),(64,some ⟨1,(List.range N).map fun _=>[.nilS],0⟩),(80,some ⟨4,[[.I N,eEs A,.rs 0 0 m,.rs 64 0 N]],0⟩)],96⟩ rfl ?_ ?_
 ·simp [List.map_const']
  refine ⟨by omega,by omega,rfl,?_⟩
  exact LeI [(0,0),(24,24),(64,64),(80,80)] []
 refine zab ?_
 refine zaa ⟨54,[(4,.pt 24 0 0),(5,.pt 80 0 0),(15,eEs A),(16,.I A.length),(17,.I 0)],[(0,some ⟨1,zah f,0⟩),(24,some ⟨4,[[.I 0,.nilS,.nilS,.nilS]],0⟩),(64,some ⟨1,(List.range N).map fun _=>[.nilS],0⟩),(80,some ⟨4,[[.I N,eEs A,.rs 0 0 m,.rs 64 0 N]],0⟩)],128⟩ rfl ?_ ?_
 ·simp
  exact Le.go [(0,0),(24,24),(64,64),(80,80)] [] rfl rfl (by simp) (by simp [fcd,List.map_const'])
 refine zaf ?_
 refine zao (ι:=Nat) (fun i=>⟨54,[(4,.pt 24 0 0),(5,.pt 80 0 0),(15,eEs A),(16,.I A.length),(17,.I i)],oH N A m f (famE A i),2000⟩) (fun i=>i≤A.length) (fun i=>A.length - i) 0 (Nat.zero_le _) ?_ ?_
 ·refine Le.fam0 (s:=2) (N:=N) (o:=64) [0,24,80] rfl (by omega) (by decide) (by simp) (by simp only; omega) (by simp) zpI (fun k hk=>zjp hk) (fun j hj hr=>zpH (by simpa [and_comm,and_left_comm,and_assoc,or_comm,or_left_comm] using hj) hr) (by simp) ?_
  intro j hj e' he
  simp only [List.mem_cons,List.not_mem_nil,or_false] at hj
  rcases hj with rfl | rfl | rfl
  ·rw [oH_0] at he
   cases he
   exact ⟨⟨1,zah f,0⟩,by simp,by simp only [zax]; rw [zgd _ (fun v=>by simp [conv]) _ (by simp)]; exact zaI.rfl' (Nat.zero_le _)⟩
  ·rw [zrM] at he
   cases he
   exact ⟨⟨4,[[.I 0,.nilS,.nilS,.nilS]],0⟩,by simp,by simp [zax]; exact zaI.rfl' (Nat.zero_le _)⟩
  ·rw [zn8] at he
   cases he
   exact ⟨⟨4,[[.I N,eEs A,.rs 0 0 m,.rs 64 0 N]],0⟩,by simp,by simp [zax]; exact zaI.rfl' (Nat.zero_le _)⟩
 intro i hi
 refine zaa ⟨54,[(4,.pt 24 0 0),(5,.pt 80 0 0),(15,eEs A),(16,.I A.length),(17,.I i),(18,.B (decide (i<A.length)))],oH N A m f (famE A i),2008⟩ rfl ?_ ?_
 ·simp
  exact Le.slot (by omega) (by simp)
 refine zab ?_
 refine zac _ rfl (fun h5=>?_) fun h5=>?_
 ·simp at h5
  have hw1 : IntKind.i64.wrap ((i : Int)+1)=(i : Int)+1:=w64 (by omega) (by omega)
  have heo:=hav _ (List.getElem_mem h5)
  have harc : arcD A i=A[i]:=by unfold arcD; rw [List.getD_eq_getElem?_getD,List.getElem?_eq_getElem h5,Option.getD_some]
  obtain ⟨e,he⟩ : ∃ e,e=A[i]:=⟨_,rfl⟩
  rw [← he] at heo harc
  obtain ⟨q1,q2,q3,q4,q5,_⟩:=heo
  obtain ⟨a,haf,haN⟩ : ∃ a : Nat,e.f=a∧a<N:=⟨e.f.toNat,by omega,by omega⟩
  obtain ⟨b,hbt,hbN⟩ : ∃ b : Nat,e.t=b∧b<N:=⟨e.t.toNat,by omega,by omega⟩
  have hab : a≠b:=fun h=>q5 (by omega)
  have hsucc:=zsE (A:=A) (i:=i) (a:=a) (b:=b) (by rw [harc]; exact haf) (by rw [harc]; exact hbt) hab
  have hEs:=zq2 A i
  have hEl:=fun k=>zul A i k
  obtain ⟨E,hE⟩ : ∃ E,E=famE A i:=⟨_,rfl⟩
  rw [← hE] at hsucc hEs hEl ⊢
  refine zae ?_
  refine zab ?_
  refine zaf ?_
  refine zaa ⟨54,[(4,.pt 24 0 0),(5,.pt 80 0 0),(6,.I i),(7,.pv [.I a,.I b,.I e.v]),(15,eEs A),(16,.I A.length),(17,.I i)],oH N A m f E,3000⟩ rfl ?_ ?_
  ·simp [h5,← he,haf,hbt]
   have l24 : lkp (famS N [0,24,64,80]) 24=some 24:=zia (.inl (by simp))
   have l80 : lkp (famS N [0,24,64,80]) 80=some 80:=zia (.inl (by simp))
   have l0 : lkp (famS N [0,24,64,80]) 0=some 0:=zia (.inl (by simp))
   have l64 : lkp (famS N [0,24,64,80]) 64=some 64:=zia (.inl (by simp))
   have lno : lkp (famS N [0,24,64,80]) 2032=none:=zqe (by simp) (by omega)
   refine Le.famS (s:=2) (N:=N) (E:=E) [0,24,64,80] [2032] rfl (by decide) (by simp) (by simp only; omega) (by omega) (by simp; omega) (fun k _=>hEs k) ?_ (fun k hk=>zjp hk) (fun j hj hr=>zpH hj hr) ?_ ?_
   ·intro k hk
    rw [zcT (by omega),zcT (by omega),zjp hk]
   ·simp [l24,l80,lno]
   ·intro j hj e' he'
    simp only [List.mem_cons,List.not_mem_nil,or_false] at hj
    rcases hj with rfl | rfl | rfl | rfl
    ·rw [oH_0] at he'
     cases he'
     exact ⟨_,by rw [zcT (by omega),zcT (by omega),oH_0],by simp only [zax]; rw [zgd _ (fun v=>by simp [conv]) _ (by simp)]; exact zaI.rfl' (Nat.zero_le _)⟩
    ·rw [zrM] at he'
     cases he'
     exact ⟨_,by rw [zcT (by omega),zcT (by omega),zrM],by simp [zax]; exact zaI.rfl' (Nat.zero_le _)⟩
    ·rw [zpI] at he'
     cases he'
     refine ⟨_,by rw [zcT (by omega),zcT (by omega),zpI],?_⟩
     simp only [zax]
     rw [ztJ]
     exact zaI.rfl' (Nat.zero_le _)
    ·rw [zn8] at he'
     cases he'
     exact ⟨_,by rw [zcT (by omega),zcT (by omega),zn8],by simp [zax,l0,l64]; exact zaI.rfl' (Nat.zero_le _)⟩
  refine zaq ⟨54,[(4,.pt 24 0 0),(5,.pt 80 0 0),(6,.I i),(7,.pv [.I a,.I b,.I e.v]),(15,eEs A),(16,.I A.length),(17,.I i)],oH N A m f (grow E a (zby (i,false))),4000⟩ rfl ?_ ?_
  ·have hl:=hEl a
   have hne : ¬ a=2096:=by omega
   simp [zn8,zpI,zjp haN,haN,zh6 haN,zit,famV,hne]
   refine ⟨by omega,by omega,rfl,?_⟩
   have l24 : lkp (famR 3104 a N [0,24,64,80]) 24=some 24:=zfs (by omega) (.inl (by simp))
   have l80 : lkp (famR 3104 a N [0,24,64,80]) 80=some 80:=zfs (by omega) (.inl (by simp))
   refine Le.oStep (x:=3104) (y:=3096) haN (by omega) (by omega) (by omega) (by omega) (by omega) hEs (zkY _) ?_ ?_
   ·simp
   ·simp [l24,l80]
  have hEs1:=zt6 (a:=a) hEs (zkY (i,false))
  have hEl1 : (grow E a (zby (i,false)) b).length≤2*i:=by
   have:=hEl b
   simp only [grow,if_neg hab.symm]
   exact this
  obtain ⟨E1,hE1⟩ : ∃ E1,E1=grow E a (zby (i,false)):=⟨_,rfl⟩
  rw [← hE1] at hEs1 hEl1 hsucc ⊢
  refine zbF rfl ?_
  have hne : ¬ b=3096:=by omega
  simp [zn8,zpI,zjp hbN,hbN,zh6 hbN,zit,famV,hne]
  refine ⟨by omega,by omega,rfl,?_⟩
  refine zas rfl ?_
  simp
  have l24 : lkp (famR 4104 b N [0,24,64,80]) 24=some 24:=zfs (by omega) (.inl (by simp))
  have l80 : lkp (famR 4104 b N [0,24,64,80]) 80=some 80:=zfs (by omega) (.inl (by simp))
  refine ⟨i+1,by omega,by omega,?_⟩
  rw [hsucc]
  refine Le.oStep (x:=4104) (y:=4096) hbN (by omega) (by omega) (by omega) (by omega) (by omega) hEs1 (zkY _) ?_ ?_
  ·simp
  ·simp [l24,l80,hw1]
 simp at h5
 obtain rfl : i=A.length:=by omega
 refine zan ?_
 refine hit ?_
 refine zaa ⟨54,[(4,.pt 24 0 0)],[(0,some ⟨1,zah f,0⟩),(24,some ⟨4,[[.I N,eEs A,.rs 0 0 m,atV N A]],0⟩)],5000⟩ rfl ?_ ?_
 ·simp [zn8,zrM]
  have hcv : ∀ {h : Nat→Option Ent},h 64=some ⟨1,famO N (famE A A.length),0⟩→(∀ k<N,h (k+1000)=some ⟨2,famE A A.length k,0⟩)→conv [(0,0),(24,24)] (64::famI N) h 4 (.rs 64 0 N)=atV N A:=fun h1 h2 =>
   zuD (fun k _=>zq2 A A.length k) (by simp) (by simp) (fun k hk=>by simp [zeQ]; omega) h1 h2
  refine Le.famOut (N:=N) (o:=64) (L:=[0,24]) rfl (by decide) (by simp) (by simp) (by simp) (by omega) (by omega) ?_ ?_ ?_
  ·intro j hj
   have hj' : j≠0∧j≠24:=by simpa using hj
   simp [hj'.1.symm,hj'.2.symm]
  ·simp
  ·intro j hj e' he'
   simp only [List.mem_cons,List.not_mem_nil,or_false] at hj
   rcases hj with rfl | rfl
   ·simp at he'
    subst he'
    refine ⟨_,by rw [zcT (by omega),oH_0],?_⟩
    simp only [zax]
    rw [zgd _ (fun v=>by simp [conv]) _ (by simp)]
    exact zaI.rfl' (Nat.zero_le _)
   ·simp at he'
    subst he'
    refine ⟨_,by rw [zqT,if_pos rfl],?_⟩
    refine zaI.eq ?_ (Nat.zero_le _)
    simp only [zax,List.map_cons,List.map_nil]
    rw [hcv (by rw [zcT (by omega),zpI]) (fun k hk=>by rw [zcT (by omega),zjp hk])]
    simp
 refine zag ?_
 exact ⟨.inr rfl,zak.k1 rfl (by simp) (by simp [fcd])⟩
abbrev rC (N : Nat) (A : List Ed) (f : AV) : List AV:=[.I N,eEs A,f,atV N A]
abbrev eR (N : Nat) (A : List Ed) (f : AV) : AV:=.agg (rC N A f)
theorem zoe {A : List Ed} {i : Nat} (h : i<A.length) : A[i]? = some (arcD A i):=by
 unfold arcD
 rw [List.getD_eq_getElem?_getD,List.getElem?_eq_getElem h,Option.getD_some]
set_option maxRecDepth 100000 in
theorem zsH (N : Nat) (A : List Ed) (f : List Int) (s : Stp) (hn : za5 ⟨N,A⟩) (hf : Fit2 A f) (hs : s.1<A.length) : zai Tryz.prog zbT [eR N A (ints f),.agg (zby s)] [] (.tup [.I (zbk A f s),.I (stT A s)]) []:=by
 refine zhv.acalls (nbz rfl) (nbz rfl) (Nat.le_refl _) ?_
 show awp _ 0 _ _ ⟨35,[(0,eR N A (ints f)),(1,.agg (zby s))],[],16⟩
 obtain ⟨i,c⟩:=s
 simp only at hs
 obtain ⟨hfl,hfa⟩:=zc0.1 hf
 have hA:=zoe hs
 have hi:=hfa i hs
 have hav:=hn.2.2.2 _ (zd0 hs)
 have hif : i<f.length:=by omega
 obtain ⟨e,he⟩ : ∃ e,e=arcD A i:=⟨_,rfl⟩
 obtain ⟨w,hw⟩ : ∃ w,w=f.getD i 0:=⟨_,rfl⟩
 have hg : f[i]? = some w:=by rw [hw,List.getD_eq_getElem?_getD,List.getElem?_eq_getElem hif,Option.getD_some]
 have hge : A[i]=e:=by rw [List.getElem?_eq_getElem hs,← he] at hA; exact Option.some.inj hA
 have hgf : f[i]=w:=by rw [List.getElem?_eq_getElem hif] at hg; exact Option.some.inj hg
 rw [← he] at hav
 rw [← hw,← he] at hi
 obtain ⟨_,_,_,_,_,_,_,h8,h9⟩:=hav
 have hwr : IntKind.i64.wrap (e.v - w)=e.v - w:=w64 (by omega) (by omega)
 refine zaa ⟨35,[(2,.pv (rC N A (ints f))),(3,.pv [.I i,.B c])],[],48⟩ rfl ?_ ?_
 ·simp
  exact LeH [] [16,24]
 refine zaa ⟨35,[(2,.pv (rC N A (ints f))),(3,.pv [.I i,.B c]),(6,.pv (eC e))],[],200⟩ rfl ?_ ?_
 ·simp [hs,hge]
  exact LeH [] [104]
 refine zab ?_
 refine rx (s:=?s3) [2,3,6,15] [] [] rfl ?o3 ?q3
 case o3=>simp; rfl
 refine zac _ rfl (fun h4=>?_) fun h4=>?_
 ·have hc : c=true:=h4
  subst hc
  have h1 : zbk A f (i,true)=w:=by unfold zbk; simp [hw]
  have h2 : stT A (i,true)=e.f:=by unfold stT; simp [he]
  rw [h1,h2]
  refine zaq ⟨35,[(4,.I w),(5,.I e.f)],[],400⟩ rfl ?_ ?_
  ·simp [hif,hgf]
   exact ⟨rfl,LeH [] []⟩
  refine zag ?_
  exact ⟨.inr rfl,zak.out [] [] rfl (by simp) (by simp) (by simp) (by simp)⟩
 have hc : c=false:=h4
 subst hc
 have h1 : zbk A f (i,false)=e.v - w:=by unfold zbk; simp [hw,he]
 have h2 : stT A (i,false)=e.t:=by unfold stT; simp [he]
 rw [h1,h2]
 refine zae ?_
 refine zaq ⟨35,[(4,.I (e.v - w)),(5,.I e.t)],[],400⟩ rfl ?_ ?_
 ·simp [hif,hgf,hwr]
  exact ⟨rfl,LeH [] []⟩
 refine zag ?_
 exact ⟨.inr rfl,zak.out [] [] rfl (by simp) (by simp) (by simp) (by simp)⟩
theorem zk0 : ∀ {l : List (Int × AV)} {q : Int × AV},(l.map (·.1)).Nodup→q∈l→zew q.1 (zgX l)=some q.2
 | (k,x)::l,q,hn,h=>by
   rw [List.map_cons,List.nodup_cons] at hn
   rw [zhe,List.find?_cons]
   rcases List.mem_cons.1 h with rfl | h
   ·simp
   ·have hne : ¬ k=q.1:=fun e=>hn.1 (e ▸ List.mem_map.2 ⟨q,h,rfl⟩)
    have ih:=zk0 hn.2 h
    rw [zhe] at ih
    simpa [hne] using ih
structure MapF (rows : List (List AV)) (φ : Int→Option AV) : Prop where
 is : MapR rows φ
 flat : ∀ n x,φ n=some x → ∃ u v,x = .agg [.sc u,.sc v]
theorem MapF.mem {rows : List (List AV)} {φ : Int→Option AV} (h : MapF rows φ) {r : List AV} (hr : r∈rows) : ∃ k u v,r=[.sc k,.agg [.sc u,.sc v]]:=by
 obtain ⟨⟨l,rfl,hn,hf⟩,hfl⟩:=h
 obtain ⟨q,hq,rfl⟩:=List.mem_map.1 hr
 obtain ⟨u,v,e⟩:=hfl q.1 q.2 (by rw [← hf]; exact zk0 hn hq)
 exact ⟨_,u,v,by rw [e]⟩
theorem MapF.conv {rows : List (List AV)} {φ : Int→Option AV} (h : MapF rows φ) (ρ : List (Nat × Nat)) (sn : List Nat) (g : Nat→Option Ent) : rows.map (·.map (conv ρ sn g 4))=rows:=by
 conv=>rhs; rw [← List.map_id rows]
 refine List.map_congr_left fun r hr=>?_
 obtain ⟨k,u,v,rfl⟩:=h.mem hr
 simp
theorem MapF.conv' {rows : List (List AV)} {φ : Int→Option AV} (h : MapF rows φ) (ρ : List (Nat × Nat)) (sn : List Nat) (g : Nat→Option Ent) : rows.map (List.map (Go.Proofs.YthmaflecfppoiaaGreat.conv ρ sn g 4))=rows:=h.conv ρ sn g
theorem MapF.plain {rows : List (List AV)} {φ : Int→Option AV} (h : MapF rows φ) (s ro : Nat) : zjn ⟨s,rows,ro⟩:=by
 intro r hr x hx
 obtain ⟨k,u,v,rfl⟩:=h.mem hr
 simp only [List.mem_cons,List.not_mem_nil,or_false] at hx
 rcases hx with rfl | rfl
 ·exact .sc _
 ·refine .agg _ fun i=>?_
  match i with
  | 0=>exact .sc _
  | 1=>exact .sc _
  | i+2=>exact .dead
theorem zf6 (D b : List Int) (n : Int) (x : AV) (h : camF D b n=some x) : ∃ u v,x = .agg [.sc u,.sc v]:=by
 unfold camF at h
 split at h
 ·split at h
  ·cases h; exact ⟨_,_,rfl⟩
  ·cases h; exact ⟨_,_,rfl⟩
 ·cases h
theorem MapF.set {rows : List (List AV)} {D b D' b' : List Int} (h : MapF rows (camF D b)) (n : Int) (y : AV) (he : camF D' b'=fun k=>if k=n then some y else camF D b k) : MapF (mset n y rows) (camF D' b') :=
 ⟨by rw [he]; exact h.is.set n y,zf6 D' b'⟩
theorem zl1 {N : Nat} {A : List Ed} (hn : za5 ⟨N,A⟩) {s : Stp} (hs : s.1<A.length) : 0≤stT A s∧stT A s<N:=by
 have : zjQ N (arcD A s.1):=hn.2.2.2 _ (zd0 hs)
 obtain ⟨q1,q2,q3,q4,_⟩:=this
 unfold stT
 split <;> omega
structure MapI (rows : List (List AV)) (φ : Int→Option AV) : Prop where
 is : MapR rows φ
 flat : ∀ n x,φ n=some x → ∃ v,x = .sc v
theorem MapI.mem {rows : List (List AV)} {φ : Int→Option AV} (h : MapI rows φ) {r : List AV} (hr : r∈rows) : ∃ k v,r=[.sc k,.sc v]:=by
 obtain ⟨⟨l,rfl,hn,hf⟩,hfl⟩:=h
 obtain ⟨q,hq,rfl⟩:=List.mem_map.1 hr
 obtain ⟨v,e⟩:=hfl q.1 q.2 (by rw [← hf]; exact zk0 hn hq)
 exact ⟨_,v,by rw [e]⟩
theorem MapI.conv' {rows : List (List AV)} {φ : Int→Option AV} (h : MapI rows φ) (ρ : List (Nat × Nat)) (sn : List Nat) (g : Nat→Option Ent) : rows.map (List.map (Go.Proofs.YthmaflecfppoiaaGreat.conv ρ sn g 4))=rows:=by
 conv=>rhs; rw [← List.map_id rows]
 refine List.map_congr_left fun r hr=>?_
 obtain ⟨k,v,rfl⟩:=h.mem hr
 simp
theorem MapI.set {rows : List (List AV)} {φ ψ : Int→Option AV} (h : MapI rows φ) (n v : Int) (he : ψ=fun k=>if k=n then some (.I v) else φ k) : MapI (mset n (.I v) rows) ψ:=by
 subst he
 refine ⟨h.is.set n (.I v),fun k x hx=>?_⟩
 split at hx
 ·cases hx; exact ⟨_,rfl⟩
 ·exact h.flat k x hx
theorem zm7 (S : Int→Bool) : ∀ A : List Ed,capS S A=(A.map fun e=>if S e.f=true∧S e.t=false then e.v else 0).sum
 | []=>rfl
 | e::A=>by
   have ih:=zm7 S A
   unfold capS at ih ⊢
   simp only [List.map_cons,sumF,List.sum_cons]
   rw [ih]
theorem zjZ {α : Type} {h : α→Int} : ∀ {l : List α},(∀ x∈l,h x=0)→(l.map h).sum=0
 | [],_=>rfl
 | x::l,hx=>by
   rw [List.map_cons,List.sum_cons,hx x (List.mem_cons_self ..),zjZ fun y hy=>hx y (List.mem_cons_of_mem _ hy)]
   rfl
theorem ztn {α : Type} {h : α→Int} : ∀ {l : List α},(∀ x∈l,h x≤1)→(l.map h).sum≤l.length
 | [],_=>Int.le_refl _
 | x::l,hx=>by
   have ih:=ztn (l:=l) fun y hy=>hx y (List.mem_cons_of_mem _ hy)
   have h1:=hx x (List.mem_cons_self ..)
   rw [List.map_cons,List.sum_cons,List.length_cons]
   omega
theorem zib {g : Gr} {p : Pol} {ks : List Int} (hg : GrOk g) (hp : zaY g.size p) (hk : ∀ x∈ks,0≤x∧x<g.size) : maxF (netN g) (netA g p ks)≤ks.length:=by
 have hno:=zkd hg hp hk
 obtain ⟨f,hf,hv⟩:=zrg hno
 rw [← hv]
 refine Int.le_trans (zec (S:=fun x=>decide (x≠1)) hno hf (by simp) (by simp)) ?_
 rw [zm7]
 simp only [netA,zba,List.map_append,List.sum_append,List.map_map]
 have hle:=zi1 hg p.lv
 rw [zjZ,zjZ,zjZ (l:=(zam g p.lv).edges.filter _)]
 ·have h1:=ztn (h:=(fun e : Ed=>if (decide (e.f≠1))=true∧(decide (e.t≠1))=false then e.v else 0)∘fun x : Int=>(⟨2+2*x,1,1⟩ : Ed)) (l:=ks.filter fun x=>decide (0<(zaO g p).getD x.toNat 0)) fun x _=>by
   simp only [Function.comp]
   split <;> omega
  have h2:=List.length_filter_le (fun x=>decide (0<(zaO g p).getD x.toNat 0)) ks
  omega
 ·intro e he
  have:=hle.2 e (List.mem_filter.1 he).1
  simp only [Function.comp]
  rw [if_neg]
  simp
  omega
 ·intro i _
  simp only [Function.comp]
  rw [if_neg]
  simp
  omega
 ·intro x _
  simp only [Function.comp]
  rw [if_neg]
  simp
  omega
theorem zvz {N : Nat} {A : List Ed} {f : List Int} (hn : zen N A) : exF A f 0=valF A f:=by
 unfold exF valF
 rw [zk4 hn]
 omega
section
variable {P : Program} {np id : Nat} {h : Nat→Option Ent} {K : AV→List Nat→List (Nat × Option Ent)→Prop} {f : FuncId} {first capt args args' : List AV} {res : AV}
end
def zuQ (g : Gr) (p : Pol) (ks : List Int) (W : List (List Nat)) : Prop :=
 ∃ f g',zcH g p (zav ks) f∧zmG (netN g) (netA g p (zav ks)) f g' W∧(W.length : Int)=maxF (netN g) (netA g p (zav ks)) ∧ ∀ w∈W,w.length≤130
def befL (o acc : List Int) (i : Nat) : List Int:=(o.take i).filter fun k=>decide (k∈acc)
theorem ztD {o acc : List Int} {i : Nat} (h : i<o.length) : befL o acc (i+1)=befL o acc i++if o[i]∈acc then [o[i]] else []:=by
 unfold befL
 rw [List.take_succ_eq_append_getElem h,List.filter_append]
 simp only [List.filter_cons,List.filter_nil,decide_eq_true_eq]
structure ForR (g : Gr) (p : Pol) (o : List Int) (key : Int) (x : Expl) : Prop where
 key_ : x.key=key
 bef : ∃ i,∃ h : i<o.length,o[i]=key∧x.before=befL o (accR g p o) i
 yes : key∈accR g p o→x.acc=true∧x.side=[] ∧ ∃ W,zuQ g p (x.before++[key]) W∧x.paths=W.map (zcS (netA g p (zav (x.before++[key]))))
 no : key∉accR g p o→x.acc=false∧x.paths=[] ∧ ∃ R,zhG g p o R∧(key,x.side)∈R
def surG (A : List Ed) (f : List Int) (i : Nat) (x : Int) : Int:=- netG A f i x
variable {N : Nat} {A : List Ed} {f : List Int}
theorem zuv (hl : f.length=A.length) (x : Int) : surG A f A.length x=exF A f x:=by
 unfold surG
 rw [znm hl]
 omega
set_option maxRecDepth 100000 in
set_option maxHeartbeats 4000000 in
theorem zmq (hn : za5 ⟨N,A⟩) (hfl : f.length=A.length) (hfb : ∀ j (h : j<f.length),0≤f[j]∧f[j]≤1048576) : zai Tryz.prog zdZ [eN ⟨N,A⟩,ints f] [] (.rs 0 0 N) [some ⟨1,zah (rowR N (exF A f)),0⟩]:=by
 refine zmP.acalls (nbz rfl) (nbz rfl) (Nat.zero_le _) ?_
 show awp _ 0 _ _ ⟨43,[(0,eN ⟨N,A⟩),(1,ints f)],[],16⟩
 obtain ⟨hn0,hn1,hal,hav⟩:=hn
 simp only at hn0 hn1 hal hav
 have hbd:=ziU hfl hfb
 refine rx (s:=?s1) [1,2] [] [16] rfl ?o1 ?q1
 case o1=>simp; rfl
 refine zaa ⟨43,[(1,ints f),(2,.pv (nC ⟨N,A⟩)),(5,.rs 48 0 N)],[(48,some ⟨1,zah (rowR N (surG A f 0)),0⟩)],64⟩ rfl ?_ ?_
 ·simp
  refine ⟨by omega,by omega,?_⟩
  have : rowR N (surG A f 0)=List.replicate N 0:=by
   unfold rowR surG
   simp only [zf0]
   simp [List.map_const']
  rw [this]
  exact LeH [(48,48)] []
 refine zab ?_
 refine zaa ⟨43,[(1,ints f),(5,.rs 48 0 N),(12,eEs A),(13,.I A.length),(14,.I 0)],[(48,some ⟨1,zah (rowR N (surG A f 0)),0⟩)],96⟩ rfl ?_ ?_
 ·simp
  exact LeI [(48,48)] []
 refine zaf ?_
 refine zao (ι:=Nat) (fun i=>⟨43,[(1,ints f),(5,.rs 48 0 N),(12,eEs A),(13,.I A.length),(14,.I i)],[(48,some ⟨1,zah (rowR N (surG A f i)),0⟩)],96⟩) (fun i=>i≤A.length) (fun i=>A.length - i) 0 (Nat.zero_le _) (LeI [(48,48)] []) ?_
 intro i hi
 refine zaa ⟨43,[(1,ints f),(5,.rs 48 0 N),(12,eEs A),(13,.I A.length),(14,.I i),(15,.B (decide (i<A.length)))],[(48,some ⟨1,zah (rowR N (surG A f i)),0⟩)],104⟩ rfl ?_ ?_
 ·simp
  exact LeI [(48,48)] []
 refine zab ?_
 refine zac _ rfl (fun h5=>?_) fun h5=>?_
 ·simp at h5
  have h8 : i<f.length:=by omega
  have hw1 : IntKind.i64.wrap ((i : Int)+1)=(i : Int)+1:=w64 (by omega) (by omega)
  obtain ⟨b1,b3⟩:=hfb i h8
  have heo:=hav _ (List.getElem_mem h5)
  have hsucc:=zga h5 h8
  have hbe:=fun x=>hbd x i (by omega)
  obtain ⟨e,he⟩ : ∃ e,e=A[i]:=⟨_,rfl⟩
  obtain ⟨w,hw⟩ : ∃ w,w=f[i]:=⟨_,rfl⟩
  rw [← he,← hw] at hsucc
  rw [← hw] at b1 b3
  rw [← he] at heo
  obtain ⟨e1,e2,e3,e4,e5,_⟩:=heo
  have hg1 : A[i]? = some e:=by rw [List.getElem?_eq_getElem h5,he]
  have hg2 : f[i]? = some w:=by rw [List.getElem?_eq_getElem h8,hw]
  have h2N : e.f<(N : Int)∧e.t<(N : Int):=by omega
  have h1:=hbe e.f
  have h2:=hbe e.t
  have hwx : IntKind.i64.wrap (surG A f i e.f+w)=surG A f i e.f+w:=w64 (by unfold surG; omega) (by unfold surG; omega)
  have hwy : IntKind.i64.wrap (surG A f i e.t - w)=surG A f i e.t - w:=w64 (by unfold surG; omega) (by unfold surG; omega)
  have hr1:=zcW (N:=N) (g:=surG A f i) (x:=e.f) e1 (by omega)
  have hs1:=zgR (N:=N) (g:=surG A f i) (x:=e.f) (v:=surG A f i e.f+w) e1 (by omega)
  obtain ⟨g1,hg1d⟩ : ∃ g1 : Int→Int,g1=fun y=>if y=e.f then surG A f i e.f+w else surG A f i y:=⟨_,rfl⟩
  rw [← hg1d] at hs1
  have hg1t : g1 e.t=surG A f i e.t:=by rw [hg1d]; exact if_neg fun h=>e5 h.symm
  have hr2:=zcW (N:=N) (g:=g1) (x:=e.t) e3 (by omega)
  rw [hg1t] at hr2
  have hs2:=zgR (N:=N) (g:=g1) (x:=e.t) (v:=surG A f i e.t - w) e3 (by omega)
  have hend : (rowR N fun y=>if y=e.t then surG A f i e.t - w else g1 y)=rowR N (surG A f (i+1)):=zgJ fun x=>by
   unfold surG at hg1d ⊢
   rw [hsucc,hg1d]
   simp only
   by_cases h3 : x=e.t
   ·rw [h3,if_pos rfl,if_pos rfl,if_neg e5]
    omega
   ·by_cases h4 : x=e.f
    ·rw [if_neg h3,if_pos h4,if_neg fun h=>h3 h.symm,if_pos h4.symm,h4]
     omega
    ·rw [if_neg h3,if_neg h4,if_neg fun h=>h3 h.symm,if_neg fun h=>h4 h.symm]
     omega
  rw [hend] at hs2
  refine zae ?_
  refine zab ?_
  refine zaf ?_
  refine zaa ⟨43,[(1,ints f),(5,.rs 48 0 N),(6,.I i),(7,.pv (eC e)),(12,eEs A),(13,.I A.length),(14,.I i)],[(48,some ⟨1,zah (rowR N (surG A f i)),0⟩)],152⟩ rfl ?_ ?_
  ·simp [h5,← he]
   exact LeI [(48,48)] [128]
  refine zaq ⟨43,[(1,ints f),(5,.rs 48 0 N),(6,.I i),(7,.pv (eC e)),(12,eEs A),(13,.I A.length),(14,.I i)],[(48,some ⟨1,zah (rowR N g1),0⟩)],400⟩ rfl ?_ ?_
  ·simp [hg2,h8,← hw,hr1,e1,h2N,hwx,zar]
   exact ⟨rfl,Le.go [(48,48)] [] rfl rfl (by simp) (by simp [fcd,← hs1])⟩
  refine zbF rfl ?_
  simp [hg2,h8,← hw,hr2,e3,h2N,hwy,zar]
  refine ⟨rfl,?_⟩
  refine zas rfl ?_
  simp
  exact ⟨i+1,by omega,by omega,Le.go [(48,48)] [] rfl rfl (by simp [hw1]) (by simp [fcd,← hs2])⟩
 simp at h5
 obtain rfl : i=A.length:=by omega
 refine zan ?_
 refine hit ?_
 have hfin : rowR N (surG A f A.length)=rowR N (exF A f):=zgJ fun x=>zuv hfl x
 rw [hfin]
 refine zaa ⟨43,[(4,.rs 48 0 N)],[(48,some ⟨1,zah (rowR N (exF A f)),0⟩)],200⟩ rfl ?_ ?_
 ·simp
  exact LeI [(48,48)] []
 refine zag ?_
 exact ⟨.inr rfl,zak.out [48] [] rfl (by simp) (by simp) (by simp) (by simp [fcd])⟩
def zlt (A : List Ed) (f : List Int) (i : Nat) : Prop:=0≤f.getD i 0∧f.getD i 0≤(arcD A i).v
theorem zcP : zaA N A f↔f.length=A.length∧(∀ i,i<A.length→zlt A f i) ∧ ∀ x : Nat,2≤x→x<N→exF A f x=0:=by
 constructor
 ·intro h
  have h1:=zc0.1 h.fit
  exact ⟨h1.1,h1.2,fun x h2 h3=>by have:=h.bal x h2 h3; unfold exF; omega⟩
 ·rintro ⟨h1,h2,h3⟩
  exact ⟨zc0.2 ⟨h1,h2⟩,fun x h4 h5=>by have:=h3 x h4 h5; unfold exF at this; omega⟩
theorem zvA (g : Int→Int) (N : Nat) : ((rowR N g).drop 2).any (fun x=>!decide (x=0))=true↔¬ ∀ x : Nat,2≤x→x<N→g x=0:=by
 rw [List.any_eq_true]
 constructor
 ·rintro ⟨y,hy,h⟩ hall
  obtain ⟨j,hj,rfl⟩:=List.mem_iff_getElem.1 hy
  rw [List.length_drop,zfH] at hj
  have:=hall (2+j) (by omega) (by omega)
  simp [rowR] at h
  exact h (by simpa using this)
 ·intro h
  obtain ⟨x,hx⟩:=Classical.not_forall.1 h
  obtain ⟨h1,hx⟩:=Classical.not_imp.1 hx
  obtain ⟨h2,hx⟩:=Classical.not_imp.1 hx
  refine ⟨g x,List.mem_iff_getElem.2 ⟨x - 2,by rw [List.length_drop,zfH]; omega,?_⟩,by simpa using hx⟩
  simp [rowR,show 2+(x - 2)=x by omega]
theorem zjs (x : Int) : zai Tryz.prog zdC [.I x] [] (.B (!decide (x=0))) []:=by
 refine zlA.acalls (nbz rfl) (nbz rfl) (Nat.le_refl _) ?_
 show awp _ 0 _ _ ⟨5,[(0,.I x)],[],16⟩
 refine rx (s:=?s1) [0] [] [] rfl ?o1 ?q1
 case o1=>simp; rfl
 refine zaa ⟨5,[(2,.B (!decide (x=0)))],[],100⟩ rfl ?_ ?_
 ·simp
  exact Le.go [] [] rfl rfl (by simp <;> exact wkB (by rw [Bool.eq_iff_iff]; simp)) (by simp)
 refine zag ?_
 exact ⟨.inr rfl,zak.one (by simp)⟩
set_option maxRecDepth 100000 in
set_option maxHeartbeats 4000000 in
open Classical in
theorem zhL (hn : za5 ⟨N,A⟩) (hl : f.length≤1099511627776) : zai Tryz.prog zfm [eN ⟨N,A⟩,ints f] [] (.B (decide (zaA N A f))) []:=by
 refine zpC.acalls (nbz rfl) (nbz rfl) (Nat.le_refl _) ?_
 show awp _ 0 _ _ ⟨41,[(0,eN ⟨N,A⟩),(1,ints f)],[],16⟩
 have hchk:=zfl ⟨N,A⟩ (by have:=hn.2.2.1; simp only at this ⊢; omega)
 rw [if_pos hn] at hchk
 have hn':=hn
 obtain ⟨hn0,hn1,hal,hav⟩:=hn
 simp only at hn0 hn1 hal hav
 refine rx (s:=?s1) [1,2] [] [16] rfl ?o1 ?q1
 case o1=>simp; rfl
 refine zab ?_
 refine zaa ⟨41,[(1,ints f),(2,.pv (nC ⟨N,A⟩)),(17,.B (!decide (f.length=A.length)))],[],120⟩ rfl ?_ ?_
 ·simp
  refine zaj hchk (by simp) ?_
  simp
  exact Le.go [] [] rfl rfl (by simp <;> exact wkB (by rw [Bool.eq_iff_iff]; simp <;> omega)) (by simp)
 refine zac _ rfl (fun h3=>?_) fun h3=>?_
 ·simp at h3
  refine rx (s:=?s4) [4] [] [] rfl ?o4 ?q4
  case o4=>simp; rfl
  refine zag ?_
  have hno : ¬ zaA N A f:=fun h=>h3 (zcP.1 h).1
  exact ⟨.inr rfl,zak.one (by simp [hno])⟩
 simp at h3
 refine zae ?_
 refine zab ?_
 refine rx (s:=?s5) [1,2,19,20,21] [] [] rfl ?o5 ?q5
 case o5=>simp; rfl
 refine zaf ?_
 refine zao (ι:=Nat) (fun i=>⟨41,[(1,ints f),(2,.pv (nC ⟨N,A⟩)),(19,eEs A),(20,.I A.length),(21,.I i)],[],152⟩) (fun i=>i≤A.length ∧ ∀ k,k<i→zlt A f k) (fun i=>A.length - i) 0 (by simp) (LeH [] []) ?_
 rintro i ⟨hi,hp⟩
 refine rx (s:=?s6) [1,2,19,20,21,22] [] [] rfl ?o6 ?q6
 case o6=>simp; rfl
 refine zab ?_
 refine zac _ rfl (fun h7=>?_) fun h7=>?_
 ·simp at h7
  have hw1 : IntKind.i64.wrap ((i : Int)+1)=(i : Int)+1:=w64 (by omega) (by omega)
  have hif : i<f.length:=by omega
  obtain ⟨e,he⟩ : ∃ e,e=A[i]:=⟨_,rfl⟩
  obtain ⟨w,hw⟩ : ∃ w,w=f[i]:=⟨_,rfl⟩
  have hfa : zlt A f i↔0≤w∧w≤e.v:=by
   unfold zlt arcD
   rw [List.getD_eq_getElem?_getD,List.getElem?_eq_getElem hif,Option.getD_some,List.getD_eq_getElem?_getD,List.getElem?_eq_getElem h7,Option.getD_some,he,hw]
  refine zae ?_
  refine zab ?_
  refine zaf ?_
  refine zaa ⟨41,[(1,ints f),(2,.pv (nC ⟨N,A⟩)),(5,.I i),(6,.pv (eC e)),(19,eEs A),(20,.I A.length),(21,.I i)],[],300⟩ rfl ?_ ?_
  ·simp [h7,← he]
   exact LeH [] [184]
  refine zaq ⟨41,[(1,ints f),(2,.pv (nC ⟨N,A⟩)),(19,eEs A),(20,.I A.length),(21,.I i),(33,.B (!decide (0≤w∧w≤e.v)))],[],400⟩ rfl ?_ ?_
  ·simp [hif,← hw]
   refine zaj (zbs w 0 e.v) (by simp) ?_
   simp
   exact ⟨rfl,Le.go [] [] rfl rfl (by simp <;> exact wkB (by rw [Bool.eq_iff_iff]; simp)) (by simp)⟩
  refine zac _ rfl (fun h10=>?_) fun h10=>?_
  ·have h10' : ¬ (0≤w∧w≤e.v):=by simp at h10; omega
   refine rx (s:=?s11) [4] [] [] rfl ?o11 ?q11
   case o11=>simp; rfl
   refine zag ?_
   have hno : ¬ zaA N A f:=fun h=>h10' (hfa.1 ((zcP.1 h).2.1 i h7))
   exact ⟨.inr rfl,zak.one (by simp [hno])⟩
  have h10' : 0≤w∧w≤e.v:=by simpa using h10
  refine zae ?_
  refine zas rfl ?_
  simp
  refine ⟨i+1,⟨by omega,fun k hk=>?_⟩,by omega,Le.go [] [] rfl rfl (by simp [hw1]) (by simp)⟩
  rcases Nat.lt_succ_iff_lt_or_eq.1 hk with h | h
  ·exact hp k h
  ·rw [h]; exact hfa.2 h10'
 simp at h7
 obtain rfl : i=A.length:=by omega
 have hfb : ∀ j (h : j<f.length),0≤f[j]∧f[j]≤1048576:=fun j hj=>by
  have h1:=hp j (by omega)
  unfold zlt at h1
  have e1 : f.getD j 0=f[j]:=by rw [List.getD_eq_getElem?_getD,List.getElem?_eq_getElem hj,Option.getD_some]
  have e2 : arcD A j=A[j]'(by omega):=by unfold arcD; rw [List.getD_eq_getElem?_getD,List.getElem?_eq_getElem (by omega),Option.getD_some]
  rw [e1,e2] at h1
  have h2:=(hav _ (List.getElem_mem (show j<A.length by omega))).2.2.2.2.2.2.2.2
  omega
 refine zan ?_
 refine hit ?_
 have hsur:=zmq hn' h3 hfb
 have hcf:=zjy zdC [] (fun x=>!decide (x=0)) ((rowR N (exF A f)).drop 2) (by rw [List.length_drop,zfH]; omega) (fun ρ sn h k=>by simp) (fun e _=>zjs e)
 have hiff : zaA N A f↔((rowR N (exF A f)).drop 2).any (fun x=>!decide (x=0))=false:=by
  rw [← Bool.not_eq_true,zvA,Classical.not_not,zcP]
  exact ⟨fun h=>h.2.2,fun h=>⟨h3,hp,h⟩⟩
 obtain ⟨l,hld⟩ : ∃ l,l=rowR N (exF A f):=⟨_,rfl⟩
 have hll : l.length=N:=by rw [hld,zfH]
 rw [← hld] at hsur hcf hiff
 obtain ⟨b,hb⟩ : ∃ b,b=(l.drop 2).any (fun x=>!decide (x=0)):=⟨_,rfl⟩
 rw [← hb] at hcf hiff
 refine zaa ⟨41,[(4,.B (!b))],[],300⟩ rfl ?_ ?_
 ·simp
  refine za0 hsur (by simp) ?_
  simp
  refine zvu 2 (i:=176) rfl rfl (by omega) ?_
  simp
  have h2N : 2+(N - 2)≤N:=by omega
  refine zle [176] hcf (by simp [fcd,hll,h2N]; exact List.take_of_length_le (by simp; omega)) (.sc _) ?_
  simp
  exact LeH [] []
 refine zag ?_
 exact ⟨.inr rfl,zak.one (by simp [hiff])⟩
set_option maxRecDepth 100000 in
open Classical in
theorem zh0 (hn : za5 ⟨N,A⟩) (hl : f.length≤1099511627776) : zai Tryz.prog zfz [eN ⟨N,A⟩,ints f] [] (.I (if zaA N A f then valF A f else 0)) []:=by
 refine zqf.acalls (nbz rfl) (nbz rfl) (Nat.le_refl _) ?_
 show awp _ 0 _ _ ⟨14,[(0,eN ⟨N,A⟩),(1,ints f)],[],16⟩
 have hvl:=zhL hn hl
 refine rx (s:=?s1) [1,2] [] [16] rfl ?o1 ?q1
 case o1=>simp; rfl
 refine zab ?_
 refine rx (s:=?s2) [1,2,8] [] [] rfl ?o2 ?q2
 case o2=>simp; refine zaj hvl (by simp) ?_; simp; rfl
 refine zac _ rfl (fun h3=>?_) fun h3=>?_
 ·simp at h3
  refine rx (s:=?s4) [4] [] [] rfl ?o4 ?q4
  case o4=>simp; rfl
  refine zag ?_
  exact ⟨.inr rfl,zak.one (by simp [h3])⟩
 simp at h3
 have h31:=zc0.1 h3.fit
 have hav:=hn.2.2.2
 simp only at hav
 have hfb : ∀ j (h : j<f.length),0≤f[j]∧f[j]≤1048576:=fun j hj=>by
  have h1:=h31.2 j (by omega)
  have e1 : f.getD j 0=f[j]:=by rw [List.getD_eq_getElem?_getD,List.getElem?_eq_getElem hj,Option.getD_some]
  have e2 : arcD A j=A[j]'(by omega):=by unfold arcD; rw [List.getD_eq_getElem?_getD,List.getElem?_eq_getElem (by omega),Option.getD_some]
  rw [e1,e2] at h1
  have h2:=(hav _ (List.getElem_mem (show j<A.length by omega))).2.2.2.2.2.2.2.2
  omega
 have hsur:=zmq hn h31.1 hfb
 have hv:=zvz (f:=f) (zeE hn)
 have hn0:=hn.1
 simp only at hn0
 have hr:=zcW (N:=N) (g:=exF A f) (x:=0) (Int.le_refl _) (by omega)
 rw [hv] at hr
 obtain ⟨l,hld⟩ : ∃ l,l=rowR N (exF A f):=⟨_,rfl⟩
 rw [← hld] at hsur hr
 simp only [Int.toNat_zero] at hr
 refine zae ?_
 refine zaa ⟨14,[(4,.I (valF A f))],[],300⟩ rfl ?_ ?_
 ·simp
  refine za0 hsur (by simp) ?_
  have h0N : 0<(N : Int):=by omega
  simp [hr,h0N]
  exact ⟨by omega,LeH [] []⟩
 refine zag ?_
 exact ⟨.inr rfl,zak.one (by simp [h3])⟩
structure SSt where
 s : BSt
 R : List (List AV)
 m : Nat
 i : Nat
def zkq (A : List Ed) (f D : List Int) (l : List Stp) : Prop:=∀ s∈l,0<zbk A f s→stT A s∈D
theorem zkq.nil {A : List Ed} {f D : List Int} : zkq A f D []:=fun s h=>by simp at h
set_option maxRecDepth 100000 in
set_option maxHeartbeats 4000000 in
theorem zra (N : Nat) (A : List Ed) (f : List Int) (hn : za5 ⟨N,A⟩) (hf : Fit2 A f) :
  ∃ x : List Int × List Int × List (List AV),(Bfs N A f x.1 x.2.1∧zeX A f x.1∧MapF x.2.2 (camF x.1 x.2.1))∧zai Tryz.prog zbz [eR N A (ints f)] [] (.mp 0) [some ⟨0,x.2.2,0⟩]:=by
 refine zgH.acallsX (args:=[eR N A (ints f)]) (hs:=[]) (fun x=>.mp 0) (fun x=>[some ⟨0,x.2.2,0⟩]) (fun x : List Int × List Int × List (List AV)=>Bfs N A f x.1 x.2.1∧zeX A f x.1∧MapF x.2.2 (camF x.1 x.2.1)) (nbz rfl) (nbz rfl) (fun _=>by simp) ?_
 show awp _ 0 _ _ ⟨59,[(0,eR N A (ints f))],[],16⟩
 have hroom:=fun s hs=>zsH N A f s hn hf hs
 have hrng:=fun (s : Stp) (hs : s.1<A.length)=>zl1 hn hs
 obtain ⟨hn0,hn1,hal,hav⟩:=hn
 simp only at hn0 hn1 hal hav
 have hR0 : MapF ([[.I 0,.agg [.I (-1),.B false]]]) (camF [0] (List.replicate N 0)):=⟨by rw [zrX]; exact MapR.nil.set 0 (.agg [.I (-1),.B false]),zf6 _ _⟩
 refine zaa ⟨59,[(1,.pv (rC N A (ints f)))],[],32⟩ rfl ?_ ?_
 ·simp
  exact LeH [] [16]
 refine zaa ⟨59,[(1,.pv (rC N A (ints f))),(3,.mp 32)],[(32,some ⟨0,[[.I 0,.agg [.I (-1),.B false]]],0⟩)],72⟩ rfl ?_ ?_
 ·simp [mset]
  exact LeH [(32,32)] []
 obtain ⟨R0,hR0d⟩ : ∃ R0 : List (List AV),R0=[[.I 0,.agg [.I (-1),.B false]]]:=⟨_,rfl⟩
 rw [← hR0d] at hR0 ⊢
 refine zab ?_
 refine zaa ⟨59,[(1,.pv (rC N A (ints f))),(3,.mp 32),(4,.rs 72 0 1)],[(32,some ⟨0,R0,0⟩),(72,some ⟨1,zah [0],0⟩)],88⟩ rfl ?_ ?_
 ·simp
  exact Le.go [(32,32),(72,72)] [] rfl rfl (by simp) (by simp [hR0.conv'])
 refine zaf ?_
 refine zao (ι:=SSt) (fun t=>⟨59,[(1,.pv (rC N A (ints f))),(3,.mp 32),(4,.rs 72 t.s.off t.s.q)],[(32,some ⟨0,t.R,0⟩),(72,some ⟨1,zah t.s.Z,0⟩)],88⟩)
  (fun t=>BInv N A f t.s t.m∧zfC A f t.s.D t.m∧MapF t.R (camF t.s.D t.s.b)) (fun t=>N - t.m) ⟨⟨[0],List.replicate N 0,[0],0,1⟩,R0,0,0⟩
  ⟨⟨Bfs.start (by omega),rfl,rfl,rfl⟩,fun s _ h=>by simp at h,hR0⟩ (Le.go [(32,32),(72,72)] [] rfl rfl (by simp) (by simp [hR0.conv'])) ?_
 rintro ⟨s,R,m,_⟩ ⟨hb,hcl,hR⟩
 simp only at hb hcl hR
 have hfew:=hb.bfs.few
 have hbd:=hb.d
 have hbz:=hb.z
 refine zab ?_
 refine zaa ⟨59,[(1,.pv (rC N A (ints f))),(3,.mp 32),(4,.rs 72 s.off s.q),(17,.B (decide (0<s.q)))],[(32,some ⟨0,R,0⟩),(72,some ⟨1,zah s.Z,0⟩)],112⟩ rfl ?_ ?_
 ·simp
  exact Le.go [(32,32),(72,72)] [] rfl rfl (by simp) (by simp [hR.conv',fcd])
 refine zac _ rfl (fun h5=>?_) fun h5=>?_
 ·simp at h5
  obtain ⟨hmD,hk⟩:=hb.head h5
  have hoff : s.off<s.Z.length:=by omega
  obtain ⟨k,hkd⟩ : ∃ k,k=s.D[m]:=⟨_,rfl⟩
  rw [← hkd] at hk
  have hkD : k∈s.D:=hkd ▸ List.getElem_mem hmD
  have hkr:=hb.bfs.rng k hkD
  obtain ⟨kn,hkn,hknN⟩ : ∃ kn : Nat,k=kn∧kn<N:=⟨k.toNat,by omega,by omega⟩
  obtain ⟨L,hL⟩ : ∃ L,L=zih A A.length kn:=⟨_,rfl⟩
  have hLm : ∀ st : Stp,st∈L↔st.1<A.length∧stF A st=k:=fun st=>by rw [hL,hkn]; exact zmc
  have hLl : L.length≤2*A.length:=by rw [hL]; exact ziH A kn A.length
  have hfe : famE A A.length kn=L.map zby:=by rw [hL]; rfl
  refine zae ?_
  refine zab ?_
  refine zaf ?_
  refine zaq ⟨59,[(1,.pv (rC N A (ints f))),(3,.mp 32),(4,.rs 72 s.off s.q),(26,.vs 2 false (L.map zby)),(27,.I L.length),(28,.I 0)],[(32,some ⟨0,R,0⟩),(72,some ⟨1,zah s.Z,0⟩)],184⟩ rfl ?_ ?_
  ·simp [hk,h5,hkn,hknN,hfe]
   exact ⟨rfl,Le.go [(32,32),(72,72)] [] rfl rfl (by simp [hfe]) (by simp [hR.conv',fcd])⟩
  refine zaf ?_
  refine zao (ι:=SSt) (fun t=>⟨59,[(1,.pv (rC N A (ints f))),(3,.mp 32),(4,.rs 72 t.s.off t.s.q),(26,.vs 2 false (L.map zby)),(27,.I L.length),(28,.I t.i)],[(32,some ⟨0,t.R,0⟩),(72,some ⟨1,zah t.s.Z,0⟩)],184⟩)
   (fun t=>BInv N A f t.s m∧MapF t.R (camF t.s.D t.s.b)∧t.i≤L.length∧zkq A f t.s.D (L.take t.i) ∧ ∃ l,t.s.D=s.D++l) (fun t=>L.length - t.i) ⟨s,R,m,0⟩
   ⟨hb,hR,Nat.zero_le _,by rw [List.take_zero]; exact zkq.nil,[],by simp⟩ (Le.go [(32,32),(72,72)] [] rfl rfl (by simp) (by simp [hR.conv',fcd])) ?_
  rintro ⟨t,R,_,i⟩ ⟨ht,hR,hi,htc,l,htl⟩
  simp only at ht hR hi htc htl
  have htz:=ht.z
  have htd:=ht.d
  have htf:=ht.bfs.few
  refine zaa ⟨59,[(1,.pv (rC N A (ints f))),(3,.mp 32),(4,.rs 72 t.off t.q),(26,.vs 2 false (L.map zby)),(27,.I L.length),(28,.I i),(29,.B (decide (i<L.length)))],[(32,some ⟨0,R,0⟩),(72,some ⟨1,zah t.Z,0⟩)],192⟩ rfl ?_ ?_
  ·simp
   exact Le.go [(32,32),(72,72)] [] rfl rfl (by simp) (by simp [hR.conv',fcd])
  refine zab ?_
  refine zac _ rfl (fun h8=>?_) fun h8=>?_
  ·simp at h8
   have hw : IntKind.i64.wrap ((i : Int)+1)=(i : Int)+1:=w64 (by omega) (by omega)
   obtain ⟨st,hst⟩ : ∃ st,st=L[i]:=⟨_,rfl⟩
   obtain ⟨hs1,hs2⟩:=(hLm st).1 (hst ▸ List.getElem_mem h8)
   have hrm:=hroom st hs1
   obtain ⟨hr1,hr2⟩:=hrng st hs1
   have hpush:=fun (h1 : 0<zbk A f st) (h2 : stT A st∉t.D)=>ht.bfs.push (s:=st) hs1 (by rw [hs2,htl]; exact List.mem_append_left _ hkD) h1 h2 hr1 hr2
   have hcam:=fun (h2 : stT A st∉t.D)=>ztI ht.bfs h2 hr1 hr2
   have hsome:=zhj t.D t.b (stT A st)
   have hfind:=hR.is.find (stT A st)
   have htake : ∀ D',(∃ l,D'=t.D++l)→stT A st∈D'∨¬ 0<zbk A f st→zkq A f D' (L.take (i+1)):=fun D' hD' h s' hs' hr=>by
    rw [List.take_succ_eq_append_getElem h8,← hst] at hs'
    obtain ⟨l',rfl⟩:=hD'
    rcases List.mem_append.1 hs' with h' | h'
    ·exact List.mem_append_left _ (htc s' h' hr)
    ·rw [List.mem_singleton] at h'
     subst h'
     exact h.resolve_right fun hn=>hn hr
   obtain ⟨T,hT⟩ : ∃ T,T=stT A st:=⟨_,rfl⟩
   obtain ⟨rm,hrmd⟩ : ∃ rm,rm=zbk A f st:=⟨_,rfl⟩
   rw [← hT,← hrmd] at hrm hpush htake
   rw [← hT] at hcam hsome hfind
   refine zae ?_
   refine zab ?_
   refine zaf ?_
   refine zaa ⟨59,[(1,.pv (rC N A (ints f))),(3,.mp 32),(4,.rs 72 t.off t.q),(6,.pv (zby st)),(26,.vs 2 false (L.map zby)),(27,.I L.length),(28,.I i)],[(32,some ⟨0,R,0⟩),(72,some ⟨1,zah t.Z,0⟩)],232⟩ rfl ?_ ?_
   ·simp [h8,← hst]
    exact Le.go [(32,32),(72,72)] [208] rfl rfl (by simp) (by simp [hR.conv',fcd])
   refine zaa ⟨59,[(1,.pv (rC N A (ints f))),(3,.mp 32),(4,.rs 72 t.off t.q),(6,.pv (zby st)),(7,.I rm),(8,.I T),(26,.vs 2 false (L.map zby)),(27,.I L.length),(28,.I i)],[(32,some ⟨0,R,0⟩),(72,some ⟨1,zah t.Z,0⟩)],300⟩ rfl ?_ ?_
   ·simp
    refine zaj hrm (by simp) ?_
    simp
    exact Le.go [(32,32),(72,72)] [] rfl rfl (by simp) (by simp [hR.conv',fcd])
   refine zaa ⟨59,[(1,.pv (rC N A (ints f))),(3,.mp 32),(4,.rs 72 t.off t.q),(6,.pv (zby st)),(7,.I rm),(8,.I T),(10,.B (decide (T∈t.D))),(26,.vs 2 false (L.map zby)),(27,.I L.length),(28,.I i)],[(32,some ⟨0,R,0⟩),(72,some ⟨1,zah t.Z,0⟩)],400⟩ rfl ?_ ?_
   ·have hgd : ∃ u v,(camF t.D t.b T).getD (toAV (Value.agg #[Value.int IntKind.i64 0,Value.bool false])) = .agg [.sc u,.sc v]:=by
     cases hc : camF t.D t.b T with
     | none=>exact ⟨.int .i64 0,.bool false,by simp [toAV,Value.oneCell']⟩
     | some x =>
       obtain ⟨u,v,rfl⟩:=zf6 _ _ _ _ hc
       exact ⟨u,v,rfl⟩
    obtain ⟨u,v,huv⟩:=hgd
    simp [hfind,hsome,huv]
    exact Le.go [(32,32),(72,72)] [] rfl rfl (by simp) (by simp [hR.conv',fcd])
   refine zaa ⟨59,[(1,.pv (rC N A (ints f))),(3,.mp 32),(4,.rs 72 t.off t.q),(6,.pv (zby st)),(8,.I T),(26,.vs 2 false (L.map zby)),(27,.I L.length),(28,.I i),(49,.B (decide (0<rm∧T∉t.D)))],[(32,some ⟨0,R,0⟩),(72,some ⟨1,zah t.Z,0⟩)],500⟩ rfl ?_ ?_
   ·simp
    refine zb5 (fun hb=>?_) (fun hb=>?_) <;> (try rw [hb]) <;> (try simp at hb) <;> simp [hb]
    ·exact Le.go [(32,32),(72,72)] [] rfl rfl (by simp [hb]) (by simp [hR.conv',fcd])
    ·exact Le.go [(32,32),(72,72)] [] rfl rfl (by simp [hb]) (by simp [hR.conv',fcd])
   refine zac _ rfl (fun h13=>?_) fun h13=>?_
   ·rw [decide_eq_true_eq] at h13
    have hbu:=hpush h13.1 h13.2
    have hRu:=hR.set T (zrw st) (hcam h13.2)
    have hmore:=ht.more hbu
    have hfw:=hbu.few
    rw [List.length_append,List.length_singleton] at hfw
    have hbt : ∀ g : Int→List AV,List.take t.q (List.drop t.off (List.map g t.Z))=List.map g (t.Z.drop t.off):=fun g=>by rw [← List.map_drop,List.take_of_length_le (by simp; omega)]
    obtain ⟨R',hR'⟩ : ∃ R',R'=mset T (zrw st) R:=⟨_,rfl⟩
    rw [← hR'] at hRu
    refine zaa ⟨59,[(1,.pv (rC N A (ints f))),(3,.mp 32),(4,.rs 72 t.off t.q),(8,.I T),(26,.vs 2 false (L.map zby)),(27,.I L.length),(28,.I i)],[(32,some ⟨0,R',0⟩),(72,some ⟨1,zah t.Z,0⟩)],600⟩ rfl ?_ ?_
    ·simp
     rw [show mset T (.agg [.I st.1,.B st.2]) R=R' from hR'.symm]
     exact Le.go [(32,32),(72,72)] [] rfl rfl (by simp) (by simp [hRu.conv',fcd])
    refine zas rfl ?_
    simp [hbt]
    refine ⟨by omega,by omega,by omega,?_⟩
    refine zas rfl ?_
    simp
    refine ⟨⟨⟨t.D++[T],t.b.set T.toNat (encS st),t.Z.drop t.off++[T],0,t.q+1⟩,R',m,i+1⟩,⟨hmore,hRu,h8,htake _ ⟨[T],rfl⟩ (.inl (by simp)),l++[T],by simp only [htl,List.append_assoc]⟩,by simp only; omega,?_⟩
    exact Le.go [(32,32),(624,72)] [] rfl rfl (by simp [hw]) (by simp [hRu.conv',fcd])
   ·rw [decide_eq_false_iff_not] at h13
    refine zae ?_
    refine zas rfl ?_
    simp
    refine ⟨⟨t,R,m,i+1⟩,⟨ht,hR,h8,htake _ ⟨[],by simp⟩ ?_,l,htl⟩,by simp only; omega,Le.go [(32,32),(72,72)] [] rfl rfl (by simp [hw]) (by simp [hR.conv',fcd])⟩
    by_cases h : 0<rm
    ·exact .inl (Decidable.byContradiction fun hn=>h13 ⟨h,hn⟩)
    ·exact .inr h
  simp at h8
  obtain rfl : i=L.length:=by omega
  refine zan ?_
  refine hit ?_
  have hlen : t.D.length=s.D.length+l.length:=by rw [htl,List.length_append]
  have hq : 0<t.q:=by omega
  have htc' : zfv A f t.D s.D[m] A.length:=fun st h1 h2 h3=>by
   refine htc st ?_ h3
   rw [List.take_length]
   exact (hLm st).2 ⟨h1,by rw [hkd]; exact h2⟩
  refine zas rfl ?_
  simp
  refine zvu 1 (i:=72) rfl rfl hq ?_
  simp
  exact ⟨⟨{ t with off:=t.off+1,q:=t.q - 1 },R,m+1,0⟩,⟨ht.pop hq,zfC.next hmD hcl htc' htl,hR⟩,by simp only; omega,Le.go [(32,32),(72,72)] [] rfl rfl (by simp) (by simp [hR.conv',fcd])⟩
 simp at h5
 have hmD : m=s.D.length:=by omega
 refine zan ?_
 refine hit ?_
 refine zaa ⟨59,[(2,.mp 32)],[(32,some ⟨0,R,0⟩)],200⟩ rfl ?_ ?_
 ·simp
  exact Le.go [(32,32)] [] rfl rfl (by simp) (by simp [hR.conv'])
 refine zag ?_
 exact zgh.mk (.inr rfl) (s.D,s.b,R) ⟨hb.bfs,by rw [hmD] at hcl; exact hcl.all,hR⟩ (zak.out [32] [] rfl (by simp) (by simp) (by simp) (by simp [hR.conv']))
theorem zqZ : toAV (Value.agg #[Value.int IntKind.i64 0,Value.bool false]) = .agg [.sc (.int .i64 0),.sc (.bool false)]:=by simp [toAV,Value.oneCell']
theorem zwC {a b : Int} : Plain (.tup [.I a,.I b]):=.tup _ fun i=>match i with
 | 0=>.sc _
 | 1=>.sc _
 | _+2=>.dead
structure zwm where
 j : Nat
 v : Int
def wayB (l : List Stp) (j : Nat) : List Stp:=(l.drop j).reverse
theorem zq9 (l : List Stp) (j : Nat) : (wayB l j).length=l.length - j:=by simp [wayB]
theorem ztF {l : List Stp} {j : Nat} (h : j<l.length) : wayB l j=wayB l (j+1)++[l[j]]:=by
 unfold wayB
 rw [List.drop_eq_getElem_cons h,List.reverse_cons]
theorem zur (l : List Stp) : wayB l l.length=[]:=by simp [wayB]
theorem zrQ {N : Nat} {A : List Ed} {f D b : List Int} {l : List Stp} (hb : Bfs N A f D b) (hl : zmf N A f b l) {j : Nat} (hj : j<l.length) : camF D b (stT A l[j])=some (zrw l[j]):=by
 obtain ⟨q1,q2,q3,q4,q5,q6⟩:=hl.at_ j hj
 have hD : stT A l[j]∈D:=Decidable.byContradiction fun h=>zuT l[j] (by rw [← q6]; exact hb.out _ q4 h)
 unfold camF
 rw [if_pos hD,if_neg q3,q6,zqw]
set_option maxRecDepth 100000 in
set_option maxHeartbeats 8000000 in
theorem zwk (N : Nat) (A : List Ed) (f : List Int) (hn : za5 ⟨N,A⟩) (hf : zaA N A f) :
  ∃ x : Bool × List Int,(if x.1 then zaA N A x.2∧valF A f+1≤valF A x.2 else x.2=f ∧ ∀ f',zaA N A f'→valF A f'≤valF A f)∧zai Tryz.prog zcC [eR N A (.rs 0 0 A.length)] [⟨1,zah f,0⟩] (.B x.1) [some ⟨1,zah x.2,0⟩]:=by
 refine zhz.acallsX (args:=[eR N A (.rs 0 0 A.length)]) (hs:=[⟨1,zah f,0⟩]) (fun x=>.B x.1) (fun x=>[some ⟨1,zah x.2,0⟩]) (fun x : Bool × List Int=>if x.1 then zaA N A x.2∧valF A f+1≤valF A x.2 else x.2=f ∧ ∀ f',zaA N A f'→valF A f'≤valF A f) (nbz rfl) (nbz rfl) (fun _=>by simp) ?_
 show awp _ 1 _ _ ⟨86,[(0,eR N A (.rs 0 0 A.length))],[(0,some ⟨1,zah f,0⟩)],16⟩
 have hno:=zeE hn
 have hfl:=hf.fit.len
 have hfit:=zc0.1 hf.fit
 obtain ⟨⟨D,b,R⟩,⟨hb,hcl,hR⟩,hcall⟩:=zra N A f hn hf.fit
 simp only at hb hcl hR hcall
 have hroom:=fun s hs=>zsH N A f s hn hf.fit hs
 obtain ⟨hn0,hn1,hal,hav⟩:=hn
 simp only at hn0 hn1 hal hav
 have htake : ∀ g : Int→List AV,List.take A.length (List.map g f)=List.map g f:=fun g=>List.take_of_length_le (by simp; omega)
 have hfind:=hR.is.find
 have hsome:=zhj D b 1
 refine zaa ⟨86,[(1,.pt 16 0 0)],[(0,some ⟨1,zah f,0⟩),(16,some ⟨4,[rC N A (.rs 0 0 A.length)],0⟩)],32⟩ rfl ?_ ?_
 ·simp
  exact LeI [(0,0),(16,16)] []
 refine zaa ⟨86,[(1,.pt 16 0 0),(3,.mp 60)],[(0,some ⟨1,zah f,0⟩),(16,some ⟨4,[rC N A (.rs 0 0 A.length)],0⟩),(60,some ⟨0,R,0⟩)],100⟩ rfl ?_ ?_
 ·simp
  refine ziE [0] hcall (by simp [fcd,htake,hfl]) (.mp _) (hR.plain _ _) ?_
  simp
  exact Le.go [(0,0),(16,16),(40,60)] [] rfl rfl (by simp) (by simp [fcd,hR.conv'])
 refine zab ?_
 have hgd : ∃ u v,(camF D b 1).getD (toAV (Value.agg #[Value.int IntKind.i64 0,Value.bool false])) = .agg [.sc u,.sc v]:=by
  cases hc : camF D b 1 with
  | none=>exact ⟨_,_,zqZ⟩
  | some x =>
    obtain ⟨u,v,rfl⟩:=zf6 _ _ _ _ hc
    exact ⟨u,v,rfl⟩
 refine zaa ⟨86,[(1,.pt 16 0 0),(3,.mp 60),(5,.B (decide ((1 : Int)∈D)))],[(0,some ⟨1,zah f,0⟩),(16,some ⟨4,[rC N A (.rs 0 0 A.length)],0⟩),(60,some ⟨0,R,0⟩)],200⟩ rfl ?_ ?_
 ·obtain ⟨u,v,huv⟩:=hgd
  simp [hfind,hsome,huv]
  exact Le.go [(0,0),(16,16),(60,60)] [] rfl rfl (by simp) (by simp [fcd,hR.conv'])
 refine zaa ⟨86,[(1,.pt 16 0 0),(3,.mp 60),(22,.B (!decide ((1 : Int)∈D)))],[(0,some ⟨1,zah f,0⟩),(16,some ⟨4,[rC N A (.rs 0 0 A.length)],0⟩),(60,some ⟨0,R,0⟩)],300⟩ rfl ?_ ?_
 ·simp
  exact Le.go [(0,0),(16,16),(60,60)] [] rfl rfl (by simp) (by simp [fcd,hR.conv'])
 refine zac _ rfl (fun h5=>?_) fun h5=>?_
 ·have h1D : (1 : Int)∉D:=by simpa using h5
  refine zaa ⟨86,[(2,.B false)],[(0,some ⟨1,zah f,0⟩)],400⟩ rfl ?_ ?_
  ·simp
   exact LeI [(0,0)] []
  refine zag ?_
  exact zgh.mk (.inr rfl) (false,f) ⟨rfl,(zgI hno hf hb.mem0 h1D hcl).2⟩ (zak.k1 rfl (by simp) (by simp [fcd]))
 have h1D : (1 : Int)∈D:=by simpa using h5
 obtain ⟨l,hl⟩:=hb.chain h1D
 have hle:=zqH hl.way
 have hlr : ∀ s∈l,s.1<f.length:=fun s hs=>by
  obtain ⟨i,hi,rfl⟩:=List.mem_iff_getElem.1 hs
  have:=(hl.at_ i hi).1
  omega
 have hl0 : 0<l.length:=by
  cases hll : l with
  | nil=>rw [hll] at hle; cases hle
  | cons=>simp
 have hlA : l.length≤A.length:=by
  have:=zbC (a:=l.map fun s=>(s.1 : Int)) (b:=(List.range A.length).map fun i : Nat=>(i : Int)) (by
   have:=hl.nodup
   have e : (l.map fun s=>(s.1 : Int))=(l.map (·.1)).map fun i : Nat=>(i : Int):=by simp
   rw [e]
   exact zee (fun i j h=>by have h2 : (i : Int)=j:=h; omega) this) fun x hx=>by
   obtain ⟨s,hs,rfl⟩:=List.mem_map.1 hx
   exact List.mem_map.2 ⟨s.1,List.mem_range.2 (by have:=hlr s hs; omega),rfl⟩
  rw [List.length_map,List.length_map,List.length_range] at this
  exact this
 have hcam:=fun j (hj : j<l.length)=>zrQ hb hl hj
 refine zae ?_
 refine zaa ⟨86,[(1,.pt 16 0 0),(3,.mp 60),(6,.rs 61 0 0)],[(0,some ⟨1,zah f,0⟩),(16,some ⟨4,[rC N A (.rs 0 0 A.length)],0⟩),(60,some ⟨0,R,0⟩),(61,some ⟨2,[],0⟩)],400⟩ rfl ?_ ?_
 ·simp
  refine Le.lst [(0,0),(16,16),(60,60)] [] [(61,2)] rfl (by simp) (by simp) (by simp) (by simp) (by simp) (by simp) (by simp) (by simp [Up]) ?_
  simp [fcd,hR.conv']
  exact ⟨zaI.rfl' (Nat.zero_le _),zaI.rfl' (Nat.zero_le _),zaI.rfl' (Nat.zero_le _)⟩
 refine zaa ⟨86,[(1,.pt 16 0 0),(3,.mp 60),(6,.rs 61 0 0),(7,.I 1048576)],[(0,some ⟨1,zah f,0⟩),(16,some ⟨4,[rC N A (.rs 0 0 A.length)],0⟩),(60,some ⟨0,R,0⟩),(61,some ⟨2,[],0⟩)],500⟩ rfl ?_ ?_
 ·simp
  exact Le.go [(0,0),(16,16),(60,60),(61,61)] [] rfl rfl (by simp) (by simp [fcd,hR.conv'])
 refine zaL (ι:=Int) (fun v=>⟨86,[(1,.pt 16 0 0),(6,.rs 61 0 l.length),(7,.I v)],[(0,some ⟨1,zah f,0⟩),(16,some ⟨4,[rC N A (.rs 0 0 A.length)],0⟩),(61,some ⟨2,(wayB l 0).map zby,0⟩)],600⟩) (fun v=>1≤v∧v≤1048576∧znL A f l 0 v) ?_ fun v hv=>?_
 ·refine zaa ⟨86,[(1,.pt 16 0 0),(3,.mp 60),(6,.rs 61 0 0),(7,.I 1048576),(8,.I 1)],[(0,some ⟨1,zah f,0⟩),(16,some ⟨4,[rC N A (.rs 0 0 A.length)],0⟩),(60,some ⟨0,R,0⟩),(61,some ⟨2,[],0⟩)],600⟩ rfl ?_ ?_
  ·simp
   exact Le.go [(0,0),(16,16),(60,60),(61,61)] [] rfl rfl (by simp) (by simp [fcd,hR.conv'])
  refine zaf ?_
  refine zao (ι:=zwm) (fun s=>⟨86,[(1,.pt 16 0 0),(3,.mp 60),(6,.rs 61 0 (l.length - s.j)),(7,.I s.v),(8,.I (endW A 0 l s.j))],[(0,some ⟨1,zah f,0⟩),(16,some ⟨4,[rC N A (.rs 0 0 A.length)],0⟩),(60,some ⟨0,R,0⟩),(61,some ⟨2,(wayB l s.j).map zby,0⟩)],600⟩)
   (fun s=>s.j≤l.length∧1≤s.v∧s.v≤1048576∧znL A f l s.j s.v) (fun s=>s.j) ⟨l.length,1048576⟩ ⟨Nat.le_refl _,by simp,by simp,by simp [znL]⟩ (Le.go [(0,0),(16,16),(60,60),(61,61)] [] rfl rfl (by simp [hle]) (by simp [fcd,hR.conv',zur])) ?_
  rintro ⟨j,v⟩ ⟨hj,hv1,hv2,hv3⟩
  simp only at hj hv1 hv2 hv3
  refine zab ?_
  refine zaa ⟨86,[(1,.pt 16 0 0),(3,.mp 60),(6,.rs 61 0 (l.length - j)),(7,.I v),(8,.I (endW A 0 l j)),(24,.B (!decide (endW A 0 l j=0)))],[(0,some ⟨1,zah f,0⟩),(16,some ⟨4,[rC N A (.rs 0 0 A.length)],0⟩),(60,some ⟨0,R,0⟩),(61,some ⟨2,(wayB l j).map zby,0⟩)],700⟩ rfl ?_ ?_
  ·simp
   exact Le.go [(0,0),(16,16),(60,60),(61,61)] [] rfl rfl (by simp <;> exact wkB (by rw [Bool.eq_iff_iff]; simp)) (by simp [fcd,hR.conv'])
  refine zac _ rfl (fun h13=>?_) fun h13=>?_
  ·simp at h13
   obtain ⟨i,rfl⟩ : ∃ i,j=i+1:=by
    cases j with
    | zero=>exact absurd rfl h13
    | succ i=>exact ⟨i,rfl⟩
   have hi : i<l.length:=by omega
   obtain ⟨q1,q2,q3,q4,q5,q6⟩:=hl.at_ i hi
   have hfr:=hl.from_ i hi
   have hca:=hcam i hi
   have hws:=ztF hi
   have hwl:=zq9 l (i+1)
   obtain ⟨s,hs⟩ : ∃ s,s=l[i]:=⟨_,rfl⟩
   have hk : endW A 0 l (i+1)=stT A s:=by
    show stT A (l.getD i (0,false))=_
    rw [List.getD_eq_getElem?_getD,List.getElem?_eq_getElem hi,hs]
    rfl
   have hvn : ∀ v' : Int,v'≤v→v'≤zbk A f s→znL A f l i v':=fun v' h1 h2 t ht=>by
    rw [List.drop_eq_getElem_cons hi,← hs] at ht
    rcases List.mem_cons.1 ht with rfl | ht
    ·exact h2
    ·exact Int.le_trans h1 (hv3 t ht)
   rw [← hs] at q1 q2 q3 q4 q5 q6 hfr hca hws
   have hrm:=hroom s q1
   have hrmb : zbk A f s≤1048576:=by
    have h1:=hfit.2 s.1 q1
    have h2:=(hav _ (zd0 q1)).2.2.2.2.2.2.2.2
    unfold zbk
    split <;> omega
   rw [hk]
   obtain ⟨k,hkd⟩ : ∃ k,k=stT A s:=⟨_,rfl⟩
   obtain ⟨rm,hrd⟩ : ∃ rm,rm=zbk A f s:=⟨_,rfl⟩
   obtain ⟨W,hW⟩ : ∃ W,W=wayB l (i+1):=⟨_,rfl⟩
   rw [← hkd] at q3 q4 q5 q6 hca hrm ⊢
   rw [← hrd] at q2 hrm hrmb hvn
   rw [← hW] at hws hwl
   have hAe:=zoe q1
   have hlen : l.length - (i+1)=W.length:=by omega
   rw [hlen,← hW]
   refine zae ?_
   refine zaf ?_
   refine zaa ⟨86,[(1,.pt 16 0 0),(3,.mp 60),(6,.rs 61 0 W.length),(7,.I v),(9,.pv (zby s))],[(0,some ⟨1,zah f,0⟩),(16,some ⟨4,[rC N A (.rs 0 0 A.length)],0⟩),(60,some ⟨0,R,0⟩),(61,some ⟨2,W.map zby,0⟩)],800⟩ rfl ?_ ?_
   ·simp [hfind,hca,zrw]
    exact Le.go [(0,0),(16,16),(60,60),(61,61)] [724] rfl rfl (by simp) (by simp [fcd,hR.conv'])
   refine zaa ⟨86,[(1,.pt 16 0 0),(3,.mp 60),(6,.rs 61 0 W.length),(7,.I v),(9,.pv (zby s)),(10,.I rm)],[(0,some ⟨1,zah f,0⟩),(16,some ⟨4,[rC N A (.rs 0 0 A.length)],0⟩),(60,some ⟨0,R,0⟩),(61,some ⟨2,W.map zby,0⟩)],900⟩ rfl ?_ ?_
   ·simp
    refine zle [0] hrm (by simp [fcd,htake,hfl]) zwC ?_
    simp
    exact Le.go [(0,0),(16,16),(60,60),(61,61)] [] rfl rfl (by simp) (by simp [fcd,hR.conv'])
   refine zaa ⟨86,[(1,.pt 16 0 0),(3,.mp 60),(6,.rs 62 0 (W.length+1)),(7,.I (if rm<v then rm else v)),(9,.pv (zby s))],[(0,some ⟨1,zah f,0⟩),(16,some ⟨4,[rC N A (.rs 0 0 A.length)],0⟩),(60,some ⟨0,R,0⟩),(62,some ⟨2,(W++[s]).map zby,0⟩)],1000⟩ rfl ?_ ?_
   ·have hmw : ∀ g : Stp→List AV,List.take W.length (List.map g W)=List.map g W:=fun g=>List.take_of_length_le (by simp)
    simp [hmw]
    exact ⟨by omega,by omega,Le.go [(0,0),(16,16),(60,60),(924,62)] [] rfl rfl (by simp) (by simp [fcd,hR.conv'])⟩
   have hst : stF A s=if s.2 then (arcD A s.1).t else (arcD A s.1).f:=rfl
   have hqi : (s.1 : Int)<A.length:=by omega
   refine zaa ⟨86,[(1,.pt 16 0 0),(3,.mp 60),(6,.rs 62 0 (W.length+1)),(7,.I (if rm<v then rm else v)),(8,.I (arcD A s.1).f),(9,.pv (zby s))],[(0,some ⟨1,zah f,0⟩),(16,some ⟨4,[rC N A (.rs 0 0 A.length)],0⟩),(60,some ⟨0,R,0⟩),(62,some ⟨2,(W++[s]).map zby,0⟩)],1100⟩ rfl ?_ ?_
   ·have hAe' : A[s.1]=arcD A s.1:=by rw [List.getElem?_eq_getElem q1] at hAe; exact Option.some.inj hAe
    simp [q1,hAe']
    exact Le.go [(0,0),(16,16),(60,60),(62,62)] [] rfl rfl (by simp) (by simp [fcd,hR.conv'])
   refine zaa ⟨86,[(1,.pt 16 0 0),(3,.mp 60),(6,.rs 62 0 (W.length+1)),(7,.I (if rm<v then rm else v)),(8,.I (arcD A s.1).f),(9,.pv (zby s)),(50,.B s.2)],[(0,some ⟨1,zah f,0⟩),(16,some ⟨4,[rC N A (.rs 0 0 A.length)],0⟩),(60,some ⟨0,R,0⟩),(62,some ⟨2,(W++[s]).map zby,0⟩)],1200⟩ rfl ?_ ?_
   ·simp
    exact Le.go [(0,0),(16,16),(60,60),(62,62)] [] rfl rfl (by simp) (by simp [fcd,hR.conv'])
   have hwl2 : l.length - i=W.length+1:=by omega
   have hinv : i≤l.length∧1≤(if rm<v then rm else v)∧(if rm<v then rm else v)≤1048576∧znL A f l i (if rm<v then rm else v):=⟨by omega,by split <;> omega,by split <;> omega,hvn _ (by split <;> omega) (by split <;> omega)⟩
   refine zac _ rfl (fun h16=>?_) fun h16=>?_
   ·have hAe' : A[s.1]=arcD A s.1:=by rw [List.getElem?_eq_getElem q1] at hAe; exact Option.some.inj hAe
    rw [if_pos h16] at hst
    refine zas rfl ?_
    simp [q1,hAe']
    exact ⟨⟨i,if rm<v then rm else v⟩,hinv,Nat.lt_succ_self i,Le.go [(0,0),(16,16),(60,60),(62,61)] [] rfl rfl (by simp [hwl2,← hfr,hst]) (by simp [fcd,hR.conv',hws])⟩
   ·rw [if_neg (by simp [h16])] at hst
    refine zae ?_
    exact ⟨⟨i,if rm<v then rm else v⟩,hinv,Nat.lt_succ_self i,Le.go [(0,0),(16,16),(60,60),(62,61)] [] rfl rfl (by simp [hwl2,← hfr,hst]) (by simp [fcd,hR.conv',hws])⟩
  simp at h13
  obtain rfl : j=0:=by
   cases j with
   | zero=>rfl
   | succ i =>
     have h2:=(hl.at_ i (by omega)).2.2.1
     refine absurd ?_ h2
     have h3 : endW A 0 l (i+1)=stT A (l.getD i (0,false)):=rfl
     rw [h3,List.getD_eq_getElem?_getD,List.getElem?_eq_getElem (by omega)] at h13
     exact h13
  refine zan ?_
  refine hit ?_
  exact ⟨v,⟨hv1,hv2,hv3⟩,LeI [(0,0),(16,16),(61,61)] []⟩
 obtain ⟨hv1,hv2,hv3⟩:=hv
 have hv3' : ∀ s∈l,v≤zbk A f s:=fun s hs=>hv3 s (by simpa using hs)
 obtain ⟨hf2,hval⟩:=hl.push hno hf (by omega) hv3'
 have hWl:=zq9 l 0
 obtain ⟨W,hW⟩ : ∃ W,W=wayB l 0:=⟨_,rfl⟩
 rw [← hW] at hWl ⊢
 have hWl : l.length=W.length:=by omega
 refine zab ?_
 refine zaa ⟨86,[(1,.pt 16 0 0),(7,.I v),(59,.vs 2 false (W.map zby)),(60,.I W.length),(61,.I 0)],[(0,some ⟨1,zah f,0⟩),(16,some ⟨4,[rC N A (.rs 0 0 A.length)],0⟩)],700⟩ rfl ?_ ?_
 ·have hmw : ∀ g : Stp→List AV,List.take W.length (List.map g W)=List.map g W:=fun g=>List.take_of_length_le (by simp)
  simp
  exact Le.go [(0,0),(16,16)] [61] rfl rfl (by simp [hWl,hmw,fcd]) (by simp [fcd])
 refine zaf ?_
 refine zao (ι:=Nat) (fun i=>⟨86,[(1,.pt 16 0 0),(7,.I v),(59,.vs 2 false (W.map zby)),(60,.I W.length),(61,.I i)],[(0,some ⟨1,zah (zd4 v f l (l.length - i)),0⟩),(16,some ⟨4,[rC N A (.rs 0 0 A.length)],0⟩)],700⟩) (fun i=>i≤W.length) (fun i=>W.length - i) 0 (Nat.zero_le _) (Le.go [(0,0),(16,16)] [] rfl rfl (by simp) (by simp [fcd,zo4])) ?_
 intro i hi
 have hFl0 : (zd4 v f l (l.length - i)).length=A.length:=by rw [zoJ,hfl]
 refine zaa ⟨86,[(1,.pt 16 0 0),(7,.I v),(59,.vs 2 false (W.map zby)),(60,.I W.length),(61,.I i),(62,.B (decide (i<W.length)))],[(0,some ⟨1,zah (zd4 v f l (l.length - i)),0⟩),(16,some ⟨4,[rC N A (.rs 0 0 A.length)],0⟩)],800⟩ rfl ?_ ?_
 ·simp
  exact LeI [(0,0),(16,16)] []
 refine zab ?_
 refine zac _ rfl (fun h20=>?_) fun h20=>?_
 ·simp at h20
  have hw1 : IntKind.i64.wrap ((i : Int)+1)=(i : Int)+1:=w64 (by omega) (by omega)
  obtain ⟨j,hj⟩ : ∃ j,l.length - i=j+1:=⟨l.length - i - 1,by omega⟩
  have hjl : j<l.length:=by omega
  have hj2 : l.length - (i+1)=j:=by omega
  have hWi : W[i]=l[j]:=by
   have : W[i]? = some l[j]:=by
    rw [hW]
    unfold wayB
    rw [List.drop_zero,List.getElem?_reverse (by omega),List.getElem?_eq_getElem (by omega)]
    congr 1
    congr 1
    omega
   rw [List.getElem?_eq_getElem h20] at this
   exact Option.some.inj this
  rw [hj] at hFl0 ⊢
  obtain ⟨q1,q2,q3,q4,q5,q6⟩:=hl.at_ j hjl
  have hstep:=zmC (v:=v) (f:=f) j hjl
  have hget:=zpu (v:=v) hl.nodup hlr j hjl
  have hroomj:=hv3' _ (List.getElem_mem hjl)
  obtain ⟨s,hs⟩ : ∃ s,s=l[j]:=⟨_,rfl⟩
  rw [← hs] at q1 hstep hget hroomj hWi
  obtain ⟨F,hF⟩ : ∃ F,F=zd4 v f l (j+1):=⟨_,rfl⟩
  rw [← hF] at hFl0 hget hstep ⊢
  have hfa:=hfit.2 s.1 q1
  have heo:=(hav _ (zd0 q1)).2.2.2.2.2.2.2.2
  obtain ⟨w,hw⟩ : ∃ w,w=f.getD s.1 0:=⟨_,rfl⟩
  have haf : s.1<F.length:=by omega
  have hg2 : F[s.1]=w:=by
   have : F[s.1]? = some w:=by rw [hw,← hget,List.getD_eq_getElem?_getD,List.getElem?_eq_getElem haf,Option.getD_some]
   rw [List.getElem?_eq_getElem haf] at this
   exact Option.some.inj this
  rw [← hw] at hfa
  have hset : zd4 v f l j=F.set s.1 (w+if s.2 then -v else v):=by rw [hstep]; unfold zhg; rw [hget,← hw]
  have hro : zbk A f s=if s.2 then w else (arcD A s.1).v - w:=by unfold zbk; rw [← hw]
  refine zae ?_
  refine zab ?_
  refine zaf ?_
  refine zaa ⟨86,[(1,.pt 16 0 0),(7,.I v),(13,.pv (zby s)),(59,.vs 2 false (W.map zby)),(60,.I W.length),(61,.I i)],[(0,some ⟨1,zah F,0⟩),(16,some ⟨4,[rC N A (.rs 0 0 A.length)],0⟩)],900⟩ rfl ?_ ?_
  ·simp [h20,hWi]
   exact LeI [(0,0),(16,16)] [816]
  refine zaa ⟨86,[(1,.pt 16 0 0),(7,.I v),(13,.pv (zby s)),(59,.vs 2 false (W.map zby)),(60,.I W.length),(61,.I i),(66,.B s.2)],[(0,some ⟨1,zah F,0⟩),(16,some ⟨4,[rC N A (.rs 0 0 A.length)],0⟩)],1000⟩ rfl ?_ ?_
  ·simp
   exact LeI [(0,0),(16,16)] []
  have hsA : (s.1 : Int)<A.length:=by omega
  refine zac _ rfl (fun h16=>?_) fun h16=>?_
  ·rw [if_pos h16] at hset hro
   have hw2 : IntKind.i64.wrap (w - v)=w + -v:=by rw [w64 (by omega) (by omega)]; omega
   refine zas rfl ?_
   simp [q1,haf,hg2,hw2,zar]
   refine zas rfl ?_
   simp
   exact ⟨i+1,by omega,by omega,Le.go [(0,0),(16,16)] [] rfl rfl (by simp [hw1]) (by simp [fcd,hj2,hset])⟩
  ·rw [if_neg (by simp [h16])] at hset hro
   have hw2 : IntKind.i64.wrap (w+v)=w+v:=w64 (by omega) (by omega)
   refine zas rfl ?_
   simp [q1,haf,hg2,hw2,zar]
   refine zas rfl ?_
   simp
   exact ⟨i+1,by omega,by omega,Le.go [(0,0),(16,16)] [] rfl rfl (by simp [hw1]) (by simp [fcd,hj2,hset])⟩
 simp at h20
 obtain rfl : i=W.length:=by omega
 rw [show l.length - W.length=0 by omega]
 refine zan ?_
 refine hit ?_
 refine zaa ⟨86,[(2,.B true)],[(0,some ⟨1,zah (zd4 v f l 0),0⟩)],900⟩ rfl ?_ ?_
 ·simp
  exact LeI [(0,0)] []
 refine zag ?_
 exact zgh.mk (.inr rfl) (true,zd4 v f l 0) ⟨hf2,by rw [hval]; omega⟩ (zak.k1 rfl (by simp) (by simp [fcd]))
theorem zak.k2n {rs : List (Nat × Option (Bool × Nat))} {st : St} {vs : List AV} {res : AV} {e0 e1 e : Ent} (i : Nat) (hi : 2≤i) (h1 : zfO st rs=some vs) (hw : Wk (conv [(0,0),(1,1),(i,2)] [] st.hp 4 (resV vs)) res)
  (h0 : (st.hp 0).map (zax [(0,0),(1,1),(i,2)] [] st.hp 4)=some e0) (h2 : (st.hp 1).map (zax [(0,0),(1,1),(i,2)] [] st.hp 4)=some e1) (he : (st.hp i).map (zax [(0,0),(1,1),(i,2)] [] st.hp 4)=some e) : zak rs 2 st res [some e0,some e1,some e]:=by
 have e2 : List.range 2++[i]=[0,1,i]:=rfl
 refine ⟨vs,h1,[i],[],?_,by simpa using hi,by simp,?_,?_⟩
 ·rw [e2]
  simp
  omega
 ·rw [e2]
  exact hw
 ·rw [e2]
  show [_,_,_]=_
  have h0' : Option.map (zax (([0,1,i] : List Nat).zipIdx) [] st.hp 4) (st.hp 0)=some e0:=h0
  have h2' : Option.map (zax (([0,1,i] : List Nat).zipIdx) [] st.hp 4) (st.hp 1)=some e1:=h2
  have he' : Option.map (zax (([0,1,i] : List Nat).zipIdx) [] st.hp 4) (st.hp i)=some e:=he
  simp only [List.map_cons,List.map_nil,h0',h2',he']
theorem zak.k2 {rs : List (Nat × Option (Bool × Nat))} {st : St} {vs : List AV} {res : AV} {e0 e1 : Ent} (h1 : zfO st rs=some vs) (hw : Wk (conv [(0,0),(1,1)] [] st.hp 4 (resV vs)) res)
  (h0 : (st.hp 0).map (zax [(0,0),(1,1)] [] st.hp 4)=some e0) (h2 : (st.hp 1).map (zax [(0,0),(1,1)] [] st.hp 4)=some e1) : zak rs 2 st res [some e0,some e1] :=
 ⟨vs,h1,[],[],by decide,by simp,by simp,hw,by
  show [_,_]=_
  have h0' : Option.map (zax ((List.range 2++[] : List Nat).zipIdx) [] st.hp 4) (st.hp 0)=some e0:=h0
  have h2' : Option.map (zax ((List.range 2++[] : List Nat).zipIdx) [] st.hp 4) (st.hp 1)=some e1:=h2
  simp only [h0',h2']⟩
set_option maxRecDepth 100000 in
theorem zmO {N : Nat} {D b : List Int} {R : List (List AV)} (hR : MapF R (camF D b)) (k : Int) : zai Tryz.prog zaK [.I k,.pt 0 0 0] [⟨1,[[.mp 1]],0⟩,⟨0,R,0⟩] (.B (decide (k∈D))) [some ⟨1,[[.mp 1]],0⟩,some ⟨0,R,0⟩]:=by
 refine zjE.acalls (nbz rfl) (nbz rfl) (Nat.le_refl _) ?_
 show awp _ 2 _ _ ⟨13,[(0,.I k),(1,.pt 0 0 0)],[(0,some ⟨1,[[.mp 1]],0⟩),(1,some ⟨0,R,0⟩)],16⟩
 have hfind:=hR.is.find
 have hsome:=zhj D b k
 have hgd : ∃ u v,(camF D b k).getD (toAV (Value.agg #[Value.int IntKind.i64 0,Value.bool false])) = .agg [.sc u,.sc v]:=by
  cases hc : camF D b k with
  | none=>exact ⟨_,_,zqZ⟩
  | some x =>
    obtain ⟨u,v,rfl⟩:=zf6 _ _ _ _ hc
    exact ⟨u,v,rfl⟩
 obtain ⟨u,v,huv⟩:=hgd
 refine rk (s:=?s1) [0,1] [0,1] rfl ?o1 ?q1
 case o1=>simp; rfl
 refine zaa ⟨13,[(5,.B (decide (k∈D)))],[(0,some ⟨1,[[.mp 1]],0⟩),(1,some ⟨0,R,0⟩)],200⟩ rfl ?_ ?_
 ·simp [hfind,hsome,huv]
  exact Le.go [(0,0),(1,1)] [] rfl rfl (by simp) (by simp [hR.conv'])
 refine zaa ⟨13,[(3,.B (decide (k∈D)))],[(0,some ⟨1,[[.mp 1]],0⟩),(1,some ⟨0,R,0⟩)],300⟩ rfl ?_ ?_
 ·simp
  exact Le.go [(0,0),(1,1)] [] rfl rfl (by simp) (by simp [hR.conv'])
 refine zag ?_
 exact ⟨.inr rfl,zak.k2 rfl (by simp) (by simp) (by simp [hR.conv'])⟩
set_option maxRecDepth 100000 in
set_option maxHeartbeats 1000000 in
theorem zs2 {D b : List Int} {R : List (List AV)} (hR : MapF R (camF D b)) (N : Nat) (hN : N≤1000000) :
  zai Tryz.prog zb8 [.I N,.fn (.func zaK) [] [.pt 0 0 0]] [⟨1,[[.mp 1]],0⟩,⟨0,R,0⟩] (.rs 2 0 (inD D N).length) [some ⟨1,[[.mp 1]],0⟩,some ⟨0,R,0⟩,some ⟨1,zah (inD D N),0⟩]:=by
 refine zjd.acalls (nbz rfl) (nbz rfl) (by simp) ?_
 show awp _ 2 _ _ ⟨20,[(0,.I N),(1,.fn (.func zaK) [] [.pt 0 0 0])],[(0,some ⟨1,[[.mp 1]],0⟩),(1,some ⟨0,R,0⟩)],16⟩
 refine zaa ⟨20,[(0,.I N),(1,.fn (.func zaK) [] [.pt 0 0 0])],[(0,some ⟨1,[[.mp 1]],0⟩),(1,some ⟨0,R,0⟩)],24⟩ rfl ?_ ?_
 ·simp
  exact Le.go [(0,0),(1,1)] [] rfl rfl (by simp) (by simp [hR.conv'])
 refine zaa ⟨20,[(0,.I N),(1,.fn (.func zaK) [] [.pt 0 0 0]),(5,.rs 50 0 0)],[(0,some ⟨1,[[.mp 1]],0⟩),(1,some ⟨0,R,0⟩),(50,some ⟨1,[],0⟩)],100⟩ rfl ?_ ?_
 ·simp
  refine Le.lst [(0,0),(1,1)] [] [(50,1)] rfl (by simp) (by simp) (by simp) (by simp) (by simp) (by simp) (by simp) (by simp [Up,conv]) ?_
  simp [hR.conv']
  exact ⟨zaI.rfl' (Nat.zero_le _),zaI.rfl' (Nat.zero_le _)⟩
 refine zab ?_
 refine zaa ⟨20,[(1,.fn (.func zaK) [] [.pt 0 0 0]),(5,.rs 50 0 0),(7,.I N),(8,.I 0)],[(0,some ⟨1,[[.mp 1]],0⟩),(1,some ⟨0,R,0⟩),(50,some ⟨1,[],0⟩)],200⟩ rfl ?_ ?_
 ·simp
  exact Le.go [(0,0),(1,1),(50,50)] [] rfl rfl (by simp [conv]) (by simp [hR.conv'])
 refine zaf ?_
 refine zao (ι:=Nat) (fun k=>⟨20,[(1,.fn (.func zaK) [] [.pt 0 0 0]),(5,.rs 50 0 (inD D k).length),(7,.I N),(8,.I k)],[(0,some ⟨1,[[.mp 1]],0⟩),(1,some ⟨0,R,0⟩),(50,some ⟨1,zah (inD D k),0⟩)],200⟩) (fun k=>k≤N) (fun k=>N - k) 0 (Nat.zero_le _) (Le.go [(0,0),(1,1),(50,50)] [] rfl rfl (by simp [conv,inD]) (by simp [hR.conv',inD])) ?_
 intro k hk
 have hwl:=zqb D k
 refine zaa ⟨20,[(1,.fn (.func zaK) [] [.pt 0 0 0]),(5,.rs 50 0 (inD D k).length),(7,.I N),(8,.I k),(9,.B (decide (k<N)))],[(0,some ⟨1,[[.mp 1]],0⟩),(1,some ⟨0,R,0⟩),(50,some ⟨1,zah (inD D k),0⟩)],300⟩ rfl ?_ ?_
 ·simp
  exact Le.go [(0,0),(1,1),(50,50)] [] rfl rfl (by simp [conv]) (by simp [hR.conv',fcd])
 refine zab ?_
 refine zac _ rfl (fun h=>?_) fun h=>?_
 ·simp at h
  have hw2 : IntKind.i64.wrap ((k : Int)+1)=(k : Int)+1:=w64 (by omega) (by omega)
  have hnext:=zm3 D k
  refine zae ?_
  refine zaL (ι:=Unit) (fun _=>⟨20,[(1,.fn (.func zaK) [] [.pt 0 0 0]),(5,.rs 50 0 (inD D (k+1)).length),(7,.I N),(8,.I k)],[(0,some ⟨1,[[.mp 1]],0⟩),(1,some ⟨0,R,0⟩),(50,some ⟨1,zah (inD D (k+1)),0⟩)],1000⟩) (fun _=>True) ?_ fun _ _=>?_
  ·rw [hnext]
   obtain ⟨W,hW⟩ : ∃ W,W=inD D k:=⟨_,rfl⟩
   rw [← hW] at hwl ⊢
   refine zaf ?_
   refine zaa ⟨20,[(1,.fn (.func zaK) [] [.pt 0 0 0]),(5,.rs 50 0 W.length),(6,.I k),(7,.I N),(8,.I k)],[(0,some ⟨1,[[.mp 1]],0⟩),(1,some ⟨0,R,0⟩),(50,some ⟨1,zah W,0⟩)],400⟩ rfl ?_ ?_
   ·simp
    exact Le.go [(0,0),(1,1),(50,50)] [] rfl rfl (by simp [conv]) (by simp [hR.conv',fcd])
   refine zaa ⟨20,[(1,.fn (.func zaK) [] [.pt 0 0 0]),(5,.rs 50 0 W.length),(6,.I k),(7,.I N),(8,.I k),(13,.B (decide ((k : Int)∈D)))],[(0,some ⟨1,[[.mp 1]],0⟩),(1,some ⟨0,R,0⟩),(50,some ⟨1,zah W,0⟩)],500⟩ rfl ?_ ?_
   ·simp
    refine zml (i:=0) (j:=1) (by decide) rfl rfl (by simp) (by simp [hR.conv']) (zmO (N:=N) hR k) (by simp) (by simp) ?_
    simp [hR.conv']
    exact Le.go [(0,0),(1,1),(50,50)] [] rfl rfl (by simp [conv]) (by simp [hR.conv',fcd])
   refine zac _ rfl (fun h5=>?_) fun h5=>?_
   ·rw [decide_eq_true_eq] at h5
    rw [if_pos h5]
    have hmw : ∀ g : Int→List AV,List.take W.length (List.map g W)=List.map g W:=fun g=>List.take_of_length_le (by simp)
    refine zas rfl ?_
    simp [hmw]
    exact ⟨by omega,by omega,Le.go [(0,0),(1,1),(524,50)] [] rfl rfl (by simp [conv]) (by simp [hR.conv',fcd])⟩
   ·rw [decide_eq_false_iff_not] at h5
    rw [if_neg h5,List.append_nil]
    refine zae ?_
    exact ⟨(),trivial,Le.go [(0,0),(1,1),(50,50)] [] rfl rfl (by simp [conv]) (by simp [hR.conv',fcd])⟩
  refine zas rfl ?_
  simp [hw2]
  exact ⟨k+1,by omega,by omega,Le.go [(0,0),(1,1),(50,50)] [] rfl rfl (by simp [conv,hw2]) (by simp [hR.conv',fcd])⟩
 simp at h
 obtain rfl : k=N:=by omega
 refine zan ?_
 refine hit ?_
 refine zaa ⟨20,[(4,.rs 50 0 (inD D k).length)],[(0,some ⟨1,[[.mp 1]],0⟩),(1,some ⟨0,R,0⟩),(50,some ⟨1,zah (inD D k),0⟩)],400⟩ rfl ?_ ?_
 ·simp
  exact Le.go [(0,0),(1,1),(50,50)] [] rfl rfl (by simp) (by simp [hR.conv',fcd])
 refine zag ?_
 exact ⟨.inr rfl,zak.k2n 50 (by omega) rfl (by simp) (by simp) (by simp [hR.conv']) (by simp [fcd])⟩
end Go.Proofs.YthmaflecfppoiaaGreat
