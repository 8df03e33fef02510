/- Texts of this claim,merged. -/
import Derived.Test.YtfdbhehkkobfgaaGreatRu5
import Derived.Test.YtfdbhehkkobfgaaGreatRu6
import Derived.Test.YtfdbhehkkobfgaaGreatRu7
set_option linter.unusedSimpArgs false
set_option linter.unusedVariables false
set_option linter.unusedSectionVars false
namespace Go.Proofs.YtfdbhehkkobfgaaGreat
open Go
section
variable {P : Program} {np id : Nat} {h : Nat → Option Ent} {K : AV → List Nat → List (Nat × Option Ent) → Prop} {s i off len c k l m : Nat}
@[simp] theorem zu7 : aK P np id (.slc s true false false) [.rk i off len c,.sc (.int .i64 (k : Int))] h K = (k ≤ len ∧ len ≤ c ∧ (∃ e,h i = some e ∧ e.s = s) ∧ K (.rk i (off + k) (len - k) (c - k)) [i] []):=by
 rw [zjM]
 refine propext ⟨?_,?_⟩
 ·rintro ⟨l,r,m,n,h1,h2,h4,h5,h6,h7,h3,h10,h11,h8,h9⟩
  obtain rfl:=h6 rfl
  simp at h4 h1
  subst h1
  have : k = l:=by omega
  subst this
  obtain rfl:=h11 rfl
  exact ⟨h2,h3,h8,h9⟩
 ·rintro ⟨h1,h2,h3,h4⟩
  exact ⟨k,len,c,len,rfl,h1,by simp,(fun h=>by cases h),fun _=>rfl,(fun h=>by cases h),h2,Nat.le_refl _,fun _=>rfl,h3,h4⟩
@[simp] theorem zuV : aK P np id (.slc s false true false) [.rk i off len c,.sc (.int .i64 (k : Int))] h K = (k ≤ c ∧ (∃ e,h i = some e ∧ e.s = s) ∧ K (.rk i off k c) [i] []):=by
 rw [zjM]
 refine propext ⟨?_,?_⟩
 ·rintro ⟨l,r,m,n,h1,h2,h4,h5,h6,h7,h3,h10,h11,h8,h9⟩
  obtain rfl:=h5 rfl
  simp at h4 h1
  have : k = r:=by omega
  subst this
  obtain rfl:=h11 rfl
  exact ⟨h3,h8,by simpa using h9⟩
 ·rintro ⟨h1,h3,h4⟩
  exact ⟨0,k,c,len,rfl,Nat.zero_le _,by simp,fun _=>rfl,(fun h=>by cases h),(fun h=>by cases h),h1,Nat.le_refl _,fun _=>rfl,h3,by simpa using h4⟩
@[simp] theorem zuA : aK P np id (.slc s true true false) [.rk i off len c,.sc (.int .i64 (l : Int)),.sc (.int .i64 (k : Int))] h K = (l ≤ k ∧ k ≤ c ∧ (∃ e,h i = some e ∧ e.s = s) ∧ K (.rk i (off + l) (k - l) (c - l)) [i] []):=by
 rw [zjM]
 refine propext ⟨?_,?_⟩
 ·rintro ⟨l',r,m,n,h1,h2,h4,h5,h6,h7,h3,h10,h11,h8,h9⟩
  simp at h4 h1
  have : k = r:=by omega
  subst this
  have : l = l':=by omega
  subst this
  obtain rfl:=h11 rfl
  exact ⟨h2,h3,h8,h9⟩
 ·rintro ⟨h1,h2,h3,h4⟩
  exact ⟨l,k,c,len,rfl,h1,by simp,(fun h=>by cases h),(fun h=>by cases h),(fun h=>by cases h),h2,Nat.le_refl _,fun _=>rfl,h3,h4⟩
@[simp] theorem zve : aK P np id (.slc s true true true) [.rk i off len c,.sc (.int .i64 (l : Int)),.sc (.int .i64 (k : Int)),.sc (.int .i64 (m : Int))] h K = (l ≤ k ∧ k ≤ m ∧ m ≤ c ∧ (∃ e,h i = some e ∧ e.s = s) ∧ K (.rk i (off + l) (k - l) (m - l)) [i] []):=by
 rw [zjM]
 refine propext ⟨?_,?_⟩
 ·rintro ⟨l',r,m',n,h1,h2,h4,h5,h6,h7,h3,h10,h11,h8,h9⟩
  simp at h4 h1
  have : k = r:=by omega
  subst this
  have : l = l':=by omega
  subst this
  have : m = m':=by omega
  subst this
  exact ⟨h2,h3,h10,h8,h9⟩
 ·rintro ⟨h1,h2,h3,h4,h5⟩
  exact ⟨l,k,m,len,rfl,h1,by simp,(fun h=>by cases h),(fun h=>by cases h),(fun _=>rfl),h2,h3,(fun h=>by cases h),h4,h5⟩
@[simp] theorem zuQ : aK P np id (.slc s true false false) [.rs i off len,.sc (.int .i64 (k : Int))] h K = (k ≤ len ∧ (∃ e,h i = some e ∧ e.s = s) ∧ K (.rs i (off + k) (len - k)) [i] []):=by
 rw [zjM]
 refine propext ⟨?_,?_⟩
 ·rintro ⟨l,r,m,n,h1,h2,h4,h5,h6,h7,h3,h10,h8,h9⟩
  obtain rfl:=h6 rfl
  simp at h4 h1
  subst h1
  have : k = l:=by omega
  subst this
  exact ⟨h2,h8,h9⟩
 ·rintro ⟨h1,h3,h4⟩
  exact ⟨k,len,0,len,rfl,h1,by simp,(fun h=>by cases h),fun _=>rfl,(fun h=>by cases h),Nat.le_refl _,rfl,h3,h4⟩
@[simp] theorem zva : aK P np id (.slc s false true false) [.rs i off len,.sc (.int .i64 (k : Int))] h K = (k ≤ len ∧ (∃ e,h i = some e ∧ e.s = s) ∧ K (.rs i off k) [i] []):=by
 rw [zjM]
 refine propext ⟨?_,?_⟩
 ·rintro ⟨l,r,m,n,h1,h2,h4,h5,h6,h7,h3,h10,h8,h9⟩
  obtain rfl:=h5 rfl
  simp at h4 h1
  have : k = r:=by omega
  subst this
  exact ⟨by omega,h8,by simpa using h9⟩
 ·rintro ⟨h1,h3,h4⟩
  exact ⟨0,k,0,len,rfl,Nat.zero_le _,by simp,fun _=>rfl,(fun h=>by cases h),(fun h=>by cases h),h1,rfl,h3,by simpa using h4⟩
end
theorem Le.keep {np : Nat} {st st' : St} (hsz : st'.sz = st.sz) (hn : st.n ≤ st'.n) (ht : ∀ p ∈ st'.t,st.get p.1 = p.2) (hh : ∀ p ∈ st'.h,∀ e,p.2 = some e → st.hp p.1 = some e) : Le np st st':=by
 intro T0 M0 w0 T M a w ok hnp
 have hp : ∀ id e,st'.hp id = some e → st.hp id = some e:=by
  intro id e he
  unfold St.hp at he
  cases hl : lkp st'.h id with
  | none=>rw [hl] at he; cases he
  | some v =>
    rw [hl] at he
    exact hh _ (za1 hl) e he
 refine ⟨T,M,⟨ok.sz.trans hsz.symm,ok.df,fun i=>?_,⟨fun id e he=>ok.hs.ent id e (hp id e he),fun id id' e e' g g' b h1 h2=>ok.hs.inj id id' e e' g g' b (hp _ _ h1) (hp _ _ h2)⟩,fun id g hg=>Nat.lt_of_lt_of_le (ok.dom id g hg) hn,ok.after⟩,Nat.le_trans hnp hn⟩
 unfold St.get at *
 cases hl : lkp st'.t i with
 | none=>exact .dead _ _
 | some v =>
   have:=ht _ (za1 hl)
   simp only at this
   show Rep T w M v _
   rw [← this]
   exact ok.tm i
theorem zam.m1 {rs : List (Nat × Option (Bool × Nat))} {st : St} {vs : List AV} {res : AV} {e : Ent} (i : Nat) (hi : 1 ≤ i) (h1 : zfd st rs = some vs) (hw : Wk (conv [(0,0),(i,1)] [] st.hp 4 (resV vs)) res) (h0 : st.hp 0 = none) (he : (st.hp i).map (zaz [(0,0),(i,1)] [] st.hp 4) = some e) : zam rs 1 st res [none,some e] :=
 ⟨vs,h1,[i],[],by simp [List.range,List.range.loop]; omega,by simpa using hi,by simp,by simpa [List.range,List.range.loop] using hw,by simpa [List.range,List.range.loop,h0] using he⟩
theorem GrOk.lt {g : Gr} (h : GrOk g) : ∀ (j i : Nat) (hi : i < g.edges.length) (hj : j < g.edges.length),i < j → Bef g.edges[i] g.edges[j]
 | 0,_,_,_,h0=>by omega
 | j + 1,i,hi,hj,hij=>by
   have h1 : Bef g.edges[j] g.edges[j + 1]:=zhu.1 ((h.2 (j + 1) hj).2.2.2 (by omega))
   rcases Nat.lt_or_ge i j with h2 | h2
   ·have h3:=GrOk.lt h j i hi (by omega) h2
    unfold Bef at *
    omega
   ·obtain rfl : i = j:=by omega
    exact h1
theorem GrOk.mono {g : Gr} (h : GrOk g) (e : Ed) : ∀ (i j : Nat) (hi : i < g.edges.length) (hj : j < g.edges.length),i ≤ j → Bef g.edges[j] e → Bef g.edges[i] e:=by
 intro i j hi hj hij hb
 rcases Nat.lt_or_ge i j with h2 | h2
 ·have h3:=h.lt j i hi hj h2
  unfold Bef at *
  omega
 ·obtain rfl : i = j:=by omega
  exact hb
section
variable {P : Program} {np id : Nat} {h : Nat → Option Ent} {K : AV → List Nat → List (Nat × Option Ent) → Prop} {f : FuncId} {first capt args args' : List AV} {res : AV}
theorem zjd {i j : Nat} {e e' ej : Ent} {hs' : List (Option Ent)} (hij : j ≠ i) (hnp : np ≤ j) (hi : h i = some e) (hj : h j = some ej) (hee : zaz [(i,0)] [j] h 4 e = e') (hc : zaj P f args' [e'] res hs') (h8 : hs'.length ≤ 9) (he : (first ++ args ++ capt).map (conv [(i,0)] [j] h 4) = args')
  (hk : K (conv (swp [i] id) [] (fun _=>none) 4 res) [i,j] ((hs'.zipIdx.map fun (e,k)=>((i :: (List.range 8).map (id + ·)).getD k 0,e.map (zaz (swp [i] id) [] (fun _=>none) 4))) ++ [(j,some { ej with ro:=ej.rows.length })])) : aK P np id .call (.fn (.func f) first capt :: args) h K :=
 ⟨[i],[j],true,args',[e'],res,hs',by simp,by simpa using hij,by simpa using hnp,by rw [show [i].zipIdx = [(i,0)] from rfl,he]; exact zck _,by rw [show [i].zipIdx = [(i,0)] from rfl]; simpa [hi] using hee,hc,by simpa using h8,.inl rfl,by simpa [swp,hj] using hk⟩
end
theorem zqm {l : List Ed} {e : Ed} {i : Nat} (h : i < idxE l e) (hi : i < l.length) : Bef l[i] e:=by
 have:=List.not_of_lt_findIdx h
 simpa using this
theorem zrb {l : List Ed} {e : Ed} (h : idxE l e < l.length) : ¬ Bef l[idxE l e] e:=by
 have h1 : l.findIdx (fun x=>!decide (Bef x e)) < l.length:=h
 have:=List.findIdx_getElem (w:=h1)
 intro hb
 have h2 : decide (Bef l[l.findIdx (fun x=>!decide (Bef x e))] e) = true:=decide_eq_true hb
 simp only [h2] at this
 cases this
theorem zqN {g : Gr} {e : Ed} (hg : GrOk g) (hf : Fits g e) (h1 : 1 ≤ e.v) (h3 : e.v ≤ 3) (ha : ¬ AtE g.edges (idxE g.edges ⟨e.f,e.t,0⟩) e.f e.t) (hl : g.edges.length < 500) : GrOk (zii g e):=by
 have hle:=zor g.edges ⟨e.f,e.t,0⟩
 have hb : ∀ i (hi : i < g.edges.length),i < idxE g.edges ⟨e.f,e.t,0⟩ → Bef g.edges[i] e:=fun i hi h=>by
  have:=zqm h hi
  exact this
 have hn : ∀ (h : idxE g.edges ⟨e.f,e.t,0⟩ < g.edges.length),Bef e g.edges[idxE g.edges ⟨e.f,e.t,0⟩]:=fun h=>by
  have h2:=zrb h
  have h4 : ¬ (g.edges[idxE g.edges ⟨e.f,e.t,0⟩].f = e.f ∧ g.edges[idxE g.edges ⟨e.f,e.t,0⟩].t = e.t):=fun q=>ha ⟨h,q⟩
  simp only [Bef] at h2 ⊢
  omega
 unfold zii
 generalize idxE g.edges ⟨e.f,e.t,0⟩ = k at *
 have hlen : (g.edges.take k ++ e :: g.edges.drop k).length = g.edges.length + 1:=by simp; omega
 have hget : ∀ i (hi : i < (g.edges.take k ++ e :: g.edges.drop k).length),(g.edges.take k ++ e :: g.edges.drop k)[i] = if h : i < k then g.edges[i]'(by omega) else if h2 : i = k then e else g.edges[i - 1]'(by omega):=by
  intro i hi
  have htl : (g.edges.take k).length = k:=by simp; omega
  by_cases h : i < k
  ·rw [dif_pos h,List.getElem_append_left (by omega),List.getElem_take]
  ·rw [dif_neg h,List.getElem_append_right (by omega)]
   by_cases h2 : i = k
   ·subst h2
    simp [htl]
   ·rw [dif_neg h2]
    rw [List.getElem_cons]
    rw [dif_neg (by omega),List.getElem_drop]
    congr 1
    omega
 refine ⟨⟨hg.1.1,hg.1.2.1,by simp only [hlen]; omega,hg.1.2.2.2⟩,fun i hi=>?_⟩
 simp only at hi
 have hfit : ∀ x : Ed,Fits ⟨g.size,g.edges.take k ++ e :: g.edges.drop k,g.gone⟩ x ↔ Fits g x:=fun x=>Iff.rfl
 simp only [hfit,zhu,hget]
 have hE:=fun j (hj : j < g.edges.length)=>hg.2 j hj
 by_cases h : i < k
 ·simp only [dif_pos h]
  refine ⟨(hE i (by omega)).1,(hE i (by omega)).2.1,(hE i (by omega)).2.2.1,fun h0=>?_⟩
  rw [dif_pos (by omega)]
  exact zhu.1 ((hE i (by omega)).2.2.2 h0)
 ·simp only [dif_neg h]
  by_cases h2 : i = k
  ·subst h2
   simp only [dif_pos]
   refine ⟨hf,h1,h3,fun h0=>?_⟩
   rw [dif_pos (by omega)]
   exact hb _ _ (by omega)
  ·simp only [dif_neg h2]
   refine ⟨(hE (i - 1) (by omega)).1,(hE (i - 1) (by omega)).2.1,(hE (i - 1) (by omega)).2.2.1,fun h0=>?_⟩
   rw [dif_neg (by omega)]
   by_cases h4 : i - 1 = k
   ·rw [dif_pos h4]
    subst h4
    exact hn _
   ·rw [dif_neg h4]
    exact hg.lt _ _ _ _ (by omega)
theorem zrh {g : Gr} {e : Ed} (h : (zcm g e).2 = 0) : GrOk g ∧ Fits g e ∧ (1 ≤ e.v ∧ e.v ≤ 3) ∧ ¬ AtE g.edges (idxE g.edges ⟨e.f,e.t,0⟩) e.f e.t ∧ g.edges.length < 500 ∧ (zcm g e).1 = zii g e ∧ GrOk (zii g e):=by
 have key : GrOk g ∧ Fits g e ∧ (1 ≤ e.v ∧ e.v ≤ 3) ∧ ¬ AtE g.edges (idxE g.edges ⟨e.f,e.t,0⟩) e.f e.t ∧ g.edges.length ≠ 500 ∧ (zcm g e).1 = zii g e:=by
  unfold zcm at *
  split at h
  ·simp at h
  split at h
  ·simp at h
  split at h
  ·simp at h
  split at h
  ·simp at h
  split at h
  ·simp at h
  simp_all
 obtain ⟨h1,h2,h3,h4,h5,h6⟩:=key
 have h7 : g.edges.length < 500:=by have:=h1.1.2.2.1; omega
 exact ⟨h1,h2,h3,h4,h7,h6,zqN h1 h2 h3.1 h3.2 h4 h7⟩
noncomputable def zkr (L : List Int) (p : Gr × Nat) : Gr × Nat :=
 (if (zcm p.1 ⟨(zas L p.2 p.1.size).1,(zas L (zas L p.2 p.1.size).2 p.1.size).1,1 + (zas L (zas L (zas L p.2 p.1.size).2 p.1.size).2 3).1⟩).2 = 0
  then (zcm p.1 ⟨(zas L p.2 p.1.size).1,(zas L (zas L p.2 p.1.size).2 p.1.size).1,1 + (zas L (zas L (zas L p.2 p.1.size).2 p.1.size).2 3).1⟩).1 else p.1,
  (zas L (zas L (zas L p.2 p.1.size).2 p.1.size).2 3).2)
noncomputable def zrl (L : List Int) : Nat → Gr × Nat → Gr × Nat
 | 0,p=>p
 | n + 1,p=>zrl L n (zkr L p)
def zd5 (L : List Int) (a : Nat) : Int:=if L.length = 0 then 4 else 2 + (zas L a 8).1
def zb7 (L : List Int) (a : Nat) : Gr × Nat :=
 if (zas L (zas L a 8).2 8).1 = 7 then (⟨zd5 L a,[],[(zas L (zas L (zas L a 8).2 8).2 (zd5 L a)).1]⟩,(zas L (zas L (zas L a 8).2 8).2 (zd5 L a)).2)
 else (⟨zd5 L a,[],[]⟩,(zas L (zas L a 8).2 8).2)
noncomputable def ziR (L : List Int) (a : Nat) : Gr × Nat:=zrl L (zas L (zb7 L a).2 23).1.toNat ((zb7 L a).1,(zas L (zb7 L a).2 23).2)
structure zlT (L : List Int) (p : Gr × Nat) : Prop where
 ok : GrOk p.1
 lo : 2 ≤ p.1.size
 hi : p.1.size ≤ 9
 at_ : p.2 ≤ L.length
 few : p.1.gone.length ≤ 1
theorem zid (L : List Int) (a : Nat) : 2 ≤ zd5 L a ∧ zd5 L a ≤ 9:=by
 have:=zdn (L:=L) (a:=a) (n:=8) (by omega)
 unfold zd5
 split <;> omega
theorem zh6 (L : List Int) (a : Nat) (ha : a ≤ L.length) : zlT L (zb7 L a):=by
 have hs:=zid L a
 have h1:=zbs (L:=L) (a:=a) (n:=8) ha
 have h2:=zbs (L:=L) (a:=(zas L a 8).2) (n:=8) h1
 have hq:=zdn (L:=L) (a:=(zas L (zas L a 8).2 8).2) (n:=zd5 L a) (by omega)
 unfold zb7
 split
 ·refine ⟨⟨⟨by simp only; omega,by simp only; omega,by simp,fun i hi=>?_⟩,fun i hi=>absurd hi (by simp)⟩,hs.1,hs.2,zbs h2,by simp⟩
  obtain rfl : i = 0:=by simpa using hi
  refine ⟨hq.1,?_,fun h=>by omega⟩
  have:=hq.2
  simp only [List.getElem_cons_zero]
  omega
 ·exact ⟨⟨⟨by simp only; omega,by simp only; omega,by simp,fun i hi=>absurd hi (by simp)⟩,fun i hi=>absurd hi (by simp)⟩,hs.1,hs.2,h2,by simp⟩
theorem ziU {L : List Int} {p : Gr × Nat} (h : zlT L p) : zlT L (zkr L p):=by
 have h3:=zbs (n:=3) (zbs (n:=p.1.size) (zbs (n:=p.1.size) h.at_))
 unfold zkr
 by_cases hw : (zcm p.1 ⟨(zas L p.2 p.1.size).1,(zas L (zas L p.2 p.1.size).2 p.1.size).1,1 + (zas L (zas L (zas L p.2 p.1.size).2 p.1.size).2 3).1⟩).2 = 0
 ·rw [if_pos hw]
  obtain ⟨_,_,_,_,_,q6,q7⟩:=zrh hw
  rw [q6]
  exact ⟨q7,h.lo,h.hi,h3,h.few⟩
 ·rw [if_neg hw]
  exact ⟨h.ok,h.lo,h.hi,h3,h.few⟩
theorem ziM {L : List Int} : ∀ (n : Nat) {p : Gr × Nat},zlT L p → zlT L (zrl L n p)
 | 0,_,h=>h
 | n + 1,_,h=>ziM n (ziU h)
theorem zmj (L : List Int) (a : Nat) (ha : a ≤ L.length) : zlT L (ziR L a):=by
 have h:=zh6 L a ha
 exact ziM _ ⟨h.ok,h.lo,h.hi,zbs h.at_,h.few⟩
theorem zaD.eq {nl : List (Nat × Nat)} {e e' : Ent} (h : e = e') (hr : e'.ro ≤ e'.rows.length) : zaD nl e e':=by
 subst h
 exact zaD.rfl' hr
theorem zaD.row {nl : List (Nat × Nat)} {s ro : Nat} {e : Ent} {r r' : List AV} (h : e = ⟨s,[r],ro⟩) (hr : ro ≤ 1) (hu : UpL nl r r') (hs : s ≠ 0:=by decide) : zaD nl e ⟨s,[r'],ro⟩:=by
 subst h
 refine ⟨rfl,Nat.le_refl _,hr,.inr ⟨hs,rfl,fun i=>?_⟩⟩
 match i with
 | 0=>exact hu
 | _ + 1=>exact trivial
theorem zoT {nl : List (Nat × Nat)} : ∀ {xs ys : List AV},WkL xs ys → UpL nl xs ys
 | [],[],_=>trivial
 | _ :: _,_ :: _,h=>⟨.inl h.1,zoT h.2⟩
 | [],_ :: _,h=>False.elim h
 | _ :: _,[],h=>False.elim h
theorem Le.ents {np : Nat} {st st' : St} (ρ : List (Nat × Nat)) (sn : List Nat) (hsz : st'.sz = st.sz)
  (h0 : (ρ.map (·.1)).Nodup) (h1 : (ρ.map (·.2)).Nodup) (h2 : ∀ p ∈ ρ,p.2 < st'.n ∧ (p.2 < np → p.1 = p.2)) (h4 : ∀ i ∈ sn,np ≤ i ∧ i ∉ ρ.map (·.1)) (h5 : np ≤ st'.n)
  (ht : ∀ p ∈ st'.t,Wk (conv ρ sn st.hp 4 (st.get p.1)) p.2)
  (hh : ∀ p ∈ st'.h,∃ q e e',p.2 = some e' ∧ (q,p.1) ∈ ρ ∧ st.hp q = some e ∧ zaD [] (zaz ρ sn st.hp 4 e) e') : Le np st st' :=
 Le.lst ρ sn [] hsz h0 h1 h2 (by simp) h4 h5 (by simp) (fun p hp=>.inl (ht p hp)) fun p hp e' he'=>by
  obtain ⟨q,e,e2,h1,h2,h3,h4⟩:=hh p hp
  rw [he'] at h1
  cases h1
  exact .inl ⟨(q,p.1),h2,rfl,e,h3,h4⟩
theorem ze3 (L : List Int) (a : Nat) (n : Int) (hl : L.length ≤ 400) (ha : a ≤ L.length) (hn : n ≤ 9223372036854775807) : zaj Tryz.prog zau [.pt 0 0 0,.I n] [dice L a] (.I (zas L a n).1) [some (dice L (zas L a n).2)]:=zja L a n (by omega) ha hn
abbrev zG : Ent:=⟨3,[[.I 0,.nilS,.nilS]],0⟩
abbrev rowG (g : Gr) : Ent:=⟨3,[gC g],0⟩
set_option maxRecDepth 100000 in
theorem zqU (L : List Int) (a : Nat) (hl : L.length ≤ 400) (ha : a ≤ L.length) : zaj Tryz.prog zbv [.pt 0 0 0] [dice L a] (eG (ziR L a).1) [some (dice L (ziR L a).2)]:=by
 refine zg3.acalls (nbz rfl) (nbz rfl) (Nat.le_refl _) ?_
 show awp _ 1 _ _ ⟨53,[(0,.pt 0 0 0)],[(0,some (dice L a))],16⟩
 have a1:=zbs (L:=L) (a:=a) (n:=8) ha
 have r1:=zdn (L:=L) (a:=a) (n:=8) (by omega)
 have hs:=zid L a
 have a2:=zbs (L:=L) (a:=(zas L a 8).2) (n:=8) a1
 have hw1 : IntKind.i64.wrap (2 + (zas L a 8).1) = 2 + (zas L a 8).1:=w64 (by omega) (by omega)
 have hm:=zh6 L a ha
 refine zab ⟨53,[(0,.pt 0 0 0),(2,.pt 16 0 0)],[(0,some (dice L a)),(16,some zG)],24⟩ rfl ?_ ?_
 ·simp
  exact Le.keep rfl (Nat.le_refl _) (by simp) (by simp)
 refine zab ⟨53,[(0,.pt 0 0 0),(2,.pt 16 0 0),(3,.pt 56 0 0)],[(0,some (dice L (zas L a 8).2)),(16,some zG),(56,some ⟨3,[[.I (2 + (zas L a 8).1),.nilS,.nilS]],0⟩)],72⟩ rfl ?_ ?_
 ·simp
  refine zbw (i:=0) rfl (e':=dice L a) (by simp [fcd]) (ze3 L a 8 hl ha (by omega)) (by simp) (by simp) ?_
  simp [hw1,fcd]
  exact Le.keep rfl (Nat.le_refl _) (by simp) (by simp)
 refine zat (ι:=Unit) (fun _=>⟨53,[(0,.pt 0 0 0),(2,.pt 16 0 0),(3,.pt 56 0 0)],[(0,some (dice L (zas L a 8).2)),(16,some zG),(56,some ⟨3,[[.I (zd5 L a),.nilS,.nilS]],0⟩)],136⟩) (fun _=>True) ?_ fun _ _=>?_
 ·refine zab ⟨53,[(0,.pt 0 0 0),(2,.pt 16 0 0),(3,.pt 56 0 0),(16,.B (decide (L.length = 0)))],[(0,some (dice L (zas L a 8).2)),(16,some zG),(56,some ⟨3,[[.I (2 + (zas L a 8).1),.nilS,.nilS]],0⟩)],120⟩ rfl ?_ ?_
  ·simp
   exact Le.keep rfl (Nat.le_refl _) (by simp <;> rw [Bool.eq_iff_iff] <;> simp) (by simp)
  refine zad _ rfl (fun h=>?_) fun h=>zae ?_
  ·simp only [decide_eq_true_eq] at h
   have hz : zd5 L a = 4:=by unfold zd5; rw [if_pos h]
   refine zaC rfl ?_
   simp
   exact Le.keep rfl (Nat.le_refl _) (by simp) (by simp [hz])
  ·simp only [decide_eq_false_iff_not] at h
   have hz : zd5 L a = 2 + (zas L a 8).1:=by unfold zd5; rw [if_neg h]
   exact ⟨(),trivial,Le.keep rfl (nbz rfl) (by simp) (by simp [hz])⟩
 refine zat (ι:=Unit) (fun _=>⟨53,[(0,.pt 0 0 0),(2,.pt 16 0 0),(3,.pt 56 0 0)],[(0,some (dice L (zb7 L a).2)),(16,some zG),(56,some (rowG (zb7 L a).1))],208⟩) (fun _=>True) ?_ fun _ _=>?_
 ·refine zab ⟨53,[(0,.pt 0 0 0),(2,.pt 16 0 0),(3,.pt 56 0 0),(19,.B (decide ((zas L (zas L a 8).2 8).1 = 7)))],[(0,some (dice L (zas L (zas L a 8).2 8).2)),(16,some zG),(56,some ⟨3,[[.I (zd5 L a),.nilS,.nilS]],0⟩)],152⟩ rfl ?_ ?_
  ·simp
   refine zbw (i:=0) rfl (e':=dice L (zas L a 8).2) (by simp [fcd]) (zrJ L _ 8 (by omega) a1 (by omega) (by omega)) (by simp) (by simp) ?_
   simp [fcd]
   exact Le.keep rfl (Nat.le_refl _) (by simp) (by simp)
  refine zad _ rfl (fun h=>?_) fun h=>zae ?_
  ·simp only [decide_eq_true_eq] at h
   have hz : zb7 L a = (⟨zd5 L a,[],[(zas L (zas L (zas L a 8).2 8).2 (zd5 L a)).1]⟩,(zas L (zas L (zas L a 8).2 8).2 (zd5 L a)).2):=by unfold zb7; rw [if_pos h]
   rw [hz]
   refine zaC rfl ?_
   simp
   refine zbw (i:=0) rfl (e':=dice L (zas L (zas L a 8).2 8).2) (by simp [fcd]) (ze3 L (zas L (zas L a 8).2 8).2 (zd5 L a) hl a2 (by omega)) (by simp) (by simp) ?_
   simp [fcd]
   refine Le.ents [(0,0),(16,16),(56,56)] [184] rfl (by simp) (by simp) (by simp) (by simp) (by simp) (by simp) fun p hp=>?_
   simp at hp
   rcases hp with rfl | rfl | rfl
   ·exact ⟨0,_,_,rfl,by simp,rfl,zaD.eq (by simp) (by simp)⟩
   ·exact ⟨16,_,_,rfl,by simp,rfl,zaD.eq (by simp) (by simp)⟩
   ·exact ⟨56,_,_,rfl,by simp,rfl,zaD.row (by simp; rfl) (by simp) (zoT (by simp; exact ⟨.nil _ _,.refl _⟩))⟩
  ·simp only [decide_eq_false_iff_not] at h
   have hz : zb7 L a = (⟨zd5 L a,[],[]⟩,(zas L (zas L a 8).2 8).2):=by unfold zb7; rw [if_neg h]
   rw [hz]
   refine ⟨(),trivial,Le.ents [(0,0),(16,16),(56,56)] [] rfl (by simp) (by simp) (by simp) (by simp) (by simp) (by simp) fun p hp=>?_⟩
   simp at hp
   rcases hp with rfl | rfl | rfl
   ·exact ⟨0,_,_,rfl,by simp,rfl,zaD.eq (by simp) (by simp)⟩
   ·exact ⟨16,_,_,rfl,by simp,rfl,zaD.eq (by simp) (by simp)⟩
   ·exact ⟨56,_,_,rfl,by simp,rfl,zaD.row (by simp; rfl) (by simp) (zoT (by simp; exact ⟨.nil _ _,.nil _ _⟩))⟩
 have r4:=zdn (L:=L) (a:=(zb7 L a).2) (n:=23) (by omega)
 obtain ⟨n0,hn0⟩ : ∃ n0 : Nat,(zas L (zb7 L a).2 23).1 = n0:=⟨(zas L (zb7 L a).2 23).1.toNat,by omega⟩
 refine zaa ?_
 refine zab ⟨53,[(0,.pt 0 0 0),(2,.pt 16 0 0),(3,.pt 56 0 0),(4,.I n0)],[(0,some (dice L (zas L (zb7 L a).2 23).2)),(16,some zG),(56,some (rowG (zb7 L a).1))],232⟩ rfl ?_ ?_
 ·simp
  refine zbw (i:=0) rfl (e':=dice L (zb7 L a).2) (by simp [fcd]) (ze3 L (zb7 L a).2 23 hl hm.at_ (by omega)) (by simp) (by simp) ?_
  simp [fcd,hn0]
  exact Le.keep rfl (Nat.le_refl _) (by simp) (by simp)
 refine zaf ?_
 refine zan (ι:=Nat × Gr × Nat) (fun q=>⟨53,[(0,.pt 0 0 0),(2,.pt 16 0 0),(3,.pt 56 0 0),(4,.I q.1)],[(0,some (dice L q.2.2)),(16,some zG),(56,some (rowG q.2.1))],232⟩)
  (fun q=>q.1 ≤ 23 ∧ zlT L q.2 ∧ zrl L q.1 q.2 = ziR L a) (fun q=>q.1) (n0,(zb7 L a).1,(zas L (zb7 L a).2 23).2) ?_ (Le.refl _ _) ?_
 ·refine ⟨by simp only; omega,⟨hm.ok,hm.lo,hm.hi,zbs hm.at_,hm.few⟩,?_⟩
  unfold ziR
  rw [hn0]
  rfl
 rintro ⟨k,p⟩ ⟨hk,hp,hit⟩
 simp only at hk hp hit ⊢
 refine zaa ?_
 refine zab ⟨53,[(0,.pt 0 0 0),(2,.pt 16 0 0),(3,.pt 56 0 0),(4,.I k),(29,.B (decide (0 < k)))],[(0,some (dice L p.2)),(16,some zG),(56,some (rowG p.1))],248⟩ rfl ?_ ?_
 ·simp
  exact Le.keep rfl (Nat.le_refl _) (by simp) (by simp)
 refine zad _ rfl (fun h=>zae ?_) fun h=>zak (Go.Proofs.YtfdbhehkkobfgaaGreat.hit ?_)
 ·simp only [decide_eq_true_eq] at h
  refine zat (ι:=Unit) (fun _=>⟨53,[(0,.pt 0 0 0),(2,.pt 16 0 0),(3,.pt 56 0 0),(4,.I k)],[(0,some (dice L (zkr L p).2)),(16,some zG),(56,some (rowG (zkr L p).1))],440⟩) (fun _=>True) ?_ fun _ _=>?_
  ·refine zaf ?_
   have q1:=zbs (n:=p.1.size) hp.at_
   have q2:=zbs (n:=p.1.size) q1
   have hlo:=hp.lo
   have hhi:=hp.hi
   have l3:=zdn (L:=L) (a:=(zas L (zas L p.2 p.1.size).2 p.1.size).2) (n:=3) (by omega)
   have hwv : IntKind.i64.wrap (1 + (zas L (zas L (zas L p.2 p.1.size).2 p.1.size).2 3).1) = 1 + (zas L (zas L (zas L p.2 p.1.size).2 p.1.size).2 3).1:=w64 (by omega) (by omega)
   obtain ⟨w,hw⟩ : ∃ w,w = zcm p.1 ⟨(zas L p.2 p.1.size).1,(zas L (zas L p.2 p.1.size).2 p.1.size).1,1 + (zas L (zas L (zas L p.2 p.1.size).2 p.1.size).2 3).1⟩:=⟨_,rfl⟩
   have hst : zkr L p = (if w.2 = 0 then w.1 else p.1,(zas L (zas L (zas L p.2 p.1.size).2 p.1.size).2 3).2):=by rw [hw]; rfl
   have h500:=hp.ok.1.2.2.1
   have hfew:=hp.few
   have hwith:=zfW p.1 ⟨(zas L p.2 p.1.size).1,(zas L (zas L p.2 p.1.size).2 p.1.size).1,1 + (zas L (zas L (zas L p.2 p.1.size).2 p.1.size).2 3).1⟩ (by omega) (by omega)
   rw [← hw] at hwith
   rw [hst]
   refine zaO ⟨53,[(0,.pt 0 0 0),(2,.pt 16 0 0),(3,.pt 56 0 0),(4,.I k),(5,.pv (gC w.1)),(6,.I w.2)],[(0,some (dice L (zas L (zas L (zas L p.2 p.1.size).2 p.1.size).2 3).2)),(16,some zG),(56,some (rowG p.1))],408⟩ rfl ?_ ?_
   ·simp
    refine zbw (i:=0) rfl (e':=dice L p.2) (by simp [fcd]) (ze3 L p.2 p.1.size hl hp.at_ (by omega)) (by simp) (by simp) ?_
    simp [fcd]
    refine zbw (i:=0) rfl (e':=dice L (zas L p.2 p.1.size).2) (by simp [fcd]) (ze3 L (zas L p.2 p.1.size).2 p.1.size hl q1 (by omega)) (by simp) (by simp) ?_
    simp [fcd]
    refine zbw (i:=0) rfl (e':=dice L (zas L (zas L p.2 p.1.size).2 p.1.size).2) (by simp [fcd]) (ze3 L (zas L (zas L p.2 p.1.size).2 p.1.size).2 3 hl q2 (by omega)) (by simp) (by simp) ?_
    simp [fcd,hwv]
    refine zal hwith rfl ?_
    simp
    refine ⟨rfl,Le.ents [(0,0),(16,16),(56,56)] [384] rfl (by simp) (by simp) (by simp) (by simp) (by simp) (by simp) fun p hp=>?_⟩
    simp at hp
    rcases hp with rfl | rfl | rfl
    ·exact ⟨0,_,_,rfl,by simp,rfl,zaD.eq (by simp [fcd]) (by simp)⟩
    ·exact ⟨16,_,_,rfl,by simp,rfl,zaD.eq (by simp) (by simp)⟩
    ·exact ⟨56,_,_,rfl,by simp,rfl,zaD.eq (by simp) (by simp)⟩
   refine zab ⟨53,[(0,.pt 0 0 0),(2,.pt 16 0 0),(3,.pt 56 0 0),(4,.I k),(5,.pv (gC w.1)),(50,.B (decide (w.2 = 0)))],[(0,some (dice L (zas L (zas L (zas L p.2 p.1.size).2 p.1.size).2 3).2)),(16,some zG),(56,some (rowG p.1))],424⟩ rfl ?_ ?_
   ·simp
    exact Le.keep rfl (Nat.le_refl _) (by simp <;> rw [Bool.eq_iff_iff] <;> simp) (by simp)
   refine zad _ rfl (fun h=>?_) fun h=>zae ?_
   ·simp only [decide_eq_true_eq] at h
    refine zaC rfl ?_
    simp [h]
    exact Le.keep rfl (nbz rfl) (by simp) (by simp)
   ·simp only [decide_eq_false_iff_not] at h
    rw [if_neg h]
    exact ⟨(),trivial,Le.keep rfl (nbz rfl) (by simp) (by simp)⟩
  have hwk : IntKind.i64.wrap ((k : Int) - 1) = ((k - 1 : Nat) : Int):=by rw [w64 (by omega) (by omega)]; omega
  refine zaC rfl ?_
  simp [hwk]
  refine ⟨k - 1,(zkr L p).1,(zkr L p).2,⟨by omega,ziU hp,?_⟩,by omega,Le.ents [(0,0),(16,16),(56,56)] [] rfl (by simp) (by simp) (by simp) (by simp) (by simp) (by simp) fun p hp=>?_⟩
  ·rw [← hit]
   obtain ⟨k,rfl⟩ : ∃ j,k = j + 1:=⟨k - 1,by omega⟩
   rfl
  ·simp at hp
   rcases hp with rfl | rfl | rfl
   ·exact ⟨0,_,_,rfl,by simp,rfl,zaD.eq (by simp [fcd]) (by simp)⟩
   ·exact ⟨16,_,_,rfl,by simp,rfl,zaD.eq (by simp) (by simp)⟩
   ·exact ⟨56,_,_,rfl,by simp,rfl,zaD.eq (by simp) (by simp)⟩
 simp only [decide_eq_false_iff_not] at h
 obtain rfl : k = 0:=by omega
 have hpe : p = ziR L a:=hit
 rw [← hpe]
 refine zab ⟨53,[(2,.pt 16 0 0)],[(0,some (dice L p.2)),(16,some (rowG p.1))],264⟩ rfl ?_ ?_
 ·simp
  exact Le.keep rfl (Nat.le_refl _) (by simp) (by simp)
 refine zag ?_
 exact ⟨.inr rfl,zam.k1 (vs:=[eG p.1]) rfl (by simp) (by simp [fcd])⟩
def zkh (capt : List AV) : Prop:=∀ ρ sn h n,capt.map (conv ρ sn h (n + 1)) = capt
def idxQ {α : Type} (l : List α) (q : α → Bool) : Int:=if l.findIdx q < l.length then (l.findIdx q : Int) else -1
theorem zot {α : Type} {l : List α} {q : α → Bool} {k : Nat} (hk : k < l.length) (h1 : ∀ i,i < k → ∀ h : i < l.length,q l[i] = false) (h2 : q l[k] = true) : idxQ l q = k:=by
 have : l.findIdx q = k:=by
  rw [List.findIdx_eq hk]
  exact ⟨h2,fun j hj=>by simpa using h1 j hj (by omega)⟩
 unfold idxQ
 rw [this,if_pos hk]
theorem zpe {α : Type} {l : List α} {q : α → Bool} (h1 : ∀ i,i < l.length → ∀ h : i < l.length,q l[i] = false) : idxQ l q = -1:=by
 have : l.findIdx q = l.length:=by
  rw [List.findIdx_eq_length]
  intro x hx
  obtain ⟨i,hi,rfl⟩:=List.mem_iff_getElem.1 hx
  exact h1 i hi hi
 unfold idxQ
 rw [this,if_neg (by omega)]
theorem zjq (f : FuncId) (capt : List AV) (q : Ed → Bool) (l : List Ed) (hl : l.length ≤ 1099511627776) (hs : zkh capt) (hc : ∀ e ∈ l,zaj Tryz.prog f (eE e :: capt) [] (.B (q e)) []) : zaj Tryz.prog zaK [eEs l,.fn (.func f) [] capt] [] (.I (idxQ l q)) []:=by
 have hs2 : ∀ ρ sn h,capt.map (conv ρ sn h 2) = capt:=fun _ _ _=>hs _ _ _ 1
 have hs3 : ∀ ρ sn h,capt.map (conv ρ sn h 3) = capt:=fun _ _ _=>hs _ _ _ 2
 have hs4 : ∀ ρ sn h,capt.map (conv ρ sn h 4) = capt:=fun _ _ _=>hs _ _ _ 3
 refine zbZ.acalls (nbz rfl) (nbz rfl) (Nat.le_refl _) ?_
 show awp _ 0 _ _ ⟨19,[(0,eEs l),(1,.fn (.func f) [] capt)],[],16⟩
 refine zaa ?_
 refine zac (s:=?s1) rfl ?o1 ?q1
 case o1=>simp; rfl
 refine zaa ?_
 refine zaa ?_
 refine zac (s:=?s2) rfl ?o2 ?q2
 case o2=>simp; rfl
 refine zaf ?_
 refine zan (ι:=Nat) (fun k=>⟨19,[(0,eEs l),(1,.fn (.func f) [] capt),(7,.I l.length),(8,.I k)],[],16⟩) (fun k=>k ≤ l.length ∧ ∀ i,i < k → ∀ h : i < l.length,q l[i] = false) (fun k=>l.length - k) (0) ?_ (Le.snap [] rfl rfl (by simp [hs2,hs3,hs4])) ?_
 ·simp
 rintro k ⟨hk,hp⟩
 refine zaa ?_
 refine zac (s:=?s3) rfl ?o3 ?q3
 case o3=>simp; rfl
 refine zaa ?_
 refine zad _ rfl (fun h4=>?_) fun h4=>?_
 ·try simp at h4
  have hw2 : IntKind.i64.wrap ((k : Int) + 1) = (k : Int) + 1:=w64 (by omega) (by omega)
  have hck:=hc l[k] (List.getElem_mem h4)
  refine zae ?_
  refine zaa ?_
  refine zaf ?_
  refine zaa ?_
  refine zac (s:=?s5) rfl ?o5 ?q5
  case o5=>simp [h4,hw2]; rfl
  refine zaa ?_
  refine zac (s:=?s6) rfl ?o6 ?q6
  case o6 =>
   simp [h4,hw2]
   refine zal hck ?_ ?_
   ·simp [hs2,hs3,hs4]
   simp [h4,hw2]; rfl
  refine zad _ rfl (fun h7=>?_) fun h7=>?_
  ·try simp at h7
   refine zaa ?_
   refine zac (s:=?s8) rfl ?o8 ?q8
   case o8=>simp [h4,hw2]; rfl
   refine zag ?_
   exact ⟨.inr rfl,zam.one (by simp [zot h4 hp h7])⟩
  try simp at h7
  refine zae ?_
  refine zac (s:=?s9) rfl ?o9 ?q9
  case o9=>simp [h4,hw2]; rfl
  refine ⟨k + 1,⟨h4,fun i hi=>?_⟩,by omega,Le.snap [] rfl rfl (by simp [h4,hw2,hs2,hs3,hs4])⟩
  rcases Nat.lt_succ_iff_lt_or_eq.1 hi with h | rfl
  ·exact hp i h
  ·exact fun _=>h7
 try simp at h4
 have hall : ∀ i,i < l.length → ∀ h : i < l.length,q l[i] = false:=fun i hi=>hp i (by omega)
 refine zak ?_
 refine hit ?_
 refine zaa ?_
 refine zac (s:=?s10) rfl ?o10 ?q10
 case o10=>simp; rfl
 refine zag ?_
 exact ⟨.inr rfl,zam.one (by simp [zpe hall])⟩
abbrev zbO (l : List Ed) : List (List AV):=l.map fun e=>[AV.I e.f,AV.I e.t,AV.I e.v]
theorem zfZ {l : List Ed} {q : Ed → Bool} (h : ∀ i,i < l.length → ∀ h : i < l.length,q l[i] = false) : l.filter (fun e=>!q e) = l:=by
 rw [List.filter_eq_self]
 intro x hx
 obtain ⟨i,hi,rfl⟩:=List.mem_iff_getElem.1 hx
 simp [h i hi hi]
theorem zej (l : List Ed) (q : Ed → Bool) (j : Nat) (h : j < l.length) : (l.take (j + 1)).filter (fun e=>!q e) = (l.take j).filter (fun e=>!q e) ++ if q l[j] = true then [] else [l[j]]:=by
 rw [← List.take_concat_get h,List.concat_eq_append,List.filter_append]
 congr 1
 cases hq : q l[j] <;> simp [hq]
set_option maxRecDepth 100000 in
theorem zin (f : FuncId) (capt : List AV) (q : Ed → Bool) (l : List Ed) (n m : Nat) (hn : l.length = n) (hm : (l.filter fun e=>!q e).length = m) (hl : n ≤ 1099511627776) (hs : zkh capt) (hc : ∀ e ∈ l,zaj Tryz.prog f (eE e :: capt) [] (.B (q e)) []) :
  zaj Tryz.prog zaH [.rs 0 0 n,.fn (.func f) [] capt] [⟨3,zbO l,0⟩] (.rs 0 0 m) [some ⟨3,zbO (l.filter fun e=>!q e) ++ List.replicate (n - m) [.I 0,.I 0,.I 0],0⟩]:=by
 have hs2 : ∀ ρ sn h,capt.map (conv ρ sn h 2) = capt:=fun _ _ _=>hs _ _ _ 1
 have hs3 : ∀ ρ sn h,capt.map (conv ρ sn h 3) = capt:=fun _ _ _=>hs _ _ _ 2
 have hs4 : ∀ ρ sn h,capt.map (conv ρ sn h 4) = capt:=fun _ _ _=>hs _ _ _ 3
 refine zbT.acalls (nbz rfl) (nbz rfl) (nbz rfl) ?_
 show awp _ 1 _ _ ⟨42,[(0,.rs 0 0 n),(1,.fn (.func f) [] capt)],[(0,some ⟨3,zbO l,0⟩)],16⟩
 have hmn : m ≤ n:=by rw [← hm,← hn]; exact List.length_filter_le _ _
 refine zab ⟨42,[(0,.rs 0 0 n),(1,.fn (.func f) [] capt)],[(0,some ⟨3,zbO l,0⟩)],24⟩ rfl ?_ ?_
 ·simp
  exact Le.keep rfl (Nat.le_refl _) (by simp) (by simp)
 refine zab ⟨42,[(0,.rs 0 0 n),(1,.fn (.func f) [] capt),(5,.I (idxQ l q))],[(0,some ⟨3,zbO l,0⟩)],56⟩ rfl ?_ ?_
 ·simp
  refine ziE [0] (zjq f capt q l (by omega) hs hc) ?_ (.sc _) ?_
  ·simp [hs2,hs3,hs4,← hn,fcd,zaI]
  simp
  exact Le.keep rfl (Nat.le_refl _) (by simp) (by simp)
 refine zaa ?_
 refine zab ⟨42,[(0,.rs 0 0 n),(1,.fn (.func f) [] capt),(5,.I (idxQ l q)),(12,.B (decide (idxQ l q = -1)))],[(0,some ⟨3,zbO l,0⟩)],72⟩ rfl ?_ ?_
 ·simp
  exact Le.keep rfl (Nat.le_refl _) (by simp <;> rw [Bool.eq_iff_iff] <;> simp) (by simp)
 refine zad _ rfl (fun h=>?_) fun h=>zae ?_
 ·simp only [decide_eq_true_eq] at h
  have hno : ∀ i,i < l.length → ∀ h : i < l.length,q l[i] = false:=by
   intro i hi _
   unfold idxQ at h
   split at h
   ·omega
   ·rename_i hnl
    have : l.findIdx q = l.length:=by have:=List.findIdx_le_length (xs:=l) (p:=q); omega
    rw [List.findIdx_eq_length] at this
    exact this _ (List.getElem_mem hi)
  have hf:=zfZ hno
  rw [hf] at hm ⊢
  obtain rfl : n = m:=by omega
  refine zaa ?_
  refine zac (s:=?s1) rfl ?o1 ?q1
  case o1=>simp; rfl
  refine zag ?_
  refine ⟨.inr rfl,⟨[.rs 0 0 n],rfl,[],[],by simp [List.range,List.range.loop],by simp,by simp,?_,?_⟩⟩
  ·simp [List.range,List.range.loop]
  ·simp [List.range,List.range.loop,fcd]
 simp only [decide_eq_false_iff_not] at h
 obtain ⟨i0,hi0,hlt,hbef,hat⟩ : ∃ i0 : Nat,idxQ l q = i0 ∧ i0 < l.length ∧ (∀ i,i < i0 → ∀ h : i < l.length,q l[i] = false) ∧ ∀ h : i0 < l.length,q l[i0] = true:=by
  unfold idxQ at h ⊢
  split at h
  ·rename_i hlt
   refine ⟨l.findIdx q,by rw [if_pos hlt],hlt,fun i hi _=>?_,fun h=>List.findIdx_getElem (w:=h)⟩
   simpa using List.not_of_lt_findIdx hi
  ·omega
 rw [hi0]
 have hA0 : (l.take (i0 + 1)).filter (fun e=>!q e) = l.take i0:=by
  rw [zej l q i0 hlt,if_pos (hat hlt),List.append_nil]
  refine zfZ fun i hi h=>?_
  rw [List.length_take] at hi
  simp only [List.getElem_take]
  exact hbef i (by omega) (by omega)
 have hw0 : IntKind.i64.wrap ((i0 : Int) + 1) = ((i0 + 1 : Nat) : Int):=by rw [w64 (by omega) (by omega)]; omega
 let C : Nat × List Ed → St:=fun p=>⟨42,[(0,.rs 0 0 n),(1,.fn (.func f) [] capt),(5,.I ((l.take p.1).filter fun e=>!q e).length),(6,.I p.1)],[(0,some ⟨3,zbO ((l.take p.1).filter (fun e=>!q e) ++ p.2 ++ l.drop p.1),0⟩)],96⟩
 refine zaa ?_
 refine zab (C (i0 + 1,[l[i0]])) rfl ?_ ?_
 ·simp [hw0]
  refine Le.keep rfl (Nat.le_refl _) ?_ ?_
  ·simp only [C,hA0]
   simp
   omega
  ·simp only [C,hA0]
   simp
 refine zaf ?_
 refine zan C (fun p : Nat × List Ed=>p.1 ≤ n ∧ p.2 ≠ [] ∧ ((l.take p.1).filter fun e=>!q e).length + p.2.length = p.1) (fun p : Nat × List Ed=>n - p.1) (i0 + 1,[l[i0]]) ?_ (Le.refl _ _) ?_
 ·simp only [hA0]
  simp
  omega
 rintro ⟨j,M⟩ ⟨hj,hM,hlen⟩
 simp only at hj hM hlen ⊢
 obtain ⟨A,hA⟩ : ∃ A,A = (l.take j).filter fun e=>!q e:=⟨_,rfl⟩
 rw [← hA] at hlen
 have hC : C (j,M) = ⟨42,[(0,.rs 0 0 n),(1,.fn (.func f) [] capt),(5,.I A.length),(6,.I j)],[(0,some ⟨3,zbO (A ++ M ++ l.drop j),0⟩)],96⟩:=by subst hA; rfl
 rw [hC]
 refine zaa ?_
 refine zab ⟨42,[(0,.rs 0 0 n),(1,.fn (.func f) [] capt),(5,.I A.length),(6,.I j),(19,.B (decide (j < n)))],[(0,some ⟨3,zbO (A ++ M ++ l.drop j),0⟩)],128⟩ rfl ?_ ?_
 ·simp
  exact Le.keep rfl (Nat.le_refl _) (by simp) (by simp)
 refine zad _ rfl (fun h=>zae ?_) fun h=>zak (hit ?_)
 ·simp only [decide_eq_true_eq] at h
  have hjl : j < l.length:=by omega
  match M,hM,hlen with
  | m0 :: M1,_,hlen =>
  simp only [List.length_cons] at hlen
  have hnext:=zej l q j hjl
  rw [← hA] at hnext
  have hget : (zbO (A ++ m0 :: M1 ++ l.drop j))[j]? = some [AV.I l[j].f,AV.I l[j].t,AV.I l[j].v]:=by
   rw [List.getElem?_map,List.getElem?_append_right (by simp; omega),List.getElem?_drop,show j + (j - (A ++ m0 :: M1).length) = j by simp; omega,List.getElem?_eq_getElem hjl]
   rfl
  have hget2 : (zbO (A ++ m0 :: M1 ++ l.drop j))[A.length]? = some [AV.I m0.f,AV.I m0.t,AV.I m0.v]:=by
   rw [List.getElem?_map,List.append_assoc,List.getElem?_append_right (by omega)]
   simp
  have hset : (zbO (A ++ m0 :: M1 ++ l.drop j)).set A.length [AV.I l[j].f,AV.I l[j].t,AV.I l[j].v] = zbO ((A ++ [l[j]]) ++ (M1 ++ [l[j]]) ++ l.drop (j + 1)):=by
   have e1 : l.drop j = l[j] :: l.drop (j + 1):=List.drop_eq_getElem_cons hjl
   rw [e1]
   simp [zbO,List.set_append]
  have hmore : A ++ m0 :: M1 ++ l.drop j = A ++ (m0 :: M1 ++ [l[j]]) ++ l.drop (j + 1):=by
   have e1 : l.drop j = l[j] :: l.drop (j + 1):=List.drop_eq_getElem_cons hjl
   rw [e1]
   simp
  generalize hrows : zbO (A ++ m0 :: M1 ++ l.drop j) = R at *
  have hRl : R.length = n:=by rw [← hrows]; simp; omega
  have hck:=hc l[j] (List.getElem_mem hjl)
  generalize hv : l[j] = v at *
  refine zat (ι:=List Ed × List Ed) (fun p=>⟨42,[(0,.rs 0 0 n),(1,.fn (.func f) [] capt),(5,.I p.1.length),(6,.I j)],[(0,some ⟨3,zbO (p.1 ++ p.2 ++ l.drop (j + 1)),0⟩)],272⟩)
   (fun p=>p.1 = (l.take (j + 1)).filter (fun e=>!q e) ∧ p.2 ≠ [] ∧ p.1.length + p.2.length = j + 1) ?_ ?_
  ·refine zaf ?_
   refine zab ⟨42,[(0,.rs 0 0 n),(1,.fn (.func f) [] capt),(5,.I A.length),(6,.I j),(7,.pt 160 0 0)],[(0,some ⟨3,R,0⟩),(160,some ⟨3,[[.I v.f,.I v.t,.I v.v]],0⟩)],176⟩ rfl ?_ ?_
   ·simp [h,hget]
    exact Le.keep rfl (Nat.le_refl _) (by simp) (by simp)
   refine zab ⟨42,[(0,.rs 0 0 n),(1,.fn (.func f) [] capt),(5,.I A.length),(6,.I j),(7,.pt 160 0 0),(29,.B (!q v))],[(0,some ⟨3,R,0⟩),(160,some ⟨3,[[.I v.f,.I v.t,.I v.v]],0⟩)],208⟩ rfl ?_ ?_
   ·simp
    refine zal hck ?_ ?_
    ·simp [hs2,hs3,hs4]
    simp
    exact Le.keep rfl (Nat.le_refl _) (by simp) (by simp)
   refine zad _ rfl (fun h5=>?_) fun h5=>zae ?_
   ·simp only [Bool.not_eq_true'] at h5
    rw [h5] at hnext
    refine zab ⟨42,[(0,.rs 0 0 n),(1,.fn (.func f) [] capt),(5,.I A.length),(6,.I j)],[(0,some ⟨3,zbO ((A ++ [v]) ++ (M1 ++ [v]) ++ l.drop (j + 1)),0⟩)],248⟩ rfl ?_ ?_
    ·simp [hget2,show A.length < n by omega,zbR,hset]
     exact Le.keep rfl (Nat.le_refl _) (by simp) (by simp)
    have hwA : IntKind.i64.wrap ((A.length : Int) + 1) = ((A.length + 1 : Nat) : Int):=by rw [w64 (by omega) (by omega)]; omega
    refine zaC rfl ?_
    simp [hwA]
    refine ⟨A ++ [v],M1 ++ [v],⟨by rw [hnext]; simp,by simp,by simp; omega⟩,Le.keep rfl (Nat.le_refl _) (by simp) (by simp)⟩
   ·simp only [Bool.not_eq_false'] at h5
    rw [h5] at hnext
    refine ⟨(A,m0 :: M1 ++ [v]),⟨by rw [hnext]; simp,by simp,by simp; omega⟩,Le.keep rfl (nbz rfl) (by simp) ?_⟩
    rw [← hmore,hrows]
    simp
  rintro ⟨A',M'⟩ ⟨p1,p2,p3⟩
  simp only at p1 p2 p3 ⊢
  have hwj : IntKind.i64.wrap ((j : Int) + 1) = ((j + 1 : Nat) : Int):=by rw [w64 (by omega) (by omega)]; omega
  refine zaC rfl ?_
  simp [hwj]
  refine ⟨j + 1,M',⟨by omega,p2,by rw [← p1]; omega⟩,by omega,?_⟩
  have hD : C (j + 1,M') = ⟨42,[(0,.rs 0 0 n),(1,.fn (.func f) [] capt),(5,.I A'.length),(6,.I ((j + 1 : Nat) : Int))],[(0,some ⟨3,zbO (A' ++ M' ++ l.drop (j + 1)),0⟩)],96⟩:=by rw [p1]
  rw [hD]
  refine Le.ents [(0,0)] [] rfl (by simp) (by simp) (by simp) (by simp) (by simp) (by simp [hs2,hs3,hs4]) fun p hp=>?_
  simp at hp
  subst hp
  exact ⟨0,_,_,rfl,by simp,rfl,zaD.eq (by simp [fcd]) (by simp)⟩
 simp only [decide_eq_false_iff_not] at h
 obtain rfl : j = n:=by omega
 have hd : l.drop j = []:=List.drop_eq_nil_of_le (by omega)
 have ht : l.take j = l:=List.take_of_length_le (by omega)
 rw [ht] at hA
 rw [hd,List.append_nil]
 rw [← hA] at hm ⊢
 subst hm
 have hAM : (zbO (A ++ M)).take A.length = zbO A:=by simp [zbO]
 have hAd : (zbO (A ++ M)).drop (A.length + (j - A.length)) = []:=List.drop_eq_nil_of_le (by simp; omega)
 have hAl : (zbO (A ++ M)).length = j:=by simp; omega
 generalize zbO (A ++ M) = R at *
 refine zab ⟨42,[(0,.rs 0 0 j),(5,.I A.length)],[(0,some ⟨3,zbO A ++ List.replicate (j - A.length) [.I 0,.I 0,.I 0],0⟩)],160⟩ rfl ?_ ?_
 ·simp
  refine ⟨by omega,by omega,?_⟩
  rw [hAM,hAd]
  exact Le.keep rfl (Nat.le_refl _) (by simp) (by simp)
 refine zaa ?_
 refine zac (s:=?s2) rfl ?o2 ?q2
 case o2 =>
  simp
  refine ⟨by omega,?_⟩
  rfl
 refine zag ?_
 refine ⟨.inr rfl,⟨[.rs 0 0 A.length],rfl,[],[],by simp [List.range,List.range.loop],by simp,by simp,?_,?_⟩⟩
 ·simp [List.range,List.range.loop]
 ·simp [List.range,List.range.loop,fcd]
def zao (g : Gr) (v : Int) : Gr:=⟨g.size,g.edges.filter fun e=>!decide (e.v < v),g.gone⟩
theorem zgw (e : Ed) (v : Int) : zaj Tryz.prog zcg [eE e,.pv [.I v]] [] (.B (decide (e.v < v))) []:=by
 refine zhW.acalls (nbz rfl) (nbz rfl) (Nat.le_refl _) ?_
 show awp _ 0 _ _ ⟨8,[(0,eE e),(1,.pv [.I v])],[],16⟩
 refine zab ⟨8,[(1,.pv [.I v]),(2,.pv (eC e))],[],16⟩ rfl ?_ ?_
 ·simp
  exact Le.snap [16] rfl rfl (by simp)
 refine zaa ?_
 refine zac (s:=?s1) rfl ?o1 ?q1
 case o1=>simp; rfl
 refine zag ?_
 exact ⟨.inr rfl,zam.one (by simp)⟩
set_option maxRecDepth 100000 in
theorem zis (g : Gr) (v : Int) (hl : g.edges.length ≤ 1099511627776) (hl2 : g.gone.length ≤ 1099511627776) : zaj Tryz.prog zeB [eG g,.I v] [] (eG (zao g v)) []:=by
 refine zlk.acalls (nbz rfl) (nbz rfl) (Nat.le_refl _) ?_
 show awp _ 0 _ _ ⟨14,[(0,eG g),(1,.I v)],[],16⟩
 obtain ⟨E,hE⟩ : ∃ E,E = g.edges.filter fun e=>!decide (e.v < v):=⟨_,rfl⟩
 have hEl : E.length ≤ g.edges.length:=by rw [hE]; exact List.length_filter_le _ _
 have hdel:=zin zcg [.pv [.I v]] (fun e=>decide (e.v < v)) g.edges g.edges.length E.length rfl (by rw [hE]) hl (fun ρ sn h n=>by simp) (fun e _=>zgw e v)
 rw [← hE] at hdel
 have hres : zao g v = ⟨g.size,E,g.gone⟩:=by rw [hE]; rfl
 rw [hres]
 refine zab ⟨14,[(2,.pv (gC g)),(3,.pt 24 0 0),(4,.pt 32 0 0)],[(24,some ⟨1,[[.I v]],0⟩),(32,some zG)],40⟩ rfl ?_ ?_
 ·simp
  refine Le.ents [(24,24),(32,32)] [16] rfl (by simp) (by simp) (by simp) (by simp) (by simp) (by simp) fun p hp=>?_
  simp at hp
  rcases hp with rfl | rfl
  ·exact ⟨24,_,_,rfl,by simp,rfl,zaD.eq (by simp) (by simp)⟩
  ·exact ⟨32,_,_,rfl,by simp,rfl,zaD.eq (by simp) (by simp)⟩
 refine zab ⟨14,[(3,.pt 24 0 0),(4,.pt 32 0 0),(5,.pt 56 0 0)],[(24,some ⟨1,[[.I v]],0⟩),(32,some zG),(56,some ⟨3,[[.I g.size,.rs 48 0 g.edges.length,.rs 49 0 g.gone.length]],0⟩),(48,some ⟨3,zbO g.edges,0⟩),(49,some ⟨1,g.gone.map fun n=>[AV.I n],0⟩)],72⟩ rfl ?_ ?_
 ·simp
  refine zoY (zhX g (by omega) (by omega)) rfl ?_
  simp [fcd]
  exact Le.keep rfl (Nat.le_refl _) (by simp) (by simp)
 refine zab ⟨14,[(4,.pt 32 0 0),(5,.pt 56 0 0)],[(32,some zG),(56,some ⟨3,[[.I g.size,.rs 48 0 E.length,.rs 49 0 g.gone.length]],0⟩),(48,some ⟨3,zbO E ++ List.replicate (g.edges.length - E.length) [.I 0,.I 0,.I 0],0⟩),(49,some ⟨1,g.gone.map fun n=>[AV.I n],0⟩)],120⟩ rfl ?_ ?_
 ·simp
  refine zjd (i:=48) (j:=24) (by decide) (Nat.zero_le _) rfl rfl ?_ hdel (by simp) ?_ ?_
  ·simp [fcd]
  ·simp
  simp [fcd]
  exact Le.keep rfl (Nat.le_refl _) (by simp) (by simp)
 refine zaa ?_
 refine zac (s:=?s21) rfl ?o21 ?q21
 case o21=>simp; rfl
 refine zag ?_
 refine ⟨.inr rfl,?_⟩
 show zam [(4,some (true,3))] 0 _ _ _
 refine zam.out (vs:=[.agg [.I g.size,.rs 48 0 E.length,.rs 49 0 g.gone.length]]) [] [48,49] (by simp) (by simp) (by simp) ?_ (by simp)
 simp [fcd,zaI]
theorem zlh (l : List Ed) (v : Int) (k : Nat) (h : k < l.length) : (l.take (k + 1)).filter (fun e=>!decide (e.v < v)) = (l.take k).filter (fun e=>!decide (e.v < v)) ++ if v ≤ l[k].v then [l[k]] else []:=by
 rw [← List.take_concat_get h,List.concat_eq_append,List.filter_append]
 congr 1
 by_cases hq : v ≤ l[k].v
 ·have : ¬ l[k].v < v:=by omega
  simp [hq,this]
 ·have : l[k].v < v:=by omega
  simp [hq,this]
set_option maxRecDepth 100000 in
theorem zig (g : Gr) (v : Int) (hl : g.edges.length ≤ 1099511627776) (hl2 : g.gone.length ≤ 1099511627776) : zaj Tryz.prog zeG [eG g,.I v] [] (eG (zao g v)) []:=by
 refine zj6.acalls (nbz rfl) (nbz rfl) (Nat.le_refl _) ?_
 show awp _ 0 _ _ ⟨36,[(0,eG g),(1,.I v)],[],16⟩
 refine zab ⟨36,[(1,.I v),(2,.pv (gC g)),(4,.pt 24 0 0)],[(24,some zG)],32⟩ rfl ?_ ?_
 ·simp
  refine Le.ents [(24,24)] [16] rfl (by simp) (by simp) (by simp) (by simp) (by simp) (by simp) fun p hp=>?_
  simp at hp
  subst hp
  exact ⟨24,_,_,rfl,by simp,rfl,zaD.eq (by simp) (by simp)⟩
 refine zab ⟨36,[(1,.I v),(2,.pv (gC g)),(4,.pt 24 0 0),(5,.pt 48 0 0)],[(24,some zG),(48,some ⟨3,[[.I g.size,.rs 40 0 g.edges.length,.rs 41 0 g.gone.length]],0⟩),(40,some ⟨3,zbO g.edges,0⟩),(41,some ⟨1,g.gone.map fun n=>[AV.I n],0⟩)],64⟩ rfl ?_ ?_
 ·simp
  refine zoY (zfy g (by omega) (by omega)) rfl ?_
  simp [fcd]
  exact Le.keep rfl (Nat.le_refl _) (by simp) (by simp)
 refine zab ⟨36,[(1,.I v),(2,.pv (gC g)),(4,.pt 24 0 0),(5,.pt 48 0 0)],[(24,some zG),(48,some ⟨3,[[.I g.size,.nilS,ints g.gone]],0⟩)],80⟩ rfl ?_ ?_
 ·simp
  refine Le.ents [(24,24),(48,48)] [41] rfl (by simp) (by simp) (by simp) (by simp) (by simp) (by simp) fun p hp=>?_
  simp at hp
  rcases hp with rfl | rfl
  ·exact ⟨24,_,_,rfl,by simp,rfl,zaD.eq (by simp) (by simp)⟩
  ·exact ⟨48,_,_,rfl,by simp,rfl,zaD.eq (by simp [zbR,fcd,zaI]) (by simp)⟩
 refine zaa ?_
 refine zab ⟨36,[(1,.I v),(2,.pv (gC g)),(4,.pt 24 0 0),(5,.pt 48 0 0),(6,.I 0)],[(24,some zG),(48,some ⟨3,[[.I g.size,.nilS,ints g.gone]],0⟩)],88⟩ rfl ?_ ?_
 ·simp
  exact Le.keep rfl (Nat.le_refl _) (by simp) (by simp)
 refine zaf ?_
 let F : Nat → List Ed:=fun k=>(g.edges.take k).filter fun e=>!decide (e.v < v)
 let C : Nat → St:=fun k=>⟨36,[(1,.I v),(2,.pv (gC g)),(4,.pt 24 0 0),(5,.pt 48 0 0),(6,.I k)],[(24,some zG),(48,some ⟨3,[[.I g.size,.rs 16 0 (F k).length,ints g.gone]],0⟩),(16,some ⟨3,zbO (F k),0⟩)],88⟩
 refine zan C (fun k=>k ≤ g.edges.length) (fun k=>g.edges.length - k) 0 (Nat.zero_le _) ?_ ?_
 ·refine Le.lst [(24,24),(48,48)] [] [(16,3)] rfl (by simp) (by simp) (by simp [C]) (by simp [C]) (by simp) (by simp) (by simp) (by simp [C,Up]) fun p hp e' he'=>?_
  simp [C] at hp
  rcases hp with rfl | rfl | rfl
  ·cases he'
   exact .inl ⟨(24,24),by simp,rfl,_,rfl,zaD.eq (by simp) (by simp)⟩
  ·cases he'
   refine .inl ⟨(48,48),by simp,rfl,_,rfl,zaD.row (by simp; rfl) (by simp) ?_⟩
   exact ⟨.inl (.refl _),.inr ⟨rfl,16,3,by simp [F],by simp⟩,.inl (.refl _),trivial⟩
  ·cases he'
   exact .inr ⟨by simp,by simp [F],rfl⟩
 intro k hk
 have hFl : (F k).length ≤ k:=by
  have h1 : (F k).length ≤ (g.edges.take k).length:=List.length_filter_le _ _
  simp at h1
  omega
 have hC : C k = ⟨36,[(1,.I v),(2,.pv (gC g)),(4,.pt 24 0 0),(5,.pt 48 0 0),(6,.I k)],[(24,some zG),(48,some ⟨3,[[.I g.size,.rs 16 0 (F k).length,ints g.gone]],0⟩),(16,some ⟨3,zbO (F k),0⟩)],88⟩:=rfl
 rw [hC]
 refine zaa ?_
 refine zab ⟨36,[(1,.I v),(2,.pv (gC g)),(4,.pt 24 0 0),(5,.pt 48 0 0),(6,.I k),(14,.B (decide (k < g.edges.length)))],[(24,some zG),(48,some ⟨3,[[.I g.size,.rs 16 0 (F k).length,ints g.gone]],0⟩),(16,some ⟨3,zbO (F k),0⟩)],128⟩ rfl ?_ ?_
 ·simp
  exact Le.keep rfl (Nat.le_refl _) (by simp) (by simp)
 refine zad _ rfl (fun h=>zae ?_) fun h=>zak (hit ?_)
 ·simp only [decide_eq_true_eq] at h
  have hnext:=zlh g.edges v k h
  have hFs : F (k + 1) = F k ++ if v ≤ g.edges[k].v then [g.edges[k]] else []:=hnext
  refine zat (ι:=Unit) (fun _=>⟨36,[(1,.I v),(2,.pv (gC g)),(4,.pt 24 0 0),(5,.pt 48 0 0),(6,.I k)],[(24,some zG),(48,some ⟨3,[[.I g.size,.rs 16 0 (F (k + 1)).length,ints g.gone]],0⟩),(16,some ⟨3,zbO (F (k + 1)),0⟩)],280⟩) (fun _=>True) ?_ fun _ _=>?_
  ·rw [hFs]
   generalize F k = A at *
   refine zaf ?_
   refine zab ⟨36,[(1,.I v),(2,.pv (gC g)),(4,.pt 24 0 0),(5,.pt 48 0 0),(6,.I k),(24,.B (decide (v ≤ g.edges[k].v)))],[(24,some zG),(48,some ⟨3,[[.I g.size,.rs 16 0 A.length,ints g.gone]],0⟩),(16,some ⟨3,zbO A,0⟩)],192⟩ rfl ?_ ?_
   ·simp [h]
    exact Le.keep rfl (Nat.le_refl _) (by simp) (by simp)
   refine zad _ rfl (fun h5=>?_) fun h5=>zae ?_
   ·simp only [decide_eq_true_eq] at h5
    rw [if_pos h5]
    refine zcj rfl ?_
    have hrl : (zbO A).length = A.length:=by simp
    simp [h,zbR,List.replicate]
    refine ⟨by omega,by omega,rfl,?_⟩
    refine Le.ents [(24,24),(48,48),(256,16)] [] rfl (by simp) (by simp) (by simp) (by simp) (by simp) (by simp) fun p hp=>?_
    simp at hp
    rcases hp with rfl | rfl | rfl
    ·exact ⟨24,_,_,rfl,by simp,rfl,zaD.eq (by simp) (by simp)⟩
    ·exact ⟨48,_,_,rfl,by simp,rfl,zaD.eq (by simp) (by simp)⟩
    ·exact ⟨256,_,_,rfl,by simp,rfl,zaD.eq (by simp [fcd,zaI]) (by simp)⟩
   ·simp only [decide_eq_false_iff_not] at h5
    rw [if_neg h5,List.append_nil]
    exact ⟨(),trivial,Le.keep rfl (nbz rfl) (by simp) (by simp)⟩
  have hwj : IntKind.i64.wrap ((k : Int) + 1) = ((k + 1 : Nat) : Int):=by rw [w64 (by omega) (by omega)]; omega
  refine zaC rfl ?_
  simp [hwj]
  refine ⟨k + 1,by omega,by omega,?_⟩
  refine Le.ents [(24,24),(48,48),(16,16)] [] rfl (by simp) (by simp) (by simp [C]) (by simp) (by simp [C]) (by simp [C]) fun p hp=>?_
  simp [C] at hp
  rcases hp with rfl | rfl | rfl
  ·exact ⟨24,_,_,rfl,by simp,rfl,zaD.eq (by simp) (by simp)⟩
  ·exact ⟨48,_,_,rfl,by simp,rfl,zaD.eq (by simp) (by simp)⟩
  ·exact ⟨16,_,_,rfl,by simp,rfl,zaD.eq (by simp [fcd]) (by simp)⟩
 simp only [decide_eq_false_iff_not] at h
 obtain rfl : k = g.edges.length:=by omega
 have hF : F g.edges.length = (zao g v).edges:=by
  show (g.edges.take g.edges.length).filter _ = _
  rw [List.take_of_length_le (Nat.le_refl _)]
  rfl
 rw [hF]
 have hres : zao g v = ⟨g.size,(zao g v).edges,g.gone⟩:=rfl
 rw [hres]
 generalize (zao g v).edges = E at *
 refine zaa ?_
 refine zac (s:=?s21) rfl ?o21 ?q21
 case o21=>simp; rfl
 refine zag ?_
 refine ⟨.inr rfl,?_⟩
 show zam [(4,some (true,3))] 0 _ _ _
 refine zam.out (vs:=[.agg [.I g.size,.rs 16 0 E.length,ints g.gone]]) [] [16] (by simp) (by simp) (by simp) ?_ (by simp)
 simp [fcd,zaI]
def zmP (g : Gr) (lv f t : Int) : Prop:=∃ e ∈ g.edges,e.f = f ∧ e.t = t ∧ lv ≤ e.v
theorem zcz : ∀ {a b : List Int},a.Nodup → (∀ x ∈ a,x ∈ b) → b.length ≤ a.length → a.Perm b
 | [],b,_,_,hl=>by
   have : b = []:=List.length_eq_zero_iff.1 (by simpa using hl)
   rw [this]
 | x :: a,b,hn,hs,hl=>by
   have hx : x ∈ b:=hs x (List.mem_cons_self ..)
   rw [List.nodup_cons] at hn
   have hb:=List.perm_cons_erase hx
   have hlb : (b.erase x).length + 1 = b.length:=by have:=hb.length_eq; simp at this; omega
   refine (List.Perm.cons x (zcz hn.2 (fun y hy=>?_) ?_)).trans hb.symm
   ·have hy2:=hs y (List.mem_cons_of_mem _ hy)
    have hne : y ≠ x:=fun e=>hn.1 (e ▸ hy)
    exact (List.mem_erase_of_ne hne).2 hy2
   ·rw [List.length_cons] at hl
    omega
def srt (l : List Int) : List Int:=l.mergeSort fun x y=>decide (x ≤ y)
theorem zdt (l : List Int) : (srt l).Perm l:=List.mergeSort_perm ..
theorem zmY (l : List Int) : (srt l).Pairwise (· ≤ ·):=by
 have h:=List.pairwise_mergeSort (le:=fun x y : Int=>decide (x ≤ y)) (fun a b c h1 h2=>by simp at *; omega) (fun a b=>by simp; omega) l
 exact h.imp fun {a b} h=>by simpa using h
theorem zdQ {a b : List Int} : srt a = srt b ↔ a.Perm b:=by
 constructor
 ·intro h
  exact (zdt a).symm.trans (h ▸ zdt b)
 ·intro h
  exact List.Perm.eq_of_pairwise (le:=(· ≤ ·)) (fun x y _ _ h1 h2=>by omega) (zmY a) (zmY b) (((zdt a).trans h).trans (zdt b).symm)
def zru (g : Gr) (lv : Int) (seeds order w : List Int) : Prop :=
 (∃ k,w.head? = some k ∧ k ∈ seeds) ∧ (∀ k ∈ w,k ∈ order) ∧ w.Nodup ∧ ∀ i (h : i + 1 < w.length),zmP g lv w[i] w[i + 1]
def begC (P : List (List Int)) (k : Int) : Nat:=P.countP fun w=>decide (w.head? = some k)
def useC (P : List (List Int)) (k : Int) : Nat:=(P.flatMap List.dropLast).count k
def zjx (c : List Int) (P : List (List Int)) : Prop:=∀ k (h : k < c.length),(begC P k : Int) ≤ c[k] ∧ (useC P k : Int) ≤ max 0 (c[k] - 1)
def zgr (P : List (List Int)) : List Int:=P.filterMap List.getLast?
def zgl (g : Gr) (lv : Int) (seeds order c : List Int) (P : List (List Int)) (ends : List Int) : Prop :=
 (∀ w ∈ P,zru g lv seeds order w) ∧ zjx c P ∧ srt (zgr P) = srt ends
def zh4 (g : Gr) (lv : Int) (seeds order c : List Int) (P : List (List Int)) (ends : List Int) : Prop :=
 P.length = ends.length ∧ ends.Nodup ∧ (∀ w ∈ P,zru g lv seeds order w) ∧ (∀ k ∈ zgr P,k ∈ ends) ∧ (zgr P).Nodup ∧ zjx c P
theorem zru.ne {g : Gr} {lv : Int} {seeds order w : List Int} (h : zru g lv seeds order w) : w ≠ []:=by
 rintro rfl
 obtain ⟨k,hk,_⟩:=h.1
 cases hk
theorem zk5 {P : List (List Int)} (h : ∀ w ∈ P,w ≠ []) : (zgr P).length = P.length:=by
 unfold zgr
 induction P with
 | nil=>rfl
 | cons w P ih =>
   have hw:=h w (List.mem_cons_self ..)
   rw [List.filterMap_cons,List.getLast?_eq_some_getLast hw]
   simp only [List.length_cons]
   rw [ih fun x hx=>h x (List.mem_cons_of_mem _ hx)]
theorem ziI {g : Gr} {lv : Int} {seeds order c : List Int} {P : List (List Int)} {ends : List Int} (hn : ends.Nodup) : zgl g lv seeds order c P ends ↔ zh4 g lv seeds order c P ends:=by
 constructor
 ·rintro ⟨h1,h2,h3⟩
  have hp:=zdQ.1 h3
  have hl:=zk5 fun w hw=>(h1 w hw).ne
  exact ⟨by rw [← hl,hp.length_eq],hn,h1,fun k hk=>hp.mem_iff.1 hk,hp.nodup_iff.2 hn,h2⟩
 ·rintro ⟨h0,_,h1,h2,h3,h4⟩
  have hl:=zk5 fun w hw=>(h1 w hw).ne
  exact ⟨h1,h4,zdQ.2 (zcz h3 h2 (by omega))⟩
def zfu (order : List Int) (key : Int) : List Int:=order.takeWhile fun x=>decide (x ≠ key)
theorem zmd (x : Int) (o : List Int) (key : Int) : zfu (x :: o) key = if x = key then [] else x :: zfu o key:=by
 unfold zfu
 rw [List.takeWhile_cons]
 by_cases h : x = key <;> simp [h]
def zeS (order l : List Int) (key : Int) : Prop:=l.Sublist (zfu order key)
theorem ziw (order : List Int) (key : Int) : key ∉ zfu order key:=by
 induction order with
 | nil=>simp [zfu]
 | cons x o ih =>
   rw [zmd]
   split
   ·simp
   ·rename_i h
    simp only [List.mem_cons,not_or]
    exact ⟨fun e=>h e.symm,ih⟩
theorem zeS.nodup {order l : List Int} {key : Int} (h : zeS order l key) (hn : order.Nodup) : (l ++ [key]).Nodup:=by
 rw [List.nodup_append]
 refine ⟨(hn.sublist (List.takeWhile_sublist _)).sublist h,by simp,fun x hx y hy=>?_⟩
 rw [List.mem_singleton] at hy
 subst hy
 rintro rfl
 exact ziw order x (h.subset hx)
theorem znH (l : List Ed) (key : Int) : (outs l key).length = l.countP fun e=>decide (e.f = key):=by
 induction l with
 | nil=>rfl
 | cons e l ih =>
   unfold outs at *
   by_cases h : e.f = key <;> simp [List.filterMap_cons,List.countP_cons,h,ih]
theorem GrOk.fits {g : Gr} (h : GrOk g) : ∀ e ∈ g.edges,Fits g e:=by
 intro e he
 obtain ⟨i,hi,rfl⟩:=List.mem_iff_getElem.1 he
 exact (h.2 i hi).1
theorem EqG.rfl' (a : Gr) : EqG a a:=⟨rfl,rfl,rfl⟩
abbrev zeQ (l : List Int) : List Int:=l.mergeSort fun x y=>decide (x ≤ y)
theorem zgi (l : List Int) : (zeQ l).length = l.length:=List.length_mergeSort ..
theorem znG {l : List Int} {x : Int} : x ∈ zeQ l ↔ x ∈ l:=List.mem_mergeSort
theorem GrOk.pair {g : Gr} (h : GrOk g) : g.edges.Pairwise Bef:=by
 rw [List.pairwise_iff_getElem]
 intro i j hi hj hij
 exact h.lt j i hi hj hij
theorem zgX {st st' : St} {i j : Nat} {sn : List Nat} {e e' : Ent} (hsz : st'.sz = st.sz) (hh : st'.h = [(j,some e')]) (hj : j < st'.n) (hs : ∀ k ∈ sn,k ≠ i) (he : st.hp i = some e) (hee : zaz [(i,j)] sn st.hp 4 e = e') (hr : e'.ro ≤ e'.rows.length) (ht : ∀ p ∈ st'.t,Wk (conv [(i,j)] sn st.hp 4 (st.get p.1)) p.2) : Le 0 st st' :=
 Le.ents [(i,j)] sn hsz (by simp) (by simp) (by simpa using hj) (by simpa using hs) (Nat.zero_le _) ht (fun p hp=>by
  rw [hh] at hp
  simp at hp
  subst hp
  exact ⟨i,e,e',rfl,by simp,he,zaD.eq hee hr⟩)
theorem zjv (f : FuncId) (capt : List AV) (q : Int → Bool) (l : List Int) (hl : l.length ≤ 1099511627776) (hs : zkh capt) (hc : ∀ e ∈ l,zaj Tryz.prog f (AV.I e :: capt) [] (.B (q e)) []) : zaj Tryz.prog za9 [ints l,.fn (.func f) [] capt] [] (.I (idxQ l q)) []:=by
 have hs2 : ∀ ρ sn h,capt.map (conv ρ sn h 2) = capt:=fun _ _ _=>hs _ _ _ 1
 have hs3 : ∀ ρ sn h,capt.map (conv ρ sn h 3) = capt:=fun _ _ _=>hs _ _ _ 2
 have hs4 : ∀ ρ sn h,capt.map (conv ρ sn h 4) = capt:=fun _ _ _=>hs _ _ _ 3
 refine zdf.acalls (nbz rfl) (nbz rfl) (Nat.le_refl _) ?_
 show awp _ 0 _ _ ⟨19,[(0,ints l),(1,.fn (.func f) [] capt)],[],16⟩
 refine zaa ?_
 refine zac (s:=?s1) rfl ?o1 ?q1
 case o1=>simp; rfl
 refine zaa ?_
 refine zaa ?_
 refine zac (s:=?s2) rfl ?o2 ?q2
 case o2=>simp; rfl
 refine zaf ?_
 refine zan (ι:=Nat) (fun k=>⟨19,[(0,ints l),(1,.fn (.func f) [] capt),(7,.I l.length),(8,.I k)],[],16⟩) (fun k=>k ≤ l.length ∧ ∀ i,i < k → ∀ h : i < l.length,q l[i] = false) (fun k=>l.length - k) (0) ?_ (Le.snap [] rfl rfl (by simp [hs2,hs3,hs4])) ?_
 ·simp
 rintro k ⟨hk,hp⟩
 refine zaa ?_
 refine zac (s:=?s3) rfl ?o3 ?q3
 case o3=>simp; rfl
 refine zaa ?_
 refine zad _ rfl (fun h4=>?_) fun h4=>?_
 ·try simp at h4
  have hw2 : IntKind.i64.wrap ((k : Int) + 1) = (k : Int) + 1:=w64 (by omega) (by omega)
  have hck:=hc l[k] (List.getElem_mem h4)
  refine zae ?_
  refine zaa ?_
  refine zaf ?_
  refine zaa ?_
  refine zac (s:=?s5) rfl ?o5 ?q5
  case o5=>simp [h4,hw2]; rfl
  refine zaa ?_
  refine zac (s:=?s6) rfl ?o6 ?q6
  case o6 =>
   simp [h4,hw2]
   refine zal hck ?_ ?_
   ·simp [hs2,hs3,hs4]
   simp [h4,hw2]; rfl
  refine zad _ rfl (fun h7=>?_) fun h7=>?_
  ·try simp at h7
   refine zaa ?_
   refine zac (s:=?s8) rfl ?o8 ?q8
   case o8=>simp [h4,hw2]; rfl
   refine zag ?_
   exact ⟨.inr rfl,zam.one (by simp [zot h4 hp h7])⟩
  try simp at h7
  refine zae ?_
  refine zac (s:=?s9) rfl ?o9 ?q9
  case o9=>simp [h4,hw2]; rfl
  refine ⟨k + 1,⟨h4,fun i hi=>?_⟩,by omega,Le.snap [] rfl rfl (by simp [h4,hw2,hs2,hs3,hs4])⟩
  rcases Nat.lt_succ_iff_lt_or_eq.1 hi with h | rfl
  ·exact hp i h
  ·exact fun _=>h7
 try simp at h4
 have hall : ∀ i,i < l.length → ∀ h : i < l.length,q l[i] = false:=fun i hi=>hp i (by omega)
 refine zak ?_
 refine hit ?_
 refine zaa ?_
 refine zac (s:=?s10) rfl ?o10 ?q10
 case o10=>simp; rfl
 refine zag ?_
 exact ⟨.inr rfl,zam.one (by simp [zpe hall])⟩
abbrev zah (l : List Int) : List (List AV):=l.map fun e=>[AV.I e]
theorem zfb {l : List Int} {q : Int → Bool} (h : ∀ i,i < l.length → ∀ h : i < l.length,q l[i] = false) : l.filter (fun e=>!q e) = l:=by
 rw [List.filter_eq_self]
 intro x hx
 obtain ⟨i,hi,rfl⟩:=List.mem_iff_getElem.1 hx
 simp [h i hi hi]
theorem zdG (l : List Int) (q : Int → Bool) (j : Nat) (h : j < l.length) : (l.take (j + 1)).filter (fun e=>!q e) = (l.take j).filter (fun e=>!q e) ++ if q l[j] = true then [] else [l[j]]:=by
 rw [← List.take_concat_get h,List.concat_eq_append,List.filter_append]
 congr 1
 cases hq : q l[j] <;> simp [hq]
set_option maxRecDepth 100000 in
theorem zih (f : FuncId) (capt : List AV) (q : Int → Bool) (l : List Int) (n m : Nat) (hn : l.length = n) (hm : (l.filter fun e=>!q e).length = m) (hl : n ≤ 1099511627776) (hs : zkh capt) (hc : ∀ e ∈ l,zaj Tryz.prog f (AV.I e :: capt) [] (.B (q e)) []) :
  zaj Tryz.prog za3 [.rs 0 0 n,.fn (.func f) [] capt] [⟨1,zah l,0⟩] (.rs 0 0 m) [some ⟨1,zah (l.filter fun e=>!q e) ++ List.replicate (n - m) [.I 0],0⟩]:=by
 have hs2 : ∀ ρ sn h,capt.map (conv ρ sn h 2) = capt:=fun _ _ _=>hs _ _ _ 1
 have hs3 : ∀ ρ sn h,capt.map (conv ρ sn h 3) = capt:=fun _ _ _=>hs _ _ _ 2
 have hs4 : ∀ ρ sn h,capt.map (conv ρ sn h 4) = capt:=fun _ _ _=>hs _ _ _ 3
 refine zc2.acalls (nbz rfl) (nbz rfl) (nbz rfl) ?_
 show awp _ 1 _ _ ⟨42,[(0,.rs 0 0 n),(1,.fn (.func f) [] capt)],[(0,some ⟨1,zah l,0⟩)],16⟩
 have hmn : m ≤ n:=by rw [← hm,← hn]; exact List.length_filter_le _ _
 refine zab ⟨42,[(0,.rs 0 0 n),(1,.fn (.func f) [] capt)],[(0,some ⟨1,zah l,0⟩)],24⟩ rfl ?_ ?_
 ·simp
  exact Le.keep rfl (Nat.le_refl _) (by simp) (by simp)
 refine zab ⟨42,[(0,.rs 0 0 n),(1,.fn (.func f) [] capt),(5,.I (idxQ l q))],[(0,some ⟨1,zah l,0⟩)],56⟩ rfl ?_ ?_
 ·simp
  refine ziE [0] (zjv f capt q l (by omega) hs hc) ?_ (.sc _) ?_
  ·simp [hs2,hs3,hs4,← hn,fcd,zaI]
  simp
  exact Le.keep rfl (Nat.le_refl _) (by simp) (by simp)
 refine zaa ?_
 refine zab ⟨42,[(0,.rs 0 0 n),(1,.fn (.func f) [] capt),(5,.I (idxQ l q)),(12,.B (decide (idxQ l q = -1)))],[(0,some ⟨1,zah l,0⟩)],72⟩ rfl ?_ ?_
 ·simp
  exact Le.keep rfl (Nat.le_refl _) (by simp <;> rw [Bool.eq_iff_iff] <;> simp) (by simp)
 refine zad _ rfl (fun h=>?_) fun h=>zae ?_
 ·simp only [decide_eq_true_eq] at h
  have hno : ∀ i,i < l.length → ∀ h : i < l.length,q l[i] = false:=by
   intro i hi _
   unfold idxQ at h
   split at h
   ·omega
   ·rename_i hnl
    have : l.findIdx q = l.length:=by have:=List.findIdx_le_length (xs:=l) (p:=q); omega
    rw [List.findIdx_eq_length] at this
    exact this _ (List.getElem_mem hi)
  have hf:=zfb hno
  rw [hf] at hm ⊢
  obtain rfl : n = m:=by omega
  refine zaa ?_
  refine zac (s:=?s1) rfl ?o1 ?q1
  case o1=>simp; rfl
  refine zag ?_
  refine ⟨.inr rfl,⟨[.rs 0 0 n],rfl,[],[],by simp [List.range,List.range.loop],by simp,by simp,?_,?_⟩⟩
  ·simp [List.range,List.range.loop]
  ·simp [List.range,List.range.loop,fcd]
 simp only [decide_eq_false_iff_not] at h
 obtain ⟨i0,hi0,hlt,hbef,hat⟩ : ∃ i0 : Nat,idxQ l q = i0 ∧ i0 < l.length ∧ (∀ i,i < i0 → ∀ h : i < l.length,q l[i] = false) ∧ ∀ h : i0 < l.length,q l[i0] = true:=by
  unfold idxQ at h ⊢
  split at h
  ·rename_i hlt
   refine ⟨l.findIdx q,by rw [if_pos hlt],hlt,fun i hi _=>?_,fun h=>List.findIdx_getElem (w:=h)⟩
   simpa using List.not_of_lt_findIdx hi
  ·omega
 rw [hi0]
 have hA0 : (l.take (i0 + 1)).filter (fun e=>!q e) = l.take i0:=by
  rw [zdG l q i0 hlt,if_pos (hat hlt),List.append_nil]
  refine zfb fun i hi h=>?_
  rw [List.length_take] at hi
  simp only [List.getElem_take]
  exact hbef i (by omega) (by omega)
 have hw0 : IntKind.i64.wrap ((i0 : Int) + 1) = ((i0 + 1 : Nat) : Int):=by rw [w64 (by omega) (by omega)]; omega
 let C : Nat × List Int → St:=fun p=>⟨42,[(0,.rs 0 0 n),(1,.fn (.func f) [] capt),(5,.I ((l.take p.1).filter fun e=>!q e).length),(6,.I p.1)],[(0,some ⟨1,zah ((l.take p.1).filter (fun e=>!q e) ++ p.2 ++ l.drop p.1),0⟩)],96⟩
 refine zaa ?_
 refine zab (C (i0 + 1,[l[i0]])) rfl ?_ ?_
 ·simp [hw0]
  refine Le.keep rfl (Nat.le_refl _) ?_ ?_
  ·simp only [C,hA0]
   simp
   omega
  ·simp only [C,hA0]
   simp
 refine zaf ?_
 refine zan C (fun p : Nat × List Int=>p.1 ≤ n ∧ p.2 ≠ [] ∧ ((l.take p.1).filter fun e=>!q e).length + p.2.length = p.1) (fun p : Nat × List Int=>n - p.1) (i0 + 1,[l[i0]]) ?_ (Le.refl _ _) ?_
 ·simp only [hA0]
  simp
  omega
 rintro ⟨j,M⟩ ⟨hj,hM,hlen⟩
 simp only at hj hM hlen ⊢
 obtain ⟨A,hA⟩ : ∃ A,A = (l.take j).filter fun e=>!q e:=⟨_,rfl⟩
 rw [← hA] at hlen
 have hC : C (j,M) = ⟨42,[(0,.rs 0 0 n),(1,.fn (.func f) [] capt),(5,.I A.length),(6,.I j)],[(0,some ⟨1,zah (A ++ M ++ l.drop j),0⟩)],96⟩:=by subst hA; rfl
 rw [hC]
 refine zaa ?_
 refine zab ⟨42,[(0,.rs 0 0 n),(1,.fn (.func f) [] capt),(5,.I A.length),(6,.I j),(19,.B (decide (j < n)))],[(0,some ⟨1,zah (A ++ M ++ l.drop j),0⟩)],128⟩ rfl ?_ ?_
 ·simp
  exact Le.keep rfl (Nat.le_refl _) (by simp) (by simp)
 refine zad _ rfl (fun h=>zae ?_) fun h=>zak (hit ?_)
 ·simp only [decide_eq_true_eq] at h
  have hjl : j < l.length:=by omega
  match M,hM,hlen with
  | m0 :: M1,_,hlen =>
  simp only [List.length_cons] at hlen
  have hnext:=zdG l q j hjl
  rw [← hA] at hnext
  have hget : (zah (A ++ m0 :: M1 ++ l.drop j))[j]? = some [AV.I l[j]]:=by
   rw [List.getElem?_map,List.getElem?_append_right (by simp; omega),List.getElem?_drop,show j + (j - (A ++ m0 :: M1).length) = j by simp; omega,List.getElem?_eq_getElem hjl]
   rfl
  have hget2 : (zah (A ++ m0 :: M1 ++ l.drop j))[A.length]? = some [AV.I m0]:=by
   rw [List.getElem?_map,List.append_assoc,List.getElem?_append_right (by omega)]
   simp
  have hset : (zah (A ++ m0 :: M1 ++ l.drop j)).set A.length [AV.I l[j]] = zah ((A ++ [l[j]]) ++ (M1 ++ [l[j]]) ++ l.drop (j + 1)):=by
   have e1 : l.drop j = l[j] :: l.drop (j + 1):=List.drop_eq_getElem_cons hjl
   rw [e1]
   simp [zah,List.set_append]
  have hmore : A ++ m0 :: M1 ++ l.drop j = A ++ (m0 :: M1 ++ [l[j]]) ++ l.drop (j + 1):=by
   have e1 : l.drop j = l[j] :: l.drop (j + 1):=List.drop_eq_getElem_cons hjl
   rw [e1]
   simp
  generalize hrows : zah (A ++ m0 :: M1 ++ l.drop j) = R at *
  have hRl : R.length = n:=by rw [← hrows]; simp; omega
  have hck:=hc l[j] (List.getElem_mem hjl)
  generalize hv : l[j] = v at *
  refine zat (ι:=List Int × List Int) (fun p=>⟨42,[(0,.rs 0 0 n),(1,.fn (.func f) [] capt),(5,.I p.1.length),(6,.I j)],[(0,some ⟨1,zah (p.1 ++ p.2 ++ l.drop (j + 1)),0⟩)],272⟩)
   (fun p=>p.1 = (l.take (j + 1)).filter (fun e=>!q e) ∧ p.2 ≠ [] ∧ p.1.length + p.2.length = j + 1) ?_ ?_
  ·refine zaf ?_
   refine zab ⟨42,[(0,.rs 0 0 n),(1,.fn (.func f) [] capt),(5,.I A.length),(6,.I j),(7,.I v)],[(0,some ⟨1,R,0⟩)],168⟩ rfl ?_ ?_
   ·simp [h,hget]
    exact Le.keep rfl (Nat.le_refl _) (by simp) (by simp)
   refine zab ⟨42,[(0,.rs 0 0 n),(1,.fn (.func f) [] capt),(5,.I A.length),(6,.I j),(7,.I v),(29,.B (!q v))],[(0,some ⟨1,R,0⟩)],200⟩ rfl ?_ ?_
   ·simp
    refine zal hck ?_ ?_
    ·simp [hs2,hs3,hs4]
    simp
    exact Le.keep rfl (Nat.le_refl _) (by simp) (by simp)
   refine zad _ rfl (fun h5=>?_) fun h5=>zae ?_
   ·simp only [Bool.not_eq_true'] at h5
    rw [h5] at hnext
    refine zab ⟨42,[(0,.rs 0 0 n),(1,.fn (.func f) [] capt),(5,.I A.length),(6,.I j)],[(0,some ⟨1,zah ((A ++ [v]) ++ (M1 ++ [v]) ++ l.drop (j + 1)),0⟩)],240⟩ rfl ?_ ?_
    ·simp [hget2,show A.length < n by omega,zbR,hset]
     exact Le.keep rfl (Nat.le_refl _) (by simp) (by simp)
    have hwA : IntKind.i64.wrap ((A.length : Int) + 1) = ((A.length + 1 : Nat) : Int):=by rw [w64 (by omega) (by omega)]; omega
    refine zaC rfl ?_
    simp [hwA]
    refine ⟨A ++ [v],M1 ++ [v],⟨by rw [hnext]; simp,by simp,by simp; omega⟩,Le.keep rfl (nbz rfl) (by simp) (by simp)⟩
   ·simp only [Bool.not_eq_false'] at h5
    rw [h5] at hnext
    refine ⟨(A,m0 :: M1 ++ [v]),⟨by rw [hnext]; simp,by simp,by simp; omega⟩,Le.keep rfl (nbz rfl) (by simp) ?_⟩
    rw [← hmore,hrows]
    simp
  rintro ⟨A',M'⟩ ⟨p1,p2,p3⟩
  simp only at p1 p2 p3 ⊢
  have hwj : IntKind.i64.wrap ((j : Int) + 1) = ((j + 1 : Nat) : Int):=by rw [w64 (by omega) (by omega)]; omega
  refine zaC rfl ?_
  simp [hwj]
  refine ⟨j + 1,M',⟨by omega,p2,by rw [← p1]; omega⟩,by omega,?_⟩
  have hD : C (j + 1,M') = ⟨42,[(0,.rs 0 0 n),(1,.fn (.func f) [] capt),(5,.I A'.length),(6,.I ((j + 1 : Nat) : Int))],[(0,some ⟨1,zah (A' ++ M' ++ l.drop (j + 1)),0⟩)],96⟩:=by rw [p1]
  rw [hD]
  refine Le.ents [(0,0)] [] rfl (by simp) (by simp) (by simp) (by simp) (by simp) (by simp [hs2,hs3,hs4]) fun p hp=>?_
  simp at hp
  subst hp
  exact ⟨0,_,_,rfl,by simp,rfl,zaD.eq (by simp [fcd]) (by simp)⟩
 simp only [decide_eq_false_iff_not] at h
 obtain rfl : j = n:=by omega
 have hd : l.drop j = []:=List.drop_eq_nil_of_le (by omega)
 have ht : l.take j = l:=List.take_of_length_le (by omega)
 rw [ht] at hA
 rw [hd,List.append_nil]
 rw [← hA] at hm ⊢
 subst hm
 have hAM : (zah (A ++ M)).take A.length = zah A:=by simp [zah]
 have hAd : (zah (A ++ M)).drop (A.length + (j - A.length)) = []:=List.drop_eq_nil_of_le (by simp; omega)
 have hAl : (zah (A ++ M)).length = j:=by simp; omega
 generalize zah (A ++ M) = R at *
 refine zab ⟨42,[(0,.rs 0 0 j),(5,.I A.length)],[(0,some ⟨1,zah A ++ List.replicate (j - A.length) [.I 0],0⟩)],160⟩ rfl ?_ ?_
 ·simp
  refine ⟨by omega,by omega,?_⟩
  rw [hAM,hAd]
  exact Le.keep rfl (Nat.le_refl _) (by simp) (by simp)
 refine zaa ?_
 refine zac (s:=?s2) rfl ?o2 ?q2
 case o2 =>
  simp
  refine ⟨by omega,?_⟩
  rfl
 refine zag ?_
 refine ⟨.inr rfl,⟨[.rs 0 0 A.length],rfl,[],[],by simp [List.range,List.range.loop],by simp,by simp,?_,?_⟩⟩
 ·simp [List.range,List.range.loop]
 ·simp [List.range,List.range.loop,fcd]
def za6 (n : Nat) (q : Int → Bool) : List Int:=((List.range n).map fun (i : Nat)=>(i : Int)).filter q
theorem zl8 (n : Nat) (q : Int → Bool) : za6 (n + 1) q = za6 n q ++ if q n = true then [(n : Int)] else []:=by
 unfold za6
 rw [List.range_succ,List.map_append,List.filter_append]
 congr 1
 cases hq : q n <;> simp [hq]
theorem zhs (n : Nat) (q : Int → Bool) : (za6 n q).length ≤ n:=by
 unfold za6
 have:=List.length_filter_le q ((List.range n).map fun (i : Nat)=>(i : Int))
 simpa using this
set_option maxRecDepth 100000 in
theorem znn (f : FuncId) (capt : List AV) (q : Int → Bool) (N : Int) (hN : N ≤ 1000000) (hs : zkh capt) (hc : ∀ k : Nat,(k : Int) < N → zaj Tryz.prog f (AV.I k :: capt) [] (.B (q k)) []) :
  zaj Tryz.prog zcJ [.I N,.fn (.func f) [] capt] [] (.rs 0 0 (za6 N.toNat q).length) [some ⟨1,zah (za6 N.toNat q),0⟩]:=by
 have hs2 : ∀ ρ sn h,capt.map (conv ρ sn h 2) = capt:=fun _ _ _=>hs _ _ _ 1
 have hs3 : ∀ ρ sn h,capt.map (conv ρ sn h 3) = capt:=fun _ _ _=>hs _ _ _ 2
 have hs4 : ∀ ρ sn h,capt.map (conv ρ sn h 4) = capt:=fun _ _ _=>hs _ _ _ 3
 refine zk7.acalls (nbz rfl) (nbz rfl) (Nat.zero_le _) ?_
 show awp _ 0 _ _ ⟨20,[(0,.I N),(1,.fn (.func f) [] capt)],[],16⟩
 refine zaa ?_
 refine zac (s:=?s0) rfl ?o0 ?q0
 case o0=>simp; rfl
 refine zaa ?_
 refine zac (s:=?s1) rfl ?o1 ?q1
 case o1=>simp; rfl
 refine zaa ?_
 refine zaa ?_
 refine zac (s:=?s2) rfl ?o2 ?q2
 case o2=>simp; rfl
 refine zaf ?_
 let C : Nat → St:=fun k=>⟨20,[(1,.fn (.func f) [] capt),(5,.rs 16 0 (za6 k q).length),(7,.I N),(8,.I k)],[(16,some ⟨1,zah (za6 k q),0⟩)],24⟩
 refine zan C (fun k=>k ≤ N.toNat) (fun k=>N.toNat - k) 0 (Nat.zero_le _) (Le.lst [] [] [(16,1)] rfl (by simp) (by simp) (by simp) (by simp [C]) (by simp) (by simp) (by simp) (by simp [C,Up,za6,hs2,hs3,hs4]) (by simp [C,za6])) ?_
 intro k hk
 have hwl:=zhs k q
 have hCk : C k = ⟨20,[(1,.fn (.func f) [] capt),(5,.rs 16 0 (za6 k q).length),(7,.I N),(8,.I k)],[(16,some ⟨1,zah (za6 k q),0⟩)],24⟩:=rfl
 rw [hCk]
 refine zab ⟨20,[(1,.fn (.func f) [] capt),(5,.rs 16 0 (za6 k q).length),(7,.I N),(8,.I k),(9,.B (decide ((k : Int) < N)))],[(16,some ⟨1,zah (za6 k q),0⟩)],32⟩ rfl ?_ ?_
 ·simp
  exact Le.keep rfl (Nat.le_refl _) (by simp) (by simp)
 refine zaa ?_
 refine zad _ rfl (fun h=>zae ?_) fun h=>zak (hit ?_)
 ·simp only [decide_eq_true_eq] at h
  have hck:=hc k h
  have hnext:=zl8 k q
  have hw2 : IntKind.i64.wrap ((k : Int) + 1) = ((k + 1 : Nat) : Int):=by rw [w64 (by omega) (by omega)]; omega
  refine zat (ι:=Unit) (fun _=>⟨20,[(1,.fn (.func f) [] capt),(5,.rs 16 0 (za6 (k + 1) q).length),(7,.I N),(8,.I k)],[(16,some ⟨1,zah (za6 (k + 1) q),0⟩)],24⟩) (fun _=>True) ?_ fun _ _=>?_
  ·rw [hnext]
   generalize za6 k q = W at *
   refine zaf ?_
   refine zaa ?_
   refine zac (s:=?s3) rfl ?o3 ?q3
   case o3=>simp; rfl
   refine zab ⟨20,[(1,.fn (.func f) [] capt),(5,.rs 16 0 W.length),(6,.I k),(7,.I N),(8,.I k),(13,.B (q k))],[(16,some ⟨1,zah W,0⟩)],72⟩ rfl ?_ ?_
   ·simp
    refine zal hck ?_ ?_
    ·simp [hs2,hs3,hs4]
    simp
    exact Le.keep rfl (Nat.le_refl _) (by simp) (by simp)
   refine zad _ rfl (fun h5=>?_) fun h5=>zae ?_
   ·rw [if_pos h5]
    refine zaC rfl ?_
    simp [List.replicate]
    refine ⟨by omega,by omega,zgX (i:=96) (sn:=[]) rfl rfl (by simp) (by simp) rfl (by simp [fcd,zaI]) (by simp) (by simp [hs2,hs3,hs4])⟩
   ·rw [if_neg (by simp [h5]),List.append_nil]
    exact ⟨(),trivial,zgX (i:=16) (sn:=[]) rfl rfl (by simp) (by simp) rfl (by simp [fcd]) (by simp) (by simp [hs2,hs3,hs4])⟩
  refine zaC rfl ?_
  simp [hw2]
  exact ⟨k + 1,by omega,by omega,zgX (i:=16) (sn:=[]) rfl rfl (by simp [C]) (by simp) rfl (by simp [fcd]) (by simp) (by simp [C,hs2,hs3,hs4])⟩
 simp only [decide_eq_false_iff_not] at h
 obtain rfl : k = N.toNat:=by omega
 generalize za6 N.toNat q = W at *
 refine zaa ?_
 refine zac (s:=?s9) rfl ?o9 ?q9
 case o9=>simp; rfl
 refine zag ?_
 exact ⟨.inr rfl,zam.out [16] [] rfl (by simp) (by simp) (by simp) (by simp [fcd])⟩
theorem wu64 {x : Int} (h1 : 0 ≤ x) (h2 : x < 18446744073709551616) : IntKind.u64.wrap x = x:=by rw [IntKind.wrap_u64]; omega
theorem zrV (n : Nat) (h : n < 4294967296) : binV .and (.int .u64 (n : Int)) (.int .u64 4294967295) = some (.int .u64 (n : Int)):=by
 have e : (BitVec.ofInt 64 (n : Int) &&& BitVec.ofInt 64 4294967295).toNat = n:=by
  have h1 : (BitVec.ofInt 64 (n : Int)).toNat = n:=by
   rw [BitVec.toNat_ofInt]
   omega
  have h2 : (BitVec.ofInt 64 (4294967295 : Int)).toNat = 2 ^ 32 - 1:=rfl
  rw [BitVec.toNat_and,h1,h2,Nat.and_two_pow_sub_one_eq_mod]
  omega
 show some (Value.int .u64 (IntKind.u64.wrap ((BitVec.ofInt 64 (n : Int) &&& BitVec.ofInt 64 4294967295).toNat : Int))) = _
 rw [e,wu64 (by omega) (by omega)]
theorem zsE (n : Nat) (h : n < 4294967296) : binV .shr (.int .u64 (n : Int)) (.int .u64 32) = some (.int .u64 0):=by
 show (if (0 : Int) ≤ 32 then some (Value.int .u64 ((n : Int).fdiv (2 ^ (min (32 : Int).toNat 64)))) else none) = _
 rw [if_pos (by omega)]
 congr 2
 have : (2 : Int) ^ (min (32 : Int).toNat 64) = 4294967296:=rfl
 rw [this,Int.fdiv_eq_ediv_of_nonneg _ (by omega)]
 omega
abbrev U (n : Int) : AV:=.sc (.int .u64 n)
theorem zrn (n : Nat) (h : n < 4294967296) : zaj Tryz.prog zbu [U 1,U n] [] (.tup [U 0,U n]) []:=by
 refine zem.acalls (nbz rfl) (nbz rfl) (Nat.le_refl _) ?_
 show awp _ 0 _ _ ⟨51,[(0,U 1),(1,U n)],[],16⟩
 have a1 : binV .and (.int .u64 1) (.int .u64 4294967295) = some (.int .u64 1):=zrV 1 (by omega)
 have a0 : binV .and (.int .u64 0) (.int .u64 4294967295) = some (.int .u64 0):=zrV 0 (by omega)
 have an:=zrV n h
 have s1 : binV .shr (.int .u64 1) (.int .u64 32) = some (.int .u64 0):=zsE 1 (by omega)
 have s0 : binV .shr (.int .u64 0) (.int .u64 32) = some (.int .u64 0):=zsE 0 (by omega)
 have sn:=zsE n h
 have m1 : ∀ a : Int,binV .mul (.int .u64 0) (.int .u64 a) = some (.int .u64 0):=fun a=>by
  show some (Value.int .u64 (IntKind.u64.wrap (0 * a))) = _
  rw [Int.zero_mul]
  rfl
 have m2 : binV .mul (.int .u64 1) (.int .u64 (n : Int)) = some (.int .u64 (n : Int)):=by
  show some (Value.int .u64 (IntKind.u64.wrap (1 * (n : Int)))) = _
  rw [Int.one_mul,wu64 (by omega) (by omega)]
 have m3 : binV .mul (.int .u64 1) (.int .u64 0) = some (.int .u64 0):=rfl
 have d0 : binV .add (.int .u64 0) (.int .u64 0) = some (.int .u64 0):=rfl
 refine zaa ?_
 refine zac (s:=?z1) rfl ?p1 ?r1
 case p1=>simp; rfl
 refine zaa ?_
 refine zac (s:=?z2) rfl ?p2 ?r2
 case p2=>simp [-binV,a1]; rfl
 refine zaa ?_
 refine zac (s:=?z3) rfl ?p3 ?r3
 case p3=>simp [-binV,s1]; rfl
 refine zaa ?_
 refine zac (s:=?z4) rfl ?p4 ?r4
 case p4=>simp [-binV,an]; rfl
 refine zaa ?_
 refine zac (s:=?z5) rfl ?p5 ?r5
 case p5=>simp [-binV,sn]; rfl
 refine zaa ?_
 refine zac (s:=?z6) rfl ?p6 ?r6
 case p6=>simp [-binV,m2]; rfl
 refine zaa ?_
 refine zac (s:=?z7) rfl ?p7 ?r7
 case p7=>simp [-binV,m1,sn,d0]; rfl
 refine zaa ?_
 refine zac (s:=?z8) rfl ?p8 ?r8
 case p8=>simp [-binV,a0]; rfl
 refine zaa ?_
 refine zac (s:=?z9) rfl ?p9 ?r9
 case p9=>simp [-binV,s0]; rfl
 refine zaa ?_
 refine zac (s:=?z10) rfl ?p10 ?r10
 case p10=>simp [-binV,m3,d0]; rfl
 refine zaa ?_
 refine zac (s:=?z11) rfl ?p11 ?r11
 case p11=>simp [-binV,m1,d0,s0]; rfl
 refine zaa ?_
 refine zac (s:=?z12) rfl ?p12 ?r12
 case p12=>simp [-binV,m2]; rfl
 refine zag ?_
 exact ⟨.inr rfl,zam.out [] [] rfl (by simp) (by simp) (by simp) (by simp)⟩
theorem zsU (n : Nat) (h : n < 4294967296) : zaj Tryz.prog zdx [U 1,U n] [] (.tup [U 0,U n]) []:=by
 refine zit.acalls (nbz rfl) (nbz rfl) (Nat.le_refl _) ?_
 show awp _ 0 _ _ ⟨30,[(0,U 1),(1,U n)],[],16⟩
 refine zaa ?_
 refine zac (s:=?z1) rfl ?p1 ?r1
 case p1=>simp; rfl
 refine zaa ?_
 refine zad _ rfl (fun h=>by cases h) fun _=>zae ?_
 refine zaa ?_
 refine zac (s:=?z2) rfl ?p2 ?r2
 case p2=>simp; refine zal (zrn n h) rfl ?_; simp; rfl
 refine zaa ?_
 refine zac (s:=?z3) rfl ?p3 ?r3
 case p3=>simp; rfl
 refine zag ?_
 exact ⟨.inr rfl,zam.out [] [] rfl (by simp) (by simp) (by simp) (by simp)⟩
set_option maxRecDepth 100000 in
theorem zos (v : Int) (n : Nat) (hn : n ≤ 1000000) : zaj Tryz.prog zbq [ints [v],.I n] [] (.rs 0 0 n) [some ⟨1,List.replicate n [AV.I v],0⟩]:=by
 refine zdW.acalls (nbz rfl) (nbz rfl) (Nat.zero_le _) ?_
 show awp _ 0 _ _ ⟨48,[(0,ints [v]),(1,.I n)],[],16⟩
 have hu1 : IntKind.u64.wrap 1 = 1:=rfl
 have hun : IntKind.u64.wrap (n : Int) = n:=wu64 (by omega) (by omega)
 have hin : IntKind.i64.wrap (n : Int) = n:=w64 (by omega) (by omega)
 refine zaa ?_
 refine zac (s:=?z1) rfl ?p1 ?r1
 case p1=>simp; rfl
 refine zaa ?_
 refine zab ⟨48,[(0,ints [v]),(1,.I n),(10,.B false)],[],40⟩ rfl ?_ ?_
 ·simp
  exact Le.keep rfl (Nat.le_refl _) (by simp) (by simp)
 refine zad _ rfl (fun h=>by cases h) fun _=>zae ?_
 refine zab ⟨48,[(0,ints [v]),(1,.I n),(5,U 0),(6,U n)],[],128⟩ rfl ?_ ?_
 ·simp [hu1,hun]
  refine zal (zsU n (by omega)) rfl ?_
  simp
  exact Le.keep rfl (Nat.le_refl _) (by simp) (by simp)
 refine zaa ?_
 refine zab ⟨48,[(0,ints [v]),(1,.I n),(5,U 0),(6,U n),(26,.B false)],[],176⟩ rfl ?_ ?_
 ·simp
  exact Le.keep rfl (Nat.le_refl _) (by simp; omega) (by simp)
 refine zad _ rfl (fun h=>by cases h) fun _=>zae ?_
 refine zab ⟨48,[(0,ints [v]),(7,.rs 192 0 n)],[(192,some ⟨1,List.replicate n [.I 0],0⟩)],208⟩ rfl ?_ ?_
 ·simp [hin]
  exact ⟨by omega,by omega,Le.keep rfl (Nat.le_refl _) (by simp) (by simp)⟩
 let R : Nat → List (List AV):=fun m=>List.replicate m [AV.I v] ++ List.replicate (n - m) [AV.I 0]
 have hRl : ∀ m,m ≤ n → (R m).length = n:=fun m hm=>by simp [R]; omega
 refine zab ⟨48,[(7,.rs 192 0 n),(8,.I (min 1 n : Nat))],[(192,some ⟨1,R (min 1 n),0⟩)],240⟩ rfl ?_ ?_
 ·simp
  refine Le.keep rfl (Nat.le_refl _) (by simp) ?_
  cases n with
  | zero=>simp [R]
  | succ n=>simp [R,List.replicate]
 refine zaa ?_
 refine zaf ?_
 refine zan (ι:=Nat) (fun m=>⟨48,[(7,.rs 192 0 n),(8,.I m)],[(192,some ⟨1,R m,0⟩)],240⟩) (fun m=>m ≤ n ∧ (m = 0 → n = 0)) (fun m=>n - m) (min 1 n) ⟨by omega,by omega⟩ (Le.refl _ _) ?_
 rintro m ⟨hm,hm0⟩
 refine zaa ?_
 refine zab ⟨48,[(7,.rs 192 0 n),(8,.I m),(37,.B (decide (m < n)))],[(192,some ⟨1,R m,0⟩)],272⟩ rfl ?_ ?_
 ·simp
  exact Le.keep rfl (Nat.le_refl _) (by simp) (by simp)
 refine zad _ rfl (fun h=>zae ?_) fun h=>zak (hit ?_)
 ·simp only [decide_eq_true_eq] at h
  obtain ⟨k,hk⟩ : ∃ k,k = min m (n - m):=⟨_,rfl⟩
  have hw : IntKind.i64.wrap ((m : Int) + (k : Int)) = ((m + k : Nat) : Int):=by rw [w64 (by omega) (by omega)]; omega
  have ht : (R m).take m = List.replicate m [AV.I v]:=by simp [R]
  have hd : (R m).drop (m + k) = List.replicate (n - (m + k)) [AV.I 0]:=by
   simp only [R]
   rw [List.drop_append,List.drop_eq_nil_of_le (by simp),List.nil_append,List.drop_replicate]
   simp
   omega
  have hl:=hRl m hm
  have hnew : List.replicate m [AV.I v] ++ (List.replicate k [AV.I v] ++ List.replicate (n - (m + k)) [AV.I 0]) = R (m + k):=by
   simp only [R]
   rw [← List.append_assoc,List.replicate_append_replicate]
  refine zaf ?_
  refine zcj rfl ?_
  generalize R m = X at *
  simp [hl,ht]
  refine ⟨by omega,by omega,_,⟨by omega,rfl⟩,rfl,m + k,⟨by omega,by omega⟩,by omega,?_⟩
  have e1 : min (List.replicate m (([AV.I v] : List AV))).length (n - m) = k:=by simp [hk]
  rw [e1,hw,hd,List.take_replicate,show min k m = k by omega,hnew]
  exact zgX (i:=192) (sn:=[]) rfl rfl (by simp) (by simp) rfl (by simp [R]) (by simp) (by simp)
 obtain rfl : m = n:=by simp at h; omega
 refine zaa ?_
 refine zac (s:=?z9) rfl ?p9 ?r9
 case p9=>simp; rfl
 refine zag ?_
 exact ⟨.inr rfl,zam.out [192] [] rfl (by simp) (by simp) (by simp) (by simp [R])⟩
def zct (g : Gr) (S : List Int) (k : Int) : Bool:=S.contains k && !g.gone.contains k
def dl (g : Gr) (S : List Int) : Nat → Int → Int
 | 0,k=>if zct g S k = true then 0 else -1
 | n + 1,k=>if 0 ≤ dl g S n k then dl g S n k else if g.edges.any (fun e=>decide (e.t = k) && decide (dl g S n e.f = n)) = true then (n : Int) + 1 else -1
def Key (g : Gr) (k : Int) : Prop:=0 ≤ k ∧ k < g.size
variable {g : Gr} {S : List Int}
theorem zbf (n : Nat) (k : Int) : -1 ≤ dl g S n k ∧ dl g S n k ≤ n:=by
 induction n with
 | zero=>unfold dl; split <;> omega
 | succ n ih=>unfold dl; split <;> (try split) <;> omega
theorem zeb {n : Nat} {k : Int} (h : 0 ≤ dl g S n k) : dl g S (n + 1) k = dl g S n k:=by
 rw [dl,if_pos h]
theorem zlC {n m : Nat} {k : Int} (hnm : n ≤ m) (h : 0 ≤ dl g S n k) : dl g S m k = dl g S n k:=by
 induction m with
 | zero=>obtain rfl : n = 0:=by omega
         rfl
 | succ m ih =>
   rcases Nat.lt_or_ge n (m + 1) with h1 | h1
   ·have:=ih (by omega)
    rw [zeb (by omega),this]
   ·obtain rfl : n = m + 1:=by omega
    rfl
theorem ziH {n : Nat} {k : Int} (h : 0 ≤ dl g S (n + 1) k) (h2 : ¬ 0 ≤ dl g S n k) : dl g S (n + 1) k = n + 1 ∧ ∃ e ∈ g.edges,e.t = k ∧ dl g S n e.f = n:=by
 rw [dl,if_neg h2] at h ⊢
 split at h
 ·rename_i ha
  rw [if_pos ha]
  rw [List.any_eq_true] at ha
  obtain ⟨e,he,ha⟩:=ha
  simp at ha
  exact ⟨rfl,e,he,ha.1,ha.2⟩
 ·omega
theorem zr3 {n : Nat} {k : Int} (h : 0 ≤ dl g S n k) : dl g S (dl g S n k).toNat k = dl g S n k:=by
 induction n with
 | zero =>
   have:=zbf (g:=g) (S:=S) 0 k
   have e : dl g S 0 k = 0:=by omega
   rw [e]; exact e
 | succ n ih =>
   by_cases h2 : 0 ≤ dl g S n k
   ·rw [zeb h2]; exact ih h2
   ·obtain ⟨e,_⟩:=ziH h h2
    rw [e]
    have : ((n : Int) + 1).toNat = n + 1:=by omega
    rw [this]; exact e
theorem zox {n : Nat} {e : Ed} (he : e ∈ g.edges) (h : 0 ≤ dl g S n e.f) : 0 ≤ dl g S (n + 1) e.t ∧ dl g S (n + 1) e.t ≤ dl g S n e.f + 1:=by
 have hat:=zr3 h
 have hr:=zbf (g:=g) (S:=S) n e.f
 obtain ⟨m,hm⟩ : ∃ m : Nat,dl g S n e.f = m:=⟨(dl g S n e.f).toNat,by omega⟩
 rw [hm] at hat hr ⊢
 simp at hat
 have key : 0 ≤ dl g S (m + 1) e.t ∧ dl g S (m + 1) e.t ≤ m + 1:=by
  have hr2:=zbf (g:=g) (S:=S) (m + 1) e.t
  refine ⟨?_,by omega⟩
  rw [dl]
  split
  ·assumption
  ·rw [if_pos]
   ·omega
   ·rw [List.any_eq_true]
    exact ⟨e,he,by simp [hat]⟩
 have:=zlC (g:=g) (S:=S) (n:=m + 1) (m:=n + 1) (by omega) key.1
 rw [this]
 exact key
theorem zmm (h : GrOk g) {n : Nat} (hn : ∀ k,Key g k → dl g S n k ≠ n) : ∀ (m : Nat),n ≤ m → ∀ k,Key g k → dl g S m k = dl g S n k ∧ dl g S m k ≠ m:=by
 intro m
 induction m with
 | zero =>
   intro hm k hk
   obtain rfl : n = 0:=by omega
   exact ⟨rfl,hn k hk⟩
 | succ m ih =>
   intro hm k hk
   rcases Nat.lt_or_ge n (m + 1) with h1 | h1
   ·have ihm:=ih (by omega)
    have e : dl g S (m + 1) k = dl g S m k:=by
     by_cases h2 : 0 ≤ dl g S m k
     ·exact zeb h2
     ·have hr:=zbf (g:=g) (S:=S) m k
      by_cases h3 : 0 ≤ dl g S (m + 1) k
      ·obtain ⟨_,e,he,_,h5⟩:=ziH h3 h2
       have hf:=h.fits e he
       exact absurd h5 (ihm e.f ⟨hf.1,by have:=hf.2.1; omega⟩).2
      ·have hr2:=zbf (g:=g) (S:=S) (m + 1) k
       omega
    have hr:=zbf (g:=g) (S:=S) m k
    rw [e,(ihm k hk).1]
    refine ⟨rfl,?_⟩
    rw [(ihm k hk).1] at hr
    omega
   ·obtain rfl : n = m + 1:=by omega
    exact ⟨rfl,hn k hk⟩
def reach (g : Gr) (S : List Int) (n : Nat) : Nat:=(List.range g.size.toNat).countP fun (i : Nat)=>decide (0 ≤ dl g S n (i : Int))
theorem zlr {α : Type} {p q : α → Bool} : ∀ {l : List α},(∀ x ∈ l,p x = true → q x = true) → (∃ x ∈ l,q x = true ∧ p x = false) → l.countP p < l.countP q
 | [],_,h=>by obtain ⟨_,h,_⟩:=h; simp at h
 | a :: l,h1,h2=>by
   have hle : l.countP p ≤ l.countP q:=List.countP_mono_left fun x hx=>h1 x (List.mem_cons_of_mem _ hx)
   simp only [List.countP_cons]
   obtain ⟨x,hx,hq,hp⟩:=h2
   rcases List.mem_cons.1 hx with rfl | hx
   ·rw [hq,hp]
    simp
    omega
   ·have ih:=zlr (fun x hx=>h1 x (List.mem_cons_of_mem _ hx)) ⟨x,hx,hq,hp⟩
    have ha:=h1 a List.mem_cons_self
    cases hpa : p a <;> cases hqa : q a <;> simp_all <;> omega
theorem zlL {n : Nat} {k : Int} (hk : Key g k) (h : dl g S (n + 1) k = n + 1) : reach g S n < reach g S (n + 1):=by
 refine zlr (fun i _ hi=>?_) ⟨k.toNat,by simp; have:=hk.1; have:=hk.2; omega,?_,?_⟩
 ·simp at hi ⊢
  rw [zeb hi]; exact hi
 ·have e : ((k.toNat : Nat) : Int) = k:=by have:=hk.1; omega
  simp [e,h]
  omega
 ·have e : ((k.toNat : Nat) : Int) = k:=by have:=hk.1; omega
  simp only [e,decide_eq_false_iff_not]
  intro h2
  rw [zeb h2] at h
  have:=zbf (g:=g) (S:=S) n k
  omega
theorem zsi (h : GrOk g) {n : Nat} {k : Int} (hd : dl g S (n + 1) k = n + 1) : ∃ k',Key g k' ∧ dl g S n k' = n:=by
 have h2 : ¬ 0 ≤ dl g S n k:=by
  intro h2
  rw [zeb h2] at hd
  have:=zbf (g:=g) (S:=S) n k
  omega
 obtain ⟨_,e,he,_,h5⟩:=ziH (by omega) h2
 have hf:=h.fits e he
 exact ⟨e.f,⟨hf.1,by have:=hf.2.1; omega⟩,h5⟩
theorem zmR (h : GrOk g) : ∀ {n : Nat} {k : Int},Key g k → dl g S n k = n → n + 1 ≤ reach g S n
 | 0,k,hk,hd=>by
   have : 0 < reach g S 0:=List.countP_pos_iff.2 ⟨k.toNat,by simp; have:=hk.1; have:=hk.2; omega,by
    have e : ((k.toNat : Nat) : Int) = k:=by have:=hk.1; omega
    simp [e]
    omega⟩
   omega
 | n + 1,k,hk,hd=>by
   have hd' : dl g S (n + 1) k = (n : Int) + 1:=by simpa using hd
   obtain ⟨k',hk',h'⟩:=zsi h hd'
   have:=zmR h hk' h'
   have:=zlL hk hd'
   omega
theorem zrc (n : Nat) : reach g S n ≤ g.size.toNat:=by
 have:=List.countP_le_length (p:=fun (i : Nat)=>decide (0 ≤ dl g S n (i : Int))) (l:=List.range g.size.toNat)
 simpa [reach] using this
theorem zmQ (h : GrOk g) {n : Nat} {k : Int} (hk : Key g k) (hd : dl g S n k = n) : (n : Int) < g.size:=by
 have h1:=zmR h hk hd
 have h2:=zrc (g:=g) (S:=S) n
 omega
def dist (g : Gr) (S : List Int) (k : Int) : Int:=dl g S g.size.toNat k
theorem zks (h : GrOk g) {n : Nat} (hn : ∀ k,Key g k → dl g S n k ≠ n) (k : Int) (hk : Key g k) : dl g S n k = dist g S k:=by
 unfold dist
 rcases Nat.le_total n g.size.toNat with h1 | h1
 ·exact ((zmm h hn _ h1 k hk).1).symm
 ·have hN : ∀ k,Key g k → dl g S g.size.toNat k ≠ g.size.toNat:=by
   intro k hk hd
   have:=zmQ h hk hd
   omega
  exact (zmm h hN _ h1 k hk).1
theorem ziD (k : Int) : -1 ≤ dist g S k ∧ dist g S k ≤ g.size.toNat:=zbf _ _
theorem zpT (h : GrOk g) {k : Int} (hk : Key g k) : dist g S k < g.size ∨ g.size ≤ 0:=by
 have h1:=ziD (g:=g) (S:=S) k
 by_cases h2 : dist g S k = g.size.toNat
 ·have:=zmQ h hk h2
  omega
 ·have:=hk.1; have:=hk.2; omega
theorem zfS (h : GrOk g) {k : Int} : dist g S k = 0 ↔ zct g S k = true:=by
 unfold dist
 constructor
 ·intro hd
  have:=zr3 (g:=g) (S:=S) (n:=g.size.toNat) (k:=k) (by omega)
  rw [hd] at this
  simp at this
  rw [dl] at this
  split at this
  ·assumption
  ·omega
 ·intro hs
  have h0 : dl g S 0 k = 0:=by rw [dl,if_pos hs]
  rw [zlC (Nat.zero_le _) (by omega),h0]
theorem zla (h : GrOk g) {e : Ed} (he : e ∈ g.edges) (hf : 0 ≤ dist g S e.f) : 0 ≤ dist g S e.t ∧ dist g S e.t ≤ dist g S e.f + 1:=by
 have hfit:=h.fits e he
 have h1:=zox (S:=S) he hf
 have hN : ∀ k,Key g k → dl g S g.size.toNat k ≠ g.size.toNat:=by
  intro k hk hd
  have:=zmQ h hk hd
  omega
 have h2:=(zmm h hN (g.size.toNat + 1) (by omega) e.t ⟨hfit.2.2.1,by have:=hfit.2.2.2.1; omega⟩).1
 rw [h2] at h1
 exact h1
theorem zkN (h : GrOk g) {k : Int} {n : Nat} (hd : dist g S k = (n : Int) + 1) : ∃ e ∈ g.edges,e.t = k ∧ dist g S e.f = n:=by
 have hat:=zr3 (g:=g) (S:=S) (n:=g.size.toNat) (k:=k) (by show 0 ≤ dist g S k; omega)
 have hd' : dl g S g.size.toNat k = (n : Int) + 1:=hd
 rw [hd'] at hat
 have e1 : ((n : Int) + 1).toNat = n + 1:=by omega
 rw [e1] at hat
 have h2 : ¬ 0 ≤ dl g S n k:=by
  intro h2
  rw [zeb h2] at hat
  have:=zbf (g:=g) (S:=S) n k
  omega
 obtain ⟨_,e,he,h4,h5⟩:=ziH (by omega) h2
 refine ⟨e,he,h4,?_⟩
 have hr:=ziD (g:=g) (S:=S) k
 have : dist g S e.f = dl g S n e.f:=zlC (by omega) (by omega)
 omega
section
variable {P : Program} {np id : Nat} {h : Nat → Option Ent} {K : AV → List Nat → List (Nat × Option Ent) → Prop} {f : FuncId} {first capt args args' : List AV} {res : AV}
theorem zse {i : Nat} (sn : List Nat) {e e' : Ent} {hs' : List (Option Ent)} (hij : ∀ j ∈ sn,j ≠ i) (hi : h i = some e) (hee : zaz [(i,0)] sn h 4 e = e') (hc : zaj P f args' [e'] res hs') (h8 : hs'.length ≤ 9) (he : (first ++ args ++ capt).map (conv [(i,0)] sn h 4) = args')
  (hp : Plain res) (hpe : ∀ e,some e ∈ hs' → ziY e)
  (hk : K (conv (swp [i] id) [] (fun _=>none) 4 res) (i :: sn) ((hs'.zipIdx.map fun (e,k)=>((i :: (List.range 8).map (id + ·)).getD k 0,e.map (zaz (swp [i] id) [] (fun _=>none) 4))) ++ [])) : aK P np id .call (.fn (.func f) first capt :: args) h K :=
 ⟨[i],sn,false,args',[e'],res,hs',by simp,by simpa using hij,by simp,by rw [show [i].zipIdx = [(i,0)] from rfl,he]; exact zck _,by rw [show [i].zipIdx = [(i,0)] from rfl]; simpa [hi] using hee,hc,by simpa using h8,.inr ⟨hp,hpe⟩,by simpa [swp] using hk⟩
theorem zpf {j : Nat} {e ej : Ent} (hnp : np ≤ j) (hj : h j = some ej) (hc : zaj P f args' [] res [some e]) (he : (first ++ args ++ capt).map (conv [] [j] h 4) = args')
  (hk : K (conv (swp [] id) [] (fun _=>none) 4 res) [j] [(id,some (zaz (swp [] id) [] (fun _=>none) 4 e)),(j,some { ej with ro:=ej.rows.length })]) : aK P np id .call (.fn (.func f) first capt :: args) h K :=
 ⟨[],[j],true,args',[],res,[some e],by simp,by simp,by simpa using hnp,by rw [List.zipIdx_nil,he]; exact zck _,rfl,hc,by simp,.inl rfl,by simpa [swp,hj] using hk⟩
end
theorem zlM {l : List Int} {z : Nat} : ziY ⟨1,zah l ++ List.replicate z [AV.I 0],0⟩:=by
 intro row hrow x hx
 simp only [List.mem_append,List.mem_map,List.mem_replicate] at hrow
 rcases hrow with ⟨y,_,rfl⟩ | ⟨_,rfl⟩
 ·simp at hx; subst hx; exact .sc _
 ·simp at hx; subst hx; exact .sc _
theorem zra (g : Gr) (S : List Int) (k : Int) (hS : S.length ≤ 1099511627776) (hg : g.gone.length ≤ 1099511627776) : zaj Tryz.prog zcY [eG g,ints S,.I k] [] (.B (zct g S k)) []:=by
 refine zib.acalls (nbz rfl) (nbz rfl) (Nat.le_refl _) ?_
 show awp _ 0 _ _ ⟨17,[(0,eG g),(1,ints S),(2,.I k)],[],16⟩
 refine zab ⟨17,[(1,ints S),(2,.I k),(3,.pv (gC g))],[],16⟩ rfl ?_ ?_
 ·simp
  exact Le.snap [16] rfl rfl (by simp)
 refine zab ⟨17,[(6,.B (zct g S k))],[],16⟩ rfl ?_ ?_
 ·simp
  refine zdw zaq rfl ?_
  refine zal (zdT S k (by omega)) rfl ?_
  simp
  refine zd3 (fun hb=>?_) (fun hb=>?_)
  ·simp [hb]
   refine zdw zaq rfl ?_
   refine zal (zdT g.gone k (by omega)) rfl ?_
   simp [hb]
   exact Le.snap [] rfl rfl (by simp [zct] <;> exact wkB (by simp_all))
  ·simp [hb]
   exact Le.snap [] rfl rfl (by simp [zct] <;> exact wkB (by simp_all))
 refine zag ?_
 exact ⟨.inr rfl,zam.one (by simp)⟩
theorem zpw (g : Gr) (S : List Int) (k : Int) (hS : S.length ≤ 1099511627776) (hg : g.gone.length ≤ 1099511627776) : zaj Tryz.prog zb2 [.I k,.pv (gC g),.pv [ints S]] [] (.B (zct g S k)) []:=by
 refine zgL.acalls (nbz rfl) (nbz rfl) (Nat.le_refl _) ?_
 show awp _ 0 _ _ ⟨9,[(0,.I k),(1,.pv (gC g)),(2,.pv [ints S])],[],16⟩
 refine zaa ?_
 refine zac (s:=?s0) rfl ?o0 ?q0
 case o0=>simp; rfl
 refine zaa ?_
 refine zac (s:=?s1) rfl ?o1 ?q1
 case o1=>simp; refine zal (zra g S k hS hg) rfl ?_; simp; rfl
 refine zag ?_
 exact ⟨.inr rfl,zam.one (by simp)⟩
def offQ (D : List Int) (x : Int) : Bool:=!decide (0 ≤ x ∧ x < D.length) || decide (0 ≤ D.getD x.toNat 0)
theorem zow (D : List Int) (x : Int) (hD : D.length ≤ 1000000) : zaj Tryz.prog zb1 [.I x,.pv [ints D]] [] (.B (offQ D x)) []:=by
 refine zgW.acalls (nbz rfl) (nbz rfl) (Nat.le_refl _) ?_
 show awp _ 0 _ _ ⟨17,[(0,.I x),(1,.pv [ints D])],[],16⟩
 have hw : IntKind.i64.wrap ((D.length : Int) - 1) = (D.length : Int) - 1:=w64 (by omega) (by omega)
 refine zaa ?_
 refine zac (s:=?s0) rfl ?o0 ?q0
 case o0=>simp; rfl
 refine zab ⟨17,[(3,.B (offQ D x))],[],16⟩ rfl ?_ ?_
 ·simp [hw]
  refine zdw zaU rfl ?_
  refine zal (zbK ..) rfl ?_
  simp
  by_cases hx : 0 ≤ x ∧ x < D.length
  ·obtain ⟨k,rfl⟩ : ∃ k : Nat,x = k:=⟨x.toNat,by omega⟩
   have hk : k < D.length:=by omega
   have hb : (!decide (0 ≤ (k : Int)) || !decide ((k : Int) ≤ (D.length : Int) - 1)) = false:=by simp; omega
   have ho : offQ D k = decide (0 ≤ D[k]):=by
    unfold offQ
    rw [decide_eq_true hx]
    simp [hk]
   rw [hb,ho]
   simp [hk]
   exact Le.snap [] rfl rfl (by simp)
  ·have hb : (!decide (0 ≤ x) || !decide (x ≤ (D.length : Int) - 1)) = true:=by simp; omega
   have ho : offQ D x = true:=by
    unfold offQ
    rw [decide_eq_false hx]
    rfl
   rw [hb,ho]
   simp
   exact Le.snap [] rfl rfl (by simp)
 refine zag ?_
 exact ⟨.inr rfl,zam.one (by simp)⟩
def zdc (g : Gr) (S : List Int) : List Int:=(List.range g.size.toNat).map fun (i : Nat)=>dist g S (i : Int)
def outL (g : Gr) (S : List Int) (d : Nat) : List Int:=(List.range g.size.toNat).map fun (i : Nat)=>if 0 ≤ dl g S d i ∧ dl g S d i < d then dl g S d i else -1
def outP (g : Gr) (S : List Int) (d : Nat) (F : List Int) : List Int:=(List.range g.size.toNat).map fun (i : Nat)=>if 0 ≤ dl g S d i ∧ dl g S d i < d then dl g S d i else if (i : Int) ∈ F then (d : Int) else -1
theorem zjZ (g : Gr) (S : List Int) (d : Nat) : outP g S d [] = outL g S d:=by
 unfold outP outL
 simp
theorem zoU {g : Gr} {S : List Int} (d : Nat) (F : List Int) (hF : ∀ x,x ∈ F ↔ Key g x ∧ dl g S d x = d) : outP g S d F = outL g S (d + 1):=by
 unfold outP outL
 refine List.map_congr_left fun i hi=>?_
 simp at hi
 have hkey : Key g i:=⟨by omega,by omega⟩
 have hr:=zbf (g:=g) (S:=S) d i
 have hr2:=zbf (g:=g) (S:=S) (d + 1) i
 have hm : (i : Int) ∈ F ↔ dl g S d i = d:=by rw [hF]; exact ⟨fun h=>h.2,fun h=>⟨hkey,h⟩⟩
 simp only [hm]
 by_cases h0 : 0 ≤ dl g S d i
 ·have e:=zeb h0
  rw [e]
  by_cases h1 : dl g S d i < d
  ·rw [if_pos ⟨h0,h1⟩,if_pos ⟨h0,by omega⟩]
  ·have h2 : dl g S d i = d:=by omega
   rw [if_neg (by omega),if_pos h2,if_pos ⟨h0,by omega⟩,h2]
 ·rw [if_neg (by omega),if_neg (by omega)]
  by_cases h3 : 0 ≤ dl g S (d + 1) i
  ·have:=(ziH h3 h0).1
   rw [if_neg (by omega)]
  ·rw [if_neg (by omega)]
theorem zf2 (g : Gr) (S : List Int) (d : Nat) (F : List Int) : (outP g S d F).length = g.size.toNat:=by simp [outP]
theorem zmw (g : Gr) (S : List Int) (d : Nat) : (outL g S d).length = g.size.toNat:=by simp [outL]
theorem zqC {g : Gr} {S : List Int} {d : Nat} {F : List Int} {k : Nat} (hk : k < g.size.toNat) (hd : dl g S d k = d) : (outP g S d F)[k]'(by rw [zf2]; exact hk) = if (k : Int) ∈ F then (d : Int) else -1:=by
 unfold outP
 simp only [List.getElem_map,List.getElem_range]
 rw [if_neg (by omega)]
theorem zoO {g : Gr} {S : List Int} {d : Nat} (F : List Int) {i : Nat} (hi : i < g.size.toNat) : (outP g S d F)[i]? = some (if 0 ≤ dl g S d i ∧ dl g S d i < d then dl g S d i else if (i : Int) ∈ F then (d : Int) else -1):=by
 simp [outP,hi]
theorem zrr {g : Gr} {S : List Int} {d : Nat} {F : List Int} {k : Nat} (hk : k < g.size.toNat) (hd : dl g S d k = d) : (outP g S d F).set k d = outP g S d (F ++ [(k : Int)]):=by
 apply List.ext_getElem?
 intro i
 by_cases hi : i < g.size.toNat
 ·rw [zoO _ hi,List.getElem?_set]
  by_cases hki : k = i
  ·subst hki
   rw [if_pos rfl,if_pos (by rw [zf2]; exact hk),if_neg (by omega),if_pos (by simp)]
  ·rw [if_neg hki,zoO _ hi]
   have : (i : Int) ∈ F ++ [(k : Int)] ↔ (i : Int) ∈ F:=by
    simp
    omega
   simp only [this]
 ·rw [List.getElem?_eq_none (by rw [List.length_set,zf2]; omega),List.getElem?_eq_none (by rw [zf2]; omega)]
theorem zmS {g : Gr} {S : List Int} {d : Nat} {F F' : List Int} (h : ∀ x,x ∈ F ↔ x ∈ F') : outP g S d F = outP g S d F':=by
 unfold outP
 simp only [h]
theorem zn3 {l : List Ed} {F : List Int} {x : Int} (hx : x ∉ F) : (l.countP fun e=>decide (e.f ∈ F ++ [x])) = (l.countP fun e=>decide (e.f ∈ F)) + (outs l x).length:=by
 rw [znH]
 induction l with
 | nil=>rfl
 | cons e l ih =>
   have e1 : decide (e.f ∈ F ++ [x]) = (decide (e.f ∈ F) || decide (e.f = x)):=by simp
   simp only [List.countP_cons,ih,e1]
   by_cases h1 : e.f ∈ F <;> by_cases h2 : e.f = x
   ·rw [h2] at h1; exact absurd h1 hx
   all_goals
    simp only [hx,h1,h2,decide_true,decide_false,Bool.or_true,Bool.or_false,Bool.true_or,Bool.false_or,if_true,Bool.false_eq_true,if_false]
    omega
end Go.Proofs.YtfdbhehkkobfgaaGreat
