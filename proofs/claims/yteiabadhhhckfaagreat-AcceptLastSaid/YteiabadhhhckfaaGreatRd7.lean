/- Texts of this claim,merged. -/
import Derived.Test.YteiabadhhhckfaaGreatRd6
import Derived.Test.YteiabadhhhckfaaGreatRd5
import Derived.Test.YteiabadhhhckfaaGreatRows
import Derived.Shelf.Sort.Plain
import Derived.Test.YteiabadhhhckfaaGreatProg
import Derived.Shelf.Slices.In.SortNone
set_option linter.unusedSimpArgs false
set_option linter.unusedVariables false
set_option linter.unusedSectionVars false
namespace Go.Proofs.YteiabadhhhckfaaGreat
open Go
theorem zem (g : Gr) (hl : g.edges.length * 24 ≤ 140737488355328) (hl2 : g.gone.length * 8 ≤ 140737488355328) : zaj Tryz.prog zcE [eG g] [] (.agg [.I g.size,.rs 0 0 g.edges.length,.rs 1 0 g.gone.length]) [some ⟨3,g.edges.map fun e=>[AV.I e.f,AV.I e.t,AV.I e.v],0⟩,some ⟨1,g.gone.map fun n=>[AV.I n],0⟩]:=by
 refine zmX.acalls (Nat.le_of_ble_eq_true rfl) (Nat.le_of_ble_eq_true rfl) (Nat.zero_le _) ?_
 show awp _ 0 _ _ ⟨12,[(0,eG g)],[],16⟩
 have hl3 : g.edges.length ≤ 140737488355328:=by omega
 have hl4 : g.gone.length ≤ 140737488355328:=by omega
 refine zaa ?_
 refine zac (s:=?s0) rfl ?o0 ?q0
 case o0=>simp; rfl
 refine zaa ?_
 refine zdK (s:=?s1) (tr:=?t1) rfl ?o1 ?r1 ?q1
 case o1=>simp [hl,hl2,hl3,hl4]; constructor <;> rfl
 case r1=>rfl
 refine zag ?_
 refine ⟨.inr rfl,?_⟩
 show zan [(2,some (true,3))] 0 _ _ _
 exact zan.out (vs:=[.agg [.I g.size,.rs 64 0 g.edges.length,.rs 88 0 g.gone.length]]) [64,88] [] (by simp) (by simp) (by simp) (by simp) (by simp [fcd])
theorem zid (g : Gr) (hl : g.edges.length * 24 ≤ 140737488355328) (hl2 : g.gone.length * 8 ≤ 140737488355328) : zaj Tryz.prog zd9 [eG g] [] (.agg [.I g.size,.rs 0 0 g.edges.length,.rs 1 0 g.gone.length]) [some ⟨3,g.edges.map fun e=>[AV.I e.f,AV.I e.t,AV.I e.v],0⟩,some ⟨1,g.gone.map fun n=>[AV.I n],0⟩]:=by
 refine zly.acalls (Nat.le_of_ble_eq_true rfl) (Nat.le_of_ble_eq_true rfl) (Nat.zero_le _) ?_
 show awp _ 0 _ _ ⟨12,[(0,eG g)],[],16⟩
 have hl3 : g.edges.length ≤ 140737488355328:=by omega
 have hl4 : g.gone.length ≤ 140737488355328:=by omega
 refine zaa ?_
 refine zac (s:=?s0) rfl ?o0 ?q0
 case o0=>simp; rfl
 refine zaa ?_
 refine zdK (s:=?s1) (tr:=?t1) rfl ?o1 ?r1 ?q1
 case o1=>simp; refine za3 (zp5 _ hl) rfl ?_; simp; refine za3 (zmv _ hl2) rfl ?_; simp [fcd]; constructor <;> rfl
 case r1=>rfl
 refine zag ?_
 refine ⟨.inr rfl,?_⟩
 show zan [(2,some (true,3))] 0 _ _ _
 exact zan.out (vs:=[.agg [.I g.size,.rs 64 0 g.edges.length,.rs 88 0 g.gone.length]]) [64,88] [] (by simp) (by simp) (by simp) (by simp) (by simp [fcd])
theorem zss {α : Type} {a b : List α} (h : a.length = b.length) (hp : ∀ i,i < a.length → a[i]? = b[i]?) : a = b:=by
 apply List.ext_getElem?
 intro i
 rcases Nat.lt_or_ge i a.length with h1 | h1
 ·exact hp i h1
 ·rw [List.getElem?_eq_none h1,List.getElem?_eq_none (by omega)]
theorem zmN (a b : List Int) (hl : a.length ≤ 140737488355328) : zaj Tryz.prog zdw [ints a,ints b] [] (.B (decide (a = b))) []:=by
 refine zi9.acalls (Nat.le_of_ble_eq_true rfl) (Nat.le_of_ble_eq_true rfl) (Nat.le_refl _) ?_
 show awp _ 0 _ _ ⟨26,[(0,ints a),(1,ints b)],[],16⟩
 refine zaa ?_
 refine zac (s:=?s1) rfl ?o1 ?q1
 case o1=>simp; rfl
 refine zaa ?_
 refine zaa ?_
 refine zac (s:=?s2) rfl ?o2 ?q2
 case o2=>simp; rfl
 refine zad _ rfl (fun h3=>?_) fun h3=>?_
 ·try simp at h3
  refine zaa ?_
  refine zac (s:=?s4) rfl ?o4 ?q4
  case o4=>simp; rfl
  refine zag ?_
  have hn : a ≠ b:=fun h=>h3 (by rw [h])
  exact ⟨.inr rfl,zan.one (by simp [hn])⟩
 try simp at h3
 refine zae ?_
 refine zaa ?_
 refine zaa ?_
 refine zac (s:=?s5) rfl ?o5 ?q5
 case o5=>simp; rfl
 refine zaf ?_
 refine zap (ι:=Nat) (fun k=>⟨26,[(0,ints a),(1,ints b),(5,.I k)],[],16⟩) (fun k=>k ≤ a.length ∧ ∀ i,i < k → a[i]? = b[i]?) (fun k=>a.length - k) (0) ?_ (Le.snap [] rfl rfl (by simp)) ?_
 ·simp
 rintro k ⟨hk,hp⟩
 refine zaa ?_
 refine zaa ?_
 refine zac (s:=?s6) rfl ?o6 ?q6
 case o6=>simp; rfl
 refine zad _ rfl (fun h7=>?_) fun h7=>?_
 ·try simp at h7
  have hw2 : IntKind.i64.wrap ((k : Int) + 1) = (k : Int) + 1:=w64 (by omega) (by omega)
  have hwp : 0 < k → IntKind.i64.wrap ((k : Int) - 1) = ((k - 1 : Nat) : Int):=fun h=>by rw [w64 (by omega) (by omega)]; omega
  have hkp : k - 1 < a.length:=by omega
  have hkb : k < b.length:=by omega
  refine zae ?_
  refine zaa ?_
  refine zaf ?_
  refine zaa ?_
  refine zdK (s:=?s8) (tr:=?t8) rfl ?o8 ?r8 ?q8
  case o8=>simp [h7,hw2,hwp,hkp,hkb]; constructor <;> rfl
  case r8=>rfl
  refine zad _ rfl (fun h9=>?_) fun h9=>?_
  ·try simp at h9
   refine zaa ?_
   refine zac (s:=?s10) rfl ?o10 ?q10
   case o10=>simp [h7,hw2,hwp,hkp,hkb]; rfl
   refine zag ?_
   have hn : a ≠ b:=fun h=>h9 (by simp [h])
   exact ⟨.inr rfl,zan.one (by simp [hn])⟩
  try simp at h9
  refine zae ?_
  refine zac (s:=?s11) rfl ?o11 ?q11
  case o11=>simp [h7,hw2,hwp,hkp,hkb]; rfl
  refine ⟨k + 1,⟨h7,fun i hi=>?_⟩,by omega,Le.snap [] rfl rfl (by simp [h7,hw2,hwp,hkp,hkb])⟩
  rcases Nat.lt_succ_iff_lt_or_eq.1 hi with h | rfl
  ·exact hp i h
  ·simp [h7,hkb,h9]
 try simp at h7
 have hall : ∀ i,i < a.length → a[i]? = b[i]?:=fun i hi=>hp i (by omega)
 refine zao ?_
 refine hit ?_
 refine zaa ?_
 refine zac (s:=?s12) rfl ?o12 ?q12
 case o12=>simp; rfl
 refine zag ?_
 have hy : a = b:=zss (by omega) hall
 exact ⟨.inr rfl,zan.one (by simp [hy])⟩
def EqG (a b : Gr) : Prop:=a.size = b.size ∧ a.edges = b.edges ∧ a.gone = b.gone
instance (a b : Gr) : Decidable (EqG a b):=by unfold EqG; infer_instance
theorem ziv {P : Program} {f : FuncId} {xs ys : List AV} {hs : List Ent} {res : AV} {hs' : List (Option Ent)} (hl : xs.length = ys.length) (hw : ∀ i,i < ys.length → Wk (xs.getD i .dead) (ys.getD i .dead)) (h : zaj P f ys hs res hs') : zaj P f xs hs res hs' :=
 ⟨h.1,h.2.1,fun T M w vs h1 h2 h3 hr=>h.2.2 T M w vs h1 h2 h3 ⟨hr.1.trans hl,fun i hi=>(hw i hi).rep (hr.2 i (hl ▸ hi))⟩⟩
section
variable {H : Type}
def Fit (x : Int) : Prop:=-9223372036854775808 ≤ x ∧ x ≤ 9223372036854775807
variable {P : Program} {tI tE tEs tIs tG : TypeId}
theorem ztd {n : Nat} (hI : P.underlying tI = some (.int .i64)) {d : DataW H} {cs : List AV} (h : avs P (n + 1) tI d = some cs) : ∃ x,cs = [.I x] ∧ Fit x:=by
 cases d <;> simp [avs,hI] at h
 rename_i l
 cases l <;> simp at h
 obtain ⟨⟨rfl,hw⟩,rfl⟩:=h
 refine ⟨_,rfl,?_⟩
 unfold Fit
 simpa [Lit.wf,IntKind.min,IntKind.max,IntKind.signed,IntKind.bits] using hw
theorem zps {α : Type} {f : DataW H → Option (List AV)} (Q : α → List AV) : ∀ {ds : List (DataW H)} {rows : List (List AV)},(∀ d row,f d = some row → ∃ a,row = Q a) → ds.mapM f = some rows → ∃ l : List α,rows = l.map Q
 | [],rows,_,h=>by simp at h; subst h; exact ⟨[],rfl⟩
 | d :: ds,rows,hf,h=>by
   simp only [List.mapM_cons] at h
   cases h1 : f d with
   | none=>simp [h1] at h
   | some row =>
     cases h2 : ds.mapM f with
     | none=>simp [h1,h2] at h
     | some rows' =>
       simp [h1,h2] at h
       subst h
       obtain ⟨a,rfl⟩:=hf d row h1
       obtain ⟨l,rfl⟩:=zps Q hf h2
       exact ⟨a :: l,rfl⟩
theorem zrV {α : Type} {n : Nat} {t e : TypeId} (ht : P.underlying t = some (.slice e)) (Q : α → List AV) (hf : ∀ (d : DataW H) row,avs P n e d = some row → ∃ a,row = Q a) {d : DataW H} {cs : List AV} (h : avs P (n + 1) t d = some cs) :
  ∃ (l : List α) (x : AV),cs = [x] ∧ Wk x (.vs (P.cellsOf e) false (l.map Q)):=by
 cases d <;> simp [avs,ht] at h
 ·subst h; exact ⟨[],_,rfl,.nil _ _⟩
 ·obtain ⟨rows,h,rfl⟩:=h
  obtain ⟨l,rfl⟩:=zps Q hf h
  exact ⟨l,_,rfl,.refl _⟩
end
theorem ownK : ownKnob Tryz.prog.godebug = none:=by kernel_rfl
theorem zsb : laidOutB Tryz.prog = true:=by kernel_rfl
section
variable {H : Type} {P : Program} {tI tIs : TypeId}
theorem zhl {n : Nat} (hI : P.underlying tI = some (.int .i64)) (hIs : P.underlying tIs = some (.slice tI)) (cI : P.cellsOf tI = 1) {d : DataW H} {x : AV} (h : zjW P (n + 2) tIs d = some x) : ∃ l : List Int,Wk x (ints l):=by
 simp only [zjW,hIs,Option.bind_eq_some_iff] at h
 obtain ⟨cs,h1,h2⟩:=h
 obtain ⟨l,y,rfl,hw⟩:=zrV hIs (fun x : Int=>[AV.I x]) (fun d row h=>by obtain ⟨x,h,_⟩:=ztd hI h; exact ⟨x,h⟩) h1
 rw [cI] at hw
 simp at h2
 subst h2
 exact ⟨l,hw⟩
theorem zsE {n : Nat} {a : TypeId} {ds : List (DataW H)} {xs : List AV} (h : zii P n [a] ds = some xs) : ∃ (d1 : DataW H) (x1 : AV),ds = [d1] ∧ xs = [x1] ∧ zjW P n a d1 = some x1:=by
 match ds,h with
 | [],h=>cases h
 | _ :: _ :: _,h=>simp only [zii] at h; split at h <;> simp_all
 | [d1],h =>
   simp only [zii] at h
   cases h1 : zjW P n a d1 with
   | none=>simp [h1] at h
   | some x1 =>
     simp [h1] at h
     exact ⟨d1,x1,rfl,h.symm,h1⟩
end
section
variable {P : Program} {np id : Nat} {h : Nat → Option Ent} {K : AV → List Nat → List (Nat × Option Ent) → Prop} {s i off len c k l m : Nat}
@[simp] theorem zuC : aK P np id (.slc s true false false) [.rk i off len c,.sc (.int .i64 (k : Int))] h K = (k ≤ len ∧ len ≤ c ∧ (∃ e,h i = some e ∧ e.s = s) ∧ K (.rk i (off + k) (len - k) (c - k)) [i] []):=by
 rw [ziz]
 refine propext ⟨?_,?_⟩
 ·rintro ⟨l,r,m,n,h1,h2,h4,h5,h6,h7,h3,h10,h11,h8,h9⟩
  obtain rfl:=h6 rfl
  simp at h4 h1
  subst h1
  have : k = l:=by omega
  subst this
  obtain rfl:=h11 rfl
  exact ⟨h2,h3,h8,h9⟩
 ·rintro ⟨h1,h2,h3,h4⟩
  exact ⟨k,len,c,len,rfl,h1,by simp,(fun h=>by cases h),fun _=>rfl,(fun h=>by cases h),h2,Nat.le_refl _,fun _=>rfl,h3,h4⟩
@[simp] theorem zu2 : aK P np id (.slc s false true false) [.rk i off len c,.sc (.int .i64 (k : Int))] h K = (k ≤ c ∧ (∃ e,h i = some e ∧ e.s = s) ∧ K (.rk i off k c) [i] []):=by
 rw [ziz]
 refine propext ⟨?_,?_⟩
 ·rintro ⟨l,r,m,n,h1,h2,h4,h5,h6,h7,h3,h10,h11,h8,h9⟩
  obtain rfl:=h5 rfl
  simp at h4 h1
  have : k = r:=by omega
  subst this
  obtain rfl:=h11 rfl
  exact ⟨h3,h8,by simpa using h9⟩
 ·rintro ⟨h1,h3,h4⟩
  exact ⟨0,k,c,len,rfl,Nat.zero_le _,by simp,fun _=>rfl,(fun h=>by cases h),(fun h=>by cases h),h1,Nat.le_refl _,fun _=>rfl,h3,by simpa using h4⟩
@[simp] theorem zun : aK P np id (.slc s true true false) [.rk i off len c,.sc (.int .i64 (l : Int)),.sc (.int .i64 (k : Int))] h K = (l ≤ k ∧ k ≤ c ∧ (∃ e,h i = some e ∧ e.s = s) ∧ K (.rk i (off + l) (k - l) (c - l)) [i] []):=by
 rw [ziz]
 refine propext ⟨?_,?_⟩
 ·rintro ⟨l',r,m,n,h1,h2,h4,h5,h6,h7,h3,h10,h11,h8,h9⟩
  simp at h4 h1
  have : k = r:=by omega
  subst this
  have : l = l':=by omega
  subst this
  obtain rfl:=h11 rfl
  exact ⟨h2,h3,h8,h9⟩
 ·rintro ⟨h1,h2,h3,h4⟩
  exact ⟨l,k,c,len,rfl,h1,by simp,(fun h=>by cases h),(fun h=>by cases h),(fun h=>by cases h),h2,Nat.le_refl _,fun _=>rfl,h3,h4⟩
@[simp] theorem zuA : aK P np id (.slc s true true true) [.rk i off len c,.sc (.int .i64 (l : Int)),.sc (.int .i64 (k : Int)),.sc (.int .i64 (m : Int))] h K = (l ≤ k ∧ k ≤ m ∧ m ≤ c ∧ (∃ e,h i = some e ∧ e.s = s) ∧ K (.rk i (off + l) (k - l) (m - l)) [i] []):=by
 rw [ziz]
 refine propext ⟨?_,?_⟩
 ·rintro ⟨l',r,m',n,h1,h2,h4,h5,h6,h7,h3,h10,h11,h8,h9⟩
  simp at h4 h1
  have : k = r:=by omega
  subst this
  have : l = l':=by omega
  subst this
  have : m = m':=by omega
  subst this
  exact ⟨h2,h3,h10,h8,h9⟩
 ·rintro ⟨h1,h2,h3,h4,h5⟩
  exact ⟨l,k,m,len,rfl,h1,by simp,(fun h=>by cases h),(fun h=>by cases h),(fun _=>rfl),h2,h3,(fun h=>by cases h),h4,h5⟩
@[simp] theorem zuz : aK P np id (.slc s true false false) [.rs i off len,.sc (.int .i64 (k : Int))] h K = (k ≤ len ∧ (∃ e,h i = some e ∧ e.s = s) ∧ K (.rs i (off + k) (len - k)) [i] []):=by
 rw [ziz]
 refine propext ⟨?_,?_⟩
 ·rintro ⟨l,r,m,n,h1,h2,h4,h5,h6,h7,h3,h10,h8,h9⟩
  obtain rfl:=h6 rfl
  simp at h4 h1
  subst h1
  have : k = l:=by omega
  subst this
  exact ⟨h2,h8,h9⟩
 ·rintro ⟨h1,h3,h4⟩
  exact ⟨k,len,0,len,rfl,h1,by simp,(fun h=>by cases h),fun _=>rfl,(fun h=>by cases h),Nat.le_refl _,rfl,h3,h4⟩
@[simp] theorem zuU : aK P np id (.slc s false true false) [.rs i off len,.sc (.int .i64 (k : Int))] h K = (k ≤ len ∧ (∃ e,h i = some e ∧ e.s = s) ∧ K (.rs i off k) [i] []):=by
 rw [ziz]
 refine propext ⟨?_,?_⟩
 ·rintro ⟨l,r,m,n,h1,h2,h4,h5,h6,h7,h3,h10,h8,h9⟩
  obtain rfl:=h5 rfl
  simp at h4 h1
  have : k = r:=by omega
  subst this
  exact ⟨by omega,h8,by simpa using h9⟩
 ·rintro ⟨h1,h3,h4⟩
  exact ⟨0,k,0,len,rfl,Nat.zero_le _,by simp,fun _=>rfl,(fun h=>by cases h),(fun h=>by cases h),h1,rfl,h3,by simpa using h4⟩
end
theorem Le.keep {np : Nat} {st st' : St} (hsz : st'.sz = st.sz) (hn : st.n ≤ st'.n) (ht : ∀ p ∈ st'.t,st.get p.1 = p.2) (hh : ∀ p ∈ st'.h,∀ e,p.2 = some e → st.hp p.1 = some e) : Le np st st':=by
 intro T0 M0 w0 T M a w ok hnp
 have hp : ∀ id e,st'.hp id = some e → st.hp id = some e:=by
  intro id e he
  unfold St.hp at he
  cases hl : lkp st'.h id with
  | none=>rw [hl] at he; cases he
  | some v =>
    rw [hl] at he
    exact hh _ (zbd hl) e he
 refine ⟨T,M,⟨ok.sz.trans hsz.symm,ok.df,fun i=>?_,⟨fun id e he=>ok.hs.ent id e (hp id e he),fun id id' e e' g g' b h1 h2=>ok.hs.inj id id' e e' g g' b (hp _ _ h1) (hp _ _ h2)⟩,fun id g hg=>Nat.lt_of_lt_of_le (ok.dom id g hg) hn,ok.after⟩,Nat.le_trans hnp hn⟩
 unfold St.get at *
 cases hl : lkp st'.t i with
 | none=>exact .dead _ _
 | some v =>
   have:=ht _ (zbd hl)
   simp only at this
   show Rep T w M v _
   rw [← this]
   exact ok.tm i
theorem zan.m1 {rs : List (Nat × Option (Bool × Nat))} {st : St} {vs : List AV} {res : AV} {e : Ent} (i : Nat) (hi : 1 ≤ i) (h1 : zeA st rs = some vs) (hw : Wk (conv [(0,0),(i,1)] [] st.hp 4 (resV vs)) res) (h0 : st.hp 0 = none) (he : (st.hp i).map (zaw [(0,0),(i,1)] [] st.hp 4) = some e) : zan rs 1 st res [none,some e] :=
 ⟨vs,h1,[i],[],by simp [List.range,List.range.loop]; omega,by simpa using hi,by simp,by simpa [List.range,List.range.loop] using hw,by simpa [List.range,List.range.loop,h0] using he⟩
theorem zal {α β : Type} (f : α → β) (l : List α) : List.take l.length (List.map f l) = List.map f l:=List.take_of_length_le (by simp)
def zdn : Gr:=⟨0,[],[]⟩
def zlD (g : Gr) (e : Ed) : Gr:=⟨g.size,g.edges.take (idxE g.edges ⟨e.f,e.t,0⟩) ++ e :: g.edges.drop (idxE g.edges ⟨e.f,e.t,0⟩),g.gone⟩
open Classical in
noncomputable def zcW (g : Gr) (e : Ed) : Gr × Int :=
 if ¬ GrOk g then (zdn,14) else if ¬ Fits g e then (zdn,4) else if ¬ (1 ≤ e.v ∧ e.v ≤ 3) then (zdn,2)
 else if AtE g.edges (idxE g.edges ⟨e.f,e.t,0⟩) e.f e.t then (zdn,19) else if g.edges.length = 500 then (zdn,3) else (zlD g e,0)
open Classical in
theorem zgt (g : Gr) (e : Ed) (hl : g.edges.length * 24 ≤ 140737488355328) (hl2 : g.gone.length * 8 ≤ 140737488355328) : zaj Tryz.prog zex [eG g,eE e] [] (.tup [eG (zcW g e).1,.I (zcW g e).2]) []:=by
 refine znF.acalls (Nat.le_of_ble_eq_true rfl) (Nat.le_of_ble_eq_true rfl) (Nat.le_refl _) ?_
 show awp _ 0 _ _ ⟨103,[(0,eG g),(1,eE e)],[],16⟩
 refine zab ⟨103,[(2,.pv (gC g)),(3,.pv (eC e)),(4,.pt 32 0 0)],[(32,some ⟨3,[[.I 0,.nilS,.nilS]],0⟩)],40⟩ rfl ?_ ?_
 ·simp
  exact Le.var1 32 [16,24] rfl rfl (Nat.le_of_ble_eq_true rfl) (by decide) rfl (by simp) (by simp) (by simp)
 refine zaa ?_
 refine zaa ?_
 refine zac (s:=?s1) rfl ?o1 ?q1
 case o1=>simp; refine zam (zjF g (by omega) (by omega)) rfl ?_; simp; rfl
 refine zad _ rfl (fun h2=>?_) fun h2=>?_
 ·have hg : ¬ GrOk g:=by
   intro hg
   simp [hg] at h2
  refine zaa ?_
  refine zac (s:=?s3) rfl ?o3 ?q3
  case o3=>simp; rfl
  refine zag ?_
  refine ⟨.inr rfl,?_⟩
  show zan [(4,some (true,3)),(5,none)] 0 _ _ _
  refine zan.out (vs:=[.agg [.I 0,.nilS,.nilS],.I 14]) [] [] (by simp) (by simp) (by simp) ?_ (by simp)
  have hr : zcW g e = (zdn,14):=by grind [zcW]
  simp [hr,zdn]
  exact wkT2 (wkA3 (.refl _) (.nil _ _) (.nil _ _)) (.refl _)
 have hg : GrOk g:=by
  rcases Classical.em (GrOk g) with h | h
  ·exact h
  ·simp [h] at h2
 refine zae ?_
 refine zaa ?_
 refine zac (s:=?s4) rfl ?o4 ?q4
 case o4=>simp; refine zam (zjM g _ _ (by omega)) rfl ?_; simp; rfl
 refine zaa ?_
 refine zaf ?_
 refine zab ⟨103,[(2,.pv (gC g)),(3,.pv (eC e)),(4,.pt 32 0 0),(6,.I (idxE g.edges ⟨e.f,e.t,0⟩)),(7,.B (decide (AtE g.edges (idxE g.edges ⟨e.f,e.t,0⟩) e.f e.t))),(22,.B (decide (¬ Fits g e)))],[(32,some ⟨3,[[.I 0,.nilS,.nilS]],0⟩)],40⟩ rfl ?_ ?_
 ·simp
  repeat' first
   | (refine zdU zaJ rfl ?_; refine zam (zf2 _ _ (by omega)) rfl ?_; simp)
   | (refine zdC (fun hb=>?_) (fun hb=>?_) <;> (try rw [hb]) <;> (try simp at hb) <;> simp [*])
  all_goals exact Le.var1 32 [] rfl rfl (Nat.le_of_ble_eq_true rfl) (by decide) rfl (by simp) (by simp) (by simp <;> exact wkB (by (try simp at *); grind [Fits]))
 refine zad _ rfl (fun h5=>?_) fun h5=>?_
 ·try simp at h5
  refine zaa ?_
  refine zac (s:=?s6) rfl ?o6 ?q6
  case o6=>simp; rfl
  refine zag ?_
  refine ⟨.inr rfl,?_⟩
  show zan [(4,some (true,3)),(5,none)] 0 _ _ _
  refine zan.out (vs:=[.agg [.I 0,.nilS,.nilS],.I 4]) [] [] (by simp) (by simp) (by simp) ?_ (by simp)
  have hr : zcW g e = (zdn,4):=by grind [zcW]
  simp [hr,zdn]
  exact wkT2 (wkA3 (.refl _) (.nil _ _) (.nil _ _)) (.refl _)
 try simp at h5
 refine zab ⟨103,[(2,.pv (gC g)),(3,.pv (eC e)),(4,.pt 32 0 0),(6,.I (idxE g.edges ⟨e.f,e.t,0⟩)),(7,.B (decide (AtE g.edges (idxE g.edges ⟨e.f,e.t,0⟩) e.f e.t))),(67,.B (decide (¬ (1 ≤ e.v ∧ e.v ≤ 3))))],[(32,some ⟨3,[[.I 0,.nilS,.nilS]],0⟩)],40⟩ rfl ?_ ?_
 ·simp
  repeat' first
   | (refine zdC (fun hb=>?_) (fun hb=>?_) <;> (try rw [hb]) <;> (try simp at hb) <;> simp [*])
  all_goals exact Le.var1 32 [] rfl rfl (Nat.le_of_ble_eq_true rfl) (by decide) rfl (by simp) (by simp) (by simp <;> exact wkB (by (try simp at *); grind [Fits]))
 refine zad _ rfl (fun h7=>?_) fun h7=>?_
 ·try simp at h7
  refine zaa ?_
  refine zac (s:=?s8) rfl ?o8 ?q8
  case o8=>simp; rfl
  refine zag ?_
  refine ⟨.inr rfl,?_⟩
  show zan [(4,some (true,3)),(5,none)] 0 _ _ _
  refine zan.out (vs:=[.agg [.I 0,.nilS,.nilS],.I 2]) [] [] (by simp) (by simp) (by simp) ?_ (by simp)
  have hr : zcW g e = (zdn,2):=by grind [zcW]
  simp [hr,zdn]
  exact wkT2 (wkA3 (.refl _) (.nil _ _) (.nil _ _)) (.refl _)
 try simp at h7
 refine zaa ?_
 refine zac (s:=?s9) rfl ?o9 ?q9
 case o9=>simp; rfl
 refine zad _ rfl (fun h10=>?_) fun h10=>?_
 ·try simp at h10
  refine zaa ?_
  refine zac (s:=?s11) rfl ?o11 ?q11
  case o11=>simp; rfl
  refine zag ?_
  refine ⟨.inr rfl,?_⟩
  show zan [(4,some (true,3)),(5,none)] 0 _ _ _
  refine zan.out (vs:=[.agg [.I 0,.nilS,.nilS],.I 19]) [] [] (by simp) (by simp) (by simp) ?_ (by simp)
  have hr : zcW g e = (zdn,19):=by grind [zcW]
  simp [hr,zdn]
  exact wkT2 (wkA3 (.refl _) (.nil _ _) (.nil _ _)) (.refl _)
 try simp at h10
 refine zaa ?_
 refine zac (s:=?s12) rfl ?o12 ?q12
 case o12=>simp; rfl
 refine zad _ rfl (fun h13=>?_) fun h13=>?_
 ·try simp at h13
  refine zaa ?_
  refine zac (s:=?s14) rfl ?o14 ?q14
  case o14=>simp; rfl
  refine zag ?_
  refine ⟨.inr rfl,?_⟩
  show zan [(4,some (true,3)),(5,none)] 0 _ _ _
  refine zan.out (vs:=[.agg [.I 0,.nilS,.nilS],.I 3]) [] [] (by simp) (by simp) (by simp) ?_ (by simp)
  have hr : zcW g e = (zdn,3):=by grind [zcW]
  simp [hr,zdn]
  exact wkT2 (wkA3 (.refl _) (.nil _ _) (.nil _ _)) (.refl _)
 try simp at h13
 refine zae ?_
 have hle:=zpA g.edges ⟨e.f,e.t,0⟩
 refine zaa ?_
 refine zac (s:=?s20) rfl ?o20 ?q20
 case o20=>simp; refine zmm (zem g hl hl2) rfl ?_; simp [fcd]; rfl
 have h500 : g.edges.length ≤ 500:=hg.1.2.2.1
 have hmin : min (idxE g.edges ⟨e.f,e.t,0⟩) g.edges.length = idxE g.edges ⟨e.f,e.t,0⟩:=Nat.min_eq_left hle
 have hr : zcW g e = (zlD g e,0):=by grind [zcW]
 rw [hr]
 unfold zlD
 generalize idxE g.edges ⟨e.f,e.t,0⟩ = k at *
 have htk : List.take (k + 1) (List.take k (List.map (fun e : Ed=>[AV.I e.f,AV.I e.t,AV.I e.v]) g.edges) ++ [[AV.I e.f,AV.I e.t,AV.I e.v]]) = List.take k (List.map (fun e : Ed=>[AV.I e.f,AV.I e.t,AV.I e.v]) g.edges) ++ [[AV.I e.f,AV.I e.t,AV.I e.v]]:=List.take_of_length_le (by simp; exact Nat.min_le_left _ _)
 obtain ⟨E,hE⟩ : ∃ E,E = g.edges.take k ++ e :: g.edges.drop k:=⟨_,rfl⟩
 have hEl : k + 1 + (g.edges.length - k) = E.length:=by subst hE; simp; omega
 have hrows : List.take k (List.map (fun e : Ed=>[AV.I e.f,AV.I e.t,AV.I e.v]) g.edges) ++ [AV.I e.f,AV.I e.t,AV.I e.v] :: List.drop k (List.map (fun e : Ed=>[AV.I e.f,AV.I e.t,AV.I e.v]) g.edges) = E.map fun e : Ed=>[AV.I e.f,AV.I e.t,AV.I e.v]:=by subst hE; simp [List.map_take,List.map_drop]
 rw [← hE]
 refine zaa ?_
 refine zdK (s:=?s15) (tr:=?t15) rfl ?o15 ?r15 ?q15
 case o15 =>
  simp [hmin,hle,htk,hEl,hrows]
  repeat' apply And.intro
  all_goals first | omega | rfl
 case r15=>rfl
 refine zaa ?_
 refine zac (s:=?s16) rfl ?o16 ?q16
 case o16=>simp; rfl
 refine zag ?_
 refine ⟨.inr rfl,?_⟩
 show zan [(4,some (true,3)),(5,none)] 0 _ _ _
 refine zan.out (vs:=[.agg [.I g.size,.rs 224 0 E.length,.rs 105 0 g.gone.length],.I 0]) [] [224,105] (by simp) (by simp) (by simp) ?_ (by simp)
 simp [fcd,zal]
end Go.Proofs.YteiabadhhhckfaaGreat
namespace Go.Proofs
open Go.Shelf
def Tryz.lays189_ren : Go.Shelf.Ren:=⟨fun | 189=>172 | 125=>182 | 257=>181 | 128=>195 | 129=>196 | 294=>186 | 295=>187 | 296=>188 | 297=>189 | 298=>190 | 299=>191 | 216=>192 | 300=>193 | 301=>194 | 328=>198 | 329=>199 | 330=>200 | 331=>201 | 332=>202 | 215=>168 | 343=>203 | n=>n,fun | 28=>22 | 3=>3 | 46=>169 | 0=>0 | 51=>179 | 53=>182 | 4=>4 | 183=>187 | 182=>186 | 131=>112 | 5=>5 | 9=>9 | 218=>193 | 222=>197 | 228=>199 | 229=>155 | n=>n,fun | n=>n⟩
theorem Tryz.lays189 : Go.Proofs.Lays.n189 Tryz.prog Tryz.lays189_ren:={
 mixed:=by kernel_rfl
 f125:=Tryz.func182.trans (congrArg some (by kernel_rfl))
 f128:=Tryz.func195.trans (congrArg some (by kernel_rfl))
 f129:=Tryz.func196.trans (congrArg some (by kernel_rfl))
 f189:=Tryz.func172.trans (congrArg some (by kernel_rfl))
 f215:=Tryz.func168.trans (congrArg some (by kernel_rfl))
 f216:=Tryz.func192.trans (congrArg some (by kernel_rfl))
 f257:=Tryz.func181.trans (congrArg some (by kernel_rfl))
 f294:=Tryz.func186.trans (congrArg some (by kernel_rfl))
 f295:=Tryz.func187.trans (congrArg some (by kernel_rfl))
 f296:=Tryz.func188.trans (congrArg some (by kernel_rfl))
 f297:=Tryz.func189.trans (congrArg some (by kernel_rfl))
 f298:=Tryz.func190.trans (congrArg some (by kernel_rfl))
 f299:=Tryz.func191.trans (congrArg some (by kernel_rfl))
 f300:=Tryz.func193.trans (congrArg some (by kernel_rfl))
 f301:=Tryz.func194.trans (congrArg some (by kernel_rfl))
 f328:=Tryz.func198.trans (congrArg some (by kernel_rfl))
 f329:=Tryz.func199.trans (congrArg some (by kernel_rfl))
 f330:=Tryz.func200.trans (congrArg some (by kernel_rfl))
 f331:=Tryz.func201.trans (congrArg some (by kernel_rfl))
 f332:=Tryz.func202.trans (congrArg some (by kernel_rfl))
 f343:=Tryz.func203.trans (congrArg some (by kernel_rfl))
 t0:=Tryz.underlying0
 a0:=Tryz.isAgg0
 z0:=Tryz.sizeOf0
 v0:=Tryz.zeroValue0
 t3:=Tryz.underlying3
 a3:=Tryz.isAgg3
 z3:=Tryz.sizeOf3
 v3:=Tryz.zeroValue3
 t4:=Tryz.underlying4
 a4:=Tryz.isAgg4
 z4:=Tryz.sizeOf4
 v4:=Tryz.zeroValue4
 t5:=Tryz.underlying5
 a5:=Tryz.isAgg5
 z5:=Tryz.sizeOf5
 v5:=Tryz.zeroValue5
 t9:=Tryz.underlying9
 a9:=Tryz.isAgg9
 z9:=Tryz.sizeOf9
 v9:=Tryz.zeroValue9
 t28:=Tryz.underlying22
 a28:=Tryz.isAgg22
 z28:=Tryz.sizeOf22
 v28:=Tryz.zeroValue22
 t46:=Tryz.underlying169
 a46:=Tryz.isAgg169
 z46:=Tryz.sizeOf169
 v46:=Tryz.zeroValue169
 t51:=Tryz.underlying179
 a51:=Tryz.isAgg179
 z51:=Tryz.sizeOf179
 v51:=Tryz.zeroValue179
 t53:=Tryz.underlying182
 a53:=Tryz.isAgg182
 z53:=Tryz.sizeOf182
 v53:=Tryz.zeroValue182
 t131:=Tryz.underlying112
 a131:=Tryz.isAgg112
 z131:=Tryz.sizeOf112
 v131:=Tryz.zeroValue112
 t182:=Tryz.underlying186
 a182:=Tryz.isAgg186
 z182:=Tryz.sizeOf186
 v182:=Tryz.zeroValue186
 t183:=Tryz.underlying187
 a183:=Tryz.isAgg187
 z183:=Tryz.sizeOf187
 v183:=Tryz.zeroValue187
 t218:=Tryz.underlying193
 a218:=Tryz.isAgg193
 z218:=Tryz.sizeOf193
 v218:=Tryz.zeroValue193
 t222:=Tryz.underlying197
 a222:=Tryz.isAgg197
 z222:=Tryz.sizeOf197
 v222:=Tryz.zeroValue197
 t228:=Tryz.underlying199
 a228:=Tryz.isAgg199
 z228:=Tryz.sizeOf199
 v228:=Tryz.zeroValue199
 t229:=Tryz.underlying155
 a229:=Tryz.isAgg155
 z229:=Tryz.sizeOf155
 v229:=Tryz.zeroValue155 }
end Go.Proofs
namespace Go.Proofs.YteiabadhhhckfaaGreat
open Go
def zdy (l : List Int) : List (List AV):=l.map fun n=>[AV.I n]
theorem Src.body {P : Program} {f : FuncId} {af : AFun} (s : Src P f af) : ∃ fn c,P.funcs[f]? = some fn ∧ fn.body = some c ∧ fn.name ≠ "runtime.NumGoroutine":=by
 obtain ⟨_,fn,hf,hc,hn⟩:=s
 unfold zrm at hc
 cases hb : fn.body with
 | none=>rw [hb] at hc; cases hc
 | some c=>exact ⟨fn,c,hf,hb,hn⟩
theorem zpN (zs : List Int) (h0 : zs ≠ []) (hl : zs.length < 4611686018427387904) :
  zaj Tryz.prog za0 [.rs 0 0 zs.length] [{ s:=1,rows:=zdy zs }] (.tup []) ([{ s:=1,rows:=zdy (zs.mergeSort fun x y=>decide (x ≤ y)) }].map some):=by
 refine ⟨zcX.body,by simp,fun T M w vs htok hhs hdom hrep=>?_⟩
 have hpos : 0 < zs.length:=List.length_pos_iff.2 h0
 obtain ⟨hsz,hr⟩:=hrep
 have hr0:=hr 0 (by simp)
 simp only [List.getD_cons_zero] at hr0
 have hvs : vs = #[vs.getD 0 undef]:=by
  apply Array.ext
  ·simpa using hsz
  ·intro i h1 h2
   have : i = 0:=by simp at h2; omega
   subst this
   simp [Array.getD,h1]
 rw [hvs]
 generalize vs.getD 0 undef = v at hr0
 cases hr0 with
 | rs _ _ _ _ cap a g hg hgz hlc hn hb =>
 obtain ⟨g',hg',ent⟩:=hhs.ent 0 _ rfl
 rw [hg] at hg'
 obtain rfl:=Option.some.inj hg'
 have hrl : (zdy zs).length = zs.length:=by simp [zdy]
 cases hblk : g.blk with
 | none =>
   have:=ent.none hblk
   simp [zdy] at this
   exact absurd this h0
 | some b =>
 obtain ⟨hcap,c0,t0,f0,hc0,hle0⟩:=hb b hblk
 obtain ⟨cells,ty,hw,htb,hlen,hrows⟩:=ent.blk (Nat.succ_ne_zero 0) b hblk
 have ha : a = some ⟨b,g.base + 0 * g.s,none⟩:=by
  rcases hcap with h | h
  ·omega
  ·exact h
 subst ha
 simp only [Nat.zero_mul,Nat.add_zero] at *
 have hcell : ∀ i,(hi : i < zs.length) → cells[g.base + i]? = some (.int .i64 zs[i]):=by
  intro i hi
  obtain ⟨u,hu,_,hru⟩:=hrows i 0 (by rw [hrl]; exact hi) (by decide)
  simp only [Nat.mul_one,Nat.add_zero] at hu
  rw [hu]
  have : ((zdy zs).getD i []).getD 0 .dead = .I zs[i]:=by simp [zdy,List.getD,hi]
  rw [this] at hru
  cases hru
  rfl
 have hb' : b < w.heap.size:=(Array.getElem?_eq_some_iff.1 hw).1
 refine (Any.slices_Sort_int Tryz.lays189 b g.base cap zs w ?_ hb' hl).mono ?_
 ·intro j hj
  have hj' : j < zs.length:=by simpa using hj
  constructor
  ·show w.cell? _ = _
   unfold World.cell?
   simp only [hw]
   rw [hcell j hj']
   simp [hj']
  ·unfold World.frozen?
   simp only [hw]
   simp
 ·rintro e w' ⟨rfl,n,os,rfl⟩
  have hsl : (zs.mergeSort fun x y=>decide (x ≤ y)).length = zs.length:=List.length_mergeSort zs
  generalize (zs.mergeSort fun x y=>decide (x ≤ y)) = ys at hsl
  have hh : ∀ b',b' < w.heap.size → (Go.Sort.grow (Go.Sort.putRow (Value.int .i64) (Go.Sort.ahead w n) b g.base ys.toArray) os).heap[b']? = if b' = b then some (.cells (Go.Sort.putCells (Value.int .i64) g.base ys.toArray cells) ty (0,0)) else w.heap[b']?:=by
   intro b' hb1
   have hsz' : (w.heap.modify b (Go.Sort.onCells (Go.Sort.putCells (Value.int .i64) g.base ys.toArray))).size = w.heap.size:=Array.size_modify
   show ((w.heap.modify b (Go.Sort.onCells (Go.Sort.putCells (Value.int .i64) g.base ys.toArray))) ++ os)[b']? = _
   rw [Array.getElem?_append_left (by rw [hsz']; exact hb1),Array.getElem?_modify]
   by_cases hbb : b = b'
   ·subst hbb
    rw [if_pos rfl,if_pos rfl,hw]
    rfl
   ·rw [if_neg hbb,if_neg (Ne.symm hbb)]
  have hput : ∀ o,(o < g.base ∨ g.base + ys.length ≤ o) → (Go.Sort.putCells (Value.int .i64) g.base ys.toArray cells)[o]? = cells[o]?:=by
   intro o ho
   unfold Go.Sort.putCells
   rw [Array.getElem?_mapIdx]
   cases hc : cells[o]? with
   | none=>rfl
   | some u =>
     simp only [Option.map_some]
     rw [if_neg]
     simp
     omega
  have hput2 : ∀ i,(hi : i < ys.length) → (Go.Sort.putCells (Value.int .i64) g.base ys.toArray cells)[g.base + i]? = some (.int .i64 ys[i]):=by
   intro i hi
   unfold Go.Sort.putCells
   rw [Array.getElem?_mapIdx,hcell i (by omega)]
   simp only [Option.map_some]
   rw [if_pos (by simp; omega)]
   simp [hi]
  have hcs : (Go.Sort.putCells (Value.int .i64) g.base ys.toArray cells).size = cells.size:=by
   unfold Go.Sort.putCells
   exact Array.size_mapIdx
  have hbig : w.heap.size ≤ (Go.Sort.grow (Go.Sort.putRow (Value.int .i64) (Go.Sort.ahead w n) b g.base ys.toArray) os).heap.size:=by
   show w.heap.size ≤ ((w.heap.modify b _) ++ os).size
   rw [Array.size_append,Array.size_modify]
   omega
  have htb' : T b ≤ g.base:=by simpa using htb
  generalize hw' : (Go.Sort.grow (Go.Sort.putRow (Value.int .i64) (Go.Sort.ahead w n) b g.base ys.toArray) os) = w' at hh hbig
  have hlt : ∀ b' o,w.heap[b']? = some o → b' < w.heap.size:=fun b' o h=>(Array.getElem?_eq_some_iff.1 h).1
  have hpr : Pres T w T w':=by
   refine ⟨fun _=>Nat.le_refl _,fun b' cs' ty' fz' h=>?_⟩
   rw [hh b' (hlt _ _ h)]
   by_cases hbb : b' = b
   ·subst hbb
    rw [hw] at h
    cases h
    exact ⟨_,_,if_pos rfl,hcs,fun o ho=>hput o (.inl (by omega))⟩
   ·exact ⟨cs',fz',by rw [if_neg hbb]; exact h,rfl,fun _ _=>rfl⟩
  rw [zgW]
  refine ⟨_,T,M,rfl,.tup M [] #[] rfl (fun i hi=>by simp at hi),⟨fun id e he=>?_,fun id id' e e' g1 g2 b' h1 h2 h3 h4 h5 h6=>?_⟩,⟨fun b' hb1=>?_,fun _ _ _=>rfl,fun _ _=>rfl,?_,?_,?_,hbig,fun b' hb1 hb2=>?_,hpr,fun k g1 b' hk hg1 _=>?_⟩⟩
  ·have hid : id = 0:=by
    cases id with
    | zero=>rfl
    | succ k=>simp [hpOf] at he
   subst hid
   simp only [hpOf,List.getElem?_cons_zero,Option.some.injEq] at he
   subst he
   refine ⟨g,hg,⟨ent.s,Nat.zero_le _,fun _ row hr=>?_,fun hn=>(by rw [hblk] at hn; cases hn),fun hz=>absurd hz (Nat.succ_ne_zero 0),fun _ b' hb1=>?_⟩⟩
   ·simp [zdy] at hr
    obtain ⟨x,_,rfl⟩:=hr
    rfl
   ·rw [hblk] at hb1
    obtain rfl:=Option.some.inj hb1
    refine ⟨_,ty,by rw [hh _ hb',if_pos rfl],by simpa using htb',by simp [zdy,hcs,hsl]; simpa [zdy] using hlen,fun i j hi hj=>?_⟩
    have hi' : i < ys.length:=by simpa [zdy] using hi
    have hj' : j = 0:=by simp at hj; omega
    subst hj'
    refine ⟨.int .i64 ys[i],by simpa using hput2 i hi',rfl,?_⟩
    have : ((zdy ys).getD i []).getD 0 .dead = .I ys[i]:=by simp [zdy,List.getD,hi']
    rw [this]
    exact .sc _ _ rfl
  ·have h0 : ∀ id e,hpOf [({ s:=1,rows:=zdy ys } : Ent)] id = some e → id = 0:=by
    intro id e he
    cases id with
    | zero=>rfl
    | succ k=>simp [hpOf] at he
   rw [h0 _ _ h1,h0 _ _ h2]
  ·obtain ⟨c1,ty1,fz1,h1,h2⟩:=htok b' hb1
   obtain ⟨c2,fz2,h3,h4,_⟩:=hpr.cell b' c1 ty1 fz1 h1
   exact ⟨c2,ty1,fz2,h3,by omega⟩
  ·rw [← hw']; rfl
  ·rw [← hw']; rfl
  ·rw [← hw']; rfl
  ·rw [hh b' hb1,if_neg]
   intro hbb
   exact hb2 ⟨0,g,by simp,hg,by rw [hblk,hbb]⟩
  ·rw [hdom k hk] at hg1
   cases hg1
theorem zg9.refl {n : Nat} {T : Nat → Nat} {M : GM} {w : World} (htok : TOk T w) (hdom : ∀ k,n ≤ k → M k = none) : zg9 n T M w T M w :=
 ⟨htok,fun _ _ _=>rfl,fun _ _=>rfl,rfl,rfl,rfl,Nat.le_refl _,fun _ _ _=>rfl,⟨fun _=>Nat.le_refl _,fun _ cells _ fz h=>⟨cells,fz,h,rfl,fun _ _=>rfl⟩⟩,fun k g b hk h=>by rw [hdom k hk] at h; cases h⟩
theorem arr1 {vs : Array Value} (h : vs.size = 1) : vs = #[vs.getD 0 undef]:=by
 apply Array.ext
 ·simpa using h
 ·intro i h1 h2
  have : i = 0:=by simp at h2; omega
  subst this
  simp [Array.getD,h1]
theorem zq4 (zs : List Int) (hl : zs.length < 4611686018427387904) :
  zaj Tryz.prog za0 [.rs 0 0 zs.length] [{ s:=1,rows:=zdy zs }] (.tup []) ([{ s:=1,rows:=zdy (zs.mergeSort fun x y=>decide (x ≤ y)) }].map some):=by
 by_cases h0 : zs = []
 ·subst h0
  refine ⟨zcX.body,by simp,fun T M w vs htok hhs hdom hrep=>?_⟩
  obtain ⟨hsz,hr⟩:=hrep
  have hr0:=hr 0 (by simp)
  simp only [List.getD_cons_zero] at hr0
  rw [arr1 hsz]
  generalize vs.getD 0 undef = v at hr0
  cases hr0 with
  | rs _ _ _ _ cap a g hg hgz hlc hn hb =>
  refine (Any.slices_Sort_int_none Tryz.lays189 a cap w).mono ?_
  rintro e w' ⟨rfl,rfl⟩
  exact ⟨_,T,M,rfl,.tup M [] #[] rfl (fun i hi=>by simp at hi),by rw [zgW]; simpa using hhs,zg9.refl htok hdom⟩
 ·exact zpN zs h0 hl
def outs (l : List Ed) (key : Int) : List Int:=l.filterMap fun e=>if e.f = key then some e.t else none
theorem zmy (l : List Ed) (key : Int) (k : Nat) (h : k < l.length) : outs (l.take (k + 1)) key = outs (l.take k) key ++ if l[k].f = key then [l[k].t] else []:=by
 unfold outs
 rw [← List.take_concat_get h,List.concat_eq_append,List.filterMap_append]
 congr 1
 by_cases hc : l[k].f = key <;> simp [hc]
theorem znG (l : List Ed) (key : Int) : (outs l key).length ≤ l.length:=List.length_filterMap_le _ _
theorem zl9 (g : Gr) (key : Int) (hl : g.edges.length ≤ 1099511627776) : zaj Tryz.prog zg8 [eG g,.I key] [] (.rs 0 0 (outs g.edges key).length) [some ⟨1,((outs g.edges key).mergeSort fun x y=>decide (x ≤ y)).map fun n=>[AV.I n],0⟩]:=by
 refine zo2.acalls (Nat.le_of_ble_eq_true rfl) (Nat.le_of_ble_eq_true rfl) (Nat.zero_le _) ?_
 show awp _ 0 _ _ ⟨28,[(0,eG g),(1,.I key)],[],16⟩
 refine zaa ?_
 refine zac (s:=?s0) rfl ?o0 ?q0
 case o0=>simp; rfl
 refine zaa ?_
 refine zac (s:=?s1) rfl ?o1 ?q1
 case o1=>simp; rfl
 refine zaa ?_
 refine zaa ?_
 refine zac (s:=?s2) rfl ?o2 ?q2
 case o2=>simp; rfl
 refine zaf ?_
 refine zap (ι:=Nat) (fun k=>⟨28,[(1,.I key),(5,.rs 16 0 (outs (g.edges.take k) key).length),(9,eEs g.edges),(10,.I g.edges.length),(11,.I k)],[(16,some ⟨1,(outs (g.edges.take k) key).map fun n=>[AV.I n],0⟩)],24⟩) (fun k=>k ≤ g.edges.length) (fun k=>g.edges.length - k) (0) ?_ (Le.lst [] [] [(16,1)] rfl (by simp) (by simp) (by simp) (by simp) (by simp) (by simp) (by simp) (by simp [Up,outs]) (by simp [outs])) ?_
 ·simp
 rintro k hk
 have hol : (outs (g.edges.take k) key).length ≤ k:=Nat.le_trans (znG _ _) (by simp; exact Nat.min_le_left _ _)
 refine zaa ?_
 refine zac (s:=?s3) rfl ?o3 ?q3
 case o3=>simp; rfl
 refine zaa ?_
 refine zad _ rfl (fun h4=>?_) fun h4=>?_
 ·try simp at h4
  have hw2 : IntKind.i64.wrap ((k : Int) + 1) = (k : Int) + 1:=w64 (by omega) (by omega)
  have hwp : 0 < k → IntKind.i64.wrap ((k : Int) - 1) = ((k - 1 : Nat) : Int):=fun h=>by rw [w64 (by omega) (by omega)]; omega
  have hkp : k - 1 < g.edges.length:=by omega
  refine zae ?_
  refine zaa ?_
  refine zaf ?_
  refine zab ⟨28,[(1,.I key),(5,.rs 16 0 (outs (g.edges.take k) key).length),(7,.pv (eC g.edges[k])),(9,eEs g.edges),(10,.I g.edges.length),(11,.I k)],[(16,some ⟨1,(outs (g.edges.take k) key).map fun n=>[AV.I n],0⟩)],24⟩ rfl ?_ ?_
  ·simp [h4,hw2,hwp,hkp]
   exact Le.var1 16 [48] rfl rfl (Nat.le_of_ble_eq_true rfl) (by decide) rfl (by simp [fcd]) (by simp) (by simp [h4,hw2,hwp,hkp])
  refine zaa ?_
  refine zac (s:=?s5) rfl ?o5 ?q5
  case o5=>simp [h4,hw2,hwp,hkp]; rfl
  refine zad _ rfl (fun h6=>?_) fun h6=>?_
  ·try simp at h6
   refine zac (s:=?s7) rfl ?o7 ?q7
   case o7 =>
    simp [h4,hw2,hwp,hkp,List.replicate]
    refine ⟨by omega,by omega,?_⟩
    rfl
   refine zac (s:=?s8) rfl ?o8 ?q8
   case o8=>simp [h4,hw2,hwp,hkp]; rfl
   have hs:=zmy g.edges key k h4
   rw [if_pos h6] at hs
   refine ⟨k + 1,h4,by omega,Le.ren1 88 16 [] rfl rfl (Nat.le_of_ble_eq_true rfl) (by decide) rfl (by simp [hs,fcd,zal]) (by simp) (by simp [hs,hw2])⟩
  try simp at h6
  refine zae ?_
  refine zac (s:=?s9) rfl ?o9 ?q9
  case o9=>simp [h4,hw2,hwp,hkp]; rfl
  have hs:=zmy g.edges key k h4
  rw [if_neg h6,List.append_nil] at hs
  refine ⟨k + 1,h4,by omega,Le.var1 16 [] rfl rfl (Nat.le_of_ble_eq_true rfl) (by decide) rfl (by simp [hs,fcd,zal]) (by simp) (by simp [hs,hw2])⟩
 try simp at h4
 have hkl : k = g.edges.length:=by omega
 subst hkl
 have hol2:=znG g.edges key
 refine zao ?_
 refine hit ?_
 refine zaa ?_
 refine zac (s:=?s10) rfl ?o10 ?q10
 case o10 =>
  simp
  refine zba (i:=16) rfl (e':=⟨1,zdy (outs g.edges key),0⟩) (by simp [zdy,fcd]) (zq4 (outs g.edges key) (by omega)) (by simp) (by simp) ?_
  simp [zdy,fcd]
  rfl
 refine zaa ?_
 refine zac (s:=?s11) rfl ?o11 ?q11
 case o11=>simp; rfl
 refine zag ?_
 exact ⟨.inr rfl,zan.out [16] [] rfl (by simp) (by simp) (by simp) (by simp [fcd])⟩
@[simp] theorem zuk {ρ : List (Nat × Nat)} {sn : List Nat} {h : Nat → Option Ent} {n : Nat} {f : Fn} {a b : List AV} : conv ρ sn h (n + 1) (.fn f a b) = .fn f (a.map (conv ρ sn h n)) (b.map (conv ρ sn h n)):=(rfl)
end Go.Proofs.YteiabadhhhckfaaGreat
