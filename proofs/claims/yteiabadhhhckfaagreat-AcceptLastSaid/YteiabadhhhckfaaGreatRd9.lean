/- Texts of this claim,merged. -/
import Derived.Test.YteiabadhhhckfaaGreatRd8
import Derived.Test.YteiabadhhhckfaaGreatRd6
import Derived.Test.YteiabadhhhckfaaGreatProg
import Derived.KernelRfl
import Derived.Test.YteiabadhhhckfaaGreatRd7
set_option linter.unusedSimpArgs false
set_option linter.unusedVariables false
set_option linter.unusedSectionVars false
namespace Go.Proofs.YteiabadhhhckfaaGreat
open Go
theorem zgf : Src Tryz.prog zdD zgI:=⟨mixed,Tryz.f6,by kernel_rfl,by kernel_rfl,by decide⟩
theorem zgP : Src Tryz.prog zd0 zg5:=⟨mixed,Tryz.f11,by kernel_rfl,by kernel_rfl,by decide⟩
theorem zht : Src Tryz.prog zd4 zhn:=⟨mixed,Tryz.f12,by kernel_rfl,by kernel_rfl,by decide⟩
theorem zmI : Src Tryz.prog za9 zml:=⟨mixed,Tryz.f20,by kernel_rfl,by kernel_rfl,by decide⟩
theorem zgV : Src Tryz.prog zbv zg2:=⟨mixed,Tryz.f23,by kernel_rfl,by kernel_rfl,by decide⟩
theorem znz : Src Tryz.prog zce znr:=⟨mixed,Tryz.f24,by kernel_rfl,by kernel_rfl,by decide⟩
theorem zim : Src Tryz.prog zbO zjo:=⟨mixed,Tryz.f27,by kernel_rfl,by kernel_rfl,by decide⟩
theorem zjE : Src Tryz.prog zcR zjV:=⟨mixed,Tryz.f29,by kernel_rfl,by kernel_rfl,by decide⟩
theorem zkO : Src Tryz.prog zev zls:=⟨mixed,Tryz.f34,by kernel_rfl,by kernel_rfl,by decide⟩
theorem zoE : Src Tryz.prog zfh zo1:=⟨mixed,Tryz.f42,by kernel_rfl,by kernel_rfl,by decide⟩
theorem zmF : Src Tryz.prog zeM zmh:=⟨mixed,Tryz.f55,by kernel_rfl,by kernel_rfl,by decide⟩
theorem zoz : Src Tryz.prog zg4 zox:=⟨mixed,Tryz.f70,by kernel_rfl,by kernel_rfl,by decide⟩
theorem zji : Src Tryz.prog zbw zi7:=⟨mixed,Tryz.f71,by kernel_rfl,by kernel_rfl,by decide⟩
theorem zkV : Src Tryz.prog zc7 zkK:=⟨mixed,Tryz.f72,by kernel_rfl,by kernel_rfl,by decide⟩
theorem zlL : Src Tryz.prog zdH zmB:=⟨mixed,Tryz.f73,by kernel_rfl,by kernel_rfl,by decide⟩
theorem zie : Src Tryz.prog zbe ziM:=⟨mixed,Tryz.f74,by kernel_rfl,by kernel_rfl,by decide⟩
theorem zkS : Src Tryz.prog zbZ zk3:=⟨mixed,Tryz.f75,by kernel_rfl,by kernel_rfl,by decide⟩
theorem zk9 : Src Tryz.prog zeu zkA:=⟨mixed,Tryz.f76,by kernel_rfl,by kernel_rfl,by decide⟩
theorem zlc : Src Tryz.prog zdc zlz:=⟨mixed,Tryz.f80,by kernel_rfl,by kernel_rfl,by decide⟩
theorem zg6 : Src Tryz.prog zbY zhd:=⟨mixed,Tryz.f82,by kernel_rfl,by kernel_rfl,by decide⟩
theorem zjT : Src Tryz.prog zdS zjS:=⟨mixed,Tryz.f86,by kernel_rfl,by kernel_rfl,by decide⟩
theorem znd : Src Tryz.prog zd7 zmV:=⟨mixed,Tryz.f87,by kernel_rfl,by kernel_rfl,by decide⟩
theorem znA : Src Tryz.prog zep zmR:=⟨mixed,Tryz.f88,by kernel_rfl,by kernel_rfl,by decide⟩
theorem znB : Src Tryz.prog zfR zno:=⟨mixed,Tryz.f89,by kernel_rfl,by kernel_rfl,by decide⟩
theorem zp7 : Src Tryz.prog zi4 zq2:=⟨mixed,Tryz.f96,by kernel_rfl,by kernel_rfl,by decide⟩
theorem zjN : Src Tryz.prog zdV zjz:=⟨mixed,Tryz.f115,by kernel_rfl,by kernel_rfl,by decide⟩
theorem zkW : Src Tryz.prog zeo zk8:=⟨mixed,Tryz.f116,by kernel_rfl,by kernel_rfl,by decide⟩
theorem zpq : Src Tryz.prog zjc zqB:=⟨mixed,Tryz.f117,by kernel_rfl,by kernel_rfl,by decide⟩
theorem zoU : Src Tryz.prog zfn zoO:=⟨mixed,Tryz.f118,by kernel_rfl,by kernel_rfl,by decide⟩
theorem zfc : Src Tryz.prog zbm zeR:=⟨mixed,Tryz.f119,by kernel_rfl,by kernel_rfl,by decide⟩
theorem zhI : Src Tryz.prog zaH zhG:=⟨mixed,Tryz.f121,by kernel_rfl,by kernel_rfl,by decide⟩
theorem zl0 : Src Tryz.prog ze3 zmd:=⟨mixed,Tryz.f125,by kernel_rfl,by kernel_rfl,by decide⟩
theorem zm3 : Src Tryz.prog zdp znx:=⟨mixed,Tryz.f127,by kernel_rfl,by kernel_rfl,by decide⟩
theorem zkZ : Src Tryz.prog zc9 zk5:=⟨mixed,Tryz.f128,by kernel_rfl,by kernel_rfl,by decide⟩
theorem zjG : Src Tryz.prog zcU zjR:=⟨mixed,Tryz.f129,by kernel_rfl,by kernel_rfl,by decide⟩
theorem zpl : Src Tryz.prog zfp zpb:=⟨mixed,Tryz.f130,by kernel_rfl,by kernel_rfl,by decide⟩
theorem zlj : Src Tryz.prog zer zkT:=⟨mixed,Tryz.f131,by kernel_rfl,by kernel_rfl,by decide⟩
theorem zmn : Src Tryz.prog zbz zlZ:=⟨mixed,Tryz.f133,by kernel_rfl,by kernel_rfl,by decide⟩
theorem zhk : Src Tryz.prog zaE zgX:=⟨mixed,Tryz.f148,by kernel_rfl,by kernel_rfl,by decide⟩
theorem zm8 : Src Tryz.prog zez znp:=⟨mixed,Tryz.f149,by kernel_rfl,by kernel_rfl,by decide⟩
theorem zgv : Src Tryz.prog zbJ zf3:=⟨mixed,Tryz.f150,by kernel_rfl,by kernel_rfl,by decide⟩
theorem zet : Src Tryz.prog zbB zeq:=⟨mixed,Tryz.f151,by kernel_rfl,by kernel_rfl,by decide⟩
theorem zoD : Src Tryz.prog zgQ zoY:=⟨mixed,Tryz.f152,by kernel_rfl,by kernel_rfl,by decide⟩
theorem zfE : Src Tryz.prog zbA zfK:=⟨mixed,Tryz.f153,by kernel_rfl,by kernel_rfl,by decide⟩
theorem zjw : Src Tryz.prog zcQ zjA:=⟨mixed,Tryz.f160,by kernel_rfl,by kernel_rfl,by decide⟩
theorem zb2 : Src Tryz.prog zaN zb3:=⟨mixed,Tryz.f161,by kernel_rfl,by kernel_rfl,by decide⟩
theorem zfU : Src Tryz.prog zcf zfL:=⟨mixed,Tryz.f171,by kernel_rfl,by kernel_rfl,by decide⟩
theorem zfI : Src Tryz.prog zcg zfX:=⟨mixed,Tryz.f174,by kernel_rfl,by kernel_rfl,by decide⟩
theorem zco : Src Tryz.prog zaS zcs:=⟨mixed,Tryz.f176,by kernel_rfl,by kernel_rfl,by decide⟩
def modI (n m : Int) : Int:=if m < 1 then 0 else n % m
theorem zqY {n m : Int} (hm : 0 < m) : n.tmod m % m = n % m:=by
 have h:=Int.mul_tdiv_add_tmod n m
 conv=>rhs; rw [← h]
 rw [Int.add_comm,Int.add_mul_emod_self_left]
theorem zoy {n m : Int} (hm : 0 < m) : -m < n.tmod m ∧ n.tmod m < m:=⟨Int.lt_tmod_of_pos n hm,Int.tmod_lt_of_pos n hm⟩
def zau (L : List Int) (a : Nat) (n : Int) : Int × Nat:=if h : a < L.length then (modI L[a] n,a + 1) else (0,a)
abbrev dice (L : List Int) (a : Nat) : Ent:=⟨2,[[ints L,.I a]],0⟩
theorem zan.k1 {rs : List (Nat × Option (Bool × Nat))} {st : St} {vs : List AV} {res : AV} {e : Ent} (h1 : zeA st rs = some vs) (hw : Wk (conv [(0,0)] [] st.hp 4 (resV vs)) res) (he : (st.hp 0).map (zaw [(0,0)] [] st.hp 4) = some e) : zan rs 1 st res [some e] :=
 ⟨vs,h1,[],[],by decide,by simp,by simp,hw,by simpa using he⟩
theorem zlb (L : List Int) : zaj Tryz.prog zdh [ints L] [] (.B (decide (L.length ≤ 400))) []:=by
 refine znt.acalls (Nat.le_of_ble_eq_true rfl) (Nat.le_of_ble_eq_true rfl) (Nat.le_refl _) ?_
 show awp _ 0 _ _ ⟨6,[(0,ints L)],[],16⟩
 refine zaa ?_
 refine zac (s:=?s1) rfl ?o1 ?q1
 case o1=>simp; rfl
 refine zab ⟨6,[(2,.B (decide (L.length ≤ 400)))],[],16⟩ rfl ?_ ?_
 ·simp
  exact Le.snap [] rfl rfl (by simp <;> exact wkB (by simp; omega))
 refine zag ?_
 exact ⟨.inr rfl,zan.one (by simp)⟩
theorem ztj (n m : Int) (hm : m ≤ 9223372036854775807) : zaj Tryz.prog zjb [.I n,.I m] [] (.I (modI n m)) []:=by
 refine zq0.acalls (Nat.le_of_ble_eq_true rfl) (Nat.le_of_ble_eq_true rfl) (Nat.le_refl _) ?_
 show awp _ 0 _ _ ⟨16,[(0,.I n),(1,.I m)],[],16⟩
 refine zaa ?_
 refine zac (s:=?s1) rfl ?o1 ?q1
 case o1=>simp; rfl
 refine zaa ?_
 refine zaa ?_
 refine zac (s:=?s2) rfl ?o2 ?q2
 case o2=>simp; rfl
 refine zad _ rfl (fun h3=>?_) fun h3=>?_
 ·try simp at h3
  refine zaa ?_
  refine zac (s:=?s4) rfl ?o4 ?q4
  case o4=>simp; rfl
  refine zag ?_
  exact ⟨.inr rfl,zan.one (by simp [modI,h3])⟩
 try simp at h3
 have hm0 : m ≠ 0:=by omega
 have hlt : ¬ m < 1:=by omega
 obtain ⟨t1,t2⟩:=zoy (n:=n) (m:=m) (by omega)
 have te:=zqY (n:=n) (m:=m) (by omega)
 refine zae ?_
 refine zaa ?_
 refine zac (s:=?s5) rfl ?o5 ?q5
 case o5=>simp [hm0]; rfl
 refine zaa ?_
 refine zaa ?_
 refine zac (s:=?s6) rfl ?o6 ?q6
 case o6=>simp; rfl
 refine zad _ rfl (fun h7=>?_) fun h7=>?_
 ·try simp at h7
  have hw : IntKind.i64.wrap (n.tmod m + m) = n.tmod m + m:=w64 (by omega) (by omega)
  have hr : n % m = n.tmod m + m:=by rw [← te,← Int.add_emod_right,Int.emod_eq_of_lt (by omega) (by omega)]
  refine zac (s:=?s8) rfl ?o8 ?q8
  case o8=>simp [hw]; rfl
  refine zaa ?_
  refine zac (s:=?s9) rfl ?o9 ?q9
  case o9=>simp; rfl
  refine zag ?_
  exact ⟨.inr rfl,zan.one (by simp [modI,hlt,hr])⟩
 try simp at h7
 have hr : n % m = n.tmod m:=by rw [← te,Int.emod_eq_of_lt (by omega) (by omega)]
 refine zae ?_
 refine zaa ?_
 refine zac (s:=?s10) rfl ?o10 ?q10
 case o10=>simp; rfl
 refine zag ?_
 exact ⟨.inr rfl,zan.one (by simp [modI,hlt,hr])⟩
theorem znj (L : List Int) : zaj Tryz.prog zdY [ints L] [] (.pt 0 0 0) [some (dice L 0)]:=by
 refine zo6.acalls (Nat.le_of_ble_eq_true rfl) (Nat.le_of_ble_eq_true rfl) (Nat.zero_le _) ?_
 show awp _ 0 _ _ ⟨6,[(0,ints L)],[],16⟩
 refine zaa ?_
 refine zac (s:=?s1) rfl ?o1 ?q1
 case o1=>simp; rfl
 refine zaa ?_
 refine zac (s:=?s2) rfl ?o2 ?q2
 case o2=>simp; rfl
 refine zag ?_
 exact ⟨.inr rfl,zan.out [40] [] rfl (by simp) (by simp) (by simp) (by simp)⟩
theorem zkY (L : List Int) (a : Nat) (n : Int) (hl : L.length ≤ 1099511627776) (ha : a ≤ L.length) (hn : n ≤ 9223372036854775807) : zaj Tryz.prog zax [.pt 0 0 0,.I n] [dice L a] (.I (zau L a n).1) [some (dice L (zau L a n).2)]:=by
 refine zic.acalls (Nat.le_of_ble_eq_true rfl) (Nat.le_of_ble_eq_true rfl) (Nat.le_refl _) ?_
 show awp _ 1 _ _ ⟨35,[(0,.pt 0 0 0),(1,.I n)],[(0,some (dice L a))],16⟩
 refine zaa ?_
 refine zac (s:=?s1) rfl ?o1 ?q1
 case o1=>simp; rfl
 refine zaa ?_
 refine zaa ?_
 refine zdK (s:=?s2) (tr:=?t2) rfl ?o2 ?r2 ?q2
 case o2=>simp; constructor <;> rfl
 case r2=>rfl
 refine zad _ rfl (fun h3=>?_) fun h3=>?_
 ·try simp at h3
  refine zaa ?_
  refine zac (s:=?s4) rfl ?o4 ?q4
  case o4=>simp; rfl
  refine zag ?_
  have hr : zau L a n = (0,a):=by unfold zau; rw [dif_neg (by omega)]
  rw [hr]
  exact ⟨.inr rfl,zan.k1 rfl (by simp) (by simp [fcd])⟩
 try simp at h3
 have hw : IntKind.i64.wrap ((a : Int) + 1) = (a : Int) + 1:=w64 (by omega) (by omega)
 have hw0 : IntKind.i64.wrap (a : Int) = (a : Int):=w64 (by omega) (by omega)
 refine zae ?_
 refine zaa ?_
 refine zac (s:=?s5) rfl ?o5 ?q5
 case o5=>simp [hw]; rfl
 refine zaa ?_
 refine zdK (s:=?s6) (tr:=?t6) rfl ?o6 ?r6 ?q6
 case o6=>simp [hw0,h3]; refine zam (ztj _ _ hn) rfl ?_; simp; constructor <;> rfl
 case r6=>rfl
 refine zag ?_
 have hr : zau L a n = (modI L[a] n,a + 1):=by unfold zau; rw [dif_pos h3]
 rw [hr]
 exact ⟨.inr rfl,zan.k1 rfl (by simp) (by simp [fcd])⟩
theorem zsz {n m : Int} (hm : 0 < m) : 0 ≤ modI n m ∧ modI n m < m:=by
 unfold modI
 rw [if_neg (by omega)]
 exact ⟨Int.emod_nonneg _ (by omega),Int.emod_lt_of_pos _ hm⟩
theorem zdF {L : List Int} {a : Nat} {n : Int} (hn : 0 < n) : 0 ≤ (zau L a n).1 ∧ (zau L a n).1 < n:=by
 unfold zau
 split
 ·exact zsz hn
 ·exact ⟨Int.le_refl _,hn⟩
theorem zbt {L : List Int} {a : Nat} {n : Int} (ha : a ≤ L.length) : (zau L a n).2 ≤ L.length:=by
 unfold zau
 split
 ·simp only; omega
 ·exact ha
def ofD (L : List Int) (a : Nat) (l : List Int) : Int:=l.getD (zau L a l.length).1.toNat 0
theorem zr5 (L : List Int) (a : Nat) (n : Int) (hl : L.length ≤ 1099511627776) (ha : a ≤ L.length) (hn0 : 0 ≤ n) (hn : n ≤ 9223372036854775807) : zaj Tryz.prog zb7 [.pt 0 0 0,.I n] [dice L a] (.B (decide ((zau L a n).1 = n - 1))) [some (dice L (zau L a n).2)]:=by
 refine zjv.acalls (Nat.le_of_ble_eq_true rfl) (Nat.le_of_ble_eq_true rfl) (Nat.le_refl _) ?_
 show awp _ 1 _ _ ⟨11,[(0,.pt 0 0 0),(1,.I n)],[(0,some (dice L a))],16⟩
 have hw : IntKind.i64.wrap (n - 1) = n - 1:=w64 (by omega) (by omega)
 refine zaa ?_
 refine zac (s:=?s1) rfl ?o1 ?q1
 case o1=>simp; rfl
 refine zaa ?_
 refine zac (s:=?s2) rfl ?o2 ?q2
 case o2 =>
  simp
  refine zba (i:=0) rfl (e':=dice L a) (by simp [fcd]) (zkY L a n hl ha hn) (by simp) (by simp) ?_
  simp [hw,fcd]
  rfl
 refine zag ?_
 exact ⟨.inr rfl,zan.k1 rfl (by simp <;> exact wkB rfl) (by simp [fcd])⟩
theorem zup (L : List Int) (a : Nat) (l : List Int) (hl : L.length ≤ 1099511627776) (ha : a ≤ L.length) (h0 : 0 < l.length) (hl2 : l.length ≤ 1099511627776) : zaj Tryz.prog zcu [.pt 0 0 0,ints l] [dice L a] (.I (ofD L a l)) [some (dice L (zau L a l.length).2)]:=by
 refine zkJ.acalls (Nat.le_of_ble_eq_true rfl) (Nat.le_of_ble_eq_true rfl) (Nat.le_refl _) ?_
 show awp _ 1 _ _ ⟨12,[(0,.pt 0 0 0),(1,ints l)],[(0,some (dice L a))],16⟩
 obtain ⟨q,hq,hql⟩ : ∃ q : Nat,(zau L a l.length).1 = q ∧ q < l.length:=by
  have:=zdF (L:=L) (a:=a) (n:=l.length) (by omega)
  exact ⟨(zau L a l.length).1.toNat,by omega,by omega⟩
 have ho : ofD L a l = l[q]:=by unfold ofD; rw [hq]; simp [hql]
 refine zaa ?_
 refine zac (s:=?s1) rfl ?o1 ?q1
 case o1=>simp; rfl
 refine zaa ?_
 refine zac (s:=?s2) rfl ?o2 ?q2
 case o2 =>
  simp
  refine zba (i:=0) rfl (e':=dice L a) (by simp [fcd]) (zkY L a l.length hl ha (by omega)) (by simp) (by simp) ?_
  simp [hq,hql,fcd]
  rfl
 refine zag ?_
 rw [ho]
 exact ⟨.inr rfl,zan.k1 rfl (by simp) (by simp [fcd])⟩
theorem GrOk.lt {g : Gr} (h : GrOk g) : ∀ (j i : Nat) (hi : i < g.edges.length) (hj : j < g.edges.length),i < j → Bef g.edges[i] g.edges[j]
 | 0,_,_,_,h0=>by omega
 | j + 1,i,hi,hj,hij=>by
   have h1 : Bef g.edges[j] g.edges[j + 1]:=zg0.1 ((h.2 (j + 1) hj).2.2.2 (by omega))
   rcases Nat.lt_or_ge i j with h2 | h2
   ·have h3:=GrOk.lt h j i hi (by omega) h2
    unfold Bef at *
    omega
   ·obtain rfl : i = j:=by omega
    exact h1
theorem GrOk.mono {g : Gr} (h : GrOk g) (e : Ed) : ∀ (i j : Nat) (hi : i < g.edges.length) (hj : j < g.edges.length),i ≤ j → Bef g.edges[j] e → Bef g.edges[i] e:=by
 intro i j hi hj hij hb
 rcases Nat.lt_or_ge i j with h2 | h2
 ·have h3:=h.lt j i hi hj h2
  unfold Bef at *
  omega
 ·obtain rfl : i = j:=by omega
  exact hb
section
variable {P : Program} {np id : Nat} {h : Nat → Option Ent} {K : AV → List Nat → List (Nat × Option Ent) → Prop} {f : FuncId} {first capt args args' : List AV} {res : AV}
theorem znH {i j : Nat} {e e' ej : Ent} {hs' : List (Option Ent)} (hij : j ≠ i) (hnp : np ≤ j) (hi : h i = some e) (hj : h j = some ej) (hee : zaw [(i,0)] [j] h 4 e = e') (hc : zaj P f args' [e'] res hs') (h8 : hs'.length ≤ 9) (he : (first ++ args ++ capt).map (conv [(i,0)] [j] h 4) = args')
  (hk : K (conv (swp [i] id) [] (fun _=>none) 4 res) [i,j] ((hs'.zipIdx.map fun (e,k)=>((i :: (List.range 8).map (id + ·)).getD k 0,e.map (zaw (swp [i] id) [] (fun _=>none) 4))) ++ [(j,some { ej with ro:=ej.rows.length })])) : aK P np id .call (.fn (.func f) first capt :: args) h K :=
 ⟨[i],[j],true,args',[e'],res,hs',by simp,by simpa using hij,by simpa using hnp,by rw [show [i].zipIdx = [(i,0)] from rfl,he]; exact zbX _,by rw [show [i].zipIdx = [(i,0)] from rfl]; simpa [hi] using hee,hc,by simpa using h8,.inl rfl,by simpa [swp,hj] using hk⟩
end
theorem zq8 {l : List Ed} {e : Ed} {i : Nat} (h : i < idxE l e) (hi : i < l.length) : Bef l[i] e:=by
 have:=List.not_of_lt_findIdx h
 simpa using this
theorem zri {l : List Ed} {e : Ed} (h : idxE l e < l.length) : ¬ Bef l[idxE l e] e:=by
 have h1 : l.findIdx (fun x=>!decide (Bef x e)) < l.length:=h
 have:=List.findIdx_getElem (w:=h1)
 intro hb
 have h2 : decide (Bef l[l.findIdx (fun x=>!decide (Bef x e))] e) = true:=decide_eq_true hb
 simp only [h2] at this
 cases this
theorem zrA {g : Gr} {e : Ed} (hg : GrOk g) (hf : Fits g e) (h1 : 1 ≤ e.v) (h3 : e.v ≤ 3) (ha : ¬ AtE g.edges (idxE g.edges ⟨e.f,e.t,0⟩) e.f e.t) (hl : g.edges.length < 500) : GrOk (zlD g e):=by
 have hle:=zpA g.edges ⟨e.f,e.t,0⟩
 have hb : ∀ i (hi : i < g.edges.length),i < idxE g.edges ⟨e.f,e.t,0⟩ → Bef g.edges[i] e:=fun i hi h=>by
  have:=zq8 h hi
  exact this
 have hn : ∀ (h : idxE g.edges ⟨e.f,e.t,0⟩ < g.edges.length),Bef e g.edges[idxE g.edges ⟨e.f,e.t,0⟩]:=fun h=>by
  have h2:=zri h
  have h4 : ¬ (g.edges[idxE g.edges ⟨e.f,e.t,0⟩].f = e.f ∧ g.edges[idxE g.edges ⟨e.f,e.t,0⟩].t = e.t):=fun q=>ha ⟨h,q⟩
  simp only [Bef] at h2 ⊢
  omega
 unfold zlD
 generalize idxE g.edges ⟨e.f,e.t,0⟩ = k at *
 have hlen : (g.edges.take k ++ e :: g.edges.drop k).length = g.edges.length + 1:=by simp; omega
 have hget : ∀ i (hi : i < (g.edges.take k ++ e :: g.edges.drop k).length),(g.edges.take k ++ e :: g.edges.drop k)[i] = if h : i < k then g.edges[i]'(by omega) else if h2 : i = k then e else g.edges[i - 1]'(by omega):=by
  intro i hi
  have htl : (g.edges.take k).length = k:=by simp; omega
  by_cases h : i < k
  ·rw [dif_pos h,List.getElem_append_left (by omega),List.getElem_take]
  ·rw [dif_neg h,List.getElem_append_right (by omega)]
   by_cases h2 : i = k
   ·subst h2
    simp [htl]
   ·rw [dif_neg h2]
    rw [List.getElem_cons]
    rw [dif_neg (by omega),List.getElem_drop]
    congr 1
    omega
 refine ⟨⟨hg.1.1,hg.1.2.1,by simp only [hlen]; omega,hg.1.2.2.2⟩,fun i hi=>?_⟩
 simp only at hi
 have hfit : ∀ x : Ed,Fits ⟨g.size,g.edges.take k ++ e :: g.edges.drop k,g.gone⟩ x ↔ Fits g x:=fun x=>Iff.rfl
 simp only [hfit,zg0,hget]
 have hE:=fun j (hj : j < g.edges.length)=>hg.2 j hj
 by_cases h : i < k
 ·simp only [dif_pos h]
  refine ⟨(hE i (by omega)).1,(hE i (by omega)).2.1,(hE i (by omega)).2.2.1,fun h0=>?_⟩
  rw [dif_pos (by omega)]
  exact zg0.1 ((hE i (by omega)).2.2.2 h0)
 ·simp only [dif_neg h]
  by_cases h2 : i = k
  ·subst h2
   simp only [dif_pos]
   refine ⟨hf,h1,h3,fun h0=>?_⟩
   rw [dif_pos (by omega)]
   exact hb _ _ (by omega)
  ·simp only [dif_neg h2]
   refine ⟨(hE (i - 1) (by omega)).1,(hE (i - 1) (by omega)).2.1,(hE (i - 1) (by omega)).2.2.1,fun h0=>?_⟩
   rw [dif_neg (by omega)]
   by_cases h4 : i - 1 = k
   ·rw [dif_pos h4]
    subst h4
    exact hn _
   ·rw [dif_neg h4]
    exact hg.lt _ _ _ _ (by omega)
theorem zop {g : Gr} {e : Ed} (h : (zcW g e).2 = 0) : GrOk g ∧ Fits g e ∧ (1 ≤ e.v ∧ e.v ≤ 3) ∧ ¬ AtE g.edges (idxE g.edges ⟨e.f,e.t,0⟩) e.f e.t ∧ g.edges.length < 500 ∧ (zcW g e).1 = zlD g e ∧ GrOk (zlD g e):=by
 have key : GrOk g ∧ Fits g e ∧ (1 ≤ e.v ∧ e.v ≤ 3) ∧ ¬ AtE g.edges (idxE g.edges ⟨e.f,e.t,0⟩) e.f e.t ∧ g.edges.length ≠ 500 ∧ (zcW g e).1 = zlD g e:=by
  unfold zcW at *
  split at h
  ·simp at h
  split at h
  ·simp at h
  split at h
  ·simp at h
  split at h
  ·simp at h
  split at h
  ·simp at h
  simp_all
 obtain ⟨h1,h2,h3,h4,h5,h6⟩:=key
 have h7 : g.edges.length < 500:=by have:=h1.1.2.2.1; omega
 exact ⟨h1,h2,h3,h4,h7,h6,zrA h1 h2 h3.1 h3.2 h4 h7⟩
noncomputable def zlB (L : List Int) (p : Gr × Nat) : Gr × Nat :=
 (if (zcW p.1 ⟨(zau L p.2 p.1.size).1,(zau L (zau L p.2 p.1.size).2 p.1.size).1,1 + (zau L (zau L (zau L p.2 p.1.size).2 p.1.size).2 3).1⟩).2 = 0
  then (zcW p.1 ⟨(zau L p.2 p.1.size).1,(zau L (zau L p.2 p.1.size).2 p.1.size).1,1 + (zau L (zau L (zau L p.2 p.1.size).2 p.1.size).2 3).1⟩).1 else p.1,
  (zau L (zau L (zau L p.2 p.1.size).2 p.1.size).2 3).2)
noncomputable def zrR (L : List Int) : Nat → Gr × Nat → Gr × Nat
 | 0,p=>p
 | n + 1,p=>zrR L n (zlB L p)
def zd5 (L : List Int) (a : Nat) : Int:=if L.length = 0 then 4 else 2 + (zau L a 8).1
def zch (L : List Int) (a : Nat) : Gr × Nat :=
 if (zau L (zau L a 8).2 8).1 = 7 then (⟨zd5 L a,[],[(zau L (zau L (zau L a 8).2 8).2 (zd5 L a)).1]⟩,(zau L (zau L (zau L a 8).2 8).2 (zd5 L a)).2)
 else (⟨zd5 L a,[],[]⟩,(zau L (zau L a 8).2 8).2)
noncomputable def zkg (L : List Int) (a : Nat) : Gr × Nat:=zrR L (zau L (zch L a).2 23).1.toNat ((zch L a).1,(zau L (zch L a).2 23).2)
structure zm1 (L : List Int) (p : Gr × Nat) : Prop where
 ok : GrOk p.1
 lo : 2 ≤ p.1.size
 hi : p.1.size ≤ 9
 at_ : p.2 ≤ L.length
 few : p.1.gone.length ≤ 1
theorem zin (L : List Int) (a : Nat) : 2 ≤ zd5 L a ∧ zd5 L a ≤ 9:=by
 have:=zdF (L:=L) (a:=a) (n:=8) (by omega)
 unfold zd5
 split <;> omega
theorem zjm (L : List Int) (a : Nat) (ha : a ≤ L.length) : zm1 L (zch L a):=by
 have hs:=zin L a
 have h1:=zbt (L:=L) (a:=a) (n:=8) ha
 have h2:=zbt (L:=L) (a:=(zau L a 8).2) (n:=8) h1
 have hq:=zdF (L:=L) (a:=(zau L (zau L a 8).2 8).2) (n:=zd5 L a) (by omega)
 unfold zch
 split
 ·refine ⟨⟨⟨by simp only; omega,by simp only; omega,by simp,fun i hi=>?_⟩,fun i hi=>absurd hi (by simp)⟩,hs.1,hs.2,zbt h2,by simp⟩
  obtain rfl : i = 0:=by simpa using hi
  refine ⟨hq.1,?_,fun h=>by omega⟩
  have:=hq.2
  simp only [List.getElem_cons_zero]
  omega
 ·exact ⟨⟨⟨by simp only; omega,by simp only; omega,by simp,fun i hi=>absurd hi (by simp)⟩,fun i hi=>absurd hi (by simp)⟩,hs.1,hs.2,h2,by simp⟩
theorem zks {L : List Int} {p : Gr × Nat} (h : zm1 L p) : zm1 L (zlB L p):=by
 have h3:=zbt (n:=3) (zbt (n:=p.1.size) (zbt (n:=p.1.size) h.at_))
 unfold zlB
 by_cases hw : (zcW p.1 ⟨(zau L p.2 p.1.size).1,(zau L (zau L p.2 p.1.size).2 p.1.size).1,1 + (zau L (zau L (zau L p.2 p.1.size).2 p.1.size).2 3).1⟩).2 = 0
 ·rw [if_pos hw]
  obtain ⟨_,_,_,_,_,q6,q7⟩:=zop hw
  rw [q6]
  exact ⟨q7,h.lo,h.hi,h3,h.few⟩
 ·rw [if_neg hw]
  exact ⟨h.ok,h.lo,h.hi,h3,h.few⟩
theorem zkl {L : List Int} : ∀ (n : Nat) {p : Gr × Nat},zm1 L p → zm1 L (zrR L n p)
 | 0,_,h=>h
 | n + 1,_,h=>zkl n (zks h)
theorem zmW (L : List Int) (a : Nat) (ha : a ≤ L.length) : zm1 L (zkg L a):=by
 have h:=zjm L a ha
 exact zkl _ ⟨h.ok,h.lo,h.hi,zbt h.at_,h.few⟩
theorem zaC.eq {nl : List (Nat × Nat)} {e e' : Ent} (h : e = e') (hr : e'.ro ≤ e'.rows.length) : zaC nl e e':=by
 subst h
 exact zaC.rfl' hr
theorem zaC.row {nl : List (Nat × Nat)} {s ro : Nat} {e : Ent} {r r' : List AV} (h : e = ⟨s,[r],ro⟩) (hr : ro ≤ 1) (hu : UpL nl r r') (hs : s ≠ 0:=by decide) : zaC nl e ⟨s,[r'],ro⟩:=by
 subst h
 refine ⟨rfl,Nat.le_refl _,hr,.inr ⟨hs,rfl,fun i=>?_⟩⟩
 match i with
 | 0=>exact hu
 | _ + 1=>exact trivial
theorem zqa {nl : List (Nat × Nat)} : ∀ {xs ys : List AV},WkL xs ys → UpL nl xs ys
 | [],[],_=>trivial
 | _ :: _,_ :: _,h=>⟨.inl h.1,zqa h.2⟩
 | [],_ :: _,h=>False.elim h
 | _ :: _,[],h=>False.elim h
theorem Le.ents {np : Nat} {st st' : St} (ρ : List (Nat × Nat)) (sn : List Nat) (hsz : st'.sz = st.sz)
  (h0 : (ρ.map (·.1)).Nodup) (h1 : (ρ.map (·.2)).Nodup) (h2 : ∀ p ∈ ρ,p.2 < st'.n ∧ (p.2 < np → p.1 = p.2)) (h4 : ∀ i ∈ sn,np ≤ i ∧ i ∉ ρ.map (·.1)) (h5 : np ≤ st'.n)
  (ht : ∀ p ∈ st'.t,Wk (conv ρ sn st.hp 4 (st.get p.1)) p.2)
  (hh : ∀ p ∈ st'.h,∃ q e e',p.2 = some e' ∧ (q,p.1) ∈ ρ ∧ st.hp q = some e ∧ zaC [] (zaw ρ sn st.hp 4 e) e') : Le np st st' :=
 Le.lst ρ sn [] hsz h0 h1 h2 (by simp) h4 h5 (by simp) (fun p hp=>.inl (ht p hp)) fun p hp e' he'=>by
  obtain ⟨q,e,e2,h1,h2,h3,h4⟩:=hh p hp
  rw [he'] at h1
  cases h1
  exact .inl ⟨(q,p.1),h2,rfl,e,h3,h4⟩
theorem zeh (L : List Int) (a : Nat) (n : Int) (hl : L.length ≤ 400) (ha : a ≤ L.length) (hn : n ≤ 9223372036854775807) : zaj Tryz.prog zax [.pt 0 0 0,.I n] [dice L a] (.I (zau L a n).1) [some (dice L (zau L a n).2)]:=zkY L a n (by omega) ha hn
abbrev zG : Ent:=⟨3,[[.I 0,.nilS,.nilS]],0⟩
abbrev rowG (g : Gr) : Ent:=⟨3,[gC g],0⟩
set_option maxRecDepth 100000 in
theorem zrL (L : List Int) (a : Nat) (hl : L.length ≤ 400) (ha : a ≤ L.length) : zaj Tryz.prog zbk [.pt 0 0 0] [dice L a] (eG (zkg L a).1) [some (dice L (zkg L a).2)]:=by
 refine zhZ.acalls (Nat.le_of_ble_eq_true rfl) (Nat.le_of_ble_eq_true rfl) (Nat.le_refl _) ?_
 show awp _ 1 _ _ ⟨53,[(0,.pt 0 0 0)],[(0,some (dice L a))],16⟩
 have a1:=zbt (L:=L) (a:=a) (n:=8) ha
 have r1:=zdF (L:=L) (a:=a) (n:=8) (by omega)
 have hs:=zin L a
 have a2:=zbt (L:=L) (a:=(zau L a 8).2) (n:=8) a1
 have hw1 : IntKind.i64.wrap (2 + (zau L a 8).1) = 2 + (zau L a 8).1:=w64 (by omega) (by omega)
 have hm:=zjm L a ha
 refine zab ⟨53,[(0,.pt 0 0 0),(2,.pt 16 0 0)],[(0,some (dice L a)),(16,some zG)],24⟩ rfl ?_ ?_
 ·simp
  exact Le.keep rfl (Nat.le_refl _) (by simp) (by simp)
 refine zab ⟨53,[(0,.pt 0 0 0),(2,.pt 16 0 0),(3,.pt 56 0 0)],[(0,some (dice L (zau L a 8).2)),(16,some zG),(56,some ⟨3,[[.I (2 + (zau L a 8).1),.nilS,.nilS]],0⟩)],72⟩ rfl ?_ ?_
 ·simp
  refine zba (i:=0) rfl (e':=dice L a) (by simp [fcd]) (zeh L a 8 hl ha (by omega)) (by simp) (by simp) ?_
  simp [hw1,fcd]
  exact Le.keep rfl (Nat.le_refl _) (by simp) (by simp)
 refine zaI (ι:=Unit) (fun _=>⟨53,[(0,.pt 0 0 0),(2,.pt 16 0 0),(3,.pt 56 0 0)],[(0,some (dice L (zau L a 8).2)),(16,some zG),(56,some ⟨3,[[.I (zd5 L a),.nilS,.nilS]],0⟩)],136⟩) (fun _=>True) ?_ fun _ _=>?_
 ·refine zab ⟨53,[(0,.pt 0 0 0),(2,.pt 16 0 0),(3,.pt 56 0 0),(16,.B (decide (L.length = 0)))],[(0,some (dice L (zau L a 8).2)),(16,some zG),(56,some ⟨3,[[.I (2 + (zau L a 8).1),.nilS,.nilS]],0⟩)],120⟩ rfl ?_ ?_
  ·simp
   exact Le.keep rfl (Nat.le_refl _) (by simp <;> rw [Bool.eq_iff_iff] <;> simp) (by simp)
  refine zad _ rfl (fun h=>?_) fun h=>zae ?_
  ·simp only [decide_eq_true_eq] at h
   have hz : zd5 L a = 4:=by unfold zd5; rw [if_pos h]
   refine zar rfl ?_
   simp
   exact Le.keep rfl (Nat.le_refl _) (by simp) (by simp [hz])
  ·simp only [decide_eq_false_iff_not] at h
   have hz : zd5 L a = 2 + (zau L a 8).1:=by unfold zd5; rw [if_neg h]
   exact ⟨(),trivial,Le.keep rfl (Nat.le_of_ble_eq_true rfl) (by simp) (by simp [hz])⟩
 refine zaI (ι:=Unit) (fun _=>⟨53,[(0,.pt 0 0 0),(2,.pt 16 0 0),(3,.pt 56 0 0)],[(0,some (dice L (zch L a).2)),(16,some zG),(56,some (rowG (zch L a).1))],208⟩) (fun _=>True) ?_ fun _ _=>?_
 ·refine zab ⟨53,[(0,.pt 0 0 0),(2,.pt 16 0 0),(3,.pt 56 0 0),(19,.B (decide ((zau L (zau L a 8).2 8).1 = 7)))],[(0,some (dice L (zau L (zau L a 8).2 8).2)),(16,some zG),(56,some ⟨3,[[.I (zd5 L a),.nilS,.nilS]],0⟩)],152⟩ rfl ?_ ?_
  ·simp
   refine zba (i:=0) rfl (e':=dice L (zau L a 8).2) (by simp [fcd]) (zr5 L _ 8 (by omega) a1 (by omega) (by omega)) (by simp) (by simp) ?_
   simp [fcd]
   exact Le.keep rfl (Nat.le_refl _) (by simp) (by simp)
  refine zad _ rfl (fun h=>?_) fun h=>zae ?_
  ·simp only [decide_eq_true_eq] at h
   have hz : zch L a = (⟨zd5 L a,[],[(zau L (zau L (zau L a 8).2 8).2 (zd5 L a)).1]⟩,(zau L (zau L (zau L a 8).2 8).2 (zd5 L a)).2):=by unfold zch; rw [if_pos h]
   rw [hz]
   refine zar rfl ?_
   simp
   refine zba (i:=0) rfl (e':=dice L (zau L (zau L a 8).2 8).2) (by simp [fcd]) (zeh L (zau L (zau L a 8).2 8).2 (zd5 L a) hl a2 (by omega)) (by simp) (by simp) ?_
   simp [fcd]
   refine Le.ents [(0,0),(16,16),(56,56)] [184] rfl (by simp) (by simp) (by simp) (by simp) (by simp) (by simp) fun p hp=>?_
   simp at hp
   rcases hp with rfl | rfl | rfl
   ·exact ⟨0,_,_,rfl,by simp,rfl,zaC.eq (by simp) (by simp)⟩
   ·exact ⟨16,_,_,rfl,by simp,rfl,zaC.eq (by simp) (by simp)⟩
   ·exact ⟨56,_,_,rfl,by simp,rfl,zaC.row (by simp; rfl) (by simp) (zqa (by simp; exact ⟨.nil _ _,.refl _⟩))⟩
  ·simp only [decide_eq_false_iff_not] at h
   have hz : zch L a = (⟨zd5 L a,[],[]⟩,(zau L (zau L a 8).2 8).2):=by unfold zch; rw [if_neg h]
   rw [hz]
   refine ⟨(),trivial,Le.ents [(0,0),(16,16),(56,56)] [] rfl (by simp) (by simp) (by simp) (by simp) (by simp) (by simp) fun p hp=>?_⟩
   simp at hp
   rcases hp with rfl | rfl | rfl
   ·exact ⟨0,_,_,rfl,by simp,rfl,zaC.eq (by simp) (by simp)⟩
   ·exact ⟨16,_,_,rfl,by simp,rfl,zaC.eq (by simp) (by simp)⟩
   ·exact ⟨56,_,_,rfl,by simp,rfl,zaC.row (by simp; rfl) (by simp) (zqa (by simp; exact ⟨.nil _ _,.nil _ _⟩))⟩
 have r4:=zdF (L:=L) (a:=(zch L a).2) (n:=23) (by omega)
 obtain ⟨n0,hn0⟩ : ∃ n0 : Nat,(zau L (zch L a).2 23).1 = n0:=⟨(zau L (zch L a).2 23).1.toNat,by omega⟩
 refine zaa ?_
 refine zab ⟨53,[(0,.pt 0 0 0),(2,.pt 16 0 0),(3,.pt 56 0 0),(4,.I n0)],[(0,some (dice L (zau L (zch L a).2 23).2)),(16,some zG),(56,some (rowG (zch L a).1))],232⟩ rfl ?_ ?_
 ·simp
  refine zba (i:=0) rfl (e':=dice L (zch L a).2) (by simp [fcd]) (zeh L (zch L a).2 23 hl hm.at_ (by omega)) (by simp) (by simp) ?_
  simp [fcd,hn0]
  exact Le.keep rfl (Nat.le_refl _) (by simp) (by simp)
 refine zaf ?_
 refine zap (ι:=Nat × Gr × Nat) (fun q=>⟨53,[(0,.pt 0 0 0),(2,.pt 16 0 0),(3,.pt 56 0 0),(4,.I q.1)],[(0,some (dice L q.2.2)),(16,some zG),(56,some (rowG q.2.1))],232⟩)
  (fun q=>q.1 ≤ 23 ∧ zm1 L q.2 ∧ zrR L q.1 q.2 = zkg L a) (fun q=>q.1) (n0,(zch L a).1,(zau L (zch L a).2 23).2) ?_ (Le.refl _ _) ?_
 ·refine ⟨by simp only; omega,⟨hm.ok,hm.lo,hm.hi,zbt hm.at_,hm.few⟩,?_⟩
  unfold zkg
  rw [hn0]
  rfl
 rintro ⟨k,p⟩ ⟨hk,hp,hit⟩
 simp only at hk hp hit ⊢
 refine zaa ?_
 refine zab ⟨53,[(0,.pt 0 0 0),(2,.pt 16 0 0),(3,.pt 56 0 0),(4,.I k),(29,.B (decide (0 < k)))],[(0,some (dice L p.2)),(16,some zG),(56,some (rowG p.1))],248⟩ rfl ?_ ?_
 ·simp
  exact Le.keep rfl (Nat.le_refl _) (by simp) (by simp)
 refine zad _ rfl (fun h=>zae ?_) fun h=>zao (Go.Proofs.YteiabadhhhckfaaGreat.hit ?_)
 ·simp only [decide_eq_true_eq] at h
  refine zaI (ι:=Unit) (fun _=>⟨53,[(0,.pt 0 0 0),(2,.pt 16 0 0),(3,.pt 56 0 0),(4,.I k)],[(0,some (dice L (zlB L p).2)),(16,some zG),(56,some (rowG (zlB L p).1))],440⟩) (fun _=>True) ?_ fun _ _=>?_
  ·refine zaf ?_
   have q1:=zbt (n:=p.1.size) hp.at_
   have q2:=zbt (n:=p.1.size) q1
   have hlo:=hp.lo
   have hhi:=hp.hi
   have l3:=zdF (L:=L) (a:=(zau L (zau L p.2 p.1.size).2 p.1.size).2) (n:=3) (by omega)
   have hwv : IntKind.i64.wrap (1 + (zau L (zau L (zau L p.2 p.1.size).2 p.1.size).2 3).1) = 1 + (zau L (zau L (zau L p.2 p.1.size).2 p.1.size).2 3).1:=w64 (by omega) (by omega)
   obtain ⟨w,hw⟩ : ∃ w,w = zcW p.1 ⟨(zau L p.2 p.1.size).1,(zau L (zau L p.2 p.1.size).2 p.1.size).1,1 + (zau L (zau L (zau L p.2 p.1.size).2 p.1.size).2 3).1⟩:=⟨_,rfl⟩
   have hst : zlB L p = (if w.2 = 0 then w.1 else p.1,(zau L (zau L (zau L p.2 p.1.size).2 p.1.size).2 3).2):=by rw [hw]; rfl
   have h500:=hp.ok.1.2.2.1
   have hfew:=hp.few
   have hwith:=zgt p.1 ⟨(zau L p.2 p.1.size).1,(zau L (zau L p.2 p.1.size).2 p.1.size).1,1 + (zau L (zau L (zau L p.2 p.1.size).2 p.1.size).2 3).1⟩ (by omega) (by omega)
   rw [← hw] at hwith
   rw [hst]
   refine zaF ⟨53,[(0,.pt 0 0 0),(2,.pt 16 0 0),(3,.pt 56 0 0),(4,.I k),(5,.pv (gC w.1)),(6,.I w.2)],[(0,some (dice L (zau L (zau L (zau L p.2 p.1.size).2 p.1.size).2 3).2)),(16,some zG),(56,some (rowG p.1))],408⟩ rfl ?_ ?_
   ·simp
    refine zba (i:=0) rfl (e':=dice L p.2) (by simp [fcd]) (zeh L p.2 p.1.size hl hp.at_ (by omega)) (by simp) (by simp) ?_
    simp [fcd]
    refine zba (i:=0) rfl (e':=dice L (zau L p.2 p.1.size).2) (by simp [fcd]) (zeh L (zau L p.2 p.1.size).2 p.1.size hl q1 (by omega)) (by simp) (by simp) ?_
    simp [fcd]
    refine zba (i:=0) rfl (e':=dice L (zau L (zau L p.2 p.1.size).2 p.1.size).2) (by simp [fcd]) (zeh L (zau L (zau L p.2 p.1.size).2 p.1.size).2 3 hl q2 (by omega)) (by simp) (by simp) ?_
    simp [fcd,hwv]
    refine zam hwith rfl ?_
    simp
    refine ⟨rfl,Le.ents [(0,0),(16,16),(56,56)] [384] rfl (by simp) (by simp) (by simp) (by simp) (by simp) (by simp) fun p hp=>?_⟩
    simp at hp
    rcases hp with rfl | rfl | rfl
    ·exact ⟨0,_,_,rfl,by simp,rfl,zaC.eq (by simp [fcd]) (by simp)⟩
    ·exact ⟨16,_,_,rfl,by simp,rfl,zaC.eq (by simp) (by simp)⟩
    ·exact ⟨56,_,_,rfl,by simp,rfl,zaC.eq (by simp) (by simp)⟩
   refine zab ⟨53,[(0,.pt 0 0 0),(2,.pt 16 0 0),(3,.pt 56 0 0),(4,.I k),(5,.pv (gC w.1)),(50,.B (decide (w.2 = 0)))],[(0,some (dice L (zau L (zau L (zau L p.2 p.1.size).2 p.1.size).2 3).2)),(16,some zG),(56,some (rowG p.1))],424⟩ rfl ?_ ?_
   ·simp
    exact Le.keep rfl (Nat.le_refl _) (by simp <;> rw [Bool.eq_iff_iff] <;> simp) (by simp)
   refine zad _ rfl (fun h=>?_) fun h=>zae ?_
   ·simp only [decide_eq_true_eq] at h
    refine zar rfl ?_
    simp [h]
    exact Le.keep rfl (Nat.le_of_ble_eq_true rfl) (by simp) (by simp)
   ·simp only [decide_eq_false_iff_not] at h
    rw [if_neg h]
    exact ⟨(),trivial,Le.keep rfl (Nat.le_of_ble_eq_true rfl) (by simp) (by simp)⟩
  have hwk : IntKind.i64.wrap ((k : Int) - 1) = ((k - 1 : Nat) : Int):=by rw [w64 (by omega) (by omega)]; omega
  refine zar rfl ?_
  simp [hwk]
  refine ⟨k - 1,(zlB L p).1,(zlB L p).2,⟨by omega,zks hp,?_⟩,by omega,Le.ents [(0,0),(16,16),(56,56)] [] rfl (by simp) (by simp) (by simp) (by simp) (by simp) (by simp) fun p hp=>?_⟩
  ·rw [← hit]
   obtain ⟨k,rfl⟩ : ∃ j,k = j + 1:=⟨k - 1,by omega⟩
   rfl
  ·simp at hp
   rcases hp with rfl | rfl | rfl
   ·exact ⟨0,_,_,rfl,by simp,rfl,zaC.eq (by simp [fcd]) (by simp)⟩
   ·exact ⟨16,_,_,rfl,by simp,rfl,zaC.eq (by simp) (by simp)⟩
   ·exact ⟨56,_,_,rfl,by simp,rfl,zaC.eq (by simp) (by simp)⟩
 simp only [decide_eq_false_iff_not] at h
 obtain rfl : k = 0:=by omega
 have hpe : p = zkg L a:=hit
 rw [← hpe]
 refine zab ⟨53,[(2,.pt 16 0 0)],[(0,some (dice L p.2)),(16,some (rowG p.1))],264⟩ rfl ?_ ?_
 ·simp
  exact Le.keep rfl (Nat.le_refl _) (by simp) (by simp)
 refine zag ?_
 exact ⟨.inr rfl,zan.k1 (vs:=[eG p.1]) rfl (by simp) (by simp [fcd])⟩
def famH (s N : Nat) (E : Nat → List (List AV)) : List (Nat × Option Ent):=(List.range N).map fun k=>(k + 1000,some ⟨s,E k,0⟩)
def famV (E : Nat → List (List AV)) (k : Nat) : AV:=.rs (k + 1000) 0 (E k).length
def famO (N : Nat) (E : Nat → List (List AV)) : List (List AV):=(List.range N).map fun k=>[famV E k]
theorem zgA (N : Nat) (E : Nat → List (List AV)) : (famO N E).length = N:=by simp [famO]
theorem zgu {N k : Nat} {E : Nat → List (List AV)} (h : k < N) : (famO N E)[k]? = some [famV E k]:=by simp [famO,h]
@[simp] theorem zuw {N k : Nat} {E : Nat → List (List AV)} (h : k < (famO N E).length) : (famO N E)[k] = [famV E k]:=by simp [famO]
theorem zdf {α β : Type} {f : α → β} (hf : ∀ i j,f i = f j → i = j) : ∀ {l : List α},l.Nodup → (l.map f).Nodup
 | [],_=>List.nodup_nil
 | x :: l,h=>by
   rw [List.nodup_cons] at h
   rw [List.map_cons,List.nodup_cons]
   refine ⟨fun hx=>?_,zdf hf h.2⟩
   obtain ⟨y,hy,e⟩:=List.mem_map.1 hx
   exact h.1 (hf _ _ e ▸ hy)
theorem zkR {α : Type} (f : Nat → Nat) (hf : ∀ i j,f i = f j → i = j) (g : Nat → α) (l : List Nat) (k : Nat) : lkp (l.map fun k=>(f k,g k)) (f k) = if k ∈ l then some (g k) else none:=by
 induction l with
 | nil=>simp [lkp]
 | cons i l ih =>
   simp only [List.map_cons,lkp]
   by_cases h : i = k
   ·subst h; simp
   ·have h1 : f i ≠ f k:=fun e=>h (hf _ _ e)
    have h2 : ¬ k = i:=fun e=>h e.symm
    simp [h1,ih,h2]
theorem zlP {α : Type} (f : Nat → Nat) (g : Nat → α) (l : List Nat) (j : Nat) (h : ∀ k ∈ l,f k ≠ j) : lkp (l.map fun k=>(f k,g k)) j = none:=by
 induction l with
 | nil=>simp [lkp]
 | cons i l ih =>
   simp only [List.map_cons,lkp]
   rw [if_neg (h i (by simp)),ih fun k hk=>h k (by simp [hk])]
theorem zsl {s N : Nat} {E : Nat → List (List AV)} {r : List (Nat × Option Ent)} {k : Nat} (h : k < N) : lkp (famH s N E ++ r) (k + 1000) = some (some ⟨s,E k,0⟩):=by
 rw [zdX,famH,zkR (fun k=>k + 1000) (fun i j h=>by simpa using h)]
 simp [h]
theorem zoh {s N : Nat} {E : Nat → List (List AV)} {r : List (Nat × Option Ent)} {j : Nat} (h : j < 1000 ∨ 1000 + N ≤ j) : lkp (famH s N E ++ r) j = lkp r j:=by
 rw [zdX,famH,zlP (fun k=>k + 1000) _ _ _ (fun k hk e=>by have:=List.mem_range.1 hk; omega)]
 simp
section
variable {sz n s N : Nat} {t : List (Nat × AV)} {E : Nat → List (List AV)} {r : List (Nat × Option Ent)}
theorem zsV {k : Nat} (h : k < N) : (⟨sz,t,famH s N E ++ r,n⟩ : St).hp (k + 1000) = some ⟨s,E k,0⟩:=by
 show (lkp _ _).getD none = _
 rw [zsl h]
 rfl
theorem zja {j : Nat} (h : j < 1000) : (⟨sz,t,famH s N E ++ r,n⟩ : St).hp j = (⟨sz,t,r,n⟩ : St).hp j:=by
 show (lkp _ _).getD none = (lkp _ _).getD none
 rw [zoh (.inl h)]
theorem zsg {j : Nat} (h : 1000 + N ≤ j) : (⟨sz,t,famH s N E ++ r,n⟩ : St).hp j = (⟨sz,t,r,n⟩ : St).hp j:=by
 show (lkp _ _).getD none = (lkp _ _).getD none
 rw [zoh (.inr h)]
end
def famR (m a N : Nat) (L : List Nat) : List (Nat × Nat):=(m,a + 1000) :: (L ++ ((List.range N).filter (· ≠ a)).map (· + 1000)).map fun j=>(j,j)
theorem zrn {m a N : Nat} {L : List Nat} (hL : L.Nodup) (h1 : ∀ j ∈ L,j < 1000) (hm : m ∉ L) (hm1 : m < 1000 ∨ 1000 + N ≤ m) : ((famR m a N L).map (·.1)).Nodup:=by
 simp only [famR,List.map_cons,List.map_map,fcd,List.map_id',List.nodup_cons,List.mem_append,List.mem_map,List.mem_filter,List.mem_range]
 refine ⟨?_,?_⟩
 ·rintro (h | ⟨k,⟨h,_⟩,e⟩)
  ·exact hm h
  ·omega
 ·refine List.nodup_append.2 ⟨hL,?_,?_⟩
  ·exact zdf (fun i j h=>by simpa using h) (List.nodup_range.filter _)
  ·intro x hx y hy e
   simp only [List.mem_map] at hy
   obtain ⟨k,_,e2⟩:=hy
   have:=h1 x hx
   omega
theorem zrp {m a N : Nat} {L : List Nat} (hL : L.Nodup) (h1 : ∀ j ∈ L,j < 1000) : ((famR m a N L).map (·.2)).Nodup:=by
 simp only [famR,List.map_cons,List.map_map,fcd,List.map_id',List.nodup_cons,List.mem_append,List.mem_map,List.mem_filter,List.mem_range]
 refine ⟨?_,?_⟩
 ·rintro (h | ⟨k,⟨_,h⟩,e⟩)
  ·have:=h1 _ h; omega
  ·simp at h; omega
 ·refine List.nodup_append.2 ⟨hL,?_,?_⟩
  ·exact zdf (fun i j h=>by simpa using h) (List.nodup_range.filter _)
  ·intro x hx y hy e
   simp only [List.mem_map] at hy
   obtain ⟨k,_,e2⟩:=hy
   have:=h1 x hx
   omega
theorem zmk {m a N : Nat} {L : List Nat} : lkp (famR m a N L) m = some (a + 1000):=by simp [famR,lkp]
theorem zeb {m a N j : Nat} {L : List Nat} (hm : m ≠ j) (h : j ∈ L ∨ ∃ k < N,k ≠ a ∧ j = k + 1000) : lkp (famR m a N L) j = some j:=by
 rw [famR,lkp,if_neg hm,zkR (fun j=>j) (fun i j h=>h) (fun j=>j),if_pos]
 rcases h with h | ⟨k,h1,h2,rfl⟩
 ·simp [h]
 ·simp [h1,h2]
def grow {α : Type} (E : Nat → List α) (a : Nat) (r : α) : Nat → List α:=fun k=>if k = a then E a ++ [r] else E k
theorem ze2 (f : AV → AV) (hf : ∀ v,f (.sc v) = .sc v) (rows : List (List AV)) (hr : ∀ r ∈ rows,∀ x ∈ r,∃ v,x = .sc v) : rows.map (·.map f) = rows:=by
 conv=>rhs; rw [← List.map_id rows]
 refine List.map_congr_left fun r hr'=>?_
 conv=>rhs; rw [id,← List.map_id r]
 refine List.map_congr_left fun x hx=>?_
 obtain ⟨v,rfl⟩:=hr r hr' x hx
 exact hf v
theorem zp3 {m a N : Nat} {L : List Nat} {E : Nat → List (List AV)} {row : List AV} {h : Nat → Option Ent} {len : Nat} (ha : a < N) (hm : m < 1000 ∨ 1000 + N ≤ m) (hlen : len = (E a).length + 1) :
  ((famO N E).set a [.rs m 0 len]).map (·.map (conv (famR m a N L) [] h 4)) = famO N (grow E a row):=by
 apply List.ext_getElem?
 intro j
 rw [List.getElem?_map,List.getElem?_set,zgA]
 by_cases hj : a = j
 ·subst hj
  rw [if_pos rfl,if_pos ha,zgu ha]
  simp [zmk,famV,grow,hlen]
 ·rw [if_neg hj]
  by_cases hjN : j < N
  ·rw [zgu hjN,zgu hjN]
   have h1 : lkp (famR m a N L) (j + 1000) = some (j + 1000):=zeb (by omega) (.inr ⟨j,hjN,fun e=>hj e.symm,rfl⟩)
   have h2 : j ≠ a:=fun e=>hj e.symm
   simp [famV,h1,grow,h2]
  ·simp [famO,hjN]
theorem Le.fam {np s N a m : Nat} {E : Nat → List (List AV)} {row : List AV} (L : List Nat) {st st' : St} (hsz : st'.sz = st.sz)
  (ha : a < N) (hL : L.Nodup) (h1 : ∀ j ∈ L,j < 1000) (hm1 : 1000 + N ≤ m) (hn : 1000 + N ≤ st'.n) (hnp : np ≤ 1000)
  (hE : ∀ k < N,∀ r ∈ E k,∀ x ∈ r,∃ v,x = .sc v) (hrow : ∀ x ∈ row,∃ v,x = .sc v)
  (hst : ∀ k < N,k ≠ a → st.hp (k + 1000) = some ⟨s,E k,0⟩) (hsm : st.hp m = some ⟨s,E a ++ [row],0⟩)
  (hst' : ∀ k < N,st'.hp (k + 1000) = some ⟨s,grow E a row k,0⟩)
  (hout : ∀ j,j ∉ L → (j < 1000 ∨ 1000 + N ≤ j) → st'.hp j = none)
  (ht : ∀ p ∈ st'.t,Wk (conv (famR m a N L) [] st.hp 4 (st.get p.1)) p.2)
  (hb : ∀ j ∈ L,∀ e',st'.hp j = some e' → ∃ e,st.hp j = some e ∧ zaC [] (zaw (famR m a N L) [] st.hp 4 e) e') : Le np st st':=by
 have hm : m ∉ L:=fun h=>by have:=h1 m h; omega
 refine Le.mk (famR m a N L) [] [] hsz (zrn hL h1 hm (.inr hm1)) (zrp hL h1) ?_ (by simp) (by simp) (by omega) (by simp) (fun i=>?_) ?_
 ·intro p hp
  simp only [famR,List.mem_cons,List.mem_map,List.mem_append,List.mem_filter,List.mem_range] at hp
  rcases hp with rfl | ⟨j,h | ⟨k,⟨h2,_⟩,rfl⟩,rfl⟩
  ·exact ⟨by simp only; omega,fun h=>by simp only at h; omega⟩
  ·have:=h1 j h
   exact ⟨by simp only; omega,fun _=>rfl⟩
  ·exact ⟨by simp only; omega,fun _=>rfl⟩
 ·unfold St.get at *
  cases hl : lkp st'.t i with
  | none=>exact .inl (.dead _)
  | some v=>exact .inl (ht _ (zbd hl))
 ·intro j e' he
  left
  by_cases hj : j ∈ L
  ·obtain ⟨e,h2,h3⟩:=hb j hj e' he
   refine ⟨j,e,?_,h2,h3⟩
   simp only [famR,List.mem_cons,List.mem_map,List.mem_append]
   exact .inr ⟨j,.inl hj,rfl⟩
  ·by_cases hr : j < 1000 ∨ 1000 + N ≤ j
   ·rw [hout j hj hr] at he; cases he
   ·obtain ⟨k,rfl⟩ : ∃ k,j = k + 1000:=⟨j - 1000,by omega⟩
    have hk : k < N:=by omega
    rw [hst' k hk] at he
    cases he
    by_cases hka : k = a
    ·subst hka
     rw [show grow E k row k = E k ++ [row] from if_pos rfl]
     refine ⟨m,_,by simp [famR],hsm,?_⟩
     have : zaw (famR m k N L) [] st.hp 4 ⟨s,E k ++ [row],0⟩ = ⟨s,E k ++ [row],0⟩:=by
      simp only [zaw]
      rw [ze2 _ fun v=>by simp [conv]]
      intro r hr x hx
      rcases List.mem_append.1 hr with h | h
      ·exact hE k hk r h x hx
      ·rw [List.mem_singleton.1 h] at hx; exact hrow x hx
     rw [this]
     exact zaC.rfl' (Nat.zero_le _)
    ·simp only [grow,if_neg hka]
     refine ⟨k + 1000,_,?_,hst k hk hka,?_⟩
     ·simp only [famR,List.mem_cons,List.mem_map,List.mem_append,List.mem_filter,List.mem_range]
      exact .inr ⟨k + 1000,.inr ⟨k,⟨hk,by simpa using hka⟩,rfl⟩,rfl⟩
     ·have : zaw (famR m a N L) [] st.hp 4 ⟨s,E k,0⟩ = ⟨s,E k,0⟩:=by
       simp only [zaw]
       rw [ze2 _ (fun v=>by simp [conv]) _ (hE k hk)]
      rw [this]
      exact zaC.rfl' (Nat.zero_le _)
theorem Le.fam0 {np s N o : Nat} (L : List Nat) {st st' : St} (hsz : st'.sz = st.sz) (hs : s ≠ 0) (hL : (o :: L).Nodup) (h1 : ∀ j ∈ o :: L,j < 1000 ∧ np ≤ 1000) (hn : 1000 + N ≤ st'.n)
  (ho : st.hp o = some ⟨1,(List.range N).map fun _=>[.nilS],0⟩) (ho' : st'.hp o = some ⟨1,famO N fun _=>[],0⟩)
  (hst' : ∀ k < N,st'.hp (k + 1000) = some ⟨s,[],0⟩)
  (hout : ∀ j,j ∉ o :: L → (j < 1000 ∨ 1000 + N ≤ j) → st'.hp j = none)
  (ht : ∀ p ∈ st'.t,Wk (conv ((o :: L).map fun j=>(j,j)) [] st.hp 4 (st.get p.1)) p.2)
  (hb : ∀ j ∈ L,∀ e',st'.hp j = some e' → ∃ e,st.hp j = some e ∧ zaC [] (zaw ((o :: L).map fun j=>(j,j)) [] st.hp 4 e) e') : Le np st st':=by
 have hnl : ∀ p,p ∈ (List.range N).map (fun k=>(k + 1000,s)) ↔ ∃ k < N,p = (k + 1000,s):=fun p=>by
  rw [List.mem_map]
  exact ⟨fun ⟨k,h,e⟩=>⟨k,List.mem_range.1 h,e.symm⟩,fun ⟨k,h,e⟩=>⟨k,List.mem_range.2 h,e.symm⟩⟩
 have hid : ((o :: L).map fun j=>(j,j)).map (·.1) = o :: L:=by simp [fcd]
 have hid2 : ((o :: L).map fun j=>(j,j)).map (·.2) = o :: L:=by simp [fcd]
 refine Le.mk ((o :: L).map fun j=>(j,j)) [] ((List.range N).map fun k=>(k + 1000,s)) hsz (by rw [hid]; exact hL) (by rw [hid2]; exact hL) ?_ ?_ (by simp) (by have:=h1 o (by simp); omega) ?_ (fun i=>?_) ?_
 ·intro p hp
  obtain ⟨j,hj,rfl⟩:=List.mem_map.1 hp
  have:=h1 j hj
  exact ⟨by simp only; omega,fun _=>rfl⟩
 ·intro p hp
  obtain ⟨k,hk,rfl⟩:=(hnl p).1 hp
  have:=h1 o (by simp)
  refine ⟨by simp only; omega,by simp only; omega,?_,hs⟩
  rw [hid2]
  intro h
  have:=h1 _ h
  omega
 ·rw [List.map_map]
  exact zdf (fun i j h=>by simpa using h) List.nodup_range
 ·unfold St.get at *
  cases hl : lkp st'.t i with
  | none=>exact .inl (.dead _)
  | some v=>exact .inl (ht _ (zbd hl))
 ·intro j e' he
  by_cases hjo : j = o
  ·subst hjo
   left
   rw [ho'] at he
   cases he
   refine ⟨j,_,by simp,ho,rfl,Nat.le_refl _,Nat.zero_le _,.inr ⟨by simp [zaw],by simp [zaw,famO],fun i=>?_⟩⟩
   by_cases hi : i < N
   ·simp only [zaw,List.map_map,fcd,List.map_cons,List.map_nil,List.getD_eq_getElem?_getD,List.getElem?_map,List.getElem?_range hi,Option.map_some,Option.getD_some,famO,famV,List.length_nil]
    exact ⟨.inr ⟨by simp [conv],i + 1000,s,rfl,(hnl _).2 ⟨i,hi,rfl⟩⟩,trivial⟩
   ·simp [zaw,famO,List.getD_eq_getElem?_getD,hi,UpL]
  ·by_cases hj : j ∈ L
   ·left
    obtain ⟨e,h2,h3⟩:=hb j hj e' he
    refine ⟨j,e,by simp [hj],h2,h3.1,h3.2.1,h3.2.2.1,?_⟩
    rcases h3.2.2.2 with h | ⟨q1,q2,q3⟩
    ·exact .inl h
    ·refine .inr ⟨q1,q2,fun i=>?_⟩
     have key : ∀ {xs ys : List AV},UpL [] xs ys → UpL ((List.range N).map fun k=>(k + 1000,s)) xs ys:=by
      intro xs
      induction xs with
      | nil=>intro ys h; cases ys <;> exact h
      | cons x xs ih =>
        intro ys h
        cases ys with
        | nil=>exact h
        | cons y ys =>
          refine ⟨?_,ih h.2⟩
          rcases h.1 with h | ⟨_,_,_,_,h⟩
          ·exact .inl h
          ·simp at h
     exact key (q3 i)
   ·by_cases hr : j < 1000 ∨ 1000 + N ≤ j
    ·rw [hout j (by simp [hjo,hj]) hr] at he; cases he
    ·obtain ⟨k,rfl⟩ : ∃ k,j = k + 1000:=⟨j - 1000,by omega⟩
     have hk : k < N:=by omega
     rw [hst' k hk] at he
     cases he
     exact .inr ⟨(hnl _).2 ⟨k,hk,rfl⟩,rfl,rfl⟩
def famI (N : Nat) : List Nat:=(List.range N).map (· + 1000)
theorem zdL {N j : Nat} : j ∈ famI N ↔ 1000 ≤ j ∧ j < 1000 + N:=by
 simp only [famI,List.mem_map,List.mem_range]
 exact ⟨fun ⟨k,h,e⟩=>by omega,fun h=>⟨j - 1000,by omega,by omega⟩⟩
theorem zrE {s N o : Nat} {ρ : List (Nat × Nat)} {sn : List Nat} {hp : Nat → Option Ent} {E : Nat → List (List AV)} (hE : ∀ k < N,∀ r ∈ E k,∀ x ∈ r,∃ v,x = .sc v)
  (hρ : lkp ρ o = none) (hsn : o ∈ sn) (hf : ∀ k < N,k + 1000 ∈ sn) (ho : hp o = some ⟨1,famO N E,0⟩) (hh : ∀ k < N,hp (k + 1000) = some ⟨s,E k,0⟩) :
  conv ρ sn hp 4 (.rs o 0 N) = .vs 1 false ((List.range N).map fun k=>[.vs s false (E k)]):=by
 simp only [conv,hρ,hsn,if_true,ho,zgA,Nat.zero_add,Nat.le_refl,List.drop_zero]
 rw [List.take_of_length_le (by rw [zgA]; exact Nat.le_refl _),famO,List.map_map]
 congr 1
 refine List.map_congr_left fun k hk=>?_
 have hk:=List.mem_range.1 hk
 simp only [fcd,List.map_cons,List.map_nil,famV,conv,lkp,hf k hk,if_true,hh k hk,Nat.zero_add,Nat.le_refl,List.drop_zero,List.take_length]
 rw [ze2 _ (fun v=>by simp [conv]) _ (hE k hk)]
theorem Le.famOut {np N o : Nat} {L : List Nat} {st st' : St} (hsz : st'.sz = st.sz) (hL : L.Nodup) (h1 : ∀ j ∈ L,j < 1000) (hoL : o ∉ L) (hn : 1000 ≤ st'.n) (hnp : np ≤ o) (hnp2 : np ≤ 1000)
  (hout : ∀ j,j ∉ L → st'.hp j = none)
  (ht : ∀ p ∈ st'.t,Wk (conv (L.map fun j=>(j,j)) (o :: famI N) st.hp 4 (st.get p.1)) p.2)
  (hb : ∀ j ∈ L,∀ e',st'.hp j = some e' → ∃ e,st.hp j = some e ∧ zaC [] (zaw (L.map fun j=>(j,j)) (o :: famI N) st.hp 4 e) e') : Le np st st':=by
 have hid : (L.map fun j=>(j,j)).map (·.1) = L:=by simp [fcd]
 have hid2 : (L.map fun j=>(j,j)).map (·.2) = L:=by simp [fcd]
 refine Le.mk (L.map fun j=>(j,j)) (o :: famI N) [] hsz (by rw [hid]; exact hL) (by rw [hid2]; exact hL) ?_ (by simp) ?_ (by omega) (by simp) (fun i=>?_) ?_
 ·intro p hp
  obtain ⟨j,hj,rfl⟩:=List.mem_map.1 hp
  have:=h1 j hj
  exact ⟨by simp only; omega,fun _=>rfl⟩
 ·intro i hi
  rw [hid]
  rcases List.mem_cons.1 hi with rfl | hi
  ·exact ⟨hnp,hoL⟩
  ·have:=zdL.1 hi
   exact ⟨by omega,fun h=>by have:=h1 i h; omega⟩
 ·unfold St.get at *
  cases hl : lkp st'.t i with
  | none=>exact .inl (.dead _)
  | some v=>exact .inl (ht _ (zbd hl))
 ·intro j e' he
  left
  by_cases hj : j ∈ L
  ·obtain ⟨e,h2,h3⟩:=hb j hj e' he
   exact ⟨j,e,by simp [hj],h2,h3⟩
  ·rw [hout j hj] at he; cases he
def sumF (φ : Ed → Int → Int) : List Ed → List Int → Int
 | e :: A,v :: f=>φ e v + sumF φ A f
 | _,_=>0
def outF (A : List Ed) (f : List Int) (x : Int) : Int:=sumF (fun e v=>if e.f = x then v else 0) A f
def inF (A : List Ed) (f : List Int) (x : Int) : Int:=sumF (fun e v=>if e.t = x then v else 0) A f
structure zdm (N : Nat) (A : List Ed) : Prop where
 two : 2 ≤ N
 arc : ∀ e ∈ A,0 ≤ e.f ∧ e.f < N ∧ 0 ≤ e.t ∧ e.t < N ∧ e.f ≠ e.t ∧ e.t ≠ 0 ∧ e.f ≠ 1 ∧ 0 ≤ e.v
def Fit2 : List Ed → List Int → Prop
 | e :: A,v :: f=>(0 ≤ v ∧ v ≤ e.v) ∧ Fit2 A f
 | [],[]=>True
 | _,_=>False
structure zaD (N : Nat) (A : List Ed) (f : List Int) : Prop where
 fit : Fit2 A f
 bal : ∀ x : Nat,2 ≤ x → x < N → outF A f x = inF A f x
def valF (A : List Ed) (f : List Int) : Int:=outF A f 0
theorem Fit2.len : ∀ {A : List Ed} {f : List Int},Fit2 A f → f.length = A.length
 | [],[],_=>rfl
 | _ :: _,_ :: _,h=>by simp [h.2.len]
 | [],_ :: _,h=>h.elim
 | _ :: _,[],h=>h.elim
theorem zoq (φ ψ : Ed → Int → Int) : ∀ (A : List Ed) (f : List Int),sumF (fun e v=>φ e v + ψ e v) A f = sumF φ A f + sumF ψ A f
 | [],_=>by simp [sumF]
 | _ :: _,[]=>by simp [sumF]
 | e :: A,v :: f=>by
   simp only [sumF]
   rw [zoq φ ψ A f]
   omega
theorem zlw (φ ψ : Ed → Int → Int) : ∀ (A : List Ed) (f : List Int),sumF (fun e v=>φ e v - ψ e v) A f = sumF φ A f - sumF ψ A f
 | [],_=>by simp [sumF]
 | _ :: _,[]=>by simp [sumF]
 | e :: A,v :: f=>by
   simp only [sumF]
   rw [zlw φ ψ A f]
   omega
theorem zcI {φ ψ : Ed → Int → Int} : ∀ {A : List Ed} {f : List Int},(∀ e ∈ A,∀ v,φ e v = ψ e v) → sumF φ A f = sumF ψ A f
 | [],_,_=>by simp [sumF]
 | _ :: _,[],_=>by simp [sumF]
 | e :: A,v :: f,h=>by
   simp only [sumF]
   rw [h e List.mem_cons_self v,zcI fun x hx=>h x (List.mem_cons_of_mem _ hx)]
theorem zfb : ∀ {A : List Ed} {f : List Int},sumF (fun _ _=>0) A f = 0
 | [],_=>by simp [sumF]
 | _ :: _,[]=>by simp [sumF]
 | e :: A,v :: f=>by simp [sumF,zfb (A:=A) (f:=f)]
theorem zni {φ ψ : Ed → Int → Int} : ∀ {A : List Ed} {f : List Int},Fit2 A f → (∀ e ∈ A,∀ v,0 ≤ v → v ≤ e.v → φ e v ≤ ψ e v) → sumF φ A f ≤ sumF ψ A f
 | [],[],_,_=>by simp [sumF]
 | [],_ :: _,h,_=>h.elim
 | _ :: _,[],h,_=>h.elim
 | e :: A,v :: f,h,hh=>by
   simp only [sumF]
   have h1:=hh e List.mem_cons_self v h.1.1 h.1.2
   have h2:=zni h.2 fun x hx=>hh x (List.mem_cons_of_mem _ hx)
   omega
def zc4 (S : Int → Bool) (g : Int → Int) : Nat → Int
 | 0=>0
 | n + 1=>zc4 S g n + if S n then g n else 0
theorem zif (S : Int → Bool) (g h : Int → Int) : ∀ n,zc4 S (fun x=>g x - h x) n = zc4 S g n - zc4 S h n
 | 0=>rfl
 | n + 1=>by
   simp only [zc4]
   rw [zif S g h n]
   split <;> omega
theorem zfV (S : Int → Bool) (A : List Ed) (f : List Int) (π : Ed → Int) : ∀ n : Nat,(∀ e ∈ A,0 ≤ π e) → zc4 S (fun x=>sumF (fun e v=>if π e = x then v else 0) A f) n = sumF (fun e v=>if π e < n ∧ S (π e) = true then v else 0) A f
 | 0,h=>by
   rw [zcI (ψ:=fun _ _=>0) fun e he v=>if_neg fun h2=>by have:=h e he; omega,zfb]
   rfl
 | n + 1,h=>by
   have ih:=zfV S A f π n h
   simp only [zc4]
   rw [ih]
   by_cases hs : S n = true
   ·rw [if_pos hs,← zoq]
    refine zcI fun e he v=>?_
    have h0:=h e he
    by_cases h1 : π e = n
    ·have h2 : ¬ (π e < (n : Int) ∧ S (π e) = true):=by omega
     have h3 : π e < ((n + 1 : Nat) : Int) ∧ S (π e) = true:=⟨by omega,by rw [h1]; exact hs⟩
     rw [if_neg h2,if_pos h1,if_pos h3,Int.zero_add]
    ·rw [if_neg h1,Int.add_zero]
     by_cases h2 : π e < (n : Int) ∧ S (π e) = true
     ·rw [if_pos h2,if_pos ⟨by omega,h2.2⟩]
     ·rw [if_neg h2,if_neg fun h3=>h2 ⟨by omega,h3.2⟩]
   ·rw [if_neg hs,Int.add_zero]
    refine zcI fun e he v=>?_
    have h0:=h e he
    by_cases h2 : π e < (n : Int) ∧ S (π e) = true
    ·rw [if_pos h2,if_pos ⟨by omega,h2.2⟩]
    ·rw [if_neg h2,if_neg fun h3=>h2 ⟨?_,h3.2⟩]
     have h4 : π e ≠ n:=fun h5=>hs (h5 ▸ h3.2)
     omega
def outS (S : Int → Bool) (A : List Ed) (f : List Int) : Int:=sumF (fun e v=>if S e.f = true ∧ S e.t = false then v else 0) A f
def inS (S : Int → Bool) (A : List Ed) (f : List Int) : Int:=sumF (fun e v=>if S e.f = false ∧ S e.t = true then v else 0) A f
def capS (S : Int → Bool) (A : List Ed) : Int:=sumF (fun e _=>if S e.f = true ∧ S e.t = false then e.v else 0) A (A.map fun _=>0)
theorem ziO (S : Int → Bool) (g : Int → Int) (N : Nat) (h0 : S 0 = true) (h1 : S 1 = false) (hg : ∀ x : Nat,2 ≤ x → x < N → g x = 0) : ∀ n,n ≤ N → 1 ≤ n → zc4 S g n = g 0
 | 0,_,h=>by omega
 | 1,_,_=>by simp [zc4,h0]
 | n + 2,h,_=>by
   have ih:=ziO S g N h0 h1 hg (n + 1) (by omega) (by omega)
   simp only [zc4] at ih ⊢
   rw [ih]
   cases n with
   | zero=>simp [h1]
   | succ n =>
     have:=hg (n + 1 + 1) (by omega) (by omega)
     split <;> omega
theorem zkN {N : Nat} {A : List Ed} {f : List Int} (hn : zdm N A) (hf : zaD N A f) {S : Int → Bool} (h0 : S 0 = true) (h1 : S 1 = false) : valF A f = outS S A f - inS S A f:=by
 have e1:=ziO S (fun x=>outF A f x - inF A f x) N h0 h1 (fun x h2 h3=>by have:=hf.bal x h2 h3; omega) N (Nat.le_refl _) (by have:=hn.two; omega)
 have e2 : inF A f 0 = 0:=by
  unfold inF
  rw [zcI (ψ:=fun _ _=>0) fun e he v=>if_neg (hn.arc e he).2.2.2.2.2.1,zfb]
 rw [zif] at e1
 have e3:=zfV S A f (·.f) N fun e he=>(hn.arc e he).1
 have e4:=zfV S A f (·.t) N fun e he=>(hn.arc e he).2.2.1
 have e5 : zc4 S (outF A f) N = _:=e3
 have e6 : zc4 S (inF A f) N = _:=e4
 rw [e5,e6,← zlw] at e1
 unfold valF outS inS
 rw [← zlw]
 have e7 : outF A f 0 = outF A f 0 - inF A f 0:=by omega
 rw [e7,← e1]
 refine zcI fun e he v=>?_
 obtain ⟨q1,q2,q3,q4,_⟩:=hn.arc e he
 cases hf1 : S e.f <;> cases ht1 : S e.t <;> simp [q2,q4]
theorem zmO {A : List Ed} {f : List Int} (hf : Fit2 A f) (S : Int → Bool) : outS S A f ≤ capS S A:=by
 have key : ∀ {A : List Ed} {f : List Int},Fit2 A f → sumF (fun e _=>if S e.f = true ∧ S e.t = false then e.v else 0) A (A.map fun _=>0) = sumF (fun e _=>if S e.f = true ∧ S e.t = false then e.v else 0) A f:=by
  intro A
  induction A with
  | nil=>intro f _; simp [sumF]
  | cons e A ih =>
    intro f h
    cases f with
    | nil=>exact h.elim
    | cons v f=>simp only [sumF,List.map_cons]; rw [ih h.2]
 unfold outS capS
 rw [key hf]
 exact zni hf fun e _ v h1 h2=>by split <;> omega
theorem zhc {A : List Ed} {f : List Int} (hf : Fit2 A f) (S : Int → Bool) : 0 ≤ inS S A f:=by
 have : sumF (fun _ _=>0) A f ≤ inS S A f:=zni hf fun e _ v h1 h2=>by split <;> omega
 rw [zfb] at this
 exact this
theorem zd2 {N : Nat} {A : List Ed} {f : List Int} (hn : zdm N A) (hf : zaD N A f) {S : Int → Bool} (h0 : S 0 = true) (h1 : S 1 = false) : valF A f ≤ capS S A:=by
 rw [zkN hn hf h0 h1]
 have:=zmO hf.fit S
 have:=zhc hf.fit S
 omega
def arcD (A : List Ed) (i : Nat) : Ed:=A.getD i ⟨0,0,0⟩
theorem zef {A : List Ed} {i : Nat} (h : i < A.length) : arcD A i ∈ A:=by
 unfold arcD
 rw [List.getD_eq_getElem?_getD,List.getElem?_eq_getElem h]
 exact List.getElem_mem h
abbrev Stp:=Nat × Bool
def stF (A : List Ed) (s : Stp) : Int:=if s.2 then (arcD A s.1).t else (arcD A s.1).f
def stT (A : List Ed) (s : Stp) : Int:=if s.2 then (arcD A s.1).f else (arcD A s.1).t
def zbM (A : List Ed) (f : List Int) (s : Stp) : Int:=if s.2 then f.getD s.1 0 else (arcD A s.1).v - f.getD s.1 0
def zgC (δ : Int) (f : List Int) (s : Stp) : List Int:=f.set s.1 (f.getD s.1 0 + if s.2 then -δ else δ)
def zfS (δ : Int) (f : List Int) (l : List Stp) : List Int:=l.foldl (zgC δ) f
theorem zkI (φ : Ed → Int → Int) : ∀ (A : List Ed) (f : List Int) (i : Nat) (v : Int),i < A.length → f.length = A.length → sumF φ A (f.set i v) = sumF φ A f + (φ (arcD A i) v - φ (arcD A i) (f.getD i 0))
 | [],_,_,_,h,_=>by simp at h
 | _ :: _,[],_,_,_,h=>by simp at h
 | e :: A,w :: f,0,v,_,_=>by
   simp only [List.set_cons_zero,sumF]
   have h1 : arcD (e :: A) 0 = e:=rfl
   have h2 : (w :: f).getD 0 0 = w:=rfl
   rw [h1,h2]
   omega
 | e :: A,w :: f,i + 1,v,h,hl=>by
   simp only [List.set_cons_succ,sumF]
   have h1 : arcD (e :: A) (i + 1) = arcD A i:=by simp [arcD]
   have h2 : (w :: f).getD (i + 1) 0 = f.getD i 0:=by simp
   rw [zkI φ A f i v (by simpa using h) (by simpa using hl),h1,h2]
   omega
def exF (A : List Ed) (f : List Int) (x : Int) : Int:=outF A f x - inF A f x
theorem ziu {δ : Int} {f : List Int} {s : Stp} : (zgC δ f s).length = f.length:=List.length_set ..
theorem zeO {δ : Int} : ∀ {l : List Stp} {f : List Int},(zfS δ f l).length = f.length
 | [],_=>rfl
 | s :: l,f=>by
   show (zfS δ (zgC δ f s) l).length = _
   rw [zeO,ziu]
theorem znO {A : List Ed} {f : List Int} {δ : Int} {s : Stp} (hs : s.1 < A.length) (hl : f.length = A.length) (x : Int) :
  exF A (zgC δ f s) x = exF A f x + (if stF A s = x then δ else 0) - if stT A s = x then δ else 0:=by
 unfold exF outF inF zgC
 rw [zkI _ A f s.1 _ hs hl,zkI _ A f s.1 _ hs hl]
 unfold stF stT
 generalize arcD A s.1 = e
 generalize f.getD s.1 0 = v
 generalize sumF _ A f = p
 generalize sumF _ A f = q
 obtain ⟨i,b⟩:=s
 cases b
 ·simp only [Bool.false_eq_true,if_false]
  by_cases h1 : e.f = x <;> by_cases h2 : e.t = x <;> simp only [h1,h2,if_true,if_false] <;> omega
 ·simp only [if_true]
  by_cases h1 : e.f = x <;> by_cases h2 : e.t = x <;> simp only [h1,h2,if_true,if_false] <;> omega
def WayS (A : List Ed) : Int → List Stp → Int → Prop
 | u,[],w=>u = w
 | u,s :: l,w=>s.1 < A.length ∧ stF A s = u ∧ WayS A (stT A s) l w
theorem zn7 {A : List Ed} {δ : Int} (x w : Int) : ∀ {l : List Stp} {f : List Int} {u : Int},f.length = A.length → WayS A u l w → exF A (zfS δ f l) x = exF A f x + (if u = x then δ else 0) - if w = x then δ else 0
 | [],f,u,_,h=>by
   have h' : u = w:=h
   subst h'
   show exF A f x = _
   omega
 | s :: l,f,u,hl,h=>by
   obtain ⟨h1,h2,h3⟩:=h
   show exF A (zfS δ (zgC δ f s) l) x = _
   rw [zn7 x w (by rw [ziu,hl]) h3,znO h1 hl x,h2]
   omega
theorem zdE {A : List Ed} {f : List Int} : Fit2 A f ↔ f.length = A.length ∧ ∀ i,i < A.length → 0 ≤ f.getD i 0 ∧ f.getD i 0 ≤ (arcD A i).v:=by
 induction A generalizing f with
 | nil =>
   cases f with
   | nil=>simp [Fit2]
   | cons v f=>simp [Fit2]
 | cons e A ih =>
   cases f with
   | nil=>simp [Fit2]
   | cons v f =>
     show (0 ≤ v ∧ v ≤ e.v) ∧ Fit2 A f ↔ _
     rw [ih]
     constructor
     ·rintro ⟨h1,h2,h3⟩
      refine ⟨by simp [h2],fun i hi=>?_⟩
      cases i with
      | zero=>exact h1
      | succ i =>
        have:=h3 i (by simpa using hi)
        simpa [arcD] using this
     ·rintro ⟨h1,h2⟩
      refine ⟨h2 0 (by simp),by simpa using h1,fun i hi=>?_⟩
      have:=h2 (i + 1) (by simpa using hi)
      simpa [arcD] using this
theorem zeX {δ : Int} : ∀ {l : List Stp} {f : List Int} {i : Nat},(l.map (·.1)).Nodup → (∀ s ∈ l,s.1 < f.length) →
  (i ∉ l.map (·.1) → (zfS δ f l).getD i 0 = f.getD i 0) ∧ ∀ b,(i,b) ∈ l → (zfS δ f l).getD i 0 = f.getD i 0 + if b then -δ else δ
 | [],f,i,_,_=>⟨fun _=>rfl,fun b hb=>by simp at hb⟩
 | s :: l,f,i,hn,hr=>by
   rw [List.map_cons,List.nodup_cons] at hn
   have ih:=zeX (δ:=δ) (l:=l) (f:=zgC δ f s) (i:=i) hn.2 fun x hx=>by rw [ziu]; exact hr x (List.mem_cons_of_mem _ hx)
   have hs:=hr s (List.mem_cons_self ..)
   have hget : ∀ j,(zgC δ f s).getD j 0 = if s.1 = j then f.getD j 0 + (if s.2 then -δ else δ) else f.getD j 0:=fun j=>by
    unfold zgC
    by_cases hj : s.1 = j
    ·subst hj
     rw [if_pos rfl,List.getD_eq_getElem?_getD,List.getElem?_set_self hs,Option.getD_some]
    ·rw [if_neg hj,List.getD_eq_getElem?_getD,List.getElem?_set_ne hj,List.getD_eq_getElem?_getD]
   refine ⟨fun hi=>?_,fun b hb=>?_⟩
   ·rw [List.map_cons,List.mem_cons,not_or] at hi
    show (zfS δ (zgC δ f s) l).getD i 0 = _
    rw [ih.1 hi.2,hget,if_neg fun e=>hi.1 e.symm]
   ·show (zfS δ (zgC δ f s) l).getD i 0 = _
    rcases List.mem_cons.1 hb with hb | hb
    ·subst hb
     rw [ih.1 hn.1,hget,if_pos rfl]
    ·have hne : s.1 ≠ i:=fun e=>hn.1 (e ▸ List.mem_map.2 ⟨_,hb,rfl⟩)
     rw [ih.2 b hb,hget,if_neg hne]
theorem zqp {A : List Ed} {f : List Int} {δ : Int} {l : List Stp} (hf : Fit2 A f) (h0 : 0 ≤ δ) (hn : (l.map (·.1)).Nodup) (hr : ∀ s ∈ l,s.1 < A.length ∧ δ ≤ zbM A f s) : Fit2 A (zfS δ f l):=by
 rw [zdE] at hf ⊢
 refine ⟨by rw [zeO,hf.1],fun i hi=>?_⟩
 have hg:=zeX (δ:=δ) (f:=f) (i:=i) hn fun s hs=>by rw [hf.1]; exact (hr s hs).1
 have hfi:=hf.2 i hi
 by_cases hm : i ∈ l.map (·.1)
 ·obtain ⟨⟨j,b⟩,hs,rfl⟩:=List.mem_map.1 hm
  have h1:=hg.2 b hs
  have h2:=(hr _ hs).2
  simp only at h1 h2 hfi ⊢
  rw [h1]
  unfold zbM at h2
  cases b
  ·simp only [Bool.false_eq_true,if_false] at h2 ⊢
   omega
  ·simp only [if_true] at h2 ⊢
   omega
 ·rw [hg.1 hm]
  exact hfi
theorem ziD {N : Nat} {A : List Ed} (hn : zdm N A) (f : List Int) : inF A f 0 = 0:=by
 unfold inF
 rw [zcI (ψ:=fun _ _=>0) fun e he v=>if_neg (hn.arc e he).2.2.2.2.2.1,zfb]
theorem zsD {N : Nat} {A : List Ed} {f : List Int} {δ : Int} {l : List Stp} (hn : zdm N A) (hf : zaD N A f) (h0 : 0 ≤ δ) (hw : WayS A 0 l 1) (hd : (l.map (·.1)).Nodup) (hr : ∀ s ∈ l,s.1 < A.length ∧ δ ≤ zbM A f s) :
  zaD N A (zfS δ f l) ∧ valF A (zfS δ f l) = valF A f + δ:=by
 have hl:=hf.fit.len
 have hx:=fun x=>zn7 (A:=A) (δ:=δ) x 1 (l:=l) (f:=f) hl hw
 refine ⟨⟨zqp hf.fit h0 hd hr,fun x h2 hN=>?_⟩,?_⟩
 ·have h3:=hx x
  have h4:=hf.bal x h2 hN
  rw [if_neg (by omega),if_neg (by omega)] at h3
  unfold exF at h3
  omega
 ·have h3:=hx 0
  rw [if_pos rfl,if_neg (by omega)] at h3
  unfold exF at h3
  rw [ziD hn,ziD hn] at h3
  unfold valF
  omega
theorem zo0 {N : Nat} {A : List Ed} {f : List Int} (hn : zdm N A) (hf : zaD N A f) {S : Int → Bool} (h0 : S 0 = true) (h1 : S 1 = false)
  (hc : ∀ s : Stp,s.1 < A.length → S (stF A s) = true → 0 < zbM A f s → S (stT A s) = true) : valF A f = capS S A:=by
 rw [zkN hn hf h0 h1]
 have key : ∀ {A : List Ed} {f : List Int},Fit2 A f → (∀ s : Stp,s.1 < A.length → S (stF A s) = true → 0 < zbM A f s → S (stT A s) = true) → outS S A f = capS S A ∧ inS S A f = 0:=by
  intro A
  induction A with
  | nil=>intro f _ _; simp [outS,inS,capS,sumF]
  | cons e A ih =>
    intro f hf hc
    cases f with
    | nil=>exact hf.elim
    | cons v f =>
      have h2:=ih hf.2 fun s hs hsf hr=>by
       have:=hc (s.1 + 1,s.2) (by simpa using hs) (by simpa [stF,arcD] using hsf) (by simpa [zbM,arcD] using hr)
       simpa [stT,arcD] using this
      have ha:=hc (0,false) (by simp)
      have hb:=hc (0,true) (by simp)
      simp [stF,stT,zbM,arcD] at ha hb
      have hv:=hf.1
      unfold outS inS capS at h2 ⊢
      simp only [sumF,List.map_cons]
      obtain ⟨p1,p2⟩:=h2
      rw [p1,p2]
      cases hF : S e.f <;> cases hT : S e.t <;> simp [hF,hT] at ha hb ⊢ <;> omega
 obtain ⟨p1,p2⟩:=key hf.fit hc
 rw [p1,p2]
 omega
theorem WayS.snoc {A : List Ed} : ∀ {l : List Stp} {u w : Int} {s : Stp},WayS A u l w → s.1 < A.length → stF A s = w → WayS A u (l ++ [s]) (stT A s)
 | [],u,w,s,h,h1,h2=>⟨h1,by rw [h2]; exact (show u = w from h).symm,rfl⟩
 | t :: l,u,w,s,h,h1,h2=>⟨h.1,h.2.1,WayS.snoc h.2.2 h1 h2⟩
structure zqU (A : List Ed) (f : List Int) (D : List Int) (by_ : Int → Stp) : Prop where
 zero : D.head? = some 0
 nodup : D.Nodup
 step : ∀ j (h : j < D.length),0 < j → (by_ D[j]).1 < A.length ∧ stT A (by_ D[j]) = D[j] ∧ stF A (by_ D[j]) ∈ D.take j ∧ 0 < zbM A f (by_ D[j])
theorem znm {A : List Ed} {s t : Stp} (h : s.1 = t.1) : (stF A s = stF A t ∧ stT A s = stT A t) ∨ (stF A s = stT A t ∧ stT A s = stF A t):=by
 obtain ⟨i,b⟩:=s
 obtain ⟨j,c⟩:=t
 simp only at h
 subst h
 unfold stF stT
 cases b <;> cases c <;> simp
theorem zqU.way {A : List Ed} {f D : List Int} {by_ : Int → Stp} (h : zqU A f D by_) : ∀ (n j : Nat) (hj : j < D.length),j ≤ n →
  ∃ l,WayS A 0 l D[j] ∧ (l.map (·.1)).Nodup ∧ ∀ s ∈ l,s.1 < A.length ∧ 0 < zbM A f s ∧ by_ (stT A s) = s ∧ stT A s ≠ 0 ∧ stF A s ∈ D.take (j + 1) ∧ stT A s ∈ D.take (j + 1)
 | n,0,hj,_=>by
   refine ⟨[],?_,by simp,by simp⟩
   show (0 : Int) = D[0]
   have h0:=h.zero
   rw [List.head?_eq_getElem?,List.getElem?_eq_getElem hj] at h0
   exact (Option.some.inj h0).symm
 | 0,j + 1,_,hn=>by omega
 | n + 1,j + 1,hj,hn=>by
   obtain ⟨h1,h2,h3,h4⟩:=h.step (j + 1) hj (by omega)
   obtain ⟨i,hi,hiF⟩:=List.mem_iff_getElem.1 h3
   rw [List.length_take] at hi
   rw [List.getElem_take] at hiF
   have hij : i < j + 1:=by omega
   obtain ⟨l,w1,w2,w3⟩:=h.way n i (by omega) (by omega)
   have hne : ∀ (k m : Nat) (hk : k < D.length) (hm : m < D.length),k ≠ m → D[k] ≠ D[m]:=fun k m hk hm hkm he=>by
    rcases Nat.lt_or_ge k m with hlt | hge
    ·exact List.pairwise_iff_getElem.1 h.nodup k m hk hm hlt he
    ·exact List.pairwise_iff_getElem.1 h.nodup m k hm hk (by omega) he.symm
   have hnot : D[j + 1] ∉ D.take (i + 1):=fun hm=>by
    obtain ⟨k,hk,hkD⟩:=List.mem_iff_getElem.1 hm
    rw [List.length_take] at hk
    rw [List.getElem_take] at hkD
    exact hne k (j + 1) (by omega) hj (by omega) hkD
   have hup : ∀ x,x ∈ D.take (i + 1) → x ∈ D.take (j + 1 + 1):=fun x hx=>(List.take_sublist_take_left (by omega : i + 1 ≤ j + 1 + 1)).subset hx
   have h0 : D[j + 1] ≠ 0:=fun he=>by
    have hz:=h.zero
    rw [List.head?_eq_getElem?,List.getElem?_eq_getElem (by omega)] at hz
    exact hne 0 (j + 1) (by omega) hj (by omega) ((Option.some.inj hz).trans he.symm)
   refine ⟨l ++ [by_ D[j + 1]],?_,?_,fun s hs=>?_⟩
   ·have:=WayS.snoc (s:=by_ D[j + 1]) w1 h1 hiF.symm
    rw [h2] at this
    exact this
   ·rw [List.map_append,List.nodup_append]
    refine ⟨w2,by simp,fun a ha b hb=>?_⟩
    obtain ⟨t,ht,rfl⟩:=List.mem_map.1 ha
    simp only [List.map_cons,List.map_nil,List.mem_singleton] at hb
    subst hb
    intro he
    obtain ⟨_,_,_,_,q1,q2⟩:=w3 t ht
    rcases znm (A:=A) he with ⟨e1,e2⟩ | ⟨e1,e2⟩
    ·rw [e2,h2] at q2
     exact hnot q2
    ·rw [e1,h2] at q1
     exact hnot q1
   ·rcases List.mem_append.1 hs with hs | hs
    ·obtain ⟨p1,p2,p3,p4,p5,p6⟩:=w3 s hs
     exact ⟨p1,p2,p3,p4,hup _ p5,hup _ p6⟩
    ·rw [List.mem_singleton] at hs
     subst hs
     refine ⟨h1,h4,by rw [h2],by rw [h2]; exact h0,?_,?_⟩
     ·exact (List.take_sublist_take_left (by omega : j + 1 ≤ j + 1 + 1)).subset h3
     ·rw [h2]
      refine List.mem_iff_getElem.2 ⟨j + 1,by rw [List.length_take]; omega,by rw [List.getElem_take]⟩
def ze1 (A : List Ed) (f D : List Int) : Prop:=∀ s : Stp,s.1 < A.length → stF A s ∈ D → 0 < zbM A f s → stT A s ∈ D
theorem zia {N : Nat} {A : List Ed} {f D : List Int} (hn : zdm N A) (hf : zaD N A f) (h0 : (0 : Int) ∈ D) (h1 : (1 : Int) ∉ D) (hc : ze1 A f D) : valF A f = capS (fun x=>decide (x ∈ D)) A ∧ ∀ f',zaD N A f' → valF A f' ≤ valF A f:=by
 have e:=zo0 (S:=fun x=>decide (x ∈ D)) hn hf (by simpa using h0) (by simpa using h1) fun s hs hF hr=>by
  have:=hc s hs (by simpa using hF) hr
  simpa using this
 refine ⟨e,fun f' hf'=>?_⟩
 rw [e]
 exact zd2 hn hf' (by simpa using h0) (by simpa using h1)
theorem zkr {N : Nat} {A : List Ed} {f D : List Int} {by_ : Int → Stp} (hn : zdm N A) (hf : zaD N A f) (ht : zqU A f D by_) {S : Int → Bool} (h0 : S 0 = true) (h1 : S 1 = false) (hS : capS S A = valF A f) : ∀ x ∈ D,S x = true:=by
 have hv:=zkN hn hf h0 h1
 have ho:=zmO hf.fit S
 have hi:=zhc hf.fit S
 have ho2 : outS S A f = capS S A:=by omega
 have hi2 : inS S A f = 0:=by omega
 have key : ∀ {A : List Ed} {f : List Int},Fit2 A f → outS S A f = capS S A → inS S A f = 0 → ∀ s : Stp,s.1 < A.length → S (stF A s) = true → 0 < zbM A f s → S (stT A s) = true:=by
  intro A
  induction A with
  | nil=>intro f _ _ _ s hs; simp at hs
  | cons e A ih =>
    intro f hf ho hi s hs hF hr
    cases f with
    | nil=>exact hf.elim
    | cons v f =>
      have k1:=zmO hf.2 S
      have k2:=zhc hf.2 S
      have hv:=hf.1
      have e1 : outS S (e :: A) (v :: f) = (if S e.f = true ∧ S e.t = false then v else 0) + outS S A f:=rfl
      have e2 : inS S (e :: A) (v :: f) = (if S e.f = false ∧ S e.t = true then v else 0) + inS S A f:=rfl
      have e3 : capS S (e :: A) = (if S e.f = true ∧ S e.t = false then e.v else 0) + capS S A:=rfl
      rw [e1,e3] at ho
      rw [e2] at hi
      obtain ⟨i,b⟩:=s
      cases i with
      | zero =>
        cases b
        ·simp [stF,stT,zbM,arcD] at hF hr ⊢
         cases hT : S e.t
         ·simp [hF,hT] at ho
          omega
         ·rfl
        ·simp [stF,stT,zbM,arcD] at hF hr ⊢
         cases hT : S e.f
         ·simp [hF,hT] at hi
          omega
         ·rfl
      | succ i =>
        have q1 : outS S A f = capS S A:=by
         split at ho <;> omega
        have q2 : inS S A f = 0:=by
         split at hi <;> omega
        have:=ih hf.2 q1 q2 (i,b) (by simpa using hs) (by simpa [stF,arcD] using hF) (by simpa [zbM,arcD] using hr)
        simpa [stT,arcD] using this
 have hcl:=key hf.fit ho2 hi2
 have hind : ∀ (n j : Nat) (hj : j < D.length),j ≤ n → S D[j] = true:=by
  intro n
  induction n with
  | zero =>
    intro j hj hn
    have hj0 : j = 0:=by omega
    subst hj0
    have hz:=ht.zero
    rw [List.head?_eq_getElem?,List.getElem?_eq_getElem hj] at hz
    rw [Option.some.inj hz]
    exact h0
  | succ n ih =>
    intro j hj hn
    rcases Nat.eq_zero_or_pos j with hj0 | hj0
    ·exact ih j hj (by omega)
    ·obtain ⟨q1,q2,q3,q4⟩:=ht.step j hj hj0
     obtain ⟨i,hi,hiF⟩:=List.mem_iff_getElem.1 q3
     rw [List.length_take] at hi
     rw [List.getElem_take] at hiF
     have:=hcl _ q1 (by rw [← hiF]; exact ih i (by omega) (by omega)) q4
     rw [q2] at this
     exact this
 intro x hx
 obtain ⟨j,hj,rfl⟩:=List.mem_iff_getElem.1 hx
 exact hind j j hj (Nat.le_refl _)
def zi2 (capt : List AV) : Prop:=∀ ρ sn h n,capt.map (conv ρ sn h (n + 1)) = capt
def idxQ {α : Type} (l : List α) (q : α → Bool) : Int:=if l.findIdx q < l.length then (l.findIdx q : Int) else -1
theorem zmM {α : Type} {l : List α} {q : α → Bool} {k : Nat} (hk : k < l.length) (h1 : ∀ i,i < k → ∀ h : i < l.length,q l[i] = false) (h2 : q l[k] = true) : idxQ l q = k:=by
 have : l.findIdx q = k:=by
  rw [List.findIdx_eq hk]
  exact ⟨h2,fun j hj=>by simpa using h1 j hj (by omega)⟩
 unfold idxQ
 rw [this,if_pos hk]
theorem zm2 {α : Type} {l : List α} {q : α → Bool} (h1 : ∀ i,i < l.length → ∀ h : i < l.length,q l[i] = false) : idxQ l q = -1:=by
 have : l.findIdx q = l.length:=by
  rw [List.findIdx_eq_length]
  intro x hx
  obtain ⟨i,hi,rfl⟩:=List.mem_iff_getElem.1 hx
  exact h1 i hi hi
 unfold idxQ
 rw [this,if_neg (by omega)]
theorem zlh (f : FuncId) (capt : List AV) (q : Ed → Bool) (l : List Ed) (hl : l.length ≤ 1099511627776) (hs : zi2 capt) (hc : ∀ e ∈ l,zaj Tryz.prog f (eE e :: capt) [] (.B (q e)) []) : zaj Tryz.prog zaP [eEs l,.fn (.func f) [] capt] [] (.I (idxQ l q)) []:=by
 have hs2 : ∀ ρ sn h,capt.map (conv ρ sn h 2) = capt:=fun _ _ _=>hs _ _ _ 1
 have hs3 : ∀ ρ sn h,capt.map (conv ρ sn h 3) = capt:=fun _ _ _=>hs _ _ _ 2
 have hs4 : ∀ ρ sn h,capt.map (conv ρ sn h 4) = capt:=fun _ _ _=>hs _ _ _ 3
 refine zb6.acalls (Nat.le_of_ble_eq_true rfl) (Nat.le_of_ble_eq_true rfl) (Nat.le_refl _) ?_
 show awp _ 0 _ _ ⟨19,[(0,eEs l),(1,.fn (.func f) [] capt)],[],16⟩
 refine zaa ?_
 refine zac (s:=?s1) rfl ?o1 ?q1
 case o1=>simp; rfl
 refine zaa ?_
 refine zaa ?_
 refine zac (s:=?s2) rfl ?o2 ?q2
 case o2=>simp; rfl
 refine zaf ?_
 refine zap (ι:=Nat) (fun k=>⟨19,[(0,eEs l),(1,.fn (.func f) [] capt),(7,.I l.length),(8,.I k)],[],16⟩) (fun k=>k ≤ l.length ∧ ∀ i,i < k → ∀ h : i < l.length,q l[i] = false) (fun k=>l.length - k) (0) ?_ (Le.snap [] rfl rfl (by simp [hs2,hs3,hs4])) ?_
 ·simp
 rintro k ⟨hk,hp⟩
 refine zaa ?_
 refine zac (s:=?s3) rfl ?o3 ?q3
 case o3=>simp; rfl
 refine zaa ?_
 refine zad _ rfl (fun h4=>?_) fun h4=>?_
 ·try simp at h4
  have hw2 : IntKind.i64.wrap ((k : Int) + 1) = (k : Int) + 1:=w64 (by omega) (by omega)
  have hck:=hc l[k] (List.getElem_mem h4)
  refine zae ?_
  refine zaa ?_
  refine zaf ?_
  refine zaa ?_
  refine zac (s:=?s5) rfl ?o5 ?q5
  case o5=>simp [h4,hw2]; rfl
  refine zaa ?_
  refine zac (s:=?s6) rfl ?o6 ?q6
  case o6 =>
   simp [h4,hw2]
   refine zam hck ?_ ?_
   ·simp [hs2,hs3,hs4]
   simp [h4,hw2]; rfl
  refine zad _ rfl (fun h7=>?_) fun h7=>?_
  ·try simp at h7
   refine zaa ?_
   refine zac (s:=?s8) rfl ?o8 ?q8
   case o8=>simp [h4,hw2]; rfl
   refine zag ?_
   exact ⟨.inr rfl,zan.one (by simp [zmM h4 hp h7])⟩
  try simp at h7
  refine zae ?_
  refine zac (s:=?s9) rfl ?o9 ?q9
  case o9=>simp [h4,hw2]; rfl
  refine ⟨k + 1,⟨h4,fun i hi=>?_⟩,by omega,Le.snap [] rfl rfl (by simp [h4,hw2,hs2,hs3,hs4])⟩
  rcases Nat.lt_succ_iff_lt_or_eq.1 hi with h | rfl
  ·exact hp i h
  ·exact fun _=>h7
 try simp at h4
 have hall : ∀ i,i < l.length → ∀ h : i < l.length,q l[i] = false:=fun i hi=>hp i (by omega)
 refine zao ?_
 refine hit ?_
 refine zaa ?_
 refine zac (s:=?s10) rfl ?o10 ?q10
 case o10=>simp; rfl
 refine zag ?_
 exact ⟨.inr rfl,zan.one (by simp [zm2 hall])⟩
abbrev za4 (l : List Ed) : List (List AV):=l.map fun e=>[AV.I e.f,AV.I e.t,AV.I e.v]
theorem zgs {l : List Ed} {q : Ed → Bool} (h : ∀ i,i < l.length → ∀ h : i < l.length,q l[i] = false) : l.filter (fun e=>!q e) = l:=by
 rw [List.filter_eq_self]
 intro x hx
 obtain ⟨i,hi,rfl⟩:=List.mem_iff_getElem.1 hx
 simp [h i hi hi]
theorem zeD (l : List Ed) (q : Ed → Bool) (j : Nat) (h : j < l.length) : (l.take (j + 1)).filter (fun e=>!q e) = (l.take j).filter (fun e=>!q e) ++ if q l[j] = true then [] else [l[j]]:=by
 rw [← List.take_concat_get h,List.concat_eq_append,List.filter_append]
 congr 1
 cases hq : q l[j] <;> simp [hq]
set_option maxRecDepth 100000 in
theorem zju (f : FuncId) (capt : List AV) (q : Ed → Bool) (l : List Ed) (n m : Nat) (hn : l.length = n) (hm : (l.filter fun e=>!q e).length = m) (hl : n ≤ 1099511627776) (hs : zi2 capt) (hc : ∀ e ∈ l,zaj Tryz.prog f (eE e :: capt) [] (.B (q e)) []) :
  zaj Tryz.prog zaO [.rs 0 0 n,.fn (.func f) [] capt] [⟨3,za4 l,0⟩] (.rs 0 0 m) [some ⟨3,za4 (l.filter fun e=>!q e) ++ List.replicate (n - m) [.I 0,.I 0,.I 0],0⟩]:=by
 have hs2 : ∀ ρ sn h,capt.map (conv ρ sn h 2) = capt:=fun _ _ _=>hs _ _ _ 1
 have hs3 : ∀ ρ sn h,capt.map (conv ρ sn h 3) = capt:=fun _ _ _=>hs _ _ _ 2
 have hs4 : ∀ ρ sn h,capt.map (conv ρ sn h 4) = capt:=fun _ _ _=>hs _ _ _ 3
 refine zb4.acalls (Nat.le_of_ble_eq_true rfl) (Nat.le_of_ble_eq_true rfl) (Nat.le_of_ble_eq_true rfl) ?_
 show awp _ 1 _ _ ⟨42,[(0,.rs 0 0 n),(1,.fn (.func f) [] capt)],[(0,some ⟨3,za4 l,0⟩)],16⟩
 have hmn : m ≤ n:=by rw [← hm,← hn]; exact List.length_filter_le _ _
 refine zab ⟨42,[(0,.rs 0 0 n),(1,.fn (.func f) [] capt)],[(0,some ⟨3,za4 l,0⟩)],24⟩ rfl ?_ ?_
 ·simp
  exact Le.keep rfl (Nat.le_refl _) (by simp) (by simp)
 refine zab ⟨42,[(0,.rs 0 0 n),(1,.fn (.func f) [] capt),(5,.I (idxQ l q))],[(0,some ⟨3,za4 l,0⟩)],56⟩ rfl ?_ ?_
 ·simp
  refine zhE [0] (zlh f capt q l (by omega) hs hc) ?_ (.sc _) ?_
  ·simp [hs2,hs3,hs4,← hn,fcd,zal]
  simp
  exact Le.keep rfl (Nat.le_refl _) (by simp) (by simp)
 refine zaa ?_
 refine zab ⟨42,[(0,.rs 0 0 n),(1,.fn (.func f) [] capt),(5,.I (idxQ l q)),(12,.B (decide (idxQ l q = -1)))],[(0,some ⟨3,za4 l,0⟩)],72⟩ rfl ?_ ?_
 ·simp
  exact Le.keep rfl (Nat.le_refl _) (by simp <;> rw [Bool.eq_iff_iff] <;> simp) (by simp)
 refine zad _ rfl (fun h=>?_) fun h=>zae ?_
 ·simp only [decide_eq_true_eq] at h
  have hno : ∀ i,i < l.length → ∀ h : i < l.length,q l[i] = false:=by
   intro i hi _
   unfold idxQ at h
   split at h
   ·omega
   ·rename_i hnl
    have : l.findIdx q = l.length:=by have:=List.findIdx_le_length (xs:=l) (p:=q); omega
    rw [List.findIdx_eq_length] at this
    exact this _ (List.getElem_mem hi)
  have hf:=zgs hno
  rw [hf] at hm ⊢
  obtain rfl : n = m:=by omega
  refine zaa ?_
  refine zac (s:=?s1) rfl ?o1 ?q1
  case o1=>simp; rfl
  refine zag ?_
  refine ⟨.inr rfl,⟨[.rs 0 0 n],rfl,[],[],by simp [List.range,List.range.loop],by simp,by simp,?_,?_⟩⟩
  ·simp [List.range,List.range.loop]
  ·simp [List.range,List.range.loop,fcd]
 simp only [decide_eq_false_iff_not] at h
 obtain ⟨i0,hi0,hlt,hbef,hat⟩ : ∃ i0 : Nat,idxQ l q = i0 ∧ i0 < l.length ∧ (∀ i,i < i0 → ∀ h : i < l.length,q l[i] = false) ∧ ∀ h : i0 < l.length,q l[i0] = true:=by
  unfold idxQ at h ⊢
  split at h
  ·rename_i hlt
   refine ⟨l.findIdx q,by rw [if_pos hlt],hlt,fun i hi _=>?_,fun h=>List.findIdx_getElem (w:=h)⟩
   simpa using List.not_of_lt_findIdx hi
  ·omega
 rw [hi0]
 have hA0 : (l.take (i0 + 1)).filter (fun e=>!q e) = l.take i0:=by
  rw [zeD l q i0 hlt,if_pos (hat hlt),List.append_nil]
  refine zgs fun i hi h=>?_
  rw [List.length_take] at hi
  simp only [List.getElem_take]
  exact hbef i (by omega) (by omega)
 have hw0 : IntKind.i64.wrap ((i0 : Int) + 1) = ((i0 + 1 : Nat) : Int):=by rw [w64 (by omega) (by omega)]; omega
 let C : Nat × List Ed → St:=fun p=>⟨42,[(0,.rs 0 0 n),(1,.fn (.func f) [] capt),(5,.I ((l.take p.1).filter fun e=>!q e).length),(6,.I p.1)],[(0,some ⟨3,za4 ((l.take p.1).filter (fun e=>!q e) ++ p.2 ++ l.drop p.1),0⟩)],96⟩
 refine zaa ?_
 refine zab (C (i0 + 1,[l[i0]])) rfl ?_ ?_
 ·simp [hw0]
  refine Le.keep rfl (Nat.le_refl _) ?_ ?_
  ·simp only [C,hA0]
   simp
   omega
  ·simp only [C,hA0]
   simp
 refine zaf ?_
 refine zap C (fun p : Nat × List Ed=>p.1 ≤ n ∧ p.2 ≠ [] ∧ ((l.take p.1).filter fun e=>!q e).length + p.2.length = p.1) (fun p : Nat × List Ed=>n - p.1) (i0 + 1,[l[i0]]) ?_ (Le.refl _ _) ?_
 ·simp only [hA0]
  simp
  omega
 rintro ⟨j,M⟩ ⟨hj,hM,hlen⟩
 simp only at hj hM hlen ⊢
 obtain ⟨A,hA⟩ : ∃ A,A = (l.take j).filter fun e=>!q e:=⟨_,rfl⟩
 rw [← hA] at hlen
 have hC : C (j,M) = ⟨42,[(0,.rs 0 0 n),(1,.fn (.func f) [] capt),(5,.I A.length),(6,.I j)],[(0,some ⟨3,za4 (A ++ M ++ l.drop j),0⟩)],96⟩:=by subst hA; rfl
 rw [hC]
 refine zaa ?_
 refine zab ⟨42,[(0,.rs 0 0 n),(1,.fn (.func f) [] capt),(5,.I A.length),(6,.I j),(19,.B (decide (j < n)))],[(0,some ⟨3,za4 (A ++ M ++ l.drop j),0⟩)],128⟩ rfl ?_ ?_
 ·simp
  exact Le.keep rfl (Nat.le_refl _) (by simp) (by simp)
 refine zad _ rfl (fun h=>zae ?_) fun h=>zao (hit ?_)
 ·simp only [decide_eq_true_eq] at h
  have hjl : j < l.length:=by omega
  match M,hM,hlen with
  | m0 :: M1,_,hlen =>
  simp only [List.length_cons] at hlen
  have hnext:=zeD l q j hjl
  rw [← hA] at hnext
  have hget : (za4 (A ++ m0 :: M1 ++ l.drop j))[j]? = some [AV.I l[j].f,AV.I l[j].t,AV.I l[j].v]:=by
   rw [List.getElem?_map,List.getElem?_append_right (by simp; omega),List.getElem?_drop,show j + (j - (A ++ m0 :: M1).length) = j by simp; omega,List.getElem?_eq_getElem hjl]
   rfl
  have hget2 : (za4 (A ++ m0 :: M1 ++ l.drop j))[A.length]? = some [AV.I m0.f,AV.I m0.t,AV.I m0.v]:=by
   rw [List.getElem?_map,List.append_assoc,List.getElem?_append_right (by omega)]
   simp
  have hset : (za4 (A ++ m0 :: M1 ++ l.drop j)).set A.length [AV.I l[j].f,AV.I l[j].t,AV.I l[j].v] = za4 ((A ++ [l[j]]) ++ (M1 ++ [l[j]]) ++ l.drop (j + 1)):=by
   have e1 : l.drop j = l[j] :: l.drop (j + 1):=List.drop_eq_getElem_cons hjl
   rw [e1]
   simp [za4,List.set_append]
  have hmore : A ++ m0 :: M1 ++ l.drop j = A ++ (m0 :: M1 ++ [l[j]]) ++ l.drop (j + 1):=by
   have e1 : l.drop j = l[j] :: l.drop (j + 1):=List.drop_eq_getElem_cons hjl
   rw [e1]
   simp
  generalize hrows : za4 (A ++ m0 :: M1 ++ l.drop j) = R at *
  have hRl : R.length = n:=by rw [← hrows]; simp; omega
  have hck:=hc l[j] (List.getElem_mem hjl)
  generalize hv : l[j] = v at *
  refine zaI (ι:=List Ed × List Ed) (fun p=>⟨42,[(0,.rs 0 0 n),(1,.fn (.func f) [] capt),(5,.I p.1.length),(6,.I j)],[(0,some ⟨3,za4 (p.1 ++ p.2 ++ l.drop (j + 1)),0⟩)],272⟩)
   (fun p=>p.1 = (l.take (j + 1)).filter (fun e=>!q e) ∧ p.2 ≠ [] ∧ p.1.length + p.2.length = j + 1) ?_ ?_
  ·refine zaf ?_
   refine zab ⟨42,[(0,.rs 0 0 n),(1,.fn (.func f) [] capt),(5,.I A.length),(6,.I j),(7,.pt 160 0 0)],[(0,some ⟨3,R,0⟩),(160,some ⟨3,[[.I v.f,.I v.t,.I v.v]],0⟩)],176⟩ rfl ?_ ?_
   ·simp [h,hget]
    exact Le.keep rfl (Nat.le_refl _) (by simp) (by simp)
   refine zab ⟨42,[(0,.rs 0 0 n),(1,.fn (.func f) [] capt),(5,.I A.length),(6,.I j),(7,.pt 160 0 0),(29,.B (!q v))],[(0,some ⟨3,R,0⟩),(160,some ⟨3,[[.I v.f,.I v.t,.I v.v]],0⟩)],208⟩ rfl ?_ ?_
   ·simp
    refine zam hck ?_ ?_
    ·simp [hs2,hs3,hs4]
    simp
    exact Le.keep rfl (Nat.le_refl _) (by simp) (by simp)
   refine zad _ rfl (fun h5=>?_) fun h5=>zae ?_
   ·simp only [Bool.not_eq_true'] at h5
    rw [h5] at hnext
    refine zab ⟨42,[(0,.rs 0 0 n),(1,.fn (.func f) [] capt),(5,.I A.length),(6,.I j)],[(0,some ⟨3,za4 ((A ++ [v]) ++ (M1 ++ [v]) ++ l.drop (j + 1)),0⟩)],248⟩ rfl ?_ ?_
    ·simp [hget2,show A.length < n by omega,zaZ,hset]
     exact Le.keep rfl (Nat.le_refl _) (by simp) (by simp)
    have hwA : IntKind.i64.wrap ((A.length : Int) + 1) = ((A.length + 1 : Nat) : Int):=by rw [w64 (by omega) (by omega)]; omega
    refine zar rfl ?_
    simp [hwA]
    refine ⟨A ++ [v],M1 ++ [v],⟨by rw [hnext]; simp,by simp,by simp; omega⟩,Le.keep rfl (Nat.le_refl _) (by simp) (by simp)⟩
   ·simp only [Bool.not_eq_false'] at h5
    rw [h5] at hnext
    refine ⟨(A,m0 :: M1 ++ [v]),⟨by rw [hnext]; simp,by simp,by simp; omega⟩,Le.keep rfl (Nat.le_of_ble_eq_true rfl) (by simp) ?_⟩
    rw [← hmore,hrows]
    simp
  rintro ⟨A',M'⟩ ⟨p1,p2,p3⟩
  simp only at p1 p2 p3 ⊢
  have hwj : IntKind.i64.wrap ((j : Int) + 1) = ((j + 1 : Nat) : Int):=by rw [w64 (by omega) (by omega)]; omega
  refine zar rfl ?_
  simp [hwj]
  refine ⟨j + 1,M',⟨by omega,p2,by rw [← p1]; omega⟩,by omega,?_⟩
  have hD : C (j + 1,M') = ⟨42,[(0,.rs 0 0 n),(1,.fn (.func f) [] capt),(5,.I A'.length),(6,.I ((j + 1 : Nat) : Int))],[(0,some ⟨3,za4 (A' ++ M' ++ l.drop (j + 1)),0⟩)],96⟩:=by rw [p1]
  rw [hD]
  refine Le.ents [(0,0)] [] rfl (by simp) (by simp) (by simp) (by simp) (by simp) (by simp [hs2,hs3,hs4]) fun p hp=>?_
  simp at hp
  subst hp
  exact ⟨0,_,_,rfl,by simp,rfl,zaC.eq (by simp [fcd]) (by simp)⟩
 simp only [decide_eq_false_iff_not] at h
 obtain rfl : j = n:=by omega
 have hd : l.drop j = []:=List.drop_eq_nil_of_le (by omega)
 have ht : l.take j = l:=List.take_of_length_le (by omega)
 rw [ht] at hA
 rw [hd,List.append_nil]
 rw [← hA] at hm ⊢
 subst hm
 have hAM : (za4 (A ++ M)).take A.length = za4 A:=by simp [za4]
 have hAd : (za4 (A ++ M)).drop (A.length + (j - A.length)) = []:=List.drop_eq_nil_of_le (by simp; omega)
 have hAl : (za4 (A ++ M)).length = j:=by simp; omega
 generalize za4 (A ++ M) = R at *
 refine zab ⟨42,[(0,.rs 0 0 j),(5,.I A.length)],[(0,some ⟨3,za4 A ++ List.replicate (j - A.length) [.I 0,.I 0,.I 0],0⟩)],160⟩ rfl ?_ ?_
 ·simp
  refine ⟨by omega,by omega,?_⟩
  rw [hAM,hAd]
  exact Le.keep rfl (Nat.le_refl _) (by simp) (by simp)
 refine zaa ?_
 refine zac (s:=?s2) rfl ?o2 ?q2
 case o2 =>
  simp
  refine ⟨by omega,?_⟩
  rfl
 refine zag ?_
 refine ⟨.inr rfl,⟨[.rs 0 0 A.length],rfl,[],[],by simp [List.range,List.range.loop],by simp,by simp,?_,?_⟩⟩
 ·simp [List.range,List.range.loop]
 ·simp [List.range,List.range.loop,fcd]
def zai (g : Gr) (v : Int) : Gr:=⟨g.size,g.edges.filter fun e=>!decide (e.v < v),g.gone⟩
theorem zgY (e : Ed) (v : Int) : zaj Tryz.prog zct [eE e,.pv [.I v]] [] (.B (decide (e.v < v))) []:=by
 refine zir.acalls (Nat.le_of_ble_eq_true rfl) (Nat.le_of_ble_eq_true rfl) (Nat.le_refl _) ?_
 show awp _ 0 _ _ ⟨8,[(0,eE e),(1,.pv [.I v])],[],16⟩
 refine zab ⟨8,[(1,.pv [.I v]),(2,.pv (eC e))],[],16⟩ rfl ?_ ?_
 ·simp
  exact Le.snap [16] rfl rfl (by simp)
 refine zaa ?_
 refine zac (s:=?s1) rfl ?o1 ?q1
 case o1=>simp; rfl
 refine zag ?_
 exact ⟨.inr rfl,zan.one (by simp)⟩
set_option maxRecDepth 100000 in
theorem zdO (g : Gr) (v : Int) (hl : g.edges.length ≤ 1099511627776) (hl2 : g.gone.length ≤ 1099511627776) : zaj Tryz.prog zcY [eG g,.I v] [] (eG (zai g v)) []:=by
 refine zl2.acalls (Nat.le_of_ble_eq_true rfl) (Nat.le_of_ble_eq_true rfl) (Nat.le_refl _) ?_
 show awp _ 0 _ _ ⟨14,[(0,eG g),(1,.I v)],[],16⟩
 obtain ⟨E,hE⟩ : ∃ E,E = g.edges.filter fun e=>!decide (e.v < v):=⟨_,rfl⟩
 have hEl : E.length ≤ g.edges.length:=by rw [hE]; exact List.length_filter_le _ _
 have hdel:=zju zct [.pv [.I v]] (fun e=>decide (e.v < v)) g.edges g.edges.length E.length rfl (by rw [hE]) hl (fun ρ sn h n=>by simp) (fun e _=>zgY e v)
 rw [← hE] at hdel
 have hres : zai g v = ⟨g.size,E,g.gone⟩:=by rw [hE]; rfl
 rw [hres]
 refine zab ⟨14,[(2,.pv (gC g)),(3,.pt 24 0 0),(4,.pt 32 0 0)],[(24,some ⟨1,[[.I v]],0⟩),(32,some zG)],40⟩ rfl ?_ ?_
 ·simp
  refine Le.ents [(24,24),(32,32)] [16] rfl (by simp) (by simp) (by simp) (by simp) (by simp) (by simp) fun p hp=>?_
  simp at hp
  rcases hp with rfl | rfl
  ·exact ⟨24,_,_,rfl,by simp,rfl,zaC.eq (by simp) (by simp)⟩
  ·exact ⟨32,_,_,rfl,by simp,rfl,zaC.eq (by simp) (by simp)⟩
 refine zab ⟨14,[(3,.pt 24 0 0),(4,.pt 32 0 0),(5,.pt 56 0 0)],[(24,some ⟨1,[[.I v]],0⟩),(32,some zG),(56,some ⟨3,[[.I g.size,.rs 48 0 g.edges.length,.rs 49 0 g.gone.length]],0⟩),(48,some ⟨3,za4 g.edges,0⟩),(49,some ⟨1,g.gone.map fun n=>[AV.I n],0⟩)],72⟩ rfl ?_ ?_
 ·simp
  refine zmm (zid g (by omega) (by omega)) rfl ?_
  simp [fcd]
  exact Le.keep rfl (Nat.le_refl _) (by simp) (by simp)
 refine zab ⟨14,[(4,.pt 32 0 0),(5,.pt 56 0 0)],[(32,some zG),(56,some ⟨3,[[.I g.size,.rs 48 0 E.length,.rs 49 0 g.gone.length]],0⟩),(48,some ⟨3,za4 E ++ List.replicate (g.edges.length - E.length) [.I 0,.I 0,.I 0],0⟩),(49,some ⟨1,g.gone.map fun n=>[AV.I n],0⟩)],120⟩ rfl ?_ ?_
 ·simp
  refine znH (i:=48) (j:=24) (by decide) (Nat.zero_le _) rfl rfl ?_ hdel (by simp) ?_ ?_
  ·simp [fcd]
  ·simp
  simp [fcd]
  exact Le.keep rfl (Nat.le_refl _) (by simp) (by simp)
 refine zaa ?_
 refine zac (s:=?s21) rfl ?o21 ?q21
 case o21=>simp; rfl
 refine zag ?_
 refine ⟨.inr rfl,?_⟩
 show zan [(4,some (true,3))] 0 _ _ _
 refine zan.out (vs:=[.agg [.I g.size,.rs 48 0 E.length,.rs 49 0 g.gone.length]]) [] [48,49] (by simp) (by simp) (by simp) ?_ (by simp)
 simp [fcd,zal]
theorem zma (l : List Ed) (v : Int) (k : Nat) (h : k < l.length) : (l.take (k + 1)).filter (fun e=>!decide (e.v < v)) = (l.take k).filter (fun e=>!decide (e.v < v)) ++ if v ≤ l[k].v then [l[k]] else []:=by
 rw [← List.take_concat_get h,List.concat_eq_append,List.filter_append]
 congr 1
 by_cases hq : v ≤ l[k].v
 ·have : ¬ l[k].v < v:=by omega
  simp [hq,this]
 ·have : l[k].v < v:=by omega
  simp [hq,this]
set_option maxRecDepth 100000 in
theorem zfz (g : Gr) (v : Int) (hl : g.edges.length ≤ 1099511627776) (hl2 : g.gone.length ≤ 1099511627776) : zaj Tryz.prog zdI [eG g,.I v] [] (eG (zai g v)) []:=by
 refine zlR.acalls (Nat.le_of_ble_eq_true rfl) (Nat.le_of_ble_eq_true rfl) (Nat.le_refl _) ?_
 show awp _ 0 _ _ ⟨36,[(0,eG g),(1,.I v)],[],16⟩
 refine zab ⟨36,[(1,.I v),(2,.pv (gC g)),(4,.pt 24 0 0)],[(24,some zG)],32⟩ rfl ?_ ?_
 ·simp
  refine Le.ents [(24,24)] [16] rfl (by simp) (by simp) (by simp) (by simp) (by simp) (by simp) fun p hp=>?_
  simp at hp
  subst hp
  exact ⟨24,_,_,rfl,by simp,rfl,zaC.eq (by simp) (by simp)⟩
 refine zab ⟨36,[(1,.I v),(2,.pv (gC g)),(4,.pt 24 0 0),(5,.pt 48 0 0)],[(24,some zG),(48,some ⟨3,[[.I g.size,.rs 40 0 g.edges.length,.rs 41 0 g.gone.length]],0⟩),(40,some ⟨3,za4 g.edges,0⟩),(41,some ⟨1,g.gone.map fun n=>[AV.I n],0⟩)],64⟩ rfl ?_ ?_
 ·simp
  refine zmm (zem g (by omega) (by omega)) rfl ?_
  simp [fcd]
  exact Le.keep rfl (Nat.le_refl _) (by simp) (by simp)
 refine zab ⟨36,[(1,.I v),(2,.pv (gC g)),(4,.pt 24 0 0),(5,.pt 48 0 0)],[(24,some zG),(48,some ⟨3,[[.I g.size,.nilS,ints g.gone]],0⟩)],80⟩ rfl ?_ ?_
 ·simp
  refine Le.ents [(24,24),(48,48)] [41] rfl (by simp) (by simp) (by simp) (by simp) (by simp) (by simp) fun p hp=>?_
  simp at hp
  rcases hp with rfl | rfl
  ·exact ⟨24,_,_,rfl,by simp,rfl,zaC.eq (by simp) (by simp)⟩
  ·exact ⟨48,_,_,rfl,by simp,rfl,zaC.eq (by simp [zaZ,fcd,zal]) (by simp)⟩
 refine zaa ?_
 refine zab ⟨36,[(1,.I v),(2,.pv (gC g)),(4,.pt 24 0 0),(5,.pt 48 0 0),(6,.I 0)],[(24,some zG),(48,some ⟨3,[[.I g.size,.nilS,ints g.gone]],0⟩)],88⟩ rfl ?_ ?_
 ·simp
  exact Le.keep rfl (Nat.le_refl _) (by simp) (by simp)
 refine zaf ?_
 let F : Nat → List Ed:=fun k=>(g.edges.take k).filter fun e=>!decide (e.v < v)
 let C : Nat → St:=fun k=>⟨36,[(1,.I v),(2,.pv (gC g)),(4,.pt 24 0 0),(5,.pt 48 0 0),(6,.I k)],[(24,some zG),(48,some ⟨3,[[.I g.size,.rs 16 0 (F k).length,ints g.gone]],0⟩),(16,some ⟨3,za4 (F k),0⟩)],88⟩
 refine zap C (fun k=>k ≤ g.edges.length) (fun k=>g.edges.length - k) 0 (Nat.zero_le _) ?_ ?_
 ·refine Le.lst [(24,24),(48,48)] [] [(16,3)] rfl (by simp) (by simp) (by simp [C]) (by simp [C]) (by simp) (by simp) (by simp) (by simp [C,Up]) fun p hp e' he'=>?_
  simp [C] at hp
  rcases hp with rfl | rfl | rfl
  ·cases he'
   exact .inl ⟨(24,24),by simp,rfl,_,rfl,zaC.eq (by simp) (by simp)⟩
  ·cases he'
   refine .inl ⟨(48,48),by simp,rfl,_,rfl,zaC.row (by simp; rfl) (by simp) ?_⟩
   exact ⟨.inl (.refl _),.inr ⟨rfl,16,3,by simp [F],by simp⟩,.inl (.refl _),trivial⟩
  ·cases he'
   exact .inr ⟨by simp,by simp [F],rfl⟩
 intro k hk
 have hFl : (F k).length ≤ k:=by
  have h1 : (F k).length ≤ (g.edges.take k).length:=List.length_filter_le _ _
  simp at h1
  omega
 have hC : C k = ⟨36,[(1,.I v),(2,.pv (gC g)),(4,.pt 24 0 0),(5,.pt 48 0 0),(6,.I k)],[(24,some zG),(48,some ⟨3,[[.I g.size,.rs 16 0 (F k).length,ints g.gone]],0⟩),(16,some ⟨3,za4 (F k),0⟩)],88⟩:=rfl
 rw [hC]
 refine zaa ?_
 refine zab ⟨36,[(1,.I v),(2,.pv (gC g)),(4,.pt 24 0 0),(5,.pt 48 0 0),(6,.I k),(14,.B (decide (k < g.edges.length)))],[(24,some zG),(48,some ⟨3,[[.I g.size,.rs 16 0 (F k).length,ints g.gone]],0⟩),(16,some ⟨3,za4 (F k),0⟩)],128⟩ rfl ?_ ?_
 ·simp
  exact Le.keep rfl (Nat.le_refl _) (by simp) (by simp)
 refine zad _ rfl (fun h=>zae ?_) fun h=>zao (hit ?_)
 ·simp only [decide_eq_true_eq] at h
  have hnext:=zma g.edges v k h
  have hFs : F (k + 1) = F k ++ if v ≤ g.edges[k].v then [g.edges[k]] else []:=hnext
  refine zaI (ι:=Unit) (fun _=>⟨36,[(1,.I v),(2,.pv (gC g)),(4,.pt 24 0 0),(5,.pt 48 0 0),(6,.I k)],[(24,some zG),(48,some ⟨3,[[.I g.size,.rs 16 0 (F (k + 1)).length,ints g.gone]],0⟩),(16,some ⟨3,za4 (F (k + 1)),0⟩)],280⟩) (fun _=>True) ?_ fun _ _=>?_
  ·rw [hFs]
   generalize F k = A at *
   refine zaf ?_
   refine zab ⟨36,[(1,.I v),(2,.pv (gC g)),(4,.pt 24 0 0),(5,.pt 48 0 0),(6,.I k),(24,.B (decide (v ≤ g.edges[k].v)))],[(24,some zG),(48,some ⟨3,[[.I g.size,.rs 16 0 A.length,ints g.gone]],0⟩),(16,some ⟨3,za4 A,0⟩)],192⟩ rfl ?_ ?_
   ·simp [h]
    exact Le.keep rfl (Nat.le_refl _) (by simp) (by simp)
   refine zad _ rfl (fun h5=>?_) fun h5=>zae ?_
   ·simp only [decide_eq_true_eq] at h5
    rw [if_pos h5]
    refine zc0 rfl ?_
    have hrl : (za4 A).length = A.length:=by simp
    simp [h,zaZ,List.replicate]
    refine ⟨by omega,by omega,rfl,?_⟩
    refine Le.ents [(24,24),(48,48),(256,16)] [] rfl (by simp) (by simp) (by simp) (by simp) (by simp) (by simp) fun p hp=>?_
    simp at hp
    rcases hp with rfl | rfl | rfl
    ·exact ⟨24,_,_,rfl,by simp,rfl,zaC.eq (by simp) (by simp)⟩
    ·exact ⟨48,_,_,rfl,by simp,rfl,zaC.eq (by simp) (by simp)⟩
    ·exact ⟨256,_,_,rfl,by simp,rfl,zaC.eq (by simp [fcd,zal]) (by simp)⟩
   ·simp only [decide_eq_false_iff_not] at h5
    rw [if_neg h5,List.append_nil]
    exact ⟨(),trivial,Le.keep rfl (Nat.le_of_ble_eq_true rfl) (by simp) (by simp)⟩
  have hwj : IntKind.i64.wrap ((k : Int) + 1) = ((k + 1 : Nat) : Int):=by rw [w64 (by omega) (by omega)]; omega
  refine zar rfl ?_
  simp [hwj]
  refine ⟨k + 1,by omega,by omega,?_⟩
  refine Le.ents [(24,24),(48,48),(16,16)] [] rfl (by simp) (by simp) (by simp [C]) (by simp) (by simp [C]) (by simp [C]) fun p hp=>?_
  simp [C] at hp
  rcases hp with rfl | rfl | rfl
  ·exact ⟨24,_,_,rfl,by simp,rfl,zaC.eq (by simp) (by simp)⟩
  ·exact ⟨48,_,_,rfl,by simp,rfl,zaC.eq (by simp) (by simp)⟩
  ·exact ⟨16,_,_,rfl,by simp,rfl,zaC.eq (by simp [fcd]) (by simp)⟩
 simp only [decide_eq_false_iff_not] at h
 obtain rfl : k = g.edges.length:=by omega
 have hF : F g.edges.length = (zai g v).edges:=by
  show (g.edges.take g.edges.length).filter _ = _
  rw [List.take_of_length_le (Nat.le_refl _)]
  rfl
 rw [hF]
 have hres : zai g v = ⟨g.size,(zai g v).edges,g.gone⟩:=rfl
 rw [hres]
 generalize (zai g v).edges = E at *
 refine zaa ?_
 refine zac (s:=?s21) rfl ?o21 ?q21
 case o21=>simp; rfl
 refine zag ?_
 refine ⟨.inr rfl,?_⟩
 show zan [(4,some (true,3))] 0 _ _ _
 refine zan.out (vs:=[.agg [.I g.size,.rs 16 0 E.length,ints g.gone]]) [] [16] (by simp) (by simp) (by simp) ?_ (by simp)
 simp [fcd,zal]
end Go.Proofs.YteiabadhhhckfaaGreat
