/- Texts of this claim,merged. -/
import Derived.Test.YtklclphfcibagaaGreatRy6
import Derived.Test.YtklclphfcibagaaGreatRy5
import Derived.Test.YtklclphfcibagaaGreatProg
import Derived.KernelRfl
import Derived.Test.YtklclphfcibagaaGreatRows
set_option linter.unusedSimpArgs false
set_option linter.unusedVariables false
set_option linter.unusedSectionVars false
namespace Go.Proofs.YtklclphfcibagaaGreat
open Go
theorem mixed : Tryz.prog.follows .mixedOrders = true:=by kernel_rfl
theorem mkS {f : FuncId} {af : AFun} (fn : Func) (hf : Tryz.prog.funcs[f]? = some fn:=by kernel_rfl) (hc : zss Tryz.prog fn = some af:=by kernel_rfl) (hn : fn.name ≠ "runtime.NumGoroutine":=by decide) : Src Tryz.prog f af:=⟨mixed,fn,hf,hc,hn⟩
theorem zlk : Src Tryz.prog zaN zgT:=mkS Tryz.f12
theorem zg0 : Src Tryz.prog zcp ze2:=mkS Tryz.f43
theorem zom : Src Tryz.prog zfo zkS:=mkS Tryz.f44
theorem zkL : Src Tryz.prog zdD zg3:=mkS Tryz.f62
theorem zgc : Src Tryz.prog zdk zes:=mkS Tryz.f68
theorem zjs : Src Tryz.prog zcG zgm:=mkS Tryz.f71
theorem zh8 : Src Tryz.prog zcI zfD:=mkS Tryz.f72
theorem zrf : Src Tryz.prog zin zlQ:=mkS Tryz.f73
theorem zpx : Src Tryz.prog zg7 zkr:=mkS Tryz.f74
theorem zlU : Src Tryz.prog zfq ziA:=mkS Tryz.f81
theorem zgV : Src Tryz.prog zdO ze6:=mkS Tryz.f82
theorem zk5 : Src Tryz.prog zcg zhc:=mkS Tryz.f83
theorem zih : Src Tryz.prog zaY zhG:=mkS Tryz.f84
theorem zkU : Src Tryz.prog zeL zg8:=mkS Tryz.f85
theorem zhC : Src Tryz.prog zeb zfM:=mkS Tryz.f86
theorem zpD : Src Tryz.prog zg1 zkt:=mkS Tryz.f101
theorem zh4 : Src Tryz.prog zek zfQ:=mkS Tryz.f106
theorem zgB : Src Tryz.prog zdq zeK:=mkS Tryz.f108
theorem znX : Src Tryz.prog zd0 znK:=mkS Tryz.f117
theorem zbA : Src Tryz.prog zap zbC:=mkS Tryz.f118
theorem zd3 : Src Tryz.prog zbL zd6:=mkS Tryz.f119
theorem zrh : Src Tryz.prog ziM zqZ:=mkS Tryz.f120
theorem zkR : Src Tryz.prog zeH zgA:=mkS Tryz.f122
theorem znc : Src Tryz.prog zed zhA:=mkS Tryz.f123
theorem zlY : Src Tryz.prog zeo zi2:=mkS Tryz.f124
theorem znT : Src Tryz.prog zcQ zkY:=mkS Tryz.f125
theorem zgX : Src Tryz.prog zdS zfe:=mkS Tryz.f126
theorem zmz : Src Tryz.prog zag zhD:=mkS Tryz.f127
theorem zbY : Src Tryz.prog zaZ zcA:=mkS Tryz.f136
theorem zdc : Src Tryz.prog zbE zcc:=mkS Tryz.f137
theorem zoh : Src Tryz.prog zhT zkp:=mkS Tryz.f138
theorem zjq : Src Tryz.prog zeW zgC:=mkS Tryz.f139
theorem zgD : Src Tryz.prog zdY zge:=mkS Tryz.f140
theorem zfG : Src Tryz.prog zbB zfN:=mkS Tryz.f141
theorem zk0 : Src Tryz.prog zez zk1:=mkS Tryz.f142
theorem zjy : Src Tryz.prog zcC zoy:=mkS Tryz.f149
theorem zkA : Src Tryz.prog zeM zgE:=mkS Tryz.f154
theorem zmA : Src Tryz.prog zei zmC:=mkS Tryz.f170
theorem zms : Src Tryz.prog zfR zmB:=mkS Tryz.f172
theorem zcL : Src Tryz.prog zbc zcM:=mkS Tryz.f173
theorem zkj : Src Tryz.prog zdh zko:=mkS Tryz.f174
theorem zbT : Src Tryz.prog zbe zbS:=mkS Tryz.f175
theorem zeQ : Src Tryz.prog zbr zeO:=mkS Tryz.f176
theorem zqQ : Src Tryz.prog zbu zrc:=mkS Tryz.f177
theorem zoE : Src Tryz.prog zf9 zjp:=mkS Tryz.f178
theorem zcK : Src Tryz.prog za0 zbW:=mkS Tryz.f193
theorem zgZ : Src Tryz.prog zdV ze9:=mkS Tryz.f194
theorem zgU : Src Tryz.prog zdQ zfb:=mkS Tryz.f195
theorem zbn : Src Tryz.prog zaM za1:=mkS Tryz.f196
theorem zjw : Src Tryz.prog zeX zgz:=mkS Tryz.f197
theorem zfL : Src Tryz.prog zc5 zfH:=mkS Tryz.f198
theorem zcV : Src Tryz.prog za2 zc1:=mkS Tryz.f199
theorem zg2 : Src Tryz.prog zdK zhn:=mkS Tryz.f200
theorem ze4 : Src Tryz.prog zcq zfa:=mkS Tryz.f201
theorem zhO : Src Tryz.prog zb0 zhz:=mkS Tryz.f202
theorem zdL : Src Tryz.prog zbx zdF:=mkS Tryz.f203
theorem zh0 : Src Tryz.prog zct zh6:=mkS Tryz.f204
theorem zdy : Src Tryz.prog zbs zf5:=mkS Tryz.f227
theorem zft : Src Tryz.prog zcl zfK:=mkS Tryz.f234
theorem zjD : Src Tryz.prog zcX zjE:=mkS Tryz.f235
theorem zkb : Src Tryz.prog zew zkK:=mkS Tryz.f236
theorem zeN : Src Tryz.prog zbO zeB:=mkS Tryz.f237
theorem zjC : Src Tryz.prog zcW zjO:=mkS Tryz.f238
theorem zb8 : Src Tryz.prog za6 zdw:=mkS Tryz.f239
theorem zcS : Src Tryz.prog zbf zcT:=mkS Tryz.f240
theorem zjU : Src Tryz.prog zd2 zjT:=mkS Tryz.f241
theorem zn4 : Src Tryz.prog zgf zn9:=mkS Tryz.f242
theorem zoJ : Src Tryz.prog zev zkQ:=mkS Tryz.f243
theorem zq3 : Src Tryz.prog zcd zlK:=mkS Tryz.f244
theorem zpI : Src Tryz.prog zg5 zkg:=mkS Tryz.f245
theorem zb9 : Src Tryz.prog za5 zbq:=mkS Tryz.f257
theorem zfW : Src Tryz.prog zc0 zd4:=mkS Tryz.f267
theorem zcb : Src Tryz.prog za8 zbv:=mkS Tryz.f268
theorem zdR : Src Tryz.prog zb7 zdP:=mkS Tryz.f269
theorem zfg : Src Tryz.prog zb5 ze3:=mkS Tryz.f270
theorem zly : Src Tryz.prog zff zlm:=mkS Tryz.f281
theorem zoM : Src Tryz.prog zbJ zpf:=mkS Tryz.f282
theorem zbG : Src Tryz.prog zaK zbb:=mkS Tryz.f295
theorem zb3 : Src Tryz.prog zaA zbo:=mkS Tryz.f296
theorem zdt : Src Tryz.prog za4 zdv:=mkS Tryz.f297
theorem zjK : Src Tryz.prog zd5 zjI:=mkS Tryz.f315
theorem zca : Src Tryz.prog za9 zbw:=mkS Tryz.f325
theorem zbV : Src Tryz.prog zaH zbl:=mkS Tryz.f341
abbrev ints (l : List Int) : AV:=.vs 1 false (l.map fun n=>[AV.I n])
theorem zp0 (x : Int) : zao Tryz.prog zb7 [.I x] [] (.B false) []:=by
 refine zdR.ac ?_
 show awp _ 0 _ _ ⟨6,[(0,.I x)],[],16⟩
 refine zac (zax (s:=?s1) rfl ?o1 ?q1)
 case o1=>simp; rfl
 refine zac (zax (s:=?s2) rfl ?o2 ?q2)
 case o2=>simp; rfl
 exact zan ⟨.inr rfl,zat.one (by simp)⟩
theorem zb6 (n lo hi : Int) : zao Tryz.prog zaY [.I n,.I lo,.I hi] [] (.B (decide (lo ≤ n) && decide (n ≤ hi))) []:=by
 refine zih.ac ?_
 show awp _ 0 _ _ ⟨15,[(0,.I n),(1,.I lo),(2,.I hi)],[],16⟩
 refine zac (zax (s:=?s1) rfl ?o1 ?q1)
 case o1=>simp; rfl
 by_cases h : lo ≤ n
 ·refine zac (zax (s:=?s2) rfl ?o2 ?q2)
  case o2=>simp [h]; rfl
  exact zan ⟨.inr rfl,zat.one (by simp [h])⟩
 ·refine zac (zax (s:=?s3) rfl ?o3 ?q3)
  case o3=>simp [h]; rfl
  exact zan ⟨.inr rfl,zat.one (by simp [h])⟩
def cmpI (x y : Int) : Int:=if x < y then -1 else if x > y then 1 else 0
theorem ziT (x y : Int) : zao Tryz.prog za2 [.I x,.I y] [] (.I (cmpI x y)) []:=by
 refine zcV.ac ?_
 show awp _ 0 _ _ ⟨20,[(0,.I x),(1,.I y)],[],16⟩
 refine zac (zax (s:=?s1) rfl ?o1 ?q1)
 case o1=>simp; rfl
 refine zac (zax (s:=?s2) rfl ?o2 ?q2)
 case o2=>simp; refine zaJ (zp0 _) rfl ?_; simp; rfl
 refine zac (zax (s:=?s3) rfl ?o3 ?q3)
 case o3=>simp; refine zaJ (zp0 _) rfl ?_; simp; rfl
 refine zac (zac (zax (s:=?s4) rfl ?o4 ?q4))
 case o4=>simp; rfl
 refine zak _ rfl (fun h=>by cases h) fun _=>zal ?_
 refine zac (zac (zax (s:=?s5) rfl ?o5 ?q5))
 case o5=>simp; rfl
 refine zak _ rfl (fun h=>by cases h) fun _=>zal ?_
 refine zac (zac (zax (s:=?s6) rfl ?o6 ?q6))
 case o6=>simp; rfl
 refine zak _ rfl (fun h=>?_) fun h1=>zal ?_
 ·refine zac (zax (s:=?s7) rfl ?o7 ?q7)
  case o7=>simp; rfl
  exact zan ⟨.inr rfl,zat.one (by simp at h; simp [cmpI,h])⟩
 refine zac (zac (zax (s:=?s8) rfl ?o8 ?q8))
 case o8=>simp; rfl
 refine zak _ rfl (fun h=>?_) fun h2=>zal ?_
 ·refine zac (zax (s:=?s9) rfl ?o9 ?q9)
  case o9=>simp; rfl
  exact zan ⟨.inr rfl,zat.one (by simp at h h1; simp [cmpI,h,Int.not_lt.2 h1])⟩
 refine zac (zax (s:=?s10) rfl ?o10 ?q10)
 case o10=>simp; rfl
 exact zan ⟨.inr rfl,zat.one (by simp at h1 h2; simp [cmpI,Int.not_lt.2 h1,Int.not_lt.2 h2])⟩
theorem zzj (l : List Int) (hl : l.length ≤ 140737488355328) : zao Tryz.prog zc5 [ints l] [] (.I ((l.find? (· != 0)).getD 0)) []:=by
 refine zfL.ac ?_
 show awp _ 0 _ _ ⟨18,[(0,ints l)],[],16⟩
 refine zac ?_
 refine zau ?_
 refine zac ?_
 refine zau ?_
 refine zac ?_
 refine zac ?_
 refine zau ?_
 refine zai ?_
 refine zaI (ι:=Nat) (fun k=>⟨18,[(3,.I 0),(6,ints l),(7,.I l.length),(8,.I k)],[],16⟩) (fun k=>k ≤ l.length ∧ l.find? (· != 0) = (l.drop k).find? (· != 0)) (fun k=>l.length - k) 0 ?_ (Le.slots rfl rfl ?_) ?_
 ·simp
 ·simp
 rintro k ⟨hk,hf⟩
 refine zac ?_
 refine zau ?_
 refine zac ?_
 refine zak _ rfl (fun h5=>?_) fun h5=>?_
 ·simp at h5
  rw [List.drop_eq_getElem_cons h5,List.find?_cons] at hf
  refine zal ?_
  refine zac ?_
  refine zai ?_
  refine zac ?_
  refine zax (s:=?s6) rfl ?o6 ?q6
  case o6=>simp [h5]; rfl
  refine zac ?_
  refine zau ?_
  refine zak _ rfl (fun h8=>?_) fun h8=>?_
  ·refine zac ?_
   refine zau ?_
   refine zan ?_
   rw [h8] at hf
   exact ⟨.inr rfl,zat.one (by simp [hf])⟩
  refine zal ?_
  refine zau ?_
  rw [h8] at hf
  have hw : IntKind.i64.wrap ((k : Int) + 1) = (k : Int) + 1:=w6
  refine ⟨k + 1,⟨h5,hf⟩,by omega,Le.slots rfl rfl ?_⟩
  simp [hw]
 simp at h5
 rw [List.drop_eq_nil_of_le h5] at hf
 refine zaD ?_
 refine hit ?_
 refine zac ?_
 refine zau ?_
 refine zan ?_
 exact ⟨.inr rfl,zat.one (by simp [hf])⟩
structure Ed where
 f : Int
 t : Int
 v : Int
 deriving DecidableEq,Inhabited
abbrev Ed.row (e : Ed) : List AV:=[.I e.f,.I e.t,.I e.v]
abbrev eE (e : Ed) : AV:=.agg [.I e.f,.I e.t,.I e.v]
abbrev eEs (l : List Ed) : AV:=.vs 3 false (l.map fun e=>[.I e.f,.I e.t,.I e.v])
def cmpE (a b : Ed) : Int:=([cmpI a.f b.f,cmpI a.t b.t].find? (· != 0)).getD 0
theorem zjL (a b : Ed) : zao Tryz.prog zcq [eE a,eE b] [] (.I (cmpE a b)) []:=by
 refine ze4.ac ?_
 show awp _ 0 _ _ ⟨17,[(0,eE a),(1,eE b)],[],16⟩
 refine zac ?_
 refine zau ?_
 refine zac ?_
 refine zm9 (s:=?s2) (tr:=?t2) rfl ?o2 ?r2 ?q2
 case o2 =>
  simp; refine zaJ (ziT ..) rfl ?_; simp; refine zaJ (ziT ..) rfl ?_; simp [ziR]
  refine zl7 [120] (zzj [cmpI a.f b.f,cmpI a.t b.t] (by simp)) (by simp) (.sc _) ?_; simp; constructor <;> rfl
 case r2=>rfl
 refine zan ?_
 exact ⟨.inr rfl,zat.one (by simp; exact .refl _)⟩
def idxI (l : List Int) (x : Int) : Int:=if x ∈ l then (l.idxOf x : Int) else -1
theorem ze7 (l : List Int) (x : Int) (hl : l.length ≤ 9223372036854775807) : zao Tryz.prog zbe [ints l,.I x] [] (.I (idxI l x)) []:=by
 refine zbT.ac ?_
 show awp _ 0 _ _ ⟨19,[(0,ints l),(1,.I x)],[],16⟩
 refine zac ?_
 refine zau ?_
 refine zac ?_
 refine zac ?_
 refine zau ?_
 refine zai ?_
 refine zaI (ι:=Nat) (fun k=>⟨19,[(0,ints l),(1,.I x),(6,ints l),(7,.I l.length),(8,.I k)],[],16⟩) (fun k=>k ≤ l.length ∧ x ∉ l.take k) (fun k=>l.length - k) 0 ?_ (Le.slots rfl rfl ?_) ?_
 ·simp
 ·simp
 rintro k ⟨hk,hn⟩
 refine zac ?_
 refine zau ?_
 refine zac ?_
 refine zak _ rfl (fun h4=>?_) fun h4=>?_
 ·simp at h4
  refine zal ?_
  refine zac ?_
  refine zai ?_
  refine zac ?_
  refine zau ?_
  refine zac ?_
  refine zax (s:=?s6) rfl ?o6 ?q6
  case o6=>simp [h4]; rfl
  refine zak _ rfl (fun h7=>?_) fun h7=>?_
  ·refine zac ?_
   refine zau ?_
   refine zan ?_
   have hm : x ∈ l:=by simp at h7; rw [h7]; exact List.getElem_mem h4
   have hi : l.idxOf x = k:=by
    simp at h7
    have h1 : l = l.take k ++ x :: l.drop (k + 1):=by rw [h7,← List.drop_eq_getElem_cons h4,List.take_append_drop]
    rw [h1,List.idxOf_append,if_neg hn,List.idxOf_cons_self]
    simp
    omega
   exact ⟨.inr rfl,zat.one (by simp [idxI,hm,hi])⟩
  refine zal ?_
  refine zau ?_
  have hw : IntKind.i64.wrap ((k : Int) + 1) = (k : Int) + 1:=w6
  refine ⟨k + 1,⟨h4,?_⟩,by omega,Le.slots rfl rfl ?_⟩
  ·intro hm
   simp at h7
   rw [List.take_succ_eq_append_getElem h4] at hm
   rcases List.mem_append.1 hm with h | h
   ·exact hn h
   ·exact h7 (List.mem_singleton.1 h)
  ·simp [hw]
 simp at h4
 refine zaD ?_
 refine hit ?_
 refine zac ?_
 refine zau ?_
 refine zan ?_
 rw [List.take_of_length_le h4] at hn
 exact ⟨.inr rfl,zat.one (by simp [idxI,hn])⟩
theorem znL (l : List Int) (x : Int) (hl : l.length ≤ 9223372036854775807) : zao Tryz.prog zap [ints l,.I x] [] (.B (decide (x ∈ l))) []:=by
 refine zbA.ac ?_
 show awp _ 0 _ _ ⟨9,[(0,ints l),(1,.I x)],[],16⟩
 refine zac ?_
 refine zau ?_
 refine zac ?_
 refine zax (s:=?s2) rfl ?o2 ?q2
 case o2=>simp; refine zaJ (ze7 l x hl) rfl ?_; simp; rfl
 refine zan ?_
 have : decide (0 ≤ idxI l x) = decide (x ∈ l):=by
  unfold idxI
  by_cases h : x ∈ l
  ·simp [h]
  ·simp [h]
 exact ⟨.inr rfl,zat.one (by simp [this])⟩
theorem zhk (l : List Int) (x : Int) (hl : l.length ≤ 140737488355328) : zao Tryz.prog zap [ints l,.I x] [] (.B (decide (x ∈ l))) [] :=
 znL l x (by omega)
def zvQ (l : List Int) (lo hi : Int) (i : Nat) : Prop:=∀ h : i < l.length,lo ≤ l[i] ∧ l[i] ≤ hi ∧ (0 < i → l[i - 1] < l[i])
def Rise (l : List Int) (lo hi : Int) : Prop:=∀ i,zvQ l lo hi i
open Classical in
theorem zjF (l : List Int) (lo hi : Int) (hl : l.length ≤ 9223372036854775807) : zao Tryz.prog zbB [ints l,.I lo,.I hi] [] (.B (decide (Rise l lo hi))) []:=by
 refine zfG.ac ?_
 show awp _ 0 _ _ ⟨38,[(0,ints l),(1,.I lo),(2,.I hi)],[],16⟩
 refine zac ?_
 refine zau ?_
 refine zac ?_
 refine zac ?_
 refine zau ?_
 refine zai ?_
 refine zaI (ι:=Nat) (fun k=>⟨38,[(0,ints l),(1,.I lo),(2,.I hi),(9,ints l),(10,.I l.length),(11,.I k)],[],16⟩) (fun k=>k ≤ l.length ∧ ∀ i,i < k → zvQ l lo hi i) (fun k=>l.length - k) 0 ?_ (Le.slots rfl rfl ?_) ?_
 ·simp
 ·simp
 rintro k ⟨hk,hp⟩
 refine zac ?_
 refine zau ?_
 refine zac ?_
 refine zak _ rfl (fun h4=>?_) fun h4=>?_
 ·simp at h4
  have hw : IntKind.i64.wrap ((k : Int) + 1) = (k : Int) + 1:=w6
  refine zal ?_
  refine zac ?_
  refine zai ?_
  refine zac ?_
  refine zax (s:=?s5) rfl ?o5 ?q5
  case o5=>simp [h4]; rfl
  refine zac ?_
  by_cases a1 : l[k] < lo
  ·refine zax (s:=?s21) rfl ?o21 ?q21
   case o21=>simp [a1]; rfl
   refine zak _ rfl (fun _=>?_) fun h=>by cases h
   refine zac ?_
   refine zau ?_
   refine zan ?_
   have hn : ¬ Rise l lo hi:=fun h=>by have:=h k h4; omega
   exact ⟨.inr rfl,zat.one (by simp [hn])⟩
  by_cases a2 : hi < l[k]
  ·refine zax (s:=?s22) rfl ?o22 ?q22
   case o22=>simp [a1,a2]; rfl
   refine zak _ rfl (fun _=>?_) fun h=>by cases h
   refine zac ?_
   refine zau ?_
   refine zan ?_
   have hn : ¬ Rise l lo hi:=fun h=>by have:=h k h4; omega
   exact ⟨.inr rfl,zat.one (by simp [hn])⟩
  by_cases a3 : 0 < k
  ·have hw1 : IntKind.i64.wrap ((k : Int) - 1) = ((k - 1 : Nat) : Int):=by rw [w6]; omega
   have h5 : k - 1 < l.length:=by omega
   by_cases a4 : l[k] ≤ l[k - 1]
   ·refine zax (s:=?s23) rfl ?o23 ?q23
    case o23=>simp [a1,a2,a3,a4,hw1,h5]; rfl
    refine zak _ rfl (fun _=>?_) fun h=>by cases h
    refine zac ?_
    refine zau ?_
    refine zan ?_
    have hn : ¬ Rise l lo hi:=fun h=>by have:=h k h4; have:=this.2.2 a3; omega
    exact ⟨.inr rfl,zat.one (by simp [hn])⟩
   ·refine zax (s:=?s24) rfl ?o24 ?q24
    case o24=>simp [a1,a2,a3,a4,hw1,h5]; rfl
    refine zak _ rfl (fun h=>by cases h) fun _=>zal ?_
    refine zau ?_
    refine ⟨k + 1,⟨h4,fun i hi=>?_⟩,by omega,Le.slots rfl rfl ?_⟩
    ·rcases Nat.lt_succ_iff_lt_or_eq.1 hi with h | rfl
     ·exact hp i h
     ·intro _; exact ⟨by omega,by omega,fun _=>by omega⟩
    ·simp [hw]
  ·refine zax (s:=?s25) rfl ?o25 ?q25
   case o25=>simp [a1,a2,a3]; rfl
   refine zak _ rfl (fun h=>by cases h) fun _=>zal ?_
   refine zau ?_
   refine ⟨k + 1,⟨h4,fun i hi=>?_⟩,by omega,Le.slots rfl rfl ?_⟩
   ·rcases Nat.lt_succ_iff_lt_or_eq.1 hi with h | rfl
    ·exact hp i h
    ·intro _; exact ⟨by omega,by omega,fun h=>absurd h a3⟩
   ·simp [hw]
 simp at h4
 refine zaD ?_
 refine hit ?_
 refine zac ?_
 refine zau ?_
 refine zan ?_
 have hy : Rise l lo hi:=fun i hi=>hp i (by omega) hi
 exact ⟨.inr rfl,zat.one (by simp [hy])⟩
open Classical in
theorem zex (l : List Int) (lo hi : Int) (hl : l.length ≤ 140737488355328) : zao Tryz.prog zbB [ints l,.I lo,.I hi] [] (.B (decide (Rise l lo hi))) [] :=
 zjF l lo hi (by omega)
structure Gr where
 size : Int
 edges : List Ed
 gone : List Int
abbrev gC (g : Gr) : List AV:=[.I g.size,eEs g.edges,ints g.gone]
abbrev eG (g : Gr) : AV:=.agg (gC g)
abbrev eC (e : Ed) : List AV:=[.I e.f,.I e.t,.I e.v]
def Fits (g : Gr) (e : Ed) : Prop:=0 ≤ e.f ∧ e.f ≤ g.size - 1 ∧ 0 ≤ e.t ∧ e.t ≤ g.size - 1 ∧ e.f ≠ e.t ∧ e.f ∉ g.gone ∧ e.t ∉ g.gone
instance (g : Gr) (e : Ed) : Decidable (Fits g e):=by unfold Fits; infer_instance
theorem zmq (g : Gr) (e : Ed) (hs : 0 ≤ g.size) (hs' : g.size ≤ 64) (hl : g.gone.length ≤ 140737488355328) : zao Tryz.prog zdK [eG g,eE e] [] (.B (decide (Fits g e))) []:=by
 refine zg2.ac ?_
 show awp _ 0 _ _ ⟨42,[(0,eG g),(1,eE e)],[],16⟩
 refine zad ⟨42,[(2,.pv (gC g)),(3,.pv (eC e)),(4,.B false)],[],16⟩ rfl ?_ ?_
 ·simp -implicitDefEqProofs
  exact Le.snap [16,24] rfl rfl (by simp)
 have hw : IntKind.i64.wrap (g.size - 1) = g.size - 1:=w6
 refine zad ⟨42,[(4,.B (decide (Fits g e)))],[],16⟩ rfl ?_ ?_
 ·simp [hw]
  repeat' first
   | (refine zhP zaY rfl ?_; refine zaJ (zb6 ..) rfl ?_; simp [hw])
   | (refine zhP zap rfl ?_; refine zaJ (zhk _ _ hl) rfl ?_; simp [hw])
   | (refine zol (fun hb=>?_) (fun hb=>?_) <;> (try rw [hb]) <;> simp [hw])
  all_goals exact Le.snap [] rfl rfl (by simp; exact wkB (by simp at *; grind [Fits]))
 refine zan ?_
 exact ⟨.inr rfl,zat.one (by simp)⟩
def zwr (g : Gr) : Prop:=0 ≤ g.size ∧ g.size ≤ 64 ∧ g.edges.length ≤ 500 ∧ Rise g.gone 0 (g.size - 1)
def EdAt (g : Gr) (i : Nat) : Prop:=∀ h : i < g.edges.length,Fits g g.edges[i] ∧ 1 ≤ g.edges[i].v ∧ g.edges[i].v ≤ 3 ∧ (0 < i → cmpE g.edges[i - 1] g.edges[i] < 0)
def GrOk (g : Gr) : Prop:=zwr g ∧ ∀ i,EdAt g i
open Classical in
theorem zlx (g : Gr) (hl : g.edges.length ≤ 140737488355328) (hl2 : g.gone.length ≤ 140737488355328) : zao Tryz.prog zdY [eG g] [] (.I (if GrOk g then 0 else 14)) []:=by
 refine zgD.ac ?_
 show awp _ 0 _ _ ⟨58,[(0,eG g)],[],16⟩
 refine zad ⟨58,[(1,.pv (gC g))],[],16⟩ rfl ?_ ?_
 ·simp
  exact Le.snap [16] rfl rfl (by simp)
 refine zac ?_
 refine zad ⟨58,[(1,.pv (gC g)),(23,.B (decide (¬ zwr g)))],[],16⟩ rfl ?_ ?_
 ·simp
  repeat' first
   | (refine zhP zaY rfl ?_; refine zaJ (zb6 ..) rfl ?_; simp)
   | (refine zhP zbB rfl ?_; have hw : IntKind.i64.wrap (g.size - 1) = g.size - 1:=w6; rw [hw]; refine zaJ (zex _ _ _ hl2) rfl ?_; simp)
   | (refine zol (fun hb=>?_) (fun hb=>?_) <;> (try rw [hb]) <;> (try simp at hb) <;> simp [hb])
  all_goals exact Le.snap [] rfl rfl (by simp; exact wkB (by (try simp at *); grind [zwr]))
 refine zak _ rfl (fun h1=>?_) fun h1=>?_
 ·refine zac ?_
  refine zau ?_
  refine zan ?_
  simp at h1
  exact ⟨.inr rfl,zat.one (by simp [GrOk,h1])⟩
 simp at h1
 have hs:=h1.1
 have hs2:=h1.2.1
 refine zal ?_
 refine zac ?_
 refine zac ?_
 refine zau ?_
 refine zai ?_
 refine zaI (ι:=Nat) (fun k=>⟨58,[(1,.pv (gC g)),(25,eEs g.edges),(26,.I g.edges.length),(27,.I k)],[],16⟩) (fun k=>k ≤ g.edges.length ∧ ∀ i,i < k → EdAt g i) (fun k=>g.edges.length - k) (0) ?_ (Le.snap [] rfl rfl (by simp)) ?_
 ·simp
 rintro k ⟨hk,hp⟩
 refine zac ?_
 refine zau ?_
 refine zac ?_
 refine zak _ rfl (fun h5=>?_) fun h5=>?_
 ·simp at h5
  have hw2 : IntKind.i64.wrap ((k : Int) + 1) = (k : Int) + 1:=w6
  have hwp : 0 < k → IntKind.i64.wrap ((k : Int) - 1) = ((k - 1 : Nat) : Int):=fun h=>by rw [w6]; omega
  have h5' : k - 1 < g.edges.length:=by omega
  refine zal ?_
  refine zac ?_
  refine zai ?_
  refine zad ⟨58,[(1,.pv (gC g)),(3,.I k),(4,.pv (eC g.edges[k])),(25,eEs g.edges),(26,.I g.edges.length),(27,.I k)],[],16⟩ rfl ?_ ?_
  ·simp [h5]
   exact Le.snap [48] rfl rfl (by simp)
  refine za7 ⟨58,[(1,.pv (gC g)),(25,eEs g.edges),(26,.I g.edges.length),(27,.I k),(56,.B (decide (¬ EdAt g k)))],[],16⟩ rfl ?_ ?_
  ·simp
   repeat' first
    | (refine zhP zdK rfl ?_; refine zaJ (zmq g _ hs hs2 hl2) rfl ?_; simp)
    | (refine zhP zaY rfl ?_; refine zaJ (zb6 ..) rfl ?_; simp)
    | (refine zhP zcq rfl ?_; refine zaJ (zjL ..) rfl ?_; simp)
    | (refine zol (fun hb=>?_) (fun hb=>?_) <;> (try rw [hb]) <;> (try simp at hb) <;> simp [hb,h5,h5',hwp])
   all_goals exact ⟨rfl,Le.snap [] rfl rfl (by simp; exact wkB (by (try simp at *); grind [EdAt]))⟩
  refine zak _ rfl (fun h6=>?_) fun h6=>?_
  ·refine zac ?_
   refine zau ?_
   refine zan ?_
   have hn : ¬ GrOk g:=fun h=>by simp at h6; exact h6 (h.2 k)
   exact ⟨.inr rfl,zat.one (by simp [hn])⟩
  simp at h6
  refine zal ?_
  refine zau ?_
  refine ⟨k + 1,⟨h5,fun i hi=>?_⟩,?_,Le.snap [] rfl rfl (by simp [hw2])⟩
  ·rcases Nat.lt_succ_iff_lt_or_eq.1 hi with h | rfl
   ·exact hp i h
   ·exact h6
  ·omega
 simp at h5
 have hy : GrOk g:=⟨h1,fun i hi=>hp i (by omega) hi⟩
 refine zaD ?_
 refine hit ?_
 refine zac ?_
 refine zau ?_
 refine zan ?_
 exact ⟨.inr rfl,zat.one (by simp [hy])⟩
def Bef (a b : Ed) : Prop:=a.f < b.f ∨ a.f = b.f ∧ a.t < b.t
instance (a b : Ed) : Decidable (Bef a b):=by unfold Bef; infer_instance
theorem zoR {a b : Ed} : cmpE a b < 0 ↔ Bef a b:=by
 simp only [cmpE,cmpI,Bef]
 grind
theorem zog (l : List Int) (hl : l.length * 8 ≤ 140737488355328) : zao Tryz.prog zbs [ints l] [] (.rs 0 0 l.length) [some ⟨1,l.map fun n=>[AV.I n],0⟩]:=by
 cases l with
 | nil =>
   refine znF fun ad c=>?_
   refine zdy.ac ?_
   show awp _ 0 _ _ ⟨8,[(0,.sc (.slice ad 0 c))],[],16⟩
   refine zac ?_
   refine zau ?_
   refine zbM (ι:=Unit) (fun _=>⟨8,[(0,.vs 1 false [])],[],40⟩) (fun _=>True) ?_ fun _ _=>?_
   ·refine zac ?_
    refine zau ?_
    refine zak _ rfl (fun h3=>?_) fun h3=>?_
    ·refine zad ⟨8,[(2,.rs 40 0 0)],[(40,some ⟨1,[],0⟩)],48⟩ rfl ?_ ?_
     ·simp
      exact Le.lst [] [] [(40,1)] rfl (by simp) (by simp) (by simp) (by simp) (by simp) (by simp) (by simp) (by simp [Up]) (by simp)
     refine zan ?_
     exact ⟨.inr rfl,zat.out [40] [] rfl (by simp) (by simp) (by simp) (by simp)⟩
    refine zal ?_
    exact ⟨(),trivial,Le.slots rfl rfl (by simp; exact .mt _ _ _)⟩
   refine zac ?_
   refine zax (s:=?s5) rfl ?o5 ?q5
   case o5=>simp [List.replicate]; rfl
   refine zan ?_
   exact ⟨.inr rfl,zat.out [56] [] rfl (by simp) (by simp) (by simp) (by simp)⟩
 | cons x l =>
   refine zdy.ac ?_
   show awp _ 0 _ _ ⟨8,[(0,ints (x :: l))],[],16⟩
   refine zac ?_
   refine zau ?_
   refine zac ?_
   refine zac ?_
   refine zau ?_
   refine zak _ rfl (fun h3=>by cases h3) fun h3=>?_
   refine zal ?_
   refine zac ?_
   refine zax (s:=?t4) rfl ?p4 ?r4
   case p4=>simp [List.replicate]; refine ⟨by simpa using hl,by simp at hl; omega,?_⟩; rfl
   refine zan ?_
   exact ⟨.inr rfl,zat.out [56] [] rfl (by simp) (by simp) (by simp) (by simp [fcd])⟩
theorem zr2 (l : List Ed) (hl : l.length * 24 ≤ 140737488355328) : zao Tryz.prog za6 [eEs l] [] (.rs 0 0 l.length) [some ⟨3,l.map fun e=>[AV.I e.f,AV.I e.t,AV.I e.v],0⟩]:=by
 cases l with
 | nil =>
   refine znF fun ad c=>?_
   refine zb8.ac ?_
   show awp _ 0 _ _ ⟨8,[(0,.sc (.slice ad 0 c))],[],16⟩
   refine zac ?_
   refine zau ?_
   refine zbM (ι:=Unit) (fun _=>⟨8,[(0,.vs 3 false [])],[],40⟩) (fun _=>True) ?_ fun _ _=>?_
   ·refine zac ?_
    refine zau ?_
    refine zak _ rfl (fun h3=>?_) fun h3=>?_
    ·refine zad ⟨8,[(2,.rs 40 0 0)],[(40,some ⟨3,[],0⟩)],48⟩ rfl ?_ ?_
     ·simp
      exact Le.lst [] [] [(40,3)] rfl (by simp) (by simp) (by simp) (by simp) (by simp) (by simp) (by simp) (by simp [Up]) (by simp)
     refine zan ?_
     exact ⟨.inr rfl,zat.out [40] [] rfl (by simp) (by simp) (by simp) (by simp)⟩
    refine zal ?_
    exact ⟨(),trivial,Le.slots rfl rfl (by simp; exact .mt _ _ _)⟩
   refine zac ?_
   refine zax (s:=?s5) rfl ?o5 ?q5
   case o5=>simp [List.replicate]; rfl
   refine zan ?_
   exact ⟨.inr rfl,zat.out [56] [] rfl (by simp) (by simp) (by simp) (by simp)⟩
 | cons x l =>
   refine zb8.ac ?_
   show awp _ 0 _ _ ⟨8,[(0,eEs (x :: l))],[],16⟩
   refine zac ?_
   refine zau ?_
   refine zac ?_
   refine zac ?_
   refine zau ?_
   refine zak _ rfl (fun h3=>by cases h3) fun h3=>?_
   refine zal ?_
   refine zac ?_
   refine zax (s:=?t4) rfl ?p4 ?r4
   case p4=>simp [List.replicate]; refine ⟨by simpa using hl,by simp at hl; omega,?_⟩; rfl
   refine zan ?_
   exact ⟨.inr rfl,zat.out [56] [] rfl (by simp) (by simp) (by simp) (by simp [fcd])⟩
theorem zke (g : Gr) (hl : g.edges.length * 24 ≤ 140737488355328) (hl2 : g.gone.length * 8 ≤ 140737488355328) : zao Tryz.prog zfR [eG g] [] (.agg [.I g.size,.rs 0 0 g.edges.length,.rs 1 0 g.gone.length]) [some ⟨3,g.edges.map fun e=>[AV.I e.f,AV.I e.t,AV.I e.v],0⟩,some ⟨1,g.gone.map fun n=>[AV.I n],0⟩]:=by
 refine zms.ac ?_
 show awp _ 0 _ _ ⟨12,[(0,eG g)],[],16⟩
 have hl3 : g.edges.length ≤ 140737488355328:=by omega
 have hl4 : g.gone.length ≤ 140737488355328:=by omega
 refine zac ?_
 refine zau ?_
 refine zac ?_
 refine zm9 (s:=?s1) (tr:=?t1) rfl ?o1 ?r1 ?q1
 case o1=>simp; refine zcD (zr2 _ hl) rfl ?_; simp; refine zcD (zog _ hl2) rfl ?_; simp [fcd]; constructor <;> rfl
 case r1=>rfl
 refine zan ?_
 refine ⟨.inr rfl,?_⟩
 show zat [(2,some (true,3))] 0 _ _ _
 exact zat.out (vs:=[.agg [.I g.size,.rs 64 0 g.edges.length,.rs 88 0 g.gone.length]]) [64,88] [] (by simp) (by simp) (by simp) (by simp) (by simp [fcd])
def EqG (a b : Gr) : Prop:=a.size = b.size ∧ a.edges = b.edges ∧ a.gone = b.gone
instance (a b : Gr) : Decidable (EqG a b):=by unfold EqG; infer_instance
theorem zsw {P : Program} {f : FuncId} {xs ys : List AV} {hs : List Ent} {res : AV} {hs' : List (Option Ent)} (hl : xs.length = ys.length) (hw : ∀ i,i < ys.length → Wk (xs.getD i .dead) (ys.getD i .dead)) (h : zao P f ys hs res hs') : zao P f xs hs res hs' :=
 ⟨h.1,h.2.1,fun T M w vs h1 h2 h3 hr=>h.2.2 T M w vs h1 h2 h3 ⟨hr.1.trans hl,fun i hi=>(hw i hi).rep (hr.2 i (hl ▸ hi))⟩⟩
section
variable {H : Type}
variable {P : Program} {tI tE tEs tIs tG : TypeId}
end
theorem ownK : ownKnob Tryz.prog.godebug = none:=by kernel_rfl
theorem zA5 : laidOutB Tryz.prog = true:=by kernel_rfl
section
variable {H : Type} {P : Program} {tI tIs : TypeId}
theorem zAb {n : Nat} {a b : TypeId} {ds : List (DataW H)} {xs : List AV} (h : zjh P n [a,b] ds = some xs) : ∃ (d1 d2 : DataW H) (x1 x2 : AV),ds = [d1,d2] ∧ xs = [x1,x2] ∧ zjV P n a d1 = some x1 ∧ zjV P n b d2 = some x2:=by
 match ds,h with
 | [],h=>cases h
 | [_],h=>simp only [zjh] at h; split at h <;> simp_all
 | _ :: _ :: _ :: _,h=>simp only [zjh] at h; split at h <;> simp_all
 | [d1,d2],h =>
   simp only [zjh] at h
   cases h1 : zjV P n a d1 with
   | none=>simp [h1] at h
   | some x1 =>
     cases h2 : zjV P n b d2 with
     | none=>simp [h1,h2] at h
     | some x2 =>
       simp [h1,h2] at h
       exact ⟨d1,d2,x1,x2,rfl,h.symm,h1,h2⟩
end
theorem zl6 {H : Type} {P : Program} {tU : TypeId} {n : Nat} (hU : P.underlying tU = some (.int .u8)) {d : DataW H} {x : AV} (h : zjV P (n + 1) tU d = some x) : ∃ k : Int,x = .sc (.int .u8 k) ∧ 0 ≤ k ∧ k ≤ 255:=by
 simp only [zjV,hU,Option.bind_eq_some_iff] at h
 obtain ⟨cs,h1,h2⟩:=h
 cases d <;> simp [avs,hU] at h1
 rename_i l
 cases l <;> simp at h1
 obtain ⟨⟨rfl,hw⟩,rfl⟩:=h1
 simp at h2
 subst h2
 exact ⟨_,rfl,by simpa [Lit.wf,IntKind.min,IntKind.max,IntKind.signed,IntKind.bits] using hw⟩
section
variable {P : Program} {np id : Nat} {h : Nat → Option Ent} {K : AV → List Nat → List (Nat × Option Ent) → Prop} {s i off len c k l m : Nat}
@[simp] theorem zCN : aK P np id (.slc s true false false) [.rk i off len c,.sc (.int .i64 (k : Int))] h K = (k ≤ len ∧ len ≤ c ∧ (∃ e,h i = some e ∧ e.s = s) ∧ K (.rk i (off + k) (len - k) (c - k)) [i] []):=by
 rw [zjR]
 refine propext ⟨?_,?_⟩
 ·rintro ⟨l,r,m,n,h1,h2,h4,h5,h6,h7,h3,h10,h11,h8,h9⟩
  obtain rfl:=h6 rfl
  simp at h4 h1
  subst h1
  have : k = l:=by omega
  subst this
  obtain rfl:=h11 rfl
  exact ⟨h2,h3,h8,h9⟩
 ·rintro ⟨h1,h2,h3,h4⟩
  exact ⟨k,len,c,len,rfl,h1,by simp,(fun h=>by cases h),fun _=>rfl,(fun h=>by cases h),h2,Nat.le_refl _,fun _=>rfl,h3,h4⟩
@[simp] theorem zCs : aK P np id (.slc s false true false) [.rk i off len c,.sc (.int .i64 (k : Int))] h K = (k ≤ c ∧ (∃ e,h i = some e ∧ e.s = s) ∧ K (.rk i off k c) [i] []):=by
 rw [zjR]
 refine propext ⟨?_,?_⟩
 ·rintro ⟨l,r,m,n,h1,h2,h4,h5,h6,h7,h3,h10,h11,h8,h9⟩
  obtain rfl:=h5 rfl
  simp at h4 h1
  have : k = r:=by omega
  subst this
  obtain rfl:=h11 rfl
  exact ⟨h3,h8,by simpa using h9⟩
 ·rintro ⟨h1,h3,h4⟩
  exact ⟨0,k,c,len,rfl,Nat.zero_le _,by simp,fun _=>rfl,(fun h=>by cases h),(fun h=>by cases h),h1,Nat.le_refl _,fun _=>rfl,h3,by simpa using h4⟩
@[simp] theorem zAY : aK P np id (.slc s true true false) [.rk i off len c,.sc (.int .i64 (l : Int)),.sc (.int .i64 (k : Int))] h K = (l ≤ k ∧ k ≤ c ∧ (∃ e,h i = some e ∧ e.s = s) ∧ K (.rk i (off + l) (k - l) (c - l)) [i] []):=by
 rw [zjR]
 refine propext ⟨?_,?_⟩
 ·rintro ⟨l',r,m,n,h1,h2,h4,h5,h6,h7,h3,h10,h11,h8,h9⟩
  simp at h4 h1
  have : k = r:=by omega
  subst this
  have : l = l':=by omega
  subst this
  obtain rfl:=h11 rfl
  exact ⟨h2,h3,h8,h9⟩
 ·rintro ⟨h1,h2,h3,h4⟩
  exact ⟨l,k,c,len,rfl,h1,by simp,(fun h=>by cases h),(fun h=>by cases h),(fun h=>by cases h),h2,Nat.le_refl _,fun _=>rfl,h3,h4⟩
@[simp] theorem zCi : aK P np id (.slc s true true true) [.rk i off len c,.sc (.int .i64 (l : Int)),.sc (.int .i64 (k : Int)),.sc (.int .i64 (m : Int))] h K = (l ≤ k ∧ k ≤ m ∧ m ≤ c ∧ (∃ e,h i = some e ∧ e.s = s) ∧ K (.rk i (off + l) (k - l) (m - l)) [i] []):=by
 rw [zjR]
 refine propext ⟨?_,?_⟩
 ·rintro ⟨l',r,m',n,h1,h2,h4,h5,h6,h7,h3,h10,h11,h8,h9⟩
  simp at h4 h1
  have : k = r:=by omega
  subst this
  have : l = l':=by omega
  subst this
  have : m = m':=by omega
  subst this
  exact ⟨h2,h3,h10,h8,h9⟩
 ·rintro ⟨h1,h2,h3,h4,h5⟩
  exact ⟨l,k,m,len,rfl,h1,by simp,(fun h=>by cases h),(fun h=>by cases h),(fun _=>rfl),h2,h3,(fun h=>by cases h),h4,h5⟩
@[simp] theorem zCw : aK P np id (.slc s true false false) [.rs i off len,.sc (.int .i64 (k : Int))] h K = (k ≤ len ∧ (∃ e,h i = some e ∧ e.s = s) ∧ K (.rs i (off + k) (len - k)) [i] []):=by
 rw [zjR]
 refine propext ⟨?_,?_⟩
 ·rintro ⟨l,r,m,n,h1,h2,h4,h5,h6,h7,h3,h10,h8,h9⟩
  obtain rfl:=h6 rfl
  simp at h4 h1
  subst h1
  have : k = l:=by omega
  subst this
  exact ⟨h2,h8,h9⟩
 ·rintro ⟨h1,h3,h4⟩
  exact ⟨k,len,0,len,rfl,h1,by simp,(fun h=>by cases h),fun _=>rfl,(fun h=>by cases h),Nat.le_refl _,rfl,h3,h4⟩
@[simp] theorem zCo : aK P np id (.slc s false true false) [.rs i off len,.sc (.int .i64 (k : Int))] h K = (k ≤ len ∧ (∃ e,h i = some e ∧ e.s = s) ∧ K (.rs i off k) [i] []):=by
 rw [zjR]
 refine propext ⟨?_,?_⟩
 ·rintro ⟨l,r,m,n,h1,h2,h4,h5,h6,h7,h3,h10,h8,h9⟩
  obtain rfl:=h5 rfl
  simp at h4 h1
  have : k = r:=by omega
  subst this
  exact ⟨by omega,h8,by simpa using h9⟩
 ·rintro ⟨h1,h3,h4⟩
  exact ⟨0,k,0,len,rfl,Nat.zero_le _,by simp,fun _=>rfl,(fun h=>by cases h),(fun h=>by cases h),h1,rfl,h3,by simpa using h4⟩
end
theorem Le.keep {np : Nat} {st st' : St} (hsz : st'.sz = st.sz) (hn : st.n ≤ st'.n) (ht : ∀ p ∈ st'.t,st.get p.1 = p.2) (hh : ∀ p ∈ st'.h,∀ e,p.2 = some e → st.hp p.1 = some e) : Le np st st':=by
 intro T0 M0 w0 T M a w ok hnp
 have hp : ∀ id e,st'.hp id = some e → st.hp id = some e:=by
  intro id e he
  unfold St.hp at he
  cases hl : lkp st'.h id with
  | none=>rw [hl] at he; cases he
  | some v =>
    rw [hl] at he
    exact hh _ (zbK hl) e he
 refine ⟨T,M,⟨ok.sz.trans hsz.symm,ok.df,fun i=>?_,⟨fun id e he=>ok.hs.ent id e (hp id e he),fun id id' e e' g g' b h1 h2=>ok.hs.inj id id' e e' g g' b (hp _ _ h1) (hp _ _ h2)⟩,fun id g hg=>Nat.lt_of_lt_of_le (ok.dom id g hg) hn,ok.after⟩,Nat.le_trans hnp hn⟩
 unfold St.get at *
 cases hl : lkp st'.t i with
 | none=>exact .dead _ _
 | some v =>
   have:=ht _ (zbK hl)
   simp only at this
   show Rep T w M v _
   rw [← this]
   exact ok.tm i
theorem zat.m1 {rs : List (Nat × Option (Bool × Nat))} {st : St} {vs : List AV} {res : AV} {e : Ent} (i : Nat) (hi : 1 ≤ i) (h1 : ze0 st rs = some vs) (hw : Wk (conv [(0,0),(i,1)] [] st.hp 4 (resV vs)) res) (h0 : st.hp 0 = none) (he : (st.hp i).map (zaw [(0,0),(i,1)] [] st.hp 4) = some e) : zat rs 1 st res [none,some e] :=
 ⟨vs,h1,[i],[],by simp [List.range,List.range.loop]; omega,by simpa using hi,by simp,by simpa [List.range,List.range.loop] using hw,by simpa [List.range,List.range.loop,h0] using he⟩
section
variable {β : Type}
def fcN (n : Nat) (k : Nat → β) : β:=match n with | 0=>k 0 | p + 1=>k (p + 1)
def fcI (n : Int) (k : Int → β) : β:=match n with | .ofNat m=>fcN m fun m=>k (.ofNat m) | .negSucc m=>fcN m fun m=>k (.negSucc m)
def fcB (b : Bool) (k : Value → β) : β:=match b with | true=>k (.bool true) | false=>k (.bool false)
def fcV (v : Value) (k : Value → β) : β:=match v with
 | .int d n=>fcI n fun n=>k (.int d n)
 | .bool b=>fcB b k
 | v=>k v
noncomputable def fcL {α : Type} (f : α → (α → β) → β) (l : List α) : (List α → β) → β :=
 List.rec (motive:=fun _=>(List α → β) → β) (fun k=>k []) (fun x _ ih k=>f x fun x=>ih fun xs=>k (x :: xs)) l
noncomputable def fcX (deep : Bool) (ih : AV → (AV → β) → β) (x : AV) (k : AV → β) : β:=match x with
 | .dead=>k .dead
 | .sc v=>fcV v fun v=>k (.sc v)
 | .agg cs=>fcL ih cs fun cs=>k (.agg cs)
 | .tup cs=>fcL ih cs fun cs=>k (.tup cs)
 | .vs s f rows=>match deep with | true=>fcN s fun s=>fcL (fcL ih) rows fun rows=>k (.vs s f rows) | false=>k (.vs s f rows)
 | .rs a b c=>fcN a fun a=>fcN b fun b=>fcN c fun c=>k (.rs a b c)
 | .rk a b c d=>fcN a fun a=>fcN b fun b=>fcN c fun c=>fcN d fun d=>k (.rk a b c d)
 | .pv cs=>match deep with | true=>fcL ih cs fun cs=>k (.pv cs) | false=>k (.pv cs)
 | .pt a b c=>fcN a fun a=>fcN b fun b=>fcN c fun c=>k (.pt a b c)
 | .mp a=>fcN a fun a=>k (.mp a)
 | .fn f a b=>fcL ih a fun a=>fcL ih b fun b=>k (.fn f a b)
 | .ifc t v=>ih v fun v=>k (.ifc t v)
noncomputable def fcA (deep : Bool) (n : Nat) : AV → (AV → β) → β :=
 Nat.rec (motive:=fun _=>AV → (AV → β) → β) (fun x k=>k x) (fun _ ih=>fcX deep ih) n
noncomputable def fcE (deep : Bool) (e : Ent) (k : Ent → β) : β:=match e with | ⟨s,rows,ro⟩=>fcN s fun s=>fcN ro fun ro=>fcL (fcL (fcA deep 5)) rows fun rows=>k ⟨s,rows,ro⟩
noncomputable def fcO (deep : Bool) (p : Nat × Option Ent) (k : Nat × Option Ent → β) : β:=match p with
 | (i,none)=>fcN i fun i=>k (i,none)
 | (i,some e)=>fcN i fun i=>fcE deep e fun e=>k (i,some e)
end
def modF (k : IntKind) : Nat:=match k with
 | .i8=>256 | .u8=>256 | .i16=>65536 | .u16=>65536 | .i32=>4294967296 | .u32=>4294967296 | .i64=>18446744073709551616 | .u64=>18446744073709551616
def zgQ (k : IntKind) : Nat:=match k with
 | .i8=>128 | .u8=>128 | .i16=>32768 | .u16=>32768 | .i32=>2147483648 | .u32=>2147483648 | .i64=>9223372036854775808 | .u64=>9223372036854775808
def cutF (sg : Bool) (M H r : Nat) : Int:=cond (sg && Nat.ble H r) (Int.negSucc (M - r - 1)) (Int.ofNat r)
def zkq (k : IntKind) (n : Int) : Int:=match n with
 | .ofNat m=>cond (Nat.blt m (zgQ k)) (.ofNat m) (cutF k.signed (modF k) (zgQ k) (m % modF k))
 | .negSucc m=>cutF k.signed (modF k) (zgQ k) (modF k - 1 - m % modF k)
def natF (k : IntKind) (n : Int) : Nat:=match n with
 | .ofNat m=>m % modF k
 | .negSucc m=>modF k - 1 - m % modF k
def kN (k : IntKind) : Nat:=match k with | .i8=>0 | .u8=>1 | .i16=>2 | .u16=>3 | .i32=>4 | .u32=>5 | .i64=>6 | .u64=>7
def ltF (a b : Int) : Bool:=match a with
 | .ofNat m=>(match b with | .ofNat n=>Nat.blt m n | .negSucc _=>false)
 | .negSucc m=>(match b with | .ofNat _=>true | .negSucc n=>Nat.blt n m)
def eqF (a b : Int) : Bool:=match a with
 | .ofNat m=>(match b with | .ofNat n=>Nat.beq m n | .negSucc _=>false)
 | .negSucc m=>(match b with | .ofNat _=>false | .negSucc n=>Nat.beq n m)
def minF (m n : Nat) : Nat:=cond (Nat.ble m n) m n
def shlF (k : IntKind) (a b : Int) : Option Value:=match b with
 | .ofNat n=>some (.int k (zkq k (a * Int.ofNat (Nat.pow 2 (minF n k.bits)))))
 | .negSucc _=>none
def shrF (k : IntKind) (a b : Int) : Option Value:=match b with
 | .ofNat n=>some (.int k (match a with | .ofNat m=>.ofNat (Nat.div m (Nat.pow 2 (minF n k.bits))) | .negSucc m=>(Int.negSucc m).fdiv (Int.ofNat (Nat.pow 2 (minF n k.bits)))))
 | .negSucc _=>none
def quoF (k : IntKind) (a b : Int) : Option Value:=match b with
 | .ofNat (n + 1)=>some (.int k (zkq k (match a with | .ofNat m=>.ofNat (Nat.div m (n + 1)) | .negSucc m=>(Int.negSucc m).tdiv (.ofNat (n + 1)))))
 | b=>binV .quo (.int k a) (.int k b)
def remF (k : IntKind) (a b : Int) : Option Value:=match b with
 | .ofNat (n + 1)=>some (.int k (match a with | .ofNat m=>.ofNat (Nat.mod m (n + 1)) | .negSucc m=>(Int.negSucc m).tmod (.ofNat (n + 1))))
 | b=>binV .rem (.int k a) (.int k b)
def intF (op : BinOp) (k : IntKind) (a b : Int) : Option Value:=match op with
 | .shl=>shlF k a b
 | .shr=>shrF k a b
 | .add=>some (.int k (zkq k (a + b)))
 | .sub=>some (.int k (zkq k (a - b)))
 | .mul=>some (.int k (zkq k (a * b)))
 | .quo=>quoF k a b
 | .rem=>remF k a b
 | .and=>some (.int k (zkq k (Int.ofNat (Nat.land (natF k a) (natF k b)))))
 | .or=>some (.int k (zkq k (Int.ofNat (Nat.lor (natF k a) (natF k b)))))
 | .xor=>some (.int k (zkq k (Int.ofNat (Nat.xor (natF k a) (natF k b)))))
 | .eql=>some (.bool (eqF a b))
 | .neq=>some (.bool (!eqF a b))
 | .lss=>some (.bool (ltF a b))
 | .gtr=>some (.bool (ltF b a))
 | .leq=>some (.bool (!ltF b a))
 | .geq=>some (.bool (!ltF a b))
 | op=>binV op (.int k a) (.int k b)
def mixF (op : BinOp) (k k' : IntKind) (a b : Int) : Option Value:=match op with
 | .shl=>shlF k a b
 | .shr=>shrF k a b
 | op=>binV op (.int k a) (.int k' b)
def binF (op : BinOp) (x y : Value) : Option Value:=match x with
 | .int k a=>(match y with
   | .int k' b=>cond (Nat.beq (kN k) (kN k')) (intF op k a b) (mixF op k k' a b)
   | y=>binV op (.int k a) y)
 | x=>binV op x y
inductive TS where
 | lf
 | nd (v : AV) (l r : TS)
structure RS where
 sz : Nat
 t : TS
 h : List (Nat × Option Ent)
 n : Nat
noncomputable def nthA (t : TS) : Nat → AV :=
 TS.rec (motive:=fun _=>Nat → AV) (fun _=>.dead) (fun v _ _ l r i=>Nat.rec (motive:=fun _=>AV) v (fun j _=>Bool.rec (motive:=fun _=>AV) (r (Nat.div j 2)) (l (Nat.div j 2)) (Nat.beq (Nat.mod j 2) 0)) i) t
noncomputable def zqJ (n : Nat) : TS:=Nat.rec (motive:=fun _=>TS) .lf (fun _ t=>.nd .dead t t) n
noncomputable def lkB {α : Type} (l : List (Nat × α)) (j : Nat) : Option α :=
 List.rec (motive:=fun _=>Option α) none (fun p _ ih=>Bool.rec (motive:=fun _=>Option α) ih (some p.2) (Nat.beq p.1 j)) l
def zxP {α : Type} : Option (Option α) → Option α | some x=>x | none=>none
noncomputable def hpB (h : List (Nat × Option Ent)) (id : Nat) : Option Ent:=zxP (lkB h id)
noncomputable def RS.get (s : RS) (i : Nat) : AV:=nthA s.t i
noncomputable def RS.hp (s : RS) (id : Nat) : Option Ent:=hpB s.h id
abbrev Rr:=Option (zcP × RS)
noncomputable def setA {γ : Type} (v : AV) (t : TS) : Nat → (TS → Option γ) → Option γ :=
 TS.rec (motive:=fun _=>Nat → (TS → Option γ) → Option γ) (fun _ _=>none)
  (fun x tl tr l r i k=>Nat.rec (motive:=fun _=>Option γ) (k (.nd v tl tr)) (fun j _=>Bool.rec (motive:=fun _=>Option γ) (r (Nat.div j 2) fun tr'=>k (.nd x tl tr')) (l (Nat.div j 2) fun tl'=>k (.nd x tl' tr)) (Nat.beq (Nat.mod j 2) 0)) i) t
noncomputable def argT {γ : Type} (xs : List AV) : Nat → TS → (TS → Option γ) → Option γ :=
 List.rec (motive:=fun _=>Nat → TS → (TS → Option γ) → Option γ) (fun _ t k=>k t) (fun x _ ih i t k=>setA x t i fun t'=>ih (i + 1) t' k) xs
noncomputable def ersH (i : Nat) (l : List (Nat × Option Ent)) : (List (Nat × Option Ent) → Rr) → Rr :=
 List.rec (motive:=fun _=>(List (Nat × Option Ent) → Rr) → Rr) (fun k=>k []) (fun p _ ih k=>Bool.rec (motive:=fun _=>Rr) (ih fun l'=>k (p :: l')) (ih k) (Nat.beq p.1 i)) l
def updK (p : Nat × Option Ent) (k : List (Nat × Option Ent) → Rr) (h : List (Nat × Option Ent)) : Rr:=match p with
 | (_,none)=>k h
 | (i,some e)=>k ((i,some e) :: h)
noncomputable def updH (up h : List (Nat × Option Ent)) : (List (Nat × Option Ent) → Rr) → Rr :=
 List.rec (motive:=fun _=>(List (Nat × Option Ent) → Rr) → Rr) (fun k=>k h) (fun p _ ih k=>ih fun h=>ersH p.1 h (updK p k)) up
noncomputable def evXs (t : TS) (xs : List Opd) : List AV :=
 List.rec (motive:=fun _=>List AV) [] (fun x _ ih=>x.ev (nthA t) :: ih) xs
def idsI : Nat → AV → List Nat
 | 0,_=>[]
 | n + 1,x=>match x with
   | .rs a _ _=>[a]
   | .rk a _ _ _=>[a]
   | .pt a _ _=>[a]
   | .mp a=>[a]
   | .agg cs=>cs.flatMap (idsI n)
   | .tup cs=>cs.flatMap (idsI n)
   | .fn _ a b=>a.flatMap (idsI n) ++ b.flatMap (idsI n)
   | .ifc _ v=>idsI n v
   | _=>[]
def addI (l : List Nat) : List Nat → List Nat
 | []=>l
 | i :: is=>if l.contains i then addI l is else addI (l ++ [i]) is
def idsE (h : Nat → Option Ent) (i : Nat) : List Nat:=match h i with | some e=>e.rows.flatMap (·.flatMap (idsI 4)) | none=>[]
def zv0 (h : Nat → Option Ent) : Nat → List Nat → List Nat
 | 0,l=>l
 | n + 1,l=>let l':=addI l (l.flatMap (idsE h)); if l'.length = l.length then l else zv0 h n l'
def zjt : Nat → AV → Bool
 | 0,_=>false
 | n + 1,x=>match x with
   | .dead=>true
   | .sc _=>true
   | .agg xs=>xs.all (zjt n)
   | .tup xs=>xs.all (zjt n)
   | .rs _ _ _=>true
   | .pt _ _ _=>true
   | .mp _=>true
   | _=>false
def zvo : Option Ent → Bool
 | none=>true
 | some e=>e.rows.all (·.all (zjt 4))
def znS : List Nat → Bool
 | []=>true
 | i :: is=>!is.contains i && znS is
def ztX : List (Option Ent) → Option (List Ent)
 | []=>some []
 | none :: _=>none
 | some e :: l=>match ztX l with | some es=>some (e :: es) | none=>none
abbrev Cf:=FuncId → List AV → List Ent → Option (AV × List (Option Ent))
abbrev Rs3:=Option (AV × List Nat × List (Nat × Option Ent))
def scB (x : AV) : Bool:=match x with | .sc _=>true | _=>false
noncomputable def zts (xs : List AV) : Bool:=List.rec (motive:=fun _=>Bool) true (fun x _ ih=>Bool.rec (motive:=fun _=>Bool) false ih (scB x)) xs
def zx2 (ids : List Nat) (id : Nat) : List (Nat × Nat):=(ids ++ (List.range 8).map (id + ·)).zipIdx.map fun (a,b)=>(b,a)
def zqe (ids sn : List Nat) (id : Nat) (h : Nat → Option Ent) (raise : Bool) (hs' : List (Option Ent)) : List (Nat × Option Ent) :=
 (hs'.zipIdx.map fun (e,k)=>((ids ++ (List.range 8).map (id + ·)).getD k 0,e.map (zaw (zx2 ids id) [] (fun _=>none) 4))) ++ (if raise then sn.filterMap (fun i=>(h i).map fun e=>(i,some { e with ro:=e.rows.length })) else [])
def zoU (ids sn : List Nat) (np nh : Nat) (raise : Bool) (hs' : List (Option Ent)) : Bool :=
 znS ids && ((sn.all fun i=>!ids.contains i) && ((!raise || sn.all fun i=>Nat.ble np i) && Nat.ble hs'.length (nh + 8)))
def zna (ids sn : List Nat) (np id nh : Nat) (h : Nat → Option Ent) (res : AV) (hs' : List (Option Ent)) (raise : Bool) : Rs3 :=
 cond (zoU ids sn np nh raise hs') (some (conv (zx2 ids id) [] (fun _=>none) 4 res,ids ++ sn,zqe ids sn id h raise hs')) none
def zsm (ids sn : List Nat) (np id nh : Nat) (h : Nat → Option Ent) : Option (AV × List (Option Ent)) → Rs3
 | none=>none
 | some (res,hs')=>zna ids sn np id nh h res hs' (match sn with | []=>true | _=>!(zjt 5 res && hs'.all zvo))
def zp3 (id : Nat) : Option (AV × List (Option Ent)) → Rs3
 | some (.sc v,[])=>some (.sc v,[],[])
 | some (res,hs')=>zna [] [] 0 id 0 (fun _=>none) res hs' true
 | none=>none
noncomputable def zow (cf : Cf) (np id : Nat) (h : Nat → Option Ent) (f : FuncId) (xs : List AV) (deep : Bool) (ids sn : List Nat) : Rs3 :=
 fcL (fcA deep 6) (xs.map (conv ids.zipIdx sn h 4)) fun args =>
 match ztX (ids.map fun i=>(h i).map (zaw ids.zipIdx sn h 4)) with
 | none=>none
 | some hs0=>fcL (fcE deep) hs0 fun hs=>zsm ids sn np id hs.length h (cf f args hs)
noncomputable def zqy (sp : List FuncId) (cf : Cf) (np id : Nat) (h : Nat → Option Ent) (f : FuncId) (xs : List AV) : Rs3 :=
 match zts xs with
 | true=>zp3 id (cf f xs [])
 | false =>
   fcL fcN (addI [] (xs.flatMap (idsI 4))) fun top =>
   fcL fcN (zv0 h 4 top) fun all =>
   match sp.contains f with
   | true=>zow cf np id h f xs true [] all
   | false=>match Nat.ble all.length 16 with
     | true=>zow cf np id h f xs false all []
     | false=>fcL fcN (all.filter fun i=>!top.contains i) fun sn=>zow cf np id h f xs true top sn
def zpi : Bool → Bool → Nat → List AV → Option (Nat × Nat)
 | false,false,n,[]=>some (0,n)
 | true,false,n,[.sc (.int .i64 l)]=>if 0 ≤ l then some (l.toNat,n) else none
 | false,true,_,[.sc (.int .i64 r)]=>if 0 ≤ r then some (0,r.toNat) else none
 | true,true,_,[.sc (.int .i64 l),.sc (.int .i64 r)]=>if 0 ≤ l ∧ 0 ≤ r then some (l.toNat,r.toNat) else none
 | _,_,_,_=>none
def zx3 (h : Nat → Option Ent) (s l r : Nat) (hi : Bool) : AV → Rs3
 | .vs s' f rows=>if s' = s then some (.vs s (f && !hi) ((rows.drop l).take (r - l)),[],[]) else none
 | .rs i off _=>match h i with | some e=>if e.s = s then some (.rs i (off + l) (r - l),[i],[]) else none | none=>none
 | .sc (.slice none 0 0)=>some (.nilS,[],[])
 | _=>none
def e_mv : List AV → Rs3
 | [x]=>some (x,[],[])
 | _=>none
def zvn : List AV → Rs3
 | [.sc (.bool t),a,b]=>some (if t then a else b,[],[])
 | _=>none
def zru (id : Nat) (z : List Value) : List AV → Rs3
 | []=>some (.pt id 0 0,[],[(id,some { s:=z.length,rows:=[z.map .sc] })])
 | _=>none
def zyt (id : Nat) (s : Nat) : List AV → Rs3
 | [x]=>match cellsOf x with
   | some cs=>if cs.length = s then some (.pt id 0 0,[],[(id,some { s:=s,rows:=[cs] })]) else none
   | none=>none
 | _=>none
def zsu (z : List Value) (ps : List (Nat × Nat)) : List AV → Rs3
 | xs=>match znE (z.map .sc) ps xs with | some cs=>some (.agg cs,[],[]) | none=>none
def zw5 (id : Nat) (s : Nat) (len : Nat) (z : List Value) (ps : List Nat) : List AV → Rs3
 | xs=>match ziR s (List.replicate len (z.map .sc)) ps xs with
   | some rows=>if z.length = s then some (.rs id 0 len,[],[(id,some { s:=s,rows:=rows })]) else none
   | none=>none
def e_ld (h : Nat → Option Ent) (ag : Bool) (s : Nat) : List AV → Rs3
 | [x]=>match zc2 h x with
   | some cs=>if s ≤ cs.length then some (if ag then .agg (cs.take s) else cs.headD .dead,zbH x,[]) else none
   | none=>none
 | _=>none
def e_st (h : Nat → Option Ent) (s : Nat) : List AV → Rs3
 | [.pt i k j,x]=>match h i with
   | some e=>match e.rows[k]?,cellsOf x with
     | some row,some cs=>if e.ro ≤ k ∧ cs.length = s ∧ j + s ≤ row.length then some (.dead,[i],[(i,some { e with rows:=e.rows.set k (zbR row j cs) })]) else none
     | _,_=>none
   | none=>none
 | _=>none
def zxO : List AV → Rs3
 | [.pt a b c]=>some (.pt a b c,[],[])
 | [.pv cs]=>some (.pv cs,[],[])
 | [.ifc t v]=>some (.ifc t v,[],[])
 | _=>none
def zxt (op : BinOp) : List AV → Rs3
 | [.sc a,.sc b]=>match binF op a b with | some v=>some (.sc v,[],[]) | none=>none
 | _=>none
def zyv (neg : Bool) : List AV → Rs3
 | [.sc (.bool a),.sc (.bool b)]=>some (.sc (.bool ((a == b) != neg)),[],[])
 | _=>none
def zxU (neg : Bool) (ks : List Nat) : List AV → Rs3
 | [.agg xs,.agg ys]=>match eqs ks xs ys with | some b=>some (.sc (.bool (b != neg)),[],[]) | none=>none
 | _=>none
def zvk (neg : Bool) : List AV → Rs3
 | [.vs _ _ (_ :: _)]=>some (.sc (.bool neg),[],[])
 | [.sc (.slice a _ _)]=>some (.sc (.bool (a.isNone != neg)),[],[])
 | _=>none
def e_un (op : UnOp) : List AV → Rs3
 | [.sc a]=>match unV op a with | some v=>some (.sc v,[],[]) | none=>none
 | _=>none
def zyj (k : IntKind) : List AV → Rs3
 | [.sc (.int _ n)]=>some (.sc (.int k (zkq k n)),[],[])
 | _=>none
def zxB (h : Nat → Option Ent) : List AV → Rs3
 | [x]=>match zbt 1 h x with
   | some rows=>match zci rows with | some bs=>some (.sc (.string ⟨bs.toArray⟩),zbH x,[]) | none=>none
   | none=>none
 | _=>none
def zxj (f : FuncId) : List AV → Rs3
 | xs=>some (.fn (.func f) [] xs,[],[])
def zyb (f : FuncId) : List AV → Rs3
 | xs=>some (.fn (.func f) xs [],[],[])
def zxd (id : Nat) (s : Nat) (bytes : Nat) (z : List Value) : List AV → Rs3
 | [.sc (.int _ l),.sc (.int _ c)]=>if 0 ≤ l ∧ l ≤ c ∧ c * bytes ≤ 140737488355328 ∧ c ≤ 140737488355328 ∧ z.length = s then some (.rs id 0 l.toNat,[],[(id,some { s:=s,rows:=List.replicate l.toNat (z.map .sc) })]) else none
 | _=>none
def zxg (h : Nat → Option Ent) (s : Nat) (lo : Bool) (hi : Bool) : List AV → Rs3
 | x :: bs=>match lenOf x with
   | none=>none
   | some n=>match zpi lo hi n bs with
     | none=>none
     | some (l,r)=>if l ≤ r ∧ r ≤ n then zx3 h s l r hi x else none
 | _=>none
def zxK (off : Nat) : List AV → Rs3
 | [.pv cs]=>if off ≤ cs.length then some (.pv (cs.drop off),[],[]) else none
 | [.pt i k j]=>some (.pt i k (j + off),[],[])
 | _=>none
def zx4 (ag : Bool) (off : Nat) (s : Nat) : List AV → Rs3
 | [.agg cs]=>if off + s ≤ cs.length then some (if ag then .agg ((cs.drop off).take s) else cs.getD off .dead,[],[]) else none
 | _=>none
def zx0 (h : Nat → Option Ent) (s : Nat) : List AV → Rs3
 | [.vs s' _ rows,.sc (.int _ n)]=>if s' = s ∧ 0 ≤ n then match rows[n.toNat]? with | some row=>some (.pv row,[],[]) | none=>none else none
 | [.rs i off len,.sc (.int _ n)]=>match h i with | some e=>if 0 ≤ n ∧ n < len ∧ e.s = s then some (.pt i (off + n.toNat) 0,[i],[]) else none | none=>none
 | _=>none
def zx6 (l : Nat) (s : Nat) : List AV → Rs3
 | [.pt i k j,.sc (.int _ n)]=>if 0 ≤ n ∧ n < l then some (.pt i k (j + n.toNat * s),[],[]) else none
 | [.pv cs,.sc (.int _ n)]=>if 0 ≤ n ∧ n < l ∧ l * s ≤ cs.length then some (.pv (cs.drop (n.toNat * s)),[],[]) else none
 | _=>none
def zxc : List AV → Rs3
 | [.sc (.string b),.sc (.int _ n)]=>if 0 ≤ n then match b.data.toList[n.toNat]? with | some c=>some (.sc (.int .u8 c.toNat),[],[]) | none=>none else none
 | _=>none
def zw7 (i : Nat) : List AV → Rs3
 | [.tup vs]=>match vs[i]? with | some v=>some (v,[],[]) | none=>none
 | _=>none
noncomputable def zvX (sp : List FuncId) (cf : Cf) (np id : Nat) (h : Nat → Option Ent) : List AV → Rs3
 | .fn (.func f) first capt :: args=>zqy sp cf np id h f (first ++ args ++ capt)
 | _=>none
noncomputable def zxJ (sp : List FuncId) (cf : Cf) (np id : Nat) (h : Nat → Option Ent) (tbl : List (TypeId × FuncId)) : List AV → Rs3
 | .ifc t x :: args=>match lkp tbl t with | some f=>zqy sp cf np id h f (x :: args) | none=>none
 | _=>none
def zyi (id : Nat) (h : Nat → Option Ent) (s : Nat) (bytes : Nat) : List AV → Rs3
 | [x,y]=>match x with
   | .rk _ _ _ _=>none
   | x=>match zbt s h y with
     | some new=>match zbN s h new x with
       | some old=>if (old.1.length + new.length) * bytes ≤ 140737488355328 ∧ old.1.length + new.length ≤ 140737488355328 then some (.rs id 0 (old.1.length + new.length),zbH x ++ zbH y,(id,some { s:=s,rows:=old.1 ++ new,ro:=old.2.1 }) :: old.2.2) else none
       | none=>none
     | none=>none
 | _=>none
def zvB (id : Nat) (h : Nat → Option Ent) : List AV → Rs3
 | [x,.sc (.string b)]=>match zbN 1 h (zdl b) x with
   | some old=>if old.1.length + b.size ≤ 140737488355328 then some (.rs id 0 (old.1.length + b.size),zbH x,(id,some { s:=1,rows:=old.1 ++ zdl b,ro:=old.2.1 }) :: old.2.2) else none
   | none=>none
 | _=>none
def zyr (id : Nat) (s : Nat) (bytes : Nat) (z : List Value) : List AV → Rs3
 | [.sc (.slice none 0 0),.sc (.int _ n)]=>if z.length = s ∧ 0 < n ∧ n.toNat * bytes ≤ 140737488355328 ∧ n.toNat ≤ 140737488355328 then some (.rs id 0 n.toNat,[],[(id,some { s:=s,rows:=List.replicate n.toNat (z.map .sc) })]) else none
 | _=>none
def zxQ : List AV → Rs3
 | [x]=>match lenOf x with | some n=>some (AV.I n,[],[]) | none=>none
 | _=>none
def zvR : List AV → Rs3
 | [.sc (.string b)]=>some (AV.I b.size,[],[])
 | _=>none
def zxp : List AV → Rs3
 | [.rk _ _ _ c]=>some (AV.I c,[],[])
 | [.sc (.slice none 0 0)]=>some (AV.I 0,[],[])
 | _=>none
def zx9 (h : Nat → Option Ent) (s : Nat) : List AV → Rs3
 | [.rs i off len,y]=>match h i,zbt s h y with
   | some e,some new=>if e.s = s ∧ e.ro ≤ off ∧ off + len ≤ e.rows.length then some (AV.I (min new.length len : Nat),i :: zbH y,[(i,some { e with rows:=e.rows.take off ++ new.take (min new.length len) ++ e.rows.drop (off + min new.length len) })]) else none
   | _,_=>none
 | _=>none
def zxZ (h : Nat → Option Ent) (s : Nat) (z : List Value) : List AV → Rs3
 | [.rs i off len]=>match h i with
   | some e=>if e.s = s ∧ z.length = s ∧ e.ro ≤ off ∧ off + len ≤ e.rows.length then some (.dead,[i],[(i,some { e with rows:=e.rows.take off ++ List.replicate len (z.map .sc) ++ e.rows.drop (off + len) })]) else none
   | none=>none
 | _=>none
def zxR : List AV → Rs3
 | [.sc (.int k a),.sc (.int _ b)]=>some (.sc (.int k (if a < b then b else a)),[],[])
 | _=>none
def zx7 : List AV → Rs3
 | [.sc (.int k a),.sc (.int _ b)]=>some (.sc (.int k (if b < a then b else a)),[],[])
 | _=>none
def zyd (t : TypeId) : List AV → Rs3
 | [x]=>some (.ifc t x,[],[])
 | _=>none
def zwW (id : Nat) : List AV → Rs3
 | []=>some (.mp id,[],[(id,some { s:=0,rows:=[] })])
 | _=>none
def zyh (h : Nat → Option Ent) (z : Value) (ok : Bool) : List AV → Rs3
 | [.mp i,.sc (.int .i64 n)]=>match h i with
   | some e=>if e.s = 0 then some (if ok then .tup [(zdX n e.rows).getD (toAV z),.sc (.bool (zdX n e.rows).isSome)] else (zdX n e.rows).getD (toAV z),[i],[]) else none
   | none=>none
 | _=>none
def zxk (h : Nat → Option Ent) : List AV → Rs3
 | [.mp i,.sc (.int .i64 n),x]=>match h i with
   | some e=>if e.s = 0 then some (.dead,[i],[(i,some { e with rows:=mset n x e.rows })]) else none
   | none=>none
 | _=>none
def zxm (h : Nat → Option Ent) : List AV → Rs3
 | [.mp i,.sc (.int .i64 n)]=>match h i with
   | some e=>if e.s = 0 then some (.tup [],[i],[(i,some { e with rows:=mdel n e.rows,ro:=0 })]) else none
   | none=>none
 | _=>none
def zxx (l : Nat) : List AV → Rs3
 | [.agg cs,.sc (.int _ n)]=>if 0 ≤ n ∧ n < l ∧ l ≤ cs.length then some (cs.getD n.toNat .dead,[],[]) else none
 | _=>none
noncomputable def aEv (sp : List FuncId) (cf : Cf) (np id : Nat) (h : Nat → Option Ent) (op : AOp) (xs : List AV) : Rs3:=match op with
 | .mv=>e_mv xs
 | .pick=>zvn xs
 | .alloc z'=>zru id z' xs
 | .box s'=>zyt id s' xs
 | .build z' ps'=>zsu z' ps' xs
 | .bsl s' len' z' ps'=>zw5 id s' len' z' ps' xs
 | .ld ag' s'=>e_ld h ag' s' xs
 | .st s'=>e_st h s' xs
 | .nil=>zxO xs
 | .bin op'=>zxt op' xs
 | .beq neg'=>zyv neg' xs
 | .aeq neg' ks'=>zxU neg' ks' xs
 | .snil neg'=>zvk neg' xs
 | .un op'=>e_un op' xs
 | .cvt k'=>zyj k' xs
 | .b2s=>zxB h xs
 | .mkf f'=>zxj f' xs
 | .mkb f'=>zyb f' xs
 | .mks s' bytes' z'=>zxd id s' bytes' z' xs
 | .slc s' lo' hi' mx'=>match mx' with | false=>zxg h s' lo' hi' xs | true=>none
 | .fad off'=>zxK off' xs
 | .fld ag' off' s'=>zx4 ag' off' s' xs
 | .iad s'=>zx0 h s' xs
 | .iaa l' s'=>zx6 l' s' xs
 | .ixs=>zxc xs
 | .ixv l'=>zxx l' xs
 | .ext i'=>zw7 i' xs
 | .call=>zvX sp cf np id h xs
 | .inv tbl'=>zxJ sp cf np id h tbl' xs
 | .app s' bytes'=>zyi id h s' bytes' xs
 | .apps=>zvB id h xs
 | .apz s' bytes' z'=>zyr id s' bytes' z' xs
 | .len=>zxQ xs
 | .lens=>zvR xs
 | .cap=>zxp xs
 | .cpy s'=>zx9 h s' xs
 | .clr s' z'=>zxZ h s' z' xs
 | .mx2=>zxR xs
 | .mn2=>zx7 xs
 | .mki t'=>zyd t' xs
 | .mkm=>zwW id xs
 | .mlk z' ok'=>zyh h z' ok' xs
 | .mup=>zxk h xs
 | .mdl=>zxm h xs
 | _=>none
def zwb (next : TS → List (Nat × Option Ent) → List (List Nat × List Nat) → Rr) (h : List (Nat × Option Ent)) (tr : List (List Nat × List Nat)) (t : TS) : Rr:=next t h tr
noncomputable def zvp (sz : Nat) (dst : Option Nat) (next : TS → List (Nat × Option Ent) → List (List Nat × List Nat) → Rr) (t : TS) (tr : List (List Nat × List Nat)) (v : AV) (h : List (Nat × Option Ent)) : Rr :=
 match dst with
 | none=>next t h tr
 | some d=>match Nat.blt d sz with
   | true=>fcA false 6 v fun v=>setA v t d (zwb next h tr)
   | false=>none
noncomputable def zvf (sz : Nat) (dst : Option Nat) (next : TS → List (Nat × Option Ent) → List (List Nat × List Nat) → Rr) (t : TS) (h : List (Nat × Option Ent)) (tr : List (List Nat × List Nat)) (v : AV) (rd : List Nat) (up : List (Nat × Option Ent)) : Rr :=
 updH up h (zvp sz dst next t (tr ++ [(rd,up.map (·.1))]) v)
noncomputable def zxi (sz : Nat) (dst : Option Nat) (next : TS → List (Nat × Option Ent) → List (List Nat × List Nat) → Rr) (t : TS) (h : List (Nat × Option Ent)) (tr : List (List Nat × List Nat)) : Rs3 → Rr
 | none=>none
 | some (v,rd,up)=>fcL (fcO false) up (zvf sz dst next t h tr v rd)
noncomputable def opGo (sp : List FuncId) (cf : Cf) (sz np id : Nat) (o : zbI) (next : TS → List (Nat × Option Ent) → List (List Nat × List Nat) → Rr) (t : TS) (h : List (Nat × Option Ent)) (tr : List (List Nat × List Nat)) : Rr :=
 zxi sz o.dst next t h tr (aEv sp cf np id (hpB h) o.op (evXs t o.xs))
def eqOB : Option Bool → Bool → Bool
 | some true,true=>true
 | some false,false=>true
 | _,_=>false
noncomputable def zvj (sz : Nat) (dst : Option Nat) (next : TS → List (Nat × Option Ent) → List (List Nat × List Nat) → Rr) (t : TS) (h : List (Nat × Option Ent)) (tr : List (List Nat × List Nat)) : Rr :=
 match dst with
 | none=>next t h (tr ++ [([],[])])
 | some d=>match Nat.blt d sz with
   | true=>setA (.tup []) t d (zwb next h (tr ++ [([],[])]))
   | false=>none
noncomputable def opGd (sp : List FuncId) (cf : Cf) (sz np id : Nat) (o : zbI) (next : TS → List (Nat × Option Ent) → List (List Nat × List Nat) → Rr) (t : TS) (h : List (Nat × Option Ent)) (tr : List (List Nat × List Nat)) (want : Bool) : Option (Option Bool) → Rr
 | none=>none
 | some b=>match eqOB b want with
   | true=>opGo sp cf sz np id o next t h tr
   | false=>zvj sz o.dst next t h tr
noncomputable def zsf (sp : List FuncId) (cf : Cf) (sz np id : Nat) (o : zbI) (next : TS → List (Nat × Option Ent) → List (List Nat × List Nat) → Rr) (t : TS) (h : List (Nat × Option Ent)) (tr : List (List Nat × List Nat)) : Rr :=
 match o.guard with
 | none=>opGo sp cf sz np id o next t h tr
 | some (g,want)=>opGd sp cf sz np id o next t h tr want (gdV (nthA t g))
noncomputable def znl (sp : List FuncId) (cf : Cf) (sz np : Nat) (ops : List zbI) : Nat → (Nat → TS → List (Nat × Option Ent) → List (List Nat × List Nat) → Rr) → TS → List (Nat × Option Ent) → List (List Nat × List Nat) → Rr :=
 List.rec (motive:=fun _=>Nat → (Nat → TS → List (Nat × Option Ent) → List (List Nat × List Nat) → Rr) → TS → List (Nat × Option Ent) → List (List Nat × List Nat) → Rr)
  (fun id k t h tr=>k id t h tr)
  (fun o _ ih id k t h tr=>fcN (id + 8) fun id'=>zsf sp cf sz np id o (ih id' k) t h tr) ops
noncomputable def zpT (body : RS → Rr) (n : Nat) : RS → Rr :=
 Nat.rec (motive:=fun _=>RS → Rr) (fun _=>none) (fun _ ih s=>match body s with
  | some (.normal,s')=>ih s'
  | r=>r) n
def zsz (draw : Bool) (ops : List zbI) (after : List (List Nat)) (sz n : Nat) (t : TS) (h : List (Nat × Option Ent)) (tr : List (List Nat × List Nat)) : Rr :=
 match draw with
 | false=>some (.normal,⟨sz,t,h,n⟩)
 | true=>match zdE ops after tr with
   | true=>some (.normal,⟨sz,t,h,n⟩)
   | false=>none
def seqK (b : RS → Rr) : Rr → Rr
 | some (.normal,s)=>b s
 | r=>r
def zv4 (a b : RS → Rr) (s : RS) : AV → Rr
 | .sc (.bool true)=>a s
 | .sc (.bool false)=>b s
 | _=>none
def zsO (id : Nat) : Rr → Rr
 | some (.exit i,s)=>match Nat.beq i id with | true=>some (.normal,s) | false=>some (.exit i,s)
 | r=>r
noncomputable def regK (sp : List FuncId) (cf : Cf) (np : Nat) (draw : Bool) (ops : List zbI) (after : List (List Nat)) : RS → Rr
 | ⟨sz,t,h,n⟩=>znl sp cf sz np ops n (zsz draw ops after sz) t h []
noncomputable def zii (sp : List FuncId) (cf : Cf) (np lf : Nat) (c : zdu) : RS → Rr :=
 zdu.rec (motive:=fun _=>RS → Rr)
  (fun s=>some (.normal,s))
  (fun draw ops after=>regK sp cf np draw ops after)
  (fun _ _ a b s=>seqK b (a s))
  (fun c _ _ a b s=>zv4 a b s (c.ev (nthA s.t)))
  (fun id _ a s=>zsO id (a s))
  (fun _ a s=>zpT a lf s)
  (fun id s=>some (.exit id,s))
  (fun s=>some (.ret,s))
  (fun _=>none) c
noncomputable def zo0 (s : RS) (r : Nat × Option (Bool × Nat)) : Option AV :=
 match r with
 | (t,none)=>some (s.get t)
 | (t,some (ag,n))=>match zc2 s.hp (s.get t) with
   | some cs=>if n ≤ cs.length ∧ (ag = true ∨ n = 1) then some (if ag then .agg (cs.take n) else cs.headD .dead) else none
   | none=>none
noncomputable def zkd (s : RS) : List (Nat × Option (Bool × Nat)) → Option (List AV)
 | []=>some []
 | r :: rs=>match zo0 s r,zkd s rs with
   | some v,some vs=>some (v :: vs)
   | _,_=>none
noncomputable def zqo (np : Nat) (s : RS) (vs : List AV) (small : Bool) (ex sn : List Nat) : Option (AV × List (Option Ent)) :=
 match znS (List.range np ++ ex) && ((ex.all fun i=>Nat.ble np i) && sn.all fun i=>!ex.contains i && Nat.ble np i) with
 | true =>
   fcA (!small) 6 (conv (List.range np ++ ex).zipIdx sn s.hp 4 (resV vs)) fun r =>
   fcL (fun (o : Option Ent) k=>match o with | none=>k none | some e=>fcE (!small) e fun e=>k (some e)) ((List.range np ++ ex).map fun i=>(s.hp i).map (zaw (List.range np ++ ex).zipIdx sn s.hp 4)) fun es=>some (r,es)
 | false=>none
noncomputable def zq0 (rs : List (Nat × Option (Bool × Nat))) (np : Nat) (s : RS) : Option (AV × List (Option Ent)) :=
 match zkd s rs with
 | none=>none
 | some vs =>
   fcL fcN (addI [] (idsI 5 (resV vs))) fun top =>
   fcL fcN ((zv0 s.hp 4 (addI (List.range np) top)).filter fun i=>Nat.ble np i) fun new =>
   match Nat.ble new.length 8 with
   | true=>zqo np s vs true new []
   | false =>
     fcL fcN (top.filter fun i=>Nat.ble np i) fun ex =>
     fcL fcN (new.filter fun i=>!ex.contains i) fun sn=>zqo np s vs false ex sn
noncomputable def zqg (rs : List (Nat × Option (Bool × Nat))) (np : Nat) : Rr → Option (AV × List (Option Ent))
 | some (.normal,s)=>zq0 rs np s
 | some (.ret,s)=>zq0 rs np s
 | _=>none
noncomputable def zuh (sp : List FuncId) (cf : Cf) (lf : Nat) (af : AFun) (args : List AV) (hs : List Ent) : Option (AV × List (Option Ent)) :=
 match Nat.ble args.length af.nt && Nat.ble hs.length 16 with
 | true =>
   fcL (fcA false 6) args fun args =>
   argT args 0 (zqJ 9) fun t =>
   fcL (fcO false) (hs.zipIdx.map fun (e,k)=>(k,some e)) fun h =>
   fcN hs.length fun np=>zqg af.res np (zii sp cf np lf af.code ⟨af.nt,t,h,16⟩)
 | false=>none
noncomputable def evT (tbl : List (FuncId × AFun)) (k : AFun → Option (AV × List (Option Ent))) (f : FuncId) : Option (AV × List (Option Ent)) :=
 match lkB tbl f with
 | some af=>k af
 | none=>none
noncomputable def evX (x y : Option (AV × List (Option Ent))) : Option (AV × List (Option Ent)):=match x with
 | some r=>some r
 | none=>y
noncomputable def evN (sp : List FuncId) (ext : Cf) (tbl : List (FuncId × AFun)) (lf d : Nat) : Cf :=
 Nat.rec (motive:=fun _=>Cf) (fun _ _ _=>none) (fun _ ih f args hs=>evX (ext f args hs) (evT tbl (fun af=>zuh sp ih lf af args hs) f)) d
end Go.Proofs.YtklclphfcibagaaGreat
