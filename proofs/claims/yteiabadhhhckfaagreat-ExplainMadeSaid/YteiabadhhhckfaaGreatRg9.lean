/- Texts of this claim,merged. -/
import Derived.Test.YteiabadhhhckfaaGreatRg8
import Derived.Test.YteiabadhhhckfaaGreatRg6
import Derived.Test.YteiabadhhhckfaaGreatProg
import Derived.KernelRfl
import Derived.Test.YteiabadhhhckfaaGreatRg7
import Derived.Test.YteiabadhhhckfaaGreatRg5
set_option linter.unusedSimpArgs false
set_option linter.unusedVariables false
set_option linter.unusedSectionVars false
namespace Go.Proofs.YteiabadhhhckfaaGreat
open Go
theorem zgT : Src Tryz.prog zea zgQ:=mkS Tryz.f15
theorem zh3 : Src Tryz.prog zc9 zhM:=mkS Tryz.f23
theorem zjy : Src Tryz.prog zd2 zoY:=mkS Tryz.f24
theorem zjd : Src Tryz.prog zcO zjS:=mkS Tryz.f27
theorem zqu : Src Tryz.prog zig zqV:=mkS Tryz.f31
theorem zna : Src Tryz.prog zbY znr:=mkS Tryz.f40
theorem zqO : Src Tryz.prog zf9 zqa:=mkS Tryz.f42
theorem zkQ : Src Tryz.prog zdp zkz:=mkS Tryz.f46
theorem zqg : Src Tryz.prog zeN zqQ:=mkS Tryz.f47
theorem zmM : Src Tryz.prog zfY znB:=mkS Tryz.f48
theorem zge : Src Tryz.prog zce zgc:=mkS Tryz.f56
theorem znP : Src Tryz.prog zec zmQ:=mkS Tryz.f57
theorem zou : Src Tryz.prog zdV zol:=mkS Tryz.f58
theorem zmp : Src Tryz.prog ze9 zlU:=mkS Tryz.f59
theorem zoW : Src Tryz.prog zgx zoU:=mkS Tryz.f60
theorem zjJ : Src Tryz.prog zbJ zjE:=mkS Tryz.f61
theorem zfv : Src Tryz.prog zb4 zof:=mkS Tryz.f62
theorem zqU : Src Tryz.prog zbH zqJ:=mkS Tryz.f63
theorem zhI : Src Tryz.prog zc3 zqY:=mkS Tryz.f65
theorem zis : Src Tryz.prog zdt znd:=mkS Tryz.f66
theorem zld : Src Tryz.prog zez zqM:=mkS Tryz.f67
theorem znq : Src Tryz.prog zcA zoc:=mkS Tryz.f68
theorem zjt : Src Tryz.prog zbG zjV:=mkS Tryz.f71
theorem zlY : Src Tryz.prog zeQ zmv:=mkS Tryz.f72
theorem znK : Src Tryz.prog zfu zn1:=mkS Tryz.f73
theorem zj9 : Src Tryz.prog zcK zjR:=mkS Tryz.f74
theorem zmF : Src Tryz.prog zcN zmD:=mkS Tryz.f75
theorem zmH : Src Tryz.prog zfg zlR:=mkS Tryz.f76
theorem zms : Src Tryz.prog zeX zlK:=mkS Tryz.f80
theorem zlO : Src Tryz.prog zdJ zlL:=mkS Tryz.f84
theorem zkv : Src Tryz.prog zeq zkN:=mkS Tryz.f85
theorem zpf : Src Tryz.prog zeO zoo:=mkS Tryz.f87
theorem zo1 : Src Tryz.prog ze4 zpo:=mkS Tryz.f88
theorem zmO : Src Tryz.prog zfE zmR:=mkS Tryz.f91
theorem zme : Src Tryz.prog zfa zmy:=mkS Tryz.f95
theorem zrq : Src Tryz.prog zjC zsS:=mkS Tryz.f96
theorem znY : Src Tryz.prog zcF zm9:=mkS Tryz.f97
theorem zo5 : Src Tryz.prog ze7 zom:=mkS Tryz.f98
theorem znx : Src Tryz.prog zee zns:=mkS Tryz.f99
theorem zj3 : Src Tryz.prog zcM zjN:=mkS Tryz.f100
theorem zjn : Src Tryz.prog zdS zjB:=mkS Tryz.f101
theorem zkA : Src Tryz.prog zen zkO:=mkS Tryz.f102
theorem znG : Src Tryz.prog zfU zmP:=mkS Tryz.f103
theorem ziT : Src Tryz.prog zcr ziB:=mkS Tryz.f104
theorem zg4 : Src Tryz.prog za9 zg2:=mkS Tryz.f105
theorem zky : Src Tryz.prog zdi zkG:=mkS Tryz.f106
theorem znX : Src Tryz.prog zfZ znF:=mkS Tryz.f107
theorem zcw : Src Tryz.prog zaU zcx:=mkS Tryz.f108
theorem zkh : Src Tryz.prog zcP zjr:=mkS Tryz.f109
theorem zn5 : Src Tryz.prog zfx zny:=mkS Tryz.f110
theorem zkZ : Src Tryz.prog zdf zkR:=mkS Tryz.f115
theorem zlX : Src Tryz.prog zfc zlS:=mkS Tryz.f116
theorem zrt : Src Tryz.prog zgR zrX:=mkS Tryz.f117
theorem zql : Src Tryz.prog zf5 zrb:=mkS Tryz.f118
theorem zfT : Src Tryz.prog zbs zfG:=mkS Tryz.f119
theorem ziY : Src Tryz.prog zaH ziK:=mkS Tryz.f121
theorem znV : Src Tryz.prog zfX zm6:=mkS Tryz.f125
theorem zoB : Src Tryz.prog zdR zoL:=mkS Tryz.f127
theorem zlQ : Src Tryz.prog zdH zmI:=mkS Tryz.f128
theorem zkL : Src Tryz.prog zdr zkq:=mkS Tryz.f129
theorem zn6 : Src Tryz.prog zbq znE:=mkS Tryz.f133
theorem zjU : Src Tryz.prog zd3 zju:=mkS Tryz.f134
theorem zbS : Src Tryz.prog zaK zbT:=mkS Tryz.f136
theorem zfC : Src Tryz.prog zbt zfL:=mkS Tryz.f137
theorem zoy : Src Tryz.prog zgo zpj:=mkS Tryz.f138
theorem zia : Src Tryz.prog zaG zhV:=mkS Tryz.f148
theorem zo7 : Src Tryz.prog zeT zow:=mkS Tryz.f149
theorem zhz : Src Tryz.prog zba zgS:=mkS Tryz.f150
theorem zfb : Src Tryz.prog zbe zeS:=mkS Tryz.f151
theorem zrg : Src Tryz.prog zhR zqs:=mkS Tryz.f152
theorem zgE : Src Tryz.prog zbL zgA:=mkS Tryz.f153
theorem zk2 : Src Tryz.prog zdm zkJ:=mkS Tryz.f160
theorem zch : Src Tryz.prog zaQ zcf:=mkS Tryz.f161
theorem zoN : Src Tryz.prog zgJ zpk:=mkS Tryz.f162
theorem zeo : Src Tryz.prog zbx zem:=mkS Tryz.f163
theorem zg1 : Src Tryz.prog zbr zg5:=mkS Tryz.f164
theorem zpg : Src Tryz.prog zgs zoO:=mkS Tryz.f165
theorem zgw : Src Tryz.prog zcu zgn:=mkS Tryz.f171
theorem zgC : Src Tryz.prog zcv zgr:=mkS Tryz.f174
theorem zcI : Src Tryz.prog zaL zcJ:=mkS Tryz.f176
theorem zkP : Src Tryz.prog zdn zkr:=mkS Tryz.f177
theorem znJ (g : Gr) (key : Int) (hl : g.edges.length ≤ 1099511627776) : zak Tryz.prog zhK [eG g,.I key] [] (.rs 0 0 (outs g.edges key).length) [some ⟨1,(outs g.edges key).map fun n=>[AV.I n],0⟩]:=by
 refine zqI.acalls (nbz rfl) (nbz rfl) (Nat.zero_le _) ?_
 show awp _ 0 _ _ ⟨32,[(0,eG g),(1,.I key)],[],16⟩
 refine zab ?_
 refine zag (s:=?s0) rfl ?o0 ?q0
 case o0=>simp; rfl
 refine zab ?_
 refine zag (s:=?s1) rfl ?o1 ?q1
 case o1=>simp; rfl
 refine zab ?_
 refine zab ?_
 refine zag (s:=?s2) rfl ?o2 ?q2
 case o2=>simp; rfl
 refine zaf ?_
 refine zao (ι:=Nat) (fun k=>⟨32,[(1,.I key),(2,.pv (gC g)),(5,.rs 16 0 (outs (g.edges.take k) key).length),(6,.I k)],[(16,some ⟨1,(outs (g.edges.take k) key).map fun n=>[AV.I n],0⟩)],24⟩) (fun k=>k ≤ g.edges.length) (fun k=>g.edges.length - k) (0) ?_ (Le.lst [] [16] [(16,1)] rfl (by simp) (by simp) (by simp) (by simp) (by simp) (by simp) (by simp) (by simp [Up,outs]) (by simp [outs])) ?_
 ·simp
 rintro k hk
 have hol : (outs (g.edges.take k) key).length ≤ k:=Nat.le_trans (zjw _ _) (by simp; exact Nat.min_le_left _ _)
 refine zab ?_
 refine zab ?_
 refine zag (s:=?s3) rfl ?o3 ?q3
 case o3=>simp; rfl
 refine zac _ rfl (fun h4=>?_) fun h4=>?_
 ·try simp at h4
  have hw2 : IntKind.i64.wrap ((k : Int) + 1) = (k : Int) + 1:=w64 (by omega) (by omega)
  have hwp : 0 < k → IntKind.i64.wrap ((k : Int) - 1) = ((k - 1 : Nat) : Int):=fun h=>by rw [w64 (by omega) (by omega)]; omega
  have hkp : k - 1 < g.edges.length:=by omega
  refine zad ?_
  refine zab ?_
  refine zaf ?_
  refine zab ?_
  refine zag (s:=?s5) rfl ?o5 ?q5
  case o5=>simp [h4,hw2,hwp,hkp]; rfl
  refine zac _ rfl (fun h6=>?_) fun h6=>?_
  ·try simp at h6
   refine zag (s:=?s7) rfl ?o7 ?q7
   case o7 =>
    simp [h4,hw2,hwp,hkp,List.replicate]
    refine ⟨by omega,by omega,?_⟩
    rfl
   refine zag (s:=?s8) rfl ?o8 ?q8
   case o8=>simp [h4,hw2,hwp,hkp]; rfl
   have hs:=zhC g.edges key k h4
   rw [if_pos h6] at hs
   refine ⟨k + 1,h4,by omega,Le.ren1 192 16 [] rfl rfl (nbz rfl) (by decide) rfl (by simp [hs,fcd,zaj]) (by simp) (by simp [hs,hw2])⟩
  try simp at h6
  refine zad ?_
  refine zag (s:=?s9) rfl ?o9 ?q9
  case o9=>simp [h4,hw2,hwp,hkp]; rfl
  have hs:=zhC g.edges key k h4
  rw [if_neg h6,List.append_nil] at hs
  refine ⟨k + 1,h4,by omega,Le.var1 16 [] rfl rfl (nbz rfl) (by decide) rfl (by simp [hs,fcd,zaj]) (by simp) (by simp [hs,hw2])⟩
 try simp at h4
 have hkl : k = g.edges.length:=by omega
 subst hkl
 refine zam ?_
 refine hit ?_
 refine zab ?_
 refine zag (s:=?s10) rfl ?o10 ?q10
 case o10=>simp; rfl
 refine zah ?_
 exact ⟨.inr rfl,zan.out [16] [] rfl (by simp) (by simp) (by simp) (by simp [fcd])⟩
def modI (n m : Int) : Int:=if m < 1 then 0 else n % m
theorem zrG {n m : Int} (hm : 0 < m) : n.tmod m % m = n % m:=by
 have h:=Int.mul_tdiv_add_tmod n m
 conv=>rhs; rw [← h]
 rw [Int.add_comm,Int.add_mul_emod_self_left]
theorem zqA {n m : Int} (hm : 0 < m) : -m < n.tmod m ∧ n.tmod m < m:=⟨Int.lt_tmod_of_pos n hm,Int.tmod_lt_of_pos n hm⟩
def zeu (L : List Int) (a : Nat) (n : Int) : Int × Nat:=if h : a < L.length then (modI L[a] n,a + 1) else (0,a)
abbrev dice (L : List Int) (a : Nat) : Ent:=⟨2,[[ints L,.I a]],0⟩
theorem zan.k1 {rs : List (Nat × Option (Bool × Nat))} {st : St} {vs : List AV} {res : AV} {e : Ent} (h1 : zfl st rs = some vs) (hw : Wk (conv [(0,0)] [] st.hp 4 (resV vs)) res) (he : (st.hp 0).map (zax [(0,0)] [] st.hp 4) = some e) : zan rs 1 st res [some e] :=
 ⟨vs,h1,[],[],by decide,by simp,by simp,hw,by simpa using he⟩
theorem zvz (n m : Int) (hm : m ≤ 9223372036854775807) : zak Tryz.prog zka [.I n,.I m] [] (.I (modI n m)) []:=by
 refine zsh.acalls (nbz rfl) (nbz rfl) (Nat.le_refl _) ?_
 show awp _ 0 _ _ ⟨16,[(0,.I n),(1,.I m)],[],16⟩
 refine zab ?_
 refine zag (s:=?s1) rfl ?o1 ?q1
 case o1=>simp; rfl
 refine zab ?_
 refine zab ?_
 refine zag (s:=?s2) rfl ?o2 ?q2
 case o2=>simp; rfl
 refine zac _ rfl (fun h3=>?_) fun h3=>?_
 ·try simp at h3
  refine zab ?_
  refine zag (s:=?s4) rfl ?o4 ?q4
  case o4=>simp; rfl
  refine zah ?_
  exact ⟨.inr rfl,zan.one (by simp [modI,h3])⟩
 try simp at h3
 have hm0 : m ≠ 0:=by omega
 have hlt : ¬ m < 1:=by omega
 obtain ⟨t1,t2⟩:=zqA (n:=n) (m:=m) (by omega)
 have te:=zrG (n:=n) (m:=m) (by omega)
 refine zad ?_
 refine zab ?_
 refine zag (s:=?s5) rfl ?o5 ?q5
 case o5=>simp [hm0]; rfl
 refine zab ?_
 refine zab ?_
 refine zag (s:=?s6) rfl ?o6 ?q6
 case o6=>simp; rfl
 refine zac _ rfl (fun h7=>?_) fun h7=>?_
 ·try simp at h7
  have hw : IntKind.i64.wrap (n.tmod m + m) = n.tmod m + m:=w64 (by omega) (by omega)
  have hr : n % m = n.tmod m + m:=by rw [← te,← Int.add_emod_right,Int.emod_eq_of_lt (by omega) (by omega)]
  refine zag (s:=?s8) rfl ?o8 ?q8
  case o8=>simp [hw]; rfl
  refine zab ?_
  refine zag (s:=?s9) rfl ?o9 ?q9
  case o9=>simp; rfl
  refine zah ?_
  exact ⟨.inr rfl,zan.one (by simp [modI,hlt,hr])⟩
 try simp at h7
 have hr : n % m = n.tmod m:=by rw [← te,Int.emod_eq_of_lt (by omega) (by omega)]
 refine zad ?_
 refine zab ?_
 refine zag (s:=?s10) rfl ?o10 ?q10
 case o10=>simp; rfl
 refine zah ?_
 exact ⟨.inr rfl,zan.one (by simp [modI,hlt,hr])⟩
theorem zuv (L : List Int) : zak Tryz.prog zhH [ints L] [] (.pt 0 0 0) [some (dice L 0)]:=by
 refine zqx.acalls (nbz rfl) (nbz rfl) (Nat.zero_le _) ?_
 show awp _ 0 _ _ ⟨6,[(0,ints L)],[],16⟩
 refine zab ?_
 refine zag (s:=?s1) rfl ?o1 ?q1
 case o1=>simp; rfl
 refine zab ?_
 refine zag (s:=?s2) rfl ?o2 ?q2
 case o2=>simp; rfl
 refine zah ?_
 exact ⟨.inr rfl,zan.out [40] [] rfl (by simp) (by simp) (by simp) (by simp)⟩
theorem zoX (L : List Int) (a : Nat) (n : Int) (hl : L.length ≤ 1099511627776) (ha : a ≤ L.length) (hn : n ≤ 9223372036854775807) : zak Tryz.prog zaD [.pt 0 0 0,.I n] [dice L a] (.I (zeu L a n).1) [some (dice L (zeu L a n).2)]:=by
 refine zkl.acalls (nbz rfl) (nbz rfl) (Nat.le_refl _) ?_
 show awp _ 1 _ _ ⟨35,[(0,.pt 0 0 0),(1,.I n)],[(0,some (dice L a))],16⟩
 refine zab ?_
 refine zag (s:=?s1) rfl ?o1 ?q1
 case o1=>simp; rfl
 refine zab ?_
 refine zab ?_
 refine zel (s:=?s2) (tr:=?t2) rfl ?o2 ?r2 ?q2
 case o2=>simp; constructor <;> rfl
 case r2=>rfl
 refine zac _ rfl (fun h3=>?_) fun h3=>?_
 ·try simp at h3
  refine zab ?_
  refine zag (s:=?s4) rfl ?o4 ?q4
  case o4=>simp; rfl
  refine zah ?_
  have hr : zeu L a n = (0,a):=by unfold zeu; rw [dif_neg (by omega)]
  rw [hr]
  exact ⟨.inr rfl,zan.k1 rfl (by simp) (by simp [fcd])⟩
 try simp at h3
 have hw : IntKind.i64.wrap ((a : Int) + 1) = (a : Int) + 1:=w64 (by omega) (by omega)
 have hw0 : IntKind.i64.wrap (a : Int) = (a : Int):=w64 (by omega) (by omega)
 refine zad ?_
 refine zab ?_
 refine zag (s:=?s5) rfl ?o5 ?q5
 case o5=>simp [hw]; rfl
 refine zab ?_
 refine zel (s:=?s6) (tr:=?t6) rfl ?o6 ?r6 ?q6
 case o6=>simp [hw0,h3]; refine zal (zvz _ _ hn) rfl ?_; simp; constructor <;> rfl
 case r6=>rfl
 refine zah ?_
 have hr : zeu L a n = (modI L[a] n,a + 1):=by unfold zeu; rw [dif_pos h3]
 rw [hr]
 exact ⟨.inr rfl,zan.k1 rfl (by simp) (by simp [fcd])⟩
theorem zui {n m : Int} (hm : 0 < m) : 0 ≤ modI n m ∧ modI n m < m:=by
 unfold modI
 rw [if_neg (by omega)]
 exact ⟨Int.emod_nonneg _ (by omega),Int.emod_lt_of_pos _ hm⟩
theorem zlD {L : List Int} {a : Nat} {n : Int} (hn : 0 < n) : 0 ≤ (zeu L a n).1 ∧ (zeu L a n).1 < n:=by
 unfold zeu
 split
 ·exact zui hn
 ·exact ⟨Int.le_refl _,hn⟩
theorem zmj {L : List Int} {a : Nat} {n : Int} (ha : a ≤ L.length) : (zeu L a n).2 ≤ L.length:=by
 unfold zeu
 split
 ·simp only; omega
 ·exact ha
def ofD (L : List Int) (a : Nat) (l : List Int) : Int:=l.getD (zeu L a l.length).1.toNat 0
theorem zvy (L : List Int) (a : Nat) (n : Int) (hl : L.length ≤ 1099511627776) (ha : a ≤ L.length) (hn0 : 0 ≤ n) (hn : n ≤ 9223372036854775807) : zak Tryz.prog zcj [.pt 0 0 0,.I n] [dice L a] (.B (decide ((zeu L a n).1 = n - 1))) [some (dice L (zeu L a n).2)]:=by
 refine zkD.acalls (nbz rfl) (nbz rfl) (Nat.le_refl _) ?_
 show awp _ 1 _ _ ⟨11,[(0,.pt 0 0 0),(1,.I n)],[(0,some (dice L a))],16⟩
 have hw : IntKind.i64.wrap (n - 1) = n - 1:=w64 (by omega) (by omega)
 refine zab ?_
 refine zag (s:=?s1) rfl ?o1 ?q1
 case o1=>simp; rfl
 refine zab ?_
 refine zag (s:=?s2) rfl ?o2 ?q2
 case o2 =>
  simp
  refine zbl (i:=0) rfl (e':=dice L a) (by simp [fcd]) (zoX L a n hl ha hn) (by simp) (by simp) ?_
  simp [hw,fcd]
  rfl
 refine zah ?_
 exact ⟨.inr rfl,zan.k1 rfl (by simp <;> exact wkB rfl) (by simp [fcd])⟩
theorem zwe (L : List Int) (a : Nat) (l : List Int) (hl : L.length ≤ 1099511627776) (ha : a ≤ L.length) (h0 : 0 < l.length) (hl2 : l.length ≤ 1099511627776) : zak Tryz.prog zb7 [.pt 0 0 0,ints l] [dice L a] (.I (ofD L a l)) [some (dice L (zeu L a l.length).2)]:=by
 refine zml.acalls (nbz rfl) (nbz rfl) (Nat.le_refl _) ?_
 show awp _ 1 _ _ ⟨12,[(0,.pt 0 0 0),(1,ints l)],[(0,some (dice L a))],16⟩
 obtain ⟨q,hq,hql⟩ : ∃ q : Nat,(zeu L a l.length).1 = q ∧ q < l.length:=by
  have:=zlD (L:=L) (a:=a) (n:=l.length) (by omega)
  exact ⟨(zeu L a l.length).1.toNat,by omega,by omega⟩
 have ho : ofD L a l = l[q]:=by unfold ofD; rw [hq]; simp [hql]
 refine zab ?_
 refine zag (s:=?s1) rfl ?o1 ?q1
 case o1=>simp; rfl
 refine zab ?_
 refine zag (s:=?s2) rfl ?o2 ?q2
 case o2 =>
  simp
  refine zbl (i:=0) rfl (e':=dice L a) (by simp [fcd]) (zoX L a l.length hl ha (by omega)) (by simp) (by simp) ?_
  simp [hq,hql,fcd]
  rfl
 refine zah ?_
 rw [ho]
 exact ⟨.inr rfl,zan.k1 rfl (by simp) (by simp [fcd])⟩
section
variable {P : Program} {np id : Nat} {h : Nat → Option Ent} {K : AV → List Nat → List (Nat × Option Ent) → Prop} {s i off len c k l m : Nat}
@[simp] theorem zwF : aK P np id (.slc s true false false) [.rk i off len c,.sc (.int .i64 (k : Int))] h K = (k ≤ len ∧ len ≤ c ∧ (∃ e,h i = some e ∧ e.s = s) ∧ K (.rk i (off + k) (len - k) (c - k)) [i] []):=by
 rw [ziD]
 refine propext ⟨?_,?_⟩
 ·rintro ⟨l,r,m,n,h1,h2,h4,h5,h6,h7,h3,h10,h11,h8,h9⟩
  obtain rfl:=h6 rfl
  simp at h4 h1
  subst h1
  have : k = l:=by omega
  subst this
  obtain rfl:=h11 rfl
  exact ⟨h2,h3,h8,h9⟩
 ·rintro ⟨h1,h2,h3,h4⟩
  exact ⟨k,len,c,len,rfl,h1,by simp,(fun h=>by cases h),fun _=>rfl,(fun h=>by cases h),h2,Nat.le_refl _,fun _=>rfl,h3,h4⟩
@[simp] theorem zwW : aK P np id (.slc s false true false) [.rk i off len c,.sc (.int .i64 (k : Int))] h K = (k ≤ c ∧ (∃ e,h i = some e ∧ e.s = s) ∧ K (.rk i off k c) [i] []):=by
 rw [ziD]
 refine propext ⟨?_,?_⟩
 ·rintro ⟨l,r,m,n,h1,h2,h4,h5,h6,h7,h3,h10,h11,h8,h9⟩
  obtain rfl:=h5 rfl
  simp at h4 h1
  have : k = r:=by omega
  subst this
  obtain rfl:=h11 rfl
  exact ⟨h3,h8,by simpa using h9⟩
 ·rintro ⟨h1,h3,h4⟩
  exact ⟨0,k,c,len,rfl,Nat.zero_le _,by simp,fun _=>rfl,(fun h=>by cases h),(fun h=>by cases h),h1,Nat.le_refl _,fun _=>rfl,h3,by simpa using h4⟩
@[simp] theorem zwy : aK P np id (.slc s true true false) [.rk i off len c,.sc (.int .i64 (l : Int)),.sc (.int .i64 (k : Int))] h K = (l ≤ k ∧ k ≤ c ∧ (∃ e,h i = some e ∧ e.s = s) ∧ K (.rk i (off + l) (k - l) (c - l)) [i] []):=by
 rw [ziD]
 refine propext ⟨?_,?_⟩
 ·rintro ⟨l',r,m,n,h1,h2,h4,h5,h6,h7,h3,h10,h11,h8,h9⟩
  simp at h4 h1
  have : k = r:=by omega
  subst this
  have : l = l':=by omega
  subst this
  obtain rfl:=h11 rfl
  exact ⟨h2,h3,h8,h9⟩
 ·rintro ⟨h1,h2,h3,h4⟩
  exact ⟨l,k,c,len,rfl,h1,by simp,(fun h=>by cases h),(fun h=>by cases h),(fun h=>by cases h),h2,Nat.le_refl _,fun _=>rfl,h3,h4⟩
@[simp] theorem zwD : aK P np id (.slc s true true true) [.rk i off len c,.sc (.int .i64 (l : Int)),.sc (.int .i64 (k : Int)),.sc (.int .i64 (m : Int))] h K = (l ≤ k ∧ k ≤ m ∧ m ≤ c ∧ (∃ e,h i = some e ∧ e.s = s) ∧ K (.rk i (off + l) (k - l) (m - l)) [i] []):=by
 rw [ziD]
 refine propext ⟨?_,?_⟩
 ·rintro ⟨l',r,m',n,h1,h2,h4,h5,h6,h7,h3,h10,h11,h8,h9⟩
  simp at h4 h1
  have : k = r:=by omega
  subst this
  have : l = l':=by omega
  subst this
  have : m = m':=by omega
  subst this
  exact ⟨h2,h3,h10,h8,h9⟩
 ·rintro ⟨h1,h2,h3,h4,h5⟩
  exact ⟨l,k,m,len,rfl,h1,by simp,(fun h=>by cases h),(fun h=>by cases h),(fun _=>rfl),h2,h3,(fun h=>by cases h),h4,h5⟩
@[simp] theorem zwL : aK P np id (.slc s true false false) [.rs i off len,.sc (.int .i64 (k : Int))] h K = (k ≤ len ∧ (∃ e,h i = some e ∧ e.s = s) ∧ K (.rs i (off + k) (len - k)) [i] []):=by
 rw [ziD]
 refine propext ⟨?_,?_⟩
 ·rintro ⟨l,r,m,n,h1,h2,h4,h5,h6,h7,h3,h10,h8,h9⟩
  obtain rfl:=h6 rfl
  simp at h4 h1
  subst h1
  have : k = l:=by omega
  subst this
  exact ⟨h2,h8,h9⟩
 ·rintro ⟨h1,h3,h4⟩
  exact ⟨k,len,0,len,rfl,h1,by simp,(fun h=>by cases h),fun _=>rfl,(fun h=>by cases h),Nat.le_refl _,rfl,h3,h4⟩
@[simp] theorem zwP : aK P np id (.slc s false true false) [.rs i off len,.sc (.int .i64 (k : Int))] h K = (k ≤ len ∧ (∃ e,h i = some e ∧ e.s = s) ∧ K (.rs i off k) [i] []):=by
 rw [ziD]
 refine propext ⟨?_,?_⟩
 ·rintro ⟨l,r,m,n,h1,h2,h4,h5,h6,h7,h3,h10,h8,h9⟩
  obtain rfl:=h5 rfl
  simp at h4 h1
  have : k = r:=by omega
  subst this
  exact ⟨by omega,h8,by simpa using h9⟩
 ·rintro ⟨h1,h3,h4⟩
  exact ⟨0,k,0,len,rfl,Nat.zero_le _,by simp,fun _=>rfl,(fun h=>by cases h),(fun h=>by cases h),h1,rfl,h3,by simpa using h4⟩
end
theorem Le.keep {np : Nat} {st st' : St} (hsz : st'.sz = st.sz) (hn : st.n ≤ st'.n) (ht : ∀ p ∈ st'.t,st.get p.1 = p.2) (hh : ∀ p ∈ st'.h,∀ e,p.2 = some e → st.hp p.1 = some e) : Le np st st':=by
 intro T0 M0 w0 T M a w ok hnp
 have hp : ∀ id e,st'.hp id = some e → st.hp id = some e:=by
  intro id e he
  unfold St.hp at he
  cases hl : lkp st'.h id with
  | none=>rw [hl] at he; cases he
  | some v =>
    rw [hl] at he
    exact hh _ (zbh hl) e he
 refine ⟨T,M,⟨ok.sz.trans hsz.symm,ok.df,fun i=>?_,⟨fun id e he=>ok.hs.ent id e (hp id e he),fun id id' e e' g g' b h1 h2=>ok.hs.inj id id' e e' g g' b (hp _ _ h1) (hp _ _ h2)⟩,fun id g hg=>Nat.lt_of_lt_of_le (ok.dom id g hg) hn,ok.after⟩,Nat.le_trans hnp hn⟩
 unfold St.get at *
 cases hl : lkp st'.t i with
 | none=>exact .dead _ _
 | some v =>
   have:=ht _ (zbh hl)
   simp only at this
   show Rep T w M v _
   rw [← this]
   exact ok.tm i
theorem zan.m1 {rs : List (Nat × Option (Bool × Nat))} {st : St} {vs : List AV} {res : AV} {e : Ent} (i : Nat) (hi : 1 ≤ i) (h1 : zfl st rs = some vs) (hw : Wk (conv [(0,0),(i,1)] [] st.hp 4 (resV vs)) res) (h0 : st.hp 0 = none) (he : (st.hp i).map (zax [(0,0),(i,1)] [] st.hp 4) = some e) : zan rs 1 st res [none,some e] :=
 ⟨vs,h1,[i],[],by simp [List.range,List.range.loop]; omega,by simpa using hi,by simp,by simpa [List.range,List.range.loop] using hw,by simpa [List.range,List.range.loop,h0] using he⟩
theorem GrOk.lt {g : Gr} (h : GrOk g) : ∀ (j i : Nat) (hi : i < g.edges.length) (hj : j < g.edges.length),i < j → Bef g.edges[i] g.edges[j]
 | 0,_,_,_,h0=>by omega
 | j + 1,i,hi,hj,hij=>by
   have h1 : Bef g.edges[j] g.edges[j + 1]:=zj7.1 ((h.2 (j + 1) hj).2.2.2 (by omega))
   rcases Nat.lt_or_ge i j with h2 | h2
   ·have h3:=GrOk.lt h j i hi (by omega) h2
    unfold Bef at *
    omega
   ·obtain rfl : i = j:=by omega
    exact h1
theorem GrOk.mono {g : Gr} (h : GrOk g) (e : Ed) : ∀ (i j : Nat) (hi : i < g.edges.length) (hj : j < g.edges.length),i ≤ j → Bef g.edges[j] e → Bef g.edges[i] e:=by
 intro i j hi hj hij hb
 rcases Nat.lt_or_ge i j with h2 | h2
 ·have h3:=h.lt j i hi hj h2
  unfold Bef at *
  omega
 ·obtain rfl : i = j:=by omega
  exact hb
section
variable {P : Program} {np id : Nat} {h : Nat → Option Ent} {K : AV → List Nat → List (Nat × Option Ent) → Prop} {f : FuncId} {first capt args args' : List AV} {res : AV}
theorem zkm {i j : Nat} {e e' ej : Ent} {hs' : List (Option Ent)} (hij : j ≠ i) (hnp : np ≤ j) (hi : h i = some e) (hj : h j = some ej) (hee : zax [(i,0)] [j] h 4 e = e') (hc : zak P f args' [e'] res hs') (h8 : hs'.length ≤ 9) (he : (first ++ args ++ capt).map (conv [(i,0)] [j] h 4) = args')
  (hk : K (conv (swp [i] id) [] (fun _=>none) 4 res) [i,j] ((hs'.zipIdx.map fun (e,k)=>((i :: (List.range 8).map (id + ·)).getD k 0,e.map (zax (swp [i] id) [] (fun _=>none) 4))) ++ [(j,some { ej with ro:=ej.rows.length })])) : aK P np id .call (.fn (.func f) first capt :: args) h K :=
 ⟨[i],[j],true,args',[e'],res,hs',by simp,by simpa using hij,by simpa using hnp,by rw [show [i].zipIdx = [(i,0)] from rfl,he]; exact zbV _,by rw [show [i].zipIdx = [(i,0)] from rfl]; simpa [hi] using hee,hc,by simpa using h8,.inl rfl,by simpa [swp,hj] using hk⟩
end
theorem ztT {l : List Ed} {e : Ed} {i : Nat} (h : i < idxE l e) (hi : i < l.length) : Bef l[i] e:=by
 have:=List.not_of_lt_findIdx h
 simpa using this
theorem ztt {l : List Ed} {e : Ed} (h : idxE l e < l.length) : ¬ Bef l[idxE l e] e:=by
 have h1 : l.findIdx (fun x=>!decide (Bef x e)) < l.length:=h
 have:=List.findIdx_getElem (w:=h1)
 intro hb
 have h2 : decide (Bef l[l.findIdx (fun x=>!decide (Bef x e))] e) = true:=decide_eq_true hb
 simp only [h2] at this
 cases this
theorem ztU {g : Gr} {e : Ed} (hg : GrOk g) (hf : Fits g e) (h1 : 1 ≤ e.v) (h3 : e.v ≤ 3) (ha : ¬ AtE g.edges (idxE g.edges ⟨e.f,e.t,0⟩) e.f e.t) (hl : g.edges.length < 500) : GrOk (ziX g e):=by
 have hle:=zoR g.edges ⟨e.f,e.t,0⟩
 have hb : ∀ i (hi : i < g.edges.length),i < idxE g.edges ⟨e.f,e.t,0⟩ → Bef g.edges[i] e:=fun i hi h=>by
  have:=ztT h hi
  exact this
 have hn : ∀ (h : idxE g.edges ⟨e.f,e.t,0⟩ < g.edges.length),Bef e g.edges[idxE g.edges ⟨e.f,e.t,0⟩]:=fun h=>by
  have h2:=ztt h
  have h4 : ¬ (g.edges[idxE g.edges ⟨e.f,e.t,0⟩].f = e.f ∧ g.edges[idxE g.edges ⟨e.f,e.t,0⟩].t = e.t):=fun q=>ha ⟨h,q⟩
  simp only [Bef] at h2 ⊢
  omega
 unfold ziX
 generalize idxE g.edges ⟨e.f,e.t,0⟩ = k at *
 have hlen : (g.edges.take k ++ e :: g.edges.drop k).length = g.edges.length + 1:=by simp; omega
 have hget : ∀ i (hi : i < (g.edges.take k ++ e :: g.edges.drop k).length),(g.edges.take k ++ e :: g.edges.drop k)[i] = if h : i < k then g.edges[i]'(by omega) else if h2 : i = k then e else g.edges[i - 1]'(by omega):=by
  intro i hi
  have htl : (g.edges.take k).length = k:=by simp; omega
  by_cases h : i < k
  ·rw [dif_pos h,List.getElem_append_left (by omega),List.getElem_take]
  ·rw [dif_neg h,List.getElem_append_right (by omega)]
   by_cases h2 : i = k
   ·subst h2
    simp [htl]
   ·rw [dif_neg h2]
    rw [List.getElem_cons]
    rw [dif_neg (by omega),List.getElem_drop]
    congr 1
    omega
 refine ⟨⟨hg.1.1,hg.1.2.1,by simp only [hlen]; omega,hg.1.2.2.2⟩,fun i hi=>?_⟩
 simp only at hi
 have hfit : ∀ x : Ed,Fits ⟨g.size,g.edges.take k ++ e :: g.edges.drop k,g.gone⟩ x ↔ Fits g x:=fun x=>Iff.rfl
 simp only [hfit,zj7,hget]
 have hE:=fun j (hj : j < g.edges.length)=>hg.2 j hj
 by_cases h : i < k
 ·simp only [dif_pos h]
  refine ⟨(hE i (by omega)).1,(hE i (by omega)).2.1,(hE i (by omega)).2.2.1,fun h0=>?_⟩
  rw [dif_pos (by omega)]
  exact zj7.1 ((hE i (by omega)).2.2.2 h0)
 ·simp only [dif_neg h]
  by_cases h2 : i = k
  ·subst h2
   simp only [dif_pos]
   refine ⟨hf,h1,h3,fun h0=>?_⟩
   rw [dif_pos (by omega)]
   exact hb _ _ (by omega)
  ·simp only [dif_neg h2]
   refine ⟨(hE (i - 1) (by omega)).1,(hE (i - 1) (by omega)).2.1,(hE (i - 1) (by omega)).2.2.1,fun h0=>?_⟩
   rw [dif_neg (by omega)]
   by_cases h4 : i - 1 = k
   ·rw [dif_pos h4]
    subst h4
    exact hn _
   ·rw [dif_neg h4]
    exact hg.lt _ _ _ _ (by omega)
theorem ztO {g : Gr} {e : Ed} (h : (zct g e).2 = 0) : GrOk g ∧ Fits g e ∧ (1 ≤ e.v ∧ e.v ≤ 3) ∧ ¬ AtE g.edges (idxE g.edges ⟨e.f,e.t,0⟩) e.f e.t ∧ g.edges.length < 500 ∧ (zct g e).1 = ziX g e ∧ GrOk (ziX g e):=by
 have key : GrOk g ∧ Fits g e ∧ (1 ≤ e.v ∧ e.v ≤ 3) ∧ ¬ AtE g.edges (idxE g.edges ⟨e.f,e.t,0⟩) e.f e.t ∧ g.edges.length ≠ 500 ∧ (zct g e).1 = ziX g e:=by
  unfold zct at *
  split at h
  ·simp at h
  split at h
  ·simp at h
  split at h
  ·simp at h
  split at h
  ·simp at h
  split at h
  ·simp at h
  simp_all
 obtain ⟨h1,h2,h3,h4,h5,h6⟩:=key
 have h7 : g.edges.length < 500:=by have:=h1.1.2.2.1; omega
 exact ⟨h1,h2,h3,h4,h7,h6,ztU h1 h2 h3.1 h3.2 h4 h7⟩
theorem zay.eq {nl : List (Nat × Nat)} {e e' : Ent} (h : e = e') (hr : e'.ro ≤ e'.rows.length) : zay nl e e':=by
 subst h
 exact zay.rfl' hr
theorem zay.row {nl : List (Nat × Nat)} {s ro : Nat} {e : Ent} {r r' : List AV} (h : e = ⟨s,[r],ro⟩) (hr : ro ≤ 1) (hu : UpL nl r r') (hs : s ≠ 0:=by decide) : zay nl e ⟨s,[r'],ro⟩:=by
 subst h
 refine ⟨rfl,Nat.le_refl _,hr,.inr ⟨hs,rfl,fun i=>?_⟩⟩
 match i with
 | 0=>exact hu
 | _ + 1=>exact trivial
theorem zt3 {nl : List (Nat × Nat)} : ∀ {xs ys : List AV},WkL xs ys → UpL nl xs ys
 | [],[],_=>trivial
 | _ :: _,_ :: _,h=>⟨.inl h.1,zt3 h.2⟩
 | [],_ :: _,h=>False.elim h
 | _ :: _,[],h=>False.elim h
theorem Le.ents {np : Nat} {st st' : St} (ρ : List (Nat × Nat)) (sn : List Nat) (hsz : st'.sz = st.sz)
  (h0 : (ρ.map (·.1)).Nodup) (h1 : (ρ.map (·.2)).Nodup) (h2 : ∀ p ∈ ρ,p.2 < st'.n ∧ (p.2 < np → p.1 = p.2)) (h4 : ∀ i ∈ sn,np ≤ i ∧ i ∉ ρ.map (·.1)) (h5 : np ≤ st'.n)
  (ht : ∀ p ∈ st'.t,Wk (conv ρ sn st.hp 4 (st.get p.1)) p.2)
  (hh : ∀ p ∈ st'.h,∃ q e e',p.2 = some e' ∧ (q,p.1) ∈ ρ ∧ st.hp q = some e ∧ zay [] (zax ρ sn st.hp 4 e) e') : Le np st st' :=
 Le.lst ρ sn [] hsz h0 h1 h2 (by simp) h4 h5 (by simp) (fun p hp=>.inl (ht p hp)) fun p hp e' he'=>by
  obtain ⟨q,e,e2,h1,h2,h3,h4⟩:=hh p hp
  rw [he'] at h1
  cases h1
  exact .inl ⟨(q,p.1),h2,rfl,e,h3,h4⟩
abbrev zG : Ent:=⟨3,[[.I 0,.nilS,.nilS]],0⟩
def zhx (capt : List AV) : Prop:=∀ ρ sn h n,capt.map (conv ρ sn h (n + 1)) = capt
def idxQ {α : Type} (l : List α) (q : α → Bool) : Int:=if l.findIdx q < l.length then (l.findIdx q : Int) else -1
theorem zmE {α : Type} {l : List α} {q : α → Bool} {k : Nat} (hk : k < l.length) (h1 : ∀ i,i < k → ∀ h : i < l.length,q l[i] = false) (h2 : q l[k] = true) : idxQ l q = k:=by
 have : l.findIdx q = k:=by
  rw [List.findIdx_eq hk]
  exact ⟨h2,fun j hj=>by simpa using h1 j hj (by omega)⟩
 unfold idxQ
 rw [this,if_pos hk]
theorem zmk {α : Type} {l : List α} {q : α → Bool} (h1 : ∀ i,i < l.length → ∀ h : i < l.length,q l[i] = false) : idxQ l q = -1:=by
 have : l.findIdx q = l.length:=by
  rw [List.findIdx_eq_length]
  intro x hx
  obtain ⟨i,hi,rfl⟩:=List.mem_iff_getElem.1 hx
  exact h1 i hi hi
 unfold idxQ
 rw [this,if_neg (by omega)]
theorem zlJ (f : FuncId) (capt : List AV) (q : Ed → Bool) (l : List Ed) (hl : l.length ≤ 1099511627776) (hs : zhx capt) (hc : ∀ e ∈ l,zak Tryz.prog f (eE e :: capt) [] (.B (q e)) []) : zak Tryz.prog zaR [eEs l,.fn (.func f) [] capt] [] (.I (idxQ l q)) []:=by
 have hs2 : ∀ ρ sn h,capt.map (conv ρ sn h 2) = capt:=fun _ _ _=>hs _ _ _ 1
 have hs3 : ∀ ρ sn h,capt.map (conv ρ sn h 3) = capt:=fun _ _ _=>hs _ _ _ 2
 have hs4 : ∀ ρ sn h,capt.map (conv ρ sn h 4) = capt:=fun _ _ _=>hs _ _ _ 3
 refine zcn.acalls (nbz rfl) (nbz rfl) (Nat.le_refl _) ?_
 show awp _ 0 _ _ ⟨19,[(0,eEs l),(1,.fn (.func f) [] capt)],[],16⟩
 refine zab ?_
 refine zag (s:=?s1) rfl ?o1 ?q1
 case o1=>simp; rfl
 refine zab ?_
 refine zab ?_
 refine zag (s:=?s2) rfl ?o2 ?q2
 case o2=>simp; rfl
 refine zaf ?_
 refine zao (ι:=Nat) (fun k=>⟨19,[(0,eEs l),(1,.fn (.func f) [] capt),(7,.I l.length),(8,.I k)],[],16⟩) (fun k=>k ≤ l.length ∧ ∀ i,i < k → ∀ h : i < l.length,q l[i] = false) (fun k=>l.length - k) (0) ?_ (Le.snap [] rfl rfl (by simp [hs2,hs3,hs4])) ?_
 ·simp
 rintro k ⟨hk,hp⟩
 refine zab ?_
 refine zag (s:=?s3) rfl ?o3 ?q3
 case o3=>simp; rfl
 refine zab ?_
 refine zac _ rfl (fun h4=>?_) fun h4=>?_
 ·try simp at h4
  have hw2 : IntKind.i64.wrap ((k : Int) + 1) = (k : Int) + 1:=w64 (by omega) (by omega)
  have hck:=hc l[k] (List.getElem_mem h4)
  refine zad ?_
  refine zab ?_
  refine zaf ?_
  refine zab ?_
  refine zag (s:=?s5) rfl ?o5 ?q5
  case o5=>simp [h4,hw2]; rfl
  refine zab ?_
  refine zag (s:=?s6) rfl ?o6 ?q6
  case o6 =>
   simp [h4,hw2]
   refine zal hck ?_ ?_
   ·simp [hs2,hs3,hs4]
   simp [h4,hw2]; rfl
  refine zac _ rfl (fun h7=>?_) fun h7=>?_
  ·try simp at h7
   refine zab ?_
   refine zag (s:=?s8) rfl ?o8 ?q8
   case o8=>simp [h4,hw2]; rfl
   refine zah ?_
   exact ⟨.inr rfl,zan.one (by simp [zmE h4 hp h7])⟩
  try simp at h7
  refine zad ?_
  refine zag (s:=?s9) rfl ?o9 ?q9
  case o9=>simp [h4,hw2]; rfl
  refine ⟨k + 1,⟨h4,fun i hi=>?_⟩,by omega,Le.snap [] rfl rfl (by simp [h4,hw2,hs2,hs3,hs4])⟩
  rcases Nat.lt_succ_iff_lt_or_eq.1 hi with h | rfl
  ·exact hp i h
  ·exact fun _=>h7
 try simp at h4
 have hall : ∀ i,i < l.length → ∀ h : i < l.length,q l[i] = false:=fun i hi=>hp i (by omega)
 refine zam ?_
 refine hit ?_
 refine zab ?_
 refine zag (s:=?s10) rfl ?o10 ?q10
 case o10=>simp; rfl
 refine zah ?_
 exact ⟨.inr rfl,zan.one (by simp [zmk hall])⟩
abbrev zaW (l : List Ed) : List (List AV):=l.map fun e=>[AV.I e.f,AV.I e.t,AV.I e.v]
theorem zgZ {l : List Ed} {q : Ed → Bool} (h : ∀ i,i < l.length → ∀ h : i < l.length,q l[i] = false) : l.filter (fun e=>!q e) = l:=by
 rw [List.filter_eq_self]
 intro x hx
 obtain ⟨i,hi,rfl⟩:=List.mem_iff_getElem.1 hx
 simp [h i hi hi]
theorem zfm (l : List Ed) (q : Ed → Bool) (j : Nat) (h : j < l.length) : (l.take (j + 1)).filter (fun e=>!q e) = (l.take j).filter (fun e=>!q e) ++ if q l[j] = true then [] else [l[j]]:=by
 rw [← List.take_concat_get h,List.concat_eq_append,List.filter_append]
 congr 1
 cases hq : q l[j] <;> simp [hq]
set_option maxRecDepth 100000 in
theorem zkT (f : FuncId) (capt : List AV) (q : Ed → Bool) (l : List Ed) (n m : Nat) (hn : l.length = n) (hm : (l.filter fun e=>!q e).length = m) (hl : n ≤ 1099511627776) (hs : zhx capt) (hc : ∀ e ∈ l,zak Tryz.prog f (eE e :: capt) [] (.B (q e)) []) :
  zak Tryz.prog zaP [.rs 0 0 n,.fn (.func f) [] capt] [⟨3,zaW l,0⟩] (.rs 0 0 m) [some ⟨3,zaW (l.filter fun e=>!q e) ++ List.replicate (n - m) [.I 0,.I 0,.I 0],0⟩]:=by
 have hs2 : ∀ ρ sn h,capt.map (conv ρ sn h 2) = capt:=fun _ _ _=>hs _ _ _ 1
 have hs3 : ∀ ρ sn h,capt.map (conv ρ sn h 3) = capt:=fun _ _ _=>hs _ _ _ 2
 have hs4 : ∀ ρ sn h,capt.map (conv ρ sn h 4) = capt:=fun _ _ _=>hs _ _ _ 3
 refine zcg.acalls (nbz rfl) (nbz rfl) (nbz rfl) ?_
 show awp _ 1 _ _ ⟨42,[(0,.rs 0 0 n),(1,.fn (.func f) [] capt)],[(0,some ⟨3,zaW l,0⟩)],16⟩
 have hmn : m ≤ n:=by rw [← hm,← hn]; exact List.length_filter_le _ _
 refine zaa ⟨42,[(0,.rs 0 0 n),(1,.fn (.func f) [] capt)],[(0,some ⟨3,zaW l,0⟩)],24⟩ rfl ?_ ?_
 ·simp
  exact Le.keep rfl (Nat.le_refl _) (by simp) (by simp)
 refine zaa ⟨42,[(0,.rs 0 0 n),(1,.fn (.func f) [] capt),(5,.I (idxQ l q))],[(0,some ⟨3,zaW l,0⟩)],56⟩ rfl ?_ ?_
 ·simp
  refine zeG [0] (zlJ f capt q l (by omega) hs hc) ?_ (.sc _) ?_
  ·simp [hs2,hs3,hs4,← hn,fcd,zaj]
  simp
  exact Le.keep rfl (Nat.le_refl _) (by simp) (by simp)
 refine zab ?_
 refine zaa ⟨42,[(0,.rs 0 0 n),(1,.fn (.func f) [] capt),(5,.I (idxQ l q)),(12,.B (decide (idxQ l q = -1)))],[(0,some ⟨3,zaW l,0⟩)],72⟩ rfl ?_ ?_
 ·simp
  exact Le.keep rfl (Nat.le_refl _) (by simp <;> rw [Bool.eq_iff_iff] <;> simp) (by simp)
 refine zac _ rfl (fun h=>?_) fun h=>zad ?_
 ·simp only [decide_eq_true_eq] at h
  have hno : ∀ i,i < l.length → ∀ h : i < l.length,q l[i] = false:=by
   intro i hi _
   unfold idxQ at h
   split at h
   ·omega
   ·rename_i hnl
    have : l.findIdx q = l.length:=by have:=List.findIdx_le_length (xs:=l) (p:=q); omega
    rw [List.findIdx_eq_length] at this
    exact this _ (List.getElem_mem hi)
  have hf:=zgZ hno
  rw [hf] at hm ⊢
  obtain rfl : n = m:=by omega
  refine zab ?_
  refine zag (s:=?s1) rfl ?o1 ?q1
  case o1=>simp; rfl
  refine zah ?_
  refine ⟨.inr rfl,⟨[.rs 0 0 n],rfl,[],[],by simp [List.range,List.range.loop],by simp,by simp,?_,?_⟩⟩
  ·simp [List.range,List.range.loop]
  ·simp [List.range,List.range.loop,fcd]
 simp only [decide_eq_false_iff_not] at h
 obtain ⟨i0,hi0,hlt,hbef,hat⟩ : ∃ i0 : Nat,idxQ l q = i0 ∧ i0 < l.length ∧ (∀ i,i < i0 → ∀ h : i < l.length,q l[i] = false) ∧ ∀ h : i0 < l.length,q l[i0] = true:=by
  unfold idxQ at h ⊢
  split at h
  ·rename_i hlt
   refine ⟨l.findIdx q,by rw [if_pos hlt],hlt,fun i hi _=>?_,fun h=>List.findIdx_getElem (w:=h)⟩
   simpa using List.not_of_lt_findIdx hi
  ·omega
 rw [hi0]
 have hA0 : (l.take (i0 + 1)).filter (fun e=>!q e) = l.take i0:=by
  rw [zfm l q i0 hlt,if_pos (hat hlt),List.append_nil]
  refine zgZ fun i hi h=>?_
  rw [List.length_take] at hi
  simp only [List.getElem_take]
  exact hbef i (by omega) (by omega)
 have hw0 : IntKind.i64.wrap ((i0 : Int) + 1) = ((i0 + 1 : Nat) : Int):=by rw [w64 (by omega) (by omega)]; omega
 let C : Nat × List Ed → St:=fun p=>⟨42,[(0,.rs 0 0 n),(1,.fn (.func f) [] capt),(5,.I ((l.take p.1).filter fun e=>!q e).length),(6,.I p.1)],[(0,some ⟨3,zaW ((l.take p.1).filter (fun e=>!q e) ++ p.2 ++ l.drop p.1),0⟩)],96⟩
 refine zab ?_
 refine zaa (C (i0 + 1,[l[i0]])) rfl ?_ ?_
 ·simp [hw0]
  refine Le.keep rfl (Nat.le_refl _) ?_ ?_
  ·simp only [C,hA0]
   simp
   omega
  ·simp only [C,hA0]
   simp
 refine zaf ?_
 refine zao C (fun p : Nat × List Ed=>p.1 ≤ n ∧ p.2 ≠ [] ∧ ((l.take p.1).filter fun e=>!q e).length + p.2.length = p.1) (fun p : Nat × List Ed=>n - p.1) (i0 + 1,[l[i0]]) ?_ (Le.refl _ _) ?_
 ·simp only [hA0]
  simp
  omega
 rintro ⟨j,M⟩ ⟨hj,hM,hlen⟩
 simp only at hj hM hlen ⊢
 obtain ⟨A,hA⟩ : ∃ A,A = (l.take j).filter fun e=>!q e:=⟨_,rfl⟩
 rw [← hA] at hlen
 have hC : C (j,M) = ⟨42,[(0,.rs 0 0 n),(1,.fn (.func f) [] capt),(5,.I A.length),(6,.I j)],[(0,some ⟨3,zaW (A ++ M ++ l.drop j),0⟩)],96⟩:=by subst hA; rfl
 rw [hC]
 refine zab ?_
 refine zaa ⟨42,[(0,.rs 0 0 n),(1,.fn (.func f) [] capt),(5,.I A.length),(6,.I j),(19,.B (decide (j < n)))],[(0,some ⟨3,zaW (A ++ M ++ l.drop j),0⟩)],128⟩ rfl ?_ ?_
 ·simp
  exact Le.keep rfl (Nat.le_refl _) (by simp) (by simp)
 refine zac _ rfl (fun h=>zad ?_) fun h=>zam (hit ?_)
 ·simp only [decide_eq_true_eq] at h
  have hjl : j < l.length:=by omega
  match M,hM,hlen with
  | m0 :: M1,_,hlen =>
  simp only [List.length_cons] at hlen
  have hnext:=zfm l q j hjl
  rw [← hA] at hnext
  have hget : (zaW (A ++ m0 :: M1 ++ l.drop j))[j]? = some [AV.I l[j].f,AV.I l[j].t,AV.I l[j].v]:=by
   rw [List.getElem?_map,List.getElem?_append_right (by simp; omega),List.getElem?_drop,show j + (j - (A ++ m0 :: M1).length) = j by simp; omega,List.getElem?_eq_getElem hjl]
   rfl
  have hget2 : (zaW (A ++ m0 :: M1 ++ l.drop j))[A.length]? = some [AV.I m0.f,AV.I m0.t,AV.I m0.v]:=by
   rw [List.getElem?_map,List.append_assoc,List.getElem?_append_right (by omega)]
   simp
  have hset : (zaW (A ++ m0 :: M1 ++ l.drop j)).set A.length [AV.I l[j].f,AV.I l[j].t,AV.I l[j].v] = zaW ((A ++ [l[j]]) ++ (M1 ++ [l[j]]) ++ l.drop (j + 1)):=by
   have e1 : l.drop j = l[j] :: l.drop (j + 1):=List.drop_eq_getElem_cons hjl
   rw [e1]
   simp [zaW,List.set_append]
  have hmore : A ++ m0 :: M1 ++ l.drop j = A ++ (m0 :: M1 ++ [l[j]]) ++ l.drop (j + 1):=by
   have e1 : l.drop j = l[j] :: l.drop (j + 1):=List.drop_eq_getElem_cons hjl
   rw [e1]
   simp
  generalize hrows : zaW (A ++ m0 :: M1 ++ l.drop j) = R at *
  have hRl : R.length = n:=by rw [← hrows]; simp; omega
  have hck:=hc l[j] (List.getElem_mem hjl)
  generalize hv : l[j] = v at *
  refine zaI (ι:=List Ed × List Ed) (fun p=>⟨42,[(0,.rs 0 0 n),(1,.fn (.func f) [] capt),(5,.I p.1.length),(6,.I j)],[(0,some ⟨3,zaW (p.1 ++ p.2 ++ l.drop (j + 1)),0⟩)],272⟩)
   (fun p=>p.1 = (l.take (j + 1)).filter (fun e=>!q e) ∧ p.2 ≠ [] ∧ p.1.length + p.2.length = j + 1) ?_ ?_
  ·refine zaf ?_
   refine zaa ⟨42,[(0,.rs 0 0 n),(1,.fn (.func f) [] capt),(5,.I A.length),(6,.I j),(7,.pt 160 0 0)],[(0,some ⟨3,R,0⟩),(160,some ⟨3,[[.I v.f,.I v.t,.I v.v]],0⟩)],176⟩ rfl ?_ ?_
   ·simp [h,hget]
    exact Le.keep rfl (Nat.le_refl _) (by simp) (by simp)
   refine zaa ⟨42,[(0,.rs 0 0 n),(1,.fn (.func f) [] capt),(5,.I A.length),(6,.I j),(7,.pt 160 0 0),(29,.B (!q v))],[(0,some ⟨3,R,0⟩),(160,some ⟨3,[[.I v.f,.I v.t,.I v.v]],0⟩)],208⟩ rfl ?_ ?_
   ·simp
    refine zal hck ?_ ?_
    ·simp [hs2,hs3,hs4]
    simp
    exact Le.keep rfl (Nat.le_refl _) (by simp) (by simp)
   refine zac _ rfl (fun h5=>?_) fun h5=>zad ?_
   ·simp only [Bool.not_eq_true'] at h5
    rw [h5] at hnext
    refine zaa ⟨42,[(0,.rs 0 0 n),(1,.fn (.func f) [] capt),(5,.I A.length),(6,.I j)],[(0,some ⟨3,zaW ((A ++ [v]) ++ (M1 ++ [v]) ++ l.drop (j + 1)),0⟩)],248⟩ rfl ?_ ?_
    ·simp [hget2,show A.length < n by omega,zaw,hset]
     exact Le.keep rfl (Nat.le_refl _) (by simp) (by simp)
    have hwA : IntKind.i64.wrap ((A.length : Int) + 1) = ((A.length + 1 : Nat) : Int):=by rw [w64 (by omega) (by omega)]; omega
    refine zar rfl ?_
    simp [hwA]
    refine ⟨A ++ [v],M1 ++ [v],⟨by rw [hnext]; simp,by simp,by simp; omega⟩,Le.keep rfl (Nat.le_refl _) (by simp) (by simp)⟩
   ·simp only [Bool.not_eq_false'] at h5
    rw [h5] at hnext
    refine ⟨(A,m0 :: M1 ++ [v]),⟨by rw [hnext]; simp,by simp,by simp; omega⟩,Le.keep rfl (nbz rfl) (by simp) ?_⟩
    rw [← hmore,hrows]
    simp
  rintro ⟨A',M'⟩ ⟨p1,p2,p3⟩
  simp only at p1 p2 p3 ⊢
  have hwj : IntKind.i64.wrap ((j : Int) + 1) = ((j + 1 : Nat) : Int):=by rw [w64 (by omega) (by omega)]; omega
  refine zar rfl ?_
  simp [hwj]
  refine ⟨j + 1,M',⟨by omega,p2,by rw [← p1]; omega⟩,by omega,?_⟩
  have hD : C (j + 1,M') = ⟨42,[(0,.rs 0 0 n),(1,.fn (.func f) [] capt),(5,.I A'.length),(6,.I ((j + 1 : Nat) : Int))],[(0,some ⟨3,zaW (A' ++ M' ++ l.drop (j + 1)),0⟩)],96⟩:=by rw [p1]
  rw [hD]
  refine Le.ents [(0,0)] [] rfl (by simp) (by simp) (by simp) (by simp) (by simp) (by simp [hs2,hs3,hs4]) fun p hp=>?_
  simp at hp
  subst hp
  exact ⟨0,_,_,rfl,by simp,rfl,zay.eq (by simp [fcd]) (by simp)⟩
 simp only [decide_eq_false_iff_not] at h
 obtain rfl : j = n:=by omega
 have hd : l.drop j = []:=List.drop_eq_nil_of_le (by omega)
 have ht : l.take j = l:=List.take_of_length_le (by omega)
 rw [ht] at hA
 rw [hd,List.append_nil]
 rw [← hA] at hm ⊢
 subst hm
 have hAM : (zaW (A ++ M)).take A.length = zaW A:=by simp [zaW]
 have hAd : (zaW (A ++ M)).drop (A.length + (j - A.length)) = []:=List.drop_eq_nil_of_le (by simp; omega)
 have hAl : (zaW (A ++ M)).length = j:=by simp; omega
 generalize zaW (A ++ M) = R at *
 refine zaa ⟨42,[(0,.rs 0 0 j),(5,.I A.length)],[(0,some ⟨3,zaW A ++ List.replicate (j - A.length) [.I 0,.I 0,.I 0],0⟩)],160⟩ rfl ?_ ?_
 ·simp
  refine ⟨by omega,by omega,?_⟩
  rw [hAM,hAd]
  exact Le.keep rfl (Nat.le_refl _) (by simp) (by simp)
 refine zab ?_
 refine zag (s:=?s2) rfl ?o2 ?q2
 case o2 =>
  simp
  refine ⟨by omega,?_⟩
  rfl
 refine zah ?_
 refine ⟨.inr rfl,⟨[.rs 0 0 A.length],rfl,[],[],by simp [List.range,List.range.loop],by simp,by simp,?_,?_⟩⟩
 ·simp [List.range,List.range.loop]
 ·simp [List.range,List.range.loop,fcd]
def zai (g : Gr) (v : Int) : Gr:=⟨g.size,g.edges.filter fun e=>!decide (e.v < v),g.gone⟩
theorem zif (e : Ed) (v : Int) : zak Tryz.prog zcR [eE e,.pv [.I v]] [] (.B (decide (e.v < v))) []:=by
 refine zjb.acalls (nbz rfl) (nbz rfl) (Nat.le_refl _) ?_
 show awp _ 0 _ _ ⟨8,[(0,eE e),(1,.pv [.I v])],[],16⟩
 refine zaa ⟨8,[(1,.pv [.I v]),(2,.pv (eC e))],[],16⟩ rfl ?_ ?_
 ·simp
  exact Le.snap [16] rfl rfl (by simp)
 refine zab ?_
 refine zag (s:=?s1) rfl ?o1 ?q1
 case o1=>simp; rfl
 refine zah ?_
 exact ⟨.inr rfl,zan.one (by simp)⟩
set_option maxRecDepth 100000 in
theorem zdq (g : Gr) (v : Int) (hl : g.edges.length ≤ 1099511627776) (hl2 : g.gone.length ≤ 1099511627776) : zak Tryz.prog zcG [eG g,.I v] [] (eG (zai g v)) []:=by
 refine znz.acalls (nbz rfl) (nbz rfl) (Nat.le_refl _) ?_
 show awp _ 0 _ _ ⟨14,[(0,eG g),(1,.I v)],[],16⟩
 obtain ⟨E,hE⟩ : ∃ E,E = g.edges.filter fun e=>!decide (e.v < v):=⟨_,rfl⟩
 have hEl : E.length ≤ g.edges.length:=by rw [hE]; exact List.length_filter_le _ _
 have hdel:=zkT zcR [.pv [.I v]] (fun e=>decide (e.v < v)) g.edges g.edges.length E.length rfl (by rw [hE]) hl (fun ρ sn h n=>by simp) (fun e _=>zif e v)
 rw [← hE] at hdel
 have hres : zai g v = ⟨g.size,E,g.gone⟩:=by rw [hE]; rfl
 rw [hres]
 refine zaa ⟨14,[(2,.pv (gC g)),(3,.pt 24 0 0),(4,.pt 32 0 0)],[(24,some ⟨1,[[.I v]],0⟩),(32,some zG)],40⟩ rfl ?_ ?_
 ·simp
  refine Le.ents [(24,24),(32,32)] [16] rfl (by simp) (by simp) (by simp) (by simp) (by simp) (by simp) fun p hp=>?_
  simp at hp
  rcases hp with rfl | rfl
  ·exact ⟨24,_,_,rfl,by simp,rfl,zay.eq (by simp) (by simp)⟩
  ·exact ⟨32,_,_,rfl,by simp,rfl,zay.eq (by simp) (by simp)⟩
 refine zaa ⟨14,[(3,.pt 24 0 0),(4,.pt 32 0 0),(5,.pt 56 0 0)],[(24,some ⟨1,[[.I v]],0⟩),(32,some zG),(56,some ⟨3,[[.I g.size,.rs 48 0 g.edges.length,.rs 49 0 g.gone.length]],0⟩),(48,some ⟨3,zaW g.edges,0⟩),(49,some ⟨1,g.gone.map fun n=>[AV.I n],0⟩)],72⟩ rfl ?_ ?_
 ·simp
  refine zpr (zjZ g (by omega) (by omega)) rfl ?_
  simp [fcd]
  exact Le.keep rfl (Nat.le_refl _) (by simp) (by simp)
 refine zaa ⟨14,[(4,.pt 32 0 0),(5,.pt 56 0 0)],[(32,some zG),(56,some ⟨3,[[.I g.size,.rs 48 0 E.length,.rs 49 0 g.gone.length]],0⟩),(48,some ⟨3,zaW E ++ List.replicate (g.edges.length - E.length) [.I 0,.I 0,.I 0],0⟩),(49,some ⟨1,g.gone.map fun n=>[AV.I n],0⟩)],120⟩ rfl ?_ ?_
 ·simp
  refine zkm (i:=48) (j:=24) (by decide) (Nat.zero_le _) rfl rfl ?_ hdel (by simp) ?_ ?_
  ·simp [fcd]
  ·simp
  simp [fcd]
  exact Le.keep rfl (Nat.le_refl _) (by simp) (by simp)
 refine zab ?_
 refine zag (s:=?s21) rfl ?o21 ?q21
 case o21=>simp; rfl
 refine zah ?_
 refine ⟨.inr rfl,?_⟩
 show zan [(4,some (true,3))] 0 _ _ _
 refine zan.out (vs:=[.agg [.I g.size,.rs 48 0 E.length,.rs 49 0 g.gone.length]]) [] [48,49] (by simp) (by simp) (by simp) ?_ (by simp)
 simp [fcd,zaj]
theorem zmY (l : List Ed) (v : Int) (k : Nat) (h : k < l.length) : (l.take (k + 1)).filter (fun e=>!decide (e.v < v)) = (l.take k).filter (fun e=>!decide (e.v < v)) ++ if v ≤ l[k].v then [l[k]] else []:=by
 rw [← List.take_concat_get h,List.concat_eq_append,List.filter_append]
 congr 1
 by_cases hq : v ≤ l[k].v
 ·have : ¬ l[k].v < v:=by omega
  simp [hq,this]
 ·have : l[k].v < v:=by omega
  simp [hq,this]
set_option maxRecDepth 100000 in
theorem zcl (g : Gr) (v : Int) (hl : g.edges.length ≤ 1099511627776) (hl2 : g.gone.length ≤ 1099511627776) : zak Tryz.prog zb3 [eG g,.I v] [] (eG (zai g v)) []:=by
 refine zne.acalls (nbz rfl) (nbz rfl) (Nat.le_refl _) ?_
 show awp _ 0 _ _ ⟨36,[(0,eG g),(1,.I v)],[],16⟩
 refine zaa ⟨36,[(1,.I v),(2,.pv (gC g)),(4,.pt 24 0 0)],[(24,some zG)],32⟩ rfl ?_ ?_
 ·simp
  refine Le.ents [(24,24)] [16] rfl (by simp) (by simp) (by simp) (by simp) (by simp) (by simp) fun p hp=>?_
  simp at hp
  subst hp
  exact ⟨24,_,_,rfl,by simp,rfl,zay.eq (by simp) (by simp)⟩
 refine zaa ⟨36,[(1,.I v),(2,.pv (gC g)),(4,.pt 24 0 0),(5,.pt 48 0 0)],[(24,some zG),(48,some ⟨3,[[.I g.size,.rs 40 0 g.edges.length,.rs 41 0 g.gone.length]],0⟩),(40,some ⟨3,zaW g.edges,0⟩),(41,some ⟨1,g.gone.map fun n=>[AV.I n],0⟩)],64⟩ rfl ?_ ?_
 ·simp
  refine zpr (zfh g (by omega) (by omega)) rfl ?_
  simp [fcd]
  exact Le.keep rfl (Nat.le_refl _) (by simp) (by simp)
 refine zaa ⟨36,[(1,.I v),(2,.pv (gC g)),(4,.pt 24 0 0),(5,.pt 48 0 0)],[(24,some zG),(48,some ⟨3,[[.I g.size,.nilS,ints g.gone]],0⟩)],80⟩ rfl ?_ ?_
 ·simp
  refine Le.ents [(24,24),(48,48)] [41] rfl (by simp) (by simp) (by simp) (by simp) (by simp) (by simp) fun p hp=>?_
  simp at hp
  rcases hp with rfl | rfl
  ·exact ⟨24,_,_,rfl,by simp,rfl,zay.eq (by simp) (by simp)⟩
  ·exact ⟨48,_,_,rfl,by simp,rfl,zay.eq (by simp [zaw,fcd,zaj]) (by simp)⟩
 refine zab ?_
 refine zaa ⟨36,[(1,.I v),(2,.pv (gC g)),(4,.pt 24 0 0),(5,.pt 48 0 0),(6,.I 0)],[(24,some zG),(48,some ⟨3,[[.I g.size,.nilS,ints g.gone]],0⟩)],88⟩ rfl ?_ ?_
 ·simp
  exact Le.keep rfl (Nat.le_refl _) (by simp) (by simp)
 refine zaf ?_
 let F : Nat → List Ed:=fun k=>(g.edges.take k).filter fun e=>!decide (e.v < v)
 let C : Nat → St:=fun k=>⟨36,[(1,.I v),(2,.pv (gC g)),(4,.pt 24 0 0),(5,.pt 48 0 0),(6,.I k)],[(24,some zG),(48,some ⟨3,[[.I g.size,.rs 16 0 (F k).length,ints g.gone]],0⟩),(16,some ⟨3,zaW (F k),0⟩)],88⟩
 refine zao C (fun k=>k ≤ g.edges.length) (fun k=>g.edges.length - k) 0 (Nat.zero_le _) ?_ ?_
 ·refine Le.lst [(24,24),(48,48)] [] [(16,3)] rfl (by simp) (by simp) (by simp [C]) (by simp [C]) (by simp) (by simp) (by simp) (by simp [C,Up]) fun p hp e' he'=>?_
  simp [C] at hp
  rcases hp with rfl | rfl | rfl
  ·cases he'
   exact .inl ⟨(24,24),by simp,rfl,_,rfl,zay.eq (by simp) (by simp)⟩
  ·cases he'
   refine .inl ⟨(48,48),by simp,rfl,_,rfl,zay.row (by simp; rfl) (by simp) ?_⟩
   exact ⟨.inl (.refl _),.inr ⟨rfl,16,3,by simp [F],by simp⟩,.inl (.refl _),trivial⟩
  ·cases he'
   exact .inr ⟨by simp,by simp [F],rfl⟩
 intro k hk
 have hFl : (F k).length ≤ k:=by
  have h1 : (F k).length ≤ (g.edges.take k).length:=List.length_filter_le _ _
  simp at h1
  omega
 have hC : C k = ⟨36,[(1,.I v),(2,.pv (gC g)),(4,.pt 24 0 0),(5,.pt 48 0 0),(6,.I k)],[(24,some zG),(48,some ⟨3,[[.I g.size,.rs 16 0 (F k).length,ints g.gone]],0⟩),(16,some ⟨3,zaW (F k),0⟩)],88⟩:=rfl
 rw [hC]
 refine zab ?_
 refine zaa ⟨36,[(1,.I v),(2,.pv (gC g)),(4,.pt 24 0 0),(5,.pt 48 0 0),(6,.I k),(14,.B (decide (k < g.edges.length)))],[(24,some zG),(48,some ⟨3,[[.I g.size,.rs 16 0 (F k).length,ints g.gone]],0⟩),(16,some ⟨3,zaW (F k),0⟩)],128⟩ rfl ?_ ?_
 ·simp
  exact Le.keep rfl (Nat.le_refl _) (by simp) (by simp)
 refine zac _ rfl (fun h=>zad ?_) fun h=>zam (hit ?_)
 ·simp only [decide_eq_true_eq] at h
  have hnext:=zmY g.edges v k h
  have hFs : F (k + 1) = F k ++ if v ≤ g.edges[k].v then [g.edges[k]] else []:=hnext
  refine zaI (ι:=Unit) (fun _=>⟨36,[(1,.I v),(2,.pv (gC g)),(4,.pt 24 0 0),(5,.pt 48 0 0),(6,.I k)],[(24,some zG),(48,some ⟨3,[[.I g.size,.rs 16 0 (F (k + 1)).length,ints g.gone]],0⟩),(16,some ⟨3,zaW (F (k + 1)),0⟩)],280⟩) (fun _=>True) ?_ fun _ _=>?_
  ·rw [hFs]
   generalize F k = A at *
   refine zaf ?_
   refine zaa ⟨36,[(1,.I v),(2,.pv (gC g)),(4,.pt 24 0 0),(5,.pt 48 0 0),(6,.I k),(24,.B (decide (v ≤ g.edges[k].v)))],[(24,some zG),(48,some ⟨3,[[.I g.size,.rs 16 0 A.length,ints g.gone]],0⟩),(16,some ⟨3,zaW A,0⟩)],192⟩ rfl ?_ ?_
   ·simp [h]
    exact Le.keep rfl (Nat.le_refl _) (by simp) (by simp)
   refine zac _ rfl (fun h5=>?_) fun h5=>zad ?_
   ·simp only [decide_eq_true_eq] at h5
    rw [if_pos h5]
    refine zbI rfl ?_
    have hrl : (zaW A).length = A.length:=by simp
    simp [h,zaw,List.replicate]
    refine ⟨by omega,by omega,rfl,?_⟩
    refine Le.ents [(24,24),(48,48),(256,16)] [] rfl (by simp) (by simp) (by simp) (by simp) (by simp) (by simp) fun p hp=>?_
    simp at hp
    rcases hp with rfl | rfl | rfl
    ·exact ⟨24,_,_,rfl,by simp,rfl,zay.eq (by simp) (by simp)⟩
    ·exact ⟨48,_,_,rfl,by simp,rfl,zay.eq (by simp) (by simp)⟩
    ·exact ⟨256,_,_,rfl,by simp,rfl,zay.eq (by simp [fcd,zaj]) (by simp)⟩
   ·simp only [decide_eq_false_iff_not] at h5
    rw [if_neg h5,List.append_nil]
    exact ⟨(),trivial,Le.keep rfl (nbz rfl) (by simp) (by simp)⟩
  have hwj : IntKind.i64.wrap ((k : Int) + 1) = ((k + 1 : Nat) : Int):=by rw [w64 (by omega) (by omega)]; omega
  refine zar rfl ?_
  simp [hwj]
  refine ⟨k + 1,by omega,by omega,?_⟩
  refine Le.ents [(24,24),(48,48),(16,16)] [] rfl (by simp) (by simp) (by simp [C]) (by simp) (by simp [C]) (by simp [C]) fun p hp=>?_
  simp [C] at hp
  rcases hp with rfl | rfl | rfl
  ·exact ⟨24,_,_,rfl,by simp,rfl,zay.eq (by simp) (by simp)⟩
  ·exact ⟨48,_,_,rfl,by simp,rfl,zay.eq (by simp) (by simp)⟩
  ·exact ⟨16,_,_,rfl,by simp,rfl,zay.eq (by simp [fcd]) (by simp)⟩
 simp only [decide_eq_false_iff_not] at h
 obtain rfl : k = g.edges.length:=by omega
 have hF : F g.edges.length = (zai g v).edges:=by
  show (g.edges.take g.edges.length).filter _ = _
  rw [List.take_of_length_le (Nat.le_refl _)]
  rfl
 rw [hF]
 have hres : zai g v = ⟨g.size,(zai g v).edges,g.gone⟩:=rfl
 rw [hres]
 generalize (zai g v).edges = E at *
 refine zab ?_
 refine zag (s:=?s21) rfl ?o21 ?q21
 case o21=>simp; rfl
 refine zah ?_
 refine ⟨.inr rfl,?_⟩
 show zan [(4,some (true,3))] 0 _ _ _
 refine zan.out (vs:=[.agg [.I g.size,.rs 16 0 E.length,ints g.gone]]) [] [16] (by simp) (by simp) (by simp) ?_ (by simp)
 simp [fcd,zaj]
def zlk (g : Gr) (lv f t : Int) : Prop:=∃ e ∈ g.edges,e.f = f ∧ e.t = t ∧ lv ≤ e.v
theorem zkI {g : Gr} {lv f t : Int} : t ∈ outs (zai g lv).edges f ↔ zlk g lv f t:=by
 unfold outs zai zlk
 simp only [List.mem_filterMap,List.mem_filter]
 constructor
 ·rintro ⟨e,⟨he,hv⟩,h⟩
  split at h
  ·rename_i hf
   refine ⟨e,he,hf,by simpa using h,?_⟩
   simp at hv
   omega
  ·cases h
 ·rintro ⟨e,he,hf,ht,hv⟩
  refine ⟨e,⟨he,?_⟩,?_⟩
  ·simp; omega
  ·rw [if_pos hf,ht]
theorem zb9 : ∀ {a b : List Int},a.Nodup → (∀ x ∈ a,x ∈ b) → b.length ≤ a.length → a.Perm b
 | [],b,_,_,hl=>by
   have : b = []:=List.length_eq_zero_iff.1 (by simpa using hl)
   rw [this]
 | x :: a,b,hn,hs,hl=>by
   have hx : x ∈ b:=hs x (List.mem_cons_self ..)
   rw [List.nodup_cons] at hn
   have hb:=List.perm_cons_erase hx
   have hlb : (b.erase x).length + 1 = b.length:=by have:=hb.length_eq; simp at this; omega
   refine (List.Perm.cons x (zb9 hn.2 (fun y hy=>?_) ?_)).trans hb.symm
   ·have hy2:=hs y (List.mem_cons_of_mem _ hy)
    have hne : y ≠ x:=fun e=>hn.1 (e ▸ hy)
    exact (List.mem_erase_of_ne hne).2 hy2
   ·rw [List.length_cons] at hl
    omega
def srt (l : List Int) : List Int:=l.mergeSort fun x y=>decide (x ≤ y)
theorem zf3 (l : List Int) : (srt l).Perm l:=List.mergeSort_perm ..
theorem zsn (l : List Int) : (srt l).Pairwise (· ≤ ·):=by
 have h:=List.pairwise_mergeSort (le:=fun x y : Int=>decide (x ≤ y)) (fun a b c h1 h2=>by simp at *; omega) (fun a b=>by simp; omega) l
 exact h.imp fun {a b} h=>by simpa using h
theorem zf6 {a b : List Int} : srt a = srt b ↔ a.Perm b:=by
 constructor
 ·intro h
  exact (zf3 a).symm.trans (h ▸ zf3 b)
 ·intro h
  exact List.Perm.eq_of_pairwise (le:=(· ≤ ·)) (fun x y _ _ h1 h2=>by omega) (zsn a) (zsn b) (((zf3 a).trans h).trans (zf3 b).symm)
def zqd (g : Gr) (lv : Int) (seeds order w : List Int) : Prop :=
 (∃ k,w.head? = some k ∧ k ∈ seeds) ∧ (∀ k ∈ w,k ∈ order) ∧ w.Nodup ∧ ∀ i (h : i + 1 < w.length),zlk g lv w[i] w[i + 1]
def begC (P : List (List Int)) (k : Int) : Nat:=P.countP fun w=>decide (w.head? = some k)
def useC (P : List (List Int)) (k : Int) : Nat:=(P.flatMap List.dropLast).count k
def zkY (c : List Int) (P : List (List Int)) : Prop:=∀ k (h : k < c.length),(begC P k : Int) ≤ c[k] ∧ (useC P k : Int) ≤ max 0 (c[k] - 1)
def lasts (P : List (List Int)) : List Int:=P.filterMap List.getLast?
def zh9 (g : Gr) (lv : Int) (seeds order c : List Int) (P : List (List Int)) (ends : List Int) : Prop :=
 (∀ w ∈ P,zqd g lv seeds order w) ∧ zkY c P ∧ srt (lasts P) = srt ends
def zfW (g : Gr) (lv : Int) (seeds order c : List Int) (P : List (List Int)) (ends : List Int) : Prop :=
 P.length = ends.length ∧ ends.Nodup ∧ (∀ w ∈ P,zqd g lv seeds order w) ∧ (∀ k ∈ lasts P,k ∈ ends) ∧ (lasts P).Nodup ∧ zkY c P
theorem zqd.ne {g : Gr} {lv : Int} {seeds order w : List Int} (h : zqd g lv seeds order w) : w ≠ []:=by
 rintro rfl
 obtain ⟨k,hk,_⟩:=h.1
 cases hk
theorem zhA {P : List (List Int)} (h : ∀ w ∈ P,w ≠ []) : (lasts P).length = P.length:=by
 unfold lasts
 induction P with
 | nil=>rfl
 | cons w P ih =>
   have hw:=h w (List.mem_cons_self ..)
   rw [List.filterMap_cons,List.getLast?_eq_some_getLast hw]
   simp only [List.length_cons]
   rw [ih fun x hx=>h x (List.mem_cons_of_mem _ hx)]
theorem zr8 {P : List (List Int)} {k : Int} (h : k ∈ lasts P) : ∃ w ∈ P,k ∈ w:=by
 obtain ⟨w,hw,hk⟩:=List.mem_filterMap.1 h
 exact ⟨w,hw,List.mem_of_getLast? hk⟩
theorem zlq {g : Gr} {lv : Int} {seeds order c : List Int} {P : List (List Int)} {ends : List Int} (hn : ends.Nodup) : zh9 g lv seeds order c P ends ↔ zfW g lv seeds order c P ends:=by
 constructor
 ·rintro ⟨h1,h2,h3⟩
  have hp:=zf6.1 h3
  have hl:=zhA fun w hw=>(h1 w hw).ne
  exact ⟨by rw [← hl,hp.length_eq],hn,h1,fun k hk=>hp.mem_iff.1 hk,hp.nodup_iff.2 hn,h2⟩
 ·rintro ⟨h0,_,h1,h2,h3,h4⟩
  have hl:=zhA fun w hw=>(h1 w hw).ne
  exact ⟨h1,h4,zf6.2 (zb9 h3 h2 (by omega))⟩
def zhF (order : List Int) (key : Int) : List Int:=order.takeWhile fun x=>decide (x ≠ key)
theorem zoA (x : Int) (o : List Int) (key : Int) : zhF (x :: o) key = if x = key then [] else x :: zhF o key:=by
 unfold zhF
 rw [List.takeWhile_cons]
 by_cases h : x = key <;> simp [h]
def zfV (order l : List Int) (key : Int) : Prop:=l.Sublist (zhF order key)
theorem zkS (order : List Int) (key : Int) : key ∉ zhF order key:=by
 induction order with
 | nil=>simp [zhF]
 | cons x o ih =>
   rw [zoA]
   split
   ·simp
   ·rename_i h
    simp only [List.mem_cons,not_or]
    exact ⟨fun e=>h e.symm,ih⟩
theorem zfV.nodup {order l : List Int} {key : Int} (h : zfV order l key) (hn : order.Nodup) : (l ++ [key]).Nodup:=by
 rw [List.nodup_append]
 refine ⟨(hn.sublist (List.takeWhile_sublist _)).sublist h,by simp,fun x hx y hy=>?_⟩
 rw [List.mem_singleton] at hy
 subst hy
 rintro rfl
 exact zkS order x (h.subset hx)
structure zhB (A : List Ed) (E : Int → Int → Prop) (seeds sinks : List Int) (c : Int → Int) : Prop where
 kind : ∀ i,i < A.length → (∃ x,x ∈ seeds ∧ 0 ≤ x ∧ arcD A i = ⟨0,2 + 2 * x,c x⟩) ∨ (∃ x,0 ≤ x ∧ arcD A i = ⟨2 + 2 * x,3 + 2 * x,c x - 1⟩) ∨ (∃ x,x ∈ sinks ∧ 0 ≤ x ∧ arcD A i = ⟨2 + 2 * x,1,1⟩) ∨ (∃ x y,0 ≤ x ∧ 0 ≤ y ∧ E x y ∧ arcD A i = ⟨3 + 2 * x,2 + 2 * y,64⟩)
 uniq : ∀ i j,i < A.length → j < A.length → (arcD A i).f = (arcD A j).f → (arcD A i).t = (arcD A j).t → i = j
inductive zgt (A : List Ed) (E : Int → Int → Prop) (sinks : List Int) (c : Int → Int) : Int → List Nat → List Int → Prop
 | last (k : Int) (i : Nat) : i < A.length → arcD A i = ⟨2 + 2 * k,1,1⟩ → k ∈ sinks → zgt A E sinks c k [i] []
 | more (k y : Int) (i j : Nat) (l : List Nat) (ks : List Int) : i < A.length → arcD A i = ⟨2 + 2 * k,3 + 2 * k,c k - 1⟩ → arcD A j = ⟨3 + 2 * k,2 + 2 * y,64⟩ → E k y → 0 ≤ y → zgt A E sinks c y l ks → zgt A E sinks c k (i :: j :: l) (y :: ks)
variable {A : List Ed} {E : Int → Int → Prop} {seeds sinks : List Int} {c : Int → Int}
theorem zhB.sinkless (h : zhB A E seeds sinks c) {i : Nat} (hi : i < A.length) : (arcD A i).f ≠ 1:=by
 rcases h.kind i hi with ⟨x,_,hx,e⟩ | ⟨x,hx,e⟩ | ⟨x,_,hx,e⟩ | ⟨x,y,hx,hy,_,e⟩ <;> rw [e] <;> simp only <;> omega
theorem zhB.path (h : zhB A E seeds sinks c) : ∀ (n : Nat) (l : List Nat) (k : Int),l.length ≤ n → 0 ≤ k → WayA A (2 + 2 * k) l 1 → ∃ ks,zgt A E sinks c k l ks
 | _,[],k,_,hk,hw=>by
   have : 2 + 2 * k = 1:=hw
   omega
 | n,[i],k,_,hk,hw=>by
   obtain ⟨h1,h2,h3⟩:=hw
   have h3' : (arcD A i).t = 1:=h3
   rcases h.kind i h1 with ⟨x,_,hx,e⟩ | ⟨x,hx,e⟩ | ⟨x,hs,hx,e⟩ | ⟨x,y,hx,hy,_,e⟩ <;> rw [e] at h2 h3' <;> simp only at h2 h3'
   ·omega
   ·omega
   ·have : x = k:=by omega
    subst this
    exact ⟨[],.last _ i h1 e hs⟩
   ·omega
 | 0,_ :: _ :: _,_,hn,_,_=>by simp at hn
 | n + 1,i :: j :: l,k,hn,hk,hw=>by
   obtain ⟨h1,h2,h4,h5,h6⟩:=hw
   rcases h.kind i h1 with ⟨x,_,hx,e⟩ | ⟨x,hx,e⟩ | ⟨x,hs,hx,e⟩ | ⟨x,y,hx,hy,_,e⟩
   ·rw [e] at h2; simp only at h2; omega
   ·rw [e] at h2 h5
    simp only at h2 h5
    have : x = k:=by omega
    subst this
    rcases h.kind j h4 with ⟨z,_,hz,e'⟩ | ⟨z,hz,e'⟩ | ⟨z,hs,hz,e'⟩ | ⟨z,y,hz,hy,hE,e'⟩
    ·rw [e'] at h5; simp only at h5; omega
    ·rw [e'] at h5; simp only at h5; omega
    ·rw [e'] at h5; simp only at h5; omega
    ·rw [e'] at h5 h6
     simp only at h5 h6
     have : z = x:=by omega
     subst this
     obtain ⟨ks,hp⟩:=h.path n l y (by simp at hn; omega) hy h6
     exact ⟨y :: ks,.more _ y i j l ks h1 e e' hE hy hp⟩
   ·rw [e] at h5
    simp only at h5
    exact absurd h5 (h.sinkless h4)
   ·rw [e] at h2; simp only at h2; omega
def keyT (t : Int) : Option Int:=if 2 ≤ t ∧ t % 2 = 0 then some ((t - 2) / 2) else none
def zaY (A : List Ed) (l : List Nat) : List Int:=(metA A l).filterMap keyT
theorem zln {k : Int} (h : 0 ≤ k) : keyT (2 + 2 * k) = some k:=by
 unfold keyT
 rw [if_pos ⟨by omega,by omega⟩]
 congr 1
 omega
theorem zrC (k : Int) : keyT (3 + 2 * k) = none:=if_neg (by omega)
theorem zrv : keyT 1 = none:=if_neg (by omega)
theorem zgt.keys {k : Int} {l : List Nat} {ks : List Int} (h : zgt A E sinks c k l ks) : zaY A l = ks:=by
 induction h with
 | last k i h1 h2 h3 =>
   unfold zaY metA
   rw [List.map_cons,List.map_nil,List.filterMap_cons,h2]
   simp only
   rw [zrv]
   rfl
 | more k y i j l ks h1 h2 h3 h4 h5 h6 ih =>
   unfold zaY metA at ih ⊢
   rw [List.map_cons,List.map_cons,List.filterMap_cons,h2]
   simp only
   rw [zrC,List.filterMap_cons,h3]
   simp only
   rw [zln h5,ih]
theorem zgt.edges {k : Int} {l : List Nat} {ks : List Int} (h : zgt A E sinks c k l ks) : ∀ i (hi : i + 1 < (k :: ks).length),E (k :: ks)[i] (k :: ks)[i + 1]:=by
 induction h with
 | last k i h1 h2 h3=>intro i hi; simp at hi
 | more k y i j l ks h1 h2 h3 h4 h5 h6 ih =>
   intro n hn
   cases n with
   | zero=>exact h4
   | succ n=>exact ih n (by simpa using hn)
theorem zgt.ends {k : Int} {l : List Nat} {ks : List Int} (h : zgt A E sinks c k l ks) : ∃ z,(k :: ks).getLast? = some z ∧ z ∈ sinks ∧ ∃ i ∈ l,i < A.length ∧ arcD A i = ⟨2 + 2 * z,1,1⟩:=by
 induction h with
 | last k i h1 h2 h3=>exact ⟨k,rfl,h3,i,List.mem_singleton.2 rfl,h1,h2⟩
 | more k y i j l ks h1 h2 h3 h4 h5 h6 ih =>
   obtain ⟨z,hz,hs,m,hm,hm2,hm3⟩:=ih
   exact ⟨z,by rw [List.getLast?_cons_cons]; exact hz,hs,m,List.mem_cons_of_mem _ (List.mem_cons_of_mem _ hm),hm2,hm3⟩
theorem zgt.uses (hu : ∀ i j,i < A.length → j < A.length → (arcD A i).f = (arcD A j).f → (arcD A i).t = (arcD A j).t → i = j) {k : Int} {l : List Nat} {ks : List Int} (h : zgt A E sinks c k l ks) {m : Int} {n : Nat} (hn : n < A.length) (hm : arcD A n = ⟨2 + 2 * m,3 + 2 * m,c m - 1⟩) : (k :: ks).dropLast.count m ≤ l.count n:=by
 induction h with
 | last k i h1 h2 h3=>simp
 | more k y i j l ks h1 h2 h3 h4 h5 h6 ih =>
   rw [List.dropLast_cons_of_ne_nil (by simp),List.count_cons]
   have h7 : l.count n ≤ (j :: l).count n:=by rw [List.count_cons]; omega
   rw [List.count_cons]
   by_cases hk : k = m
   ·subst hk
    have : i = n:=hu i n h1 hn (by rw [h2,hm]) (by rw [h2,hm])
    subst this
    simp only [beq_self_eq_true,if_true]
    omega
   ·have hk' : (k == m) = false:=by simpa using hk
    rw [hk']
    simp only [Bool.false_eq_true,if_false]
    omega
theorem zgt.mids {k : Int} {l : List Nat} {ks : List Int} (h : zgt A E sinks c k l ks) {m : Int} (hm : m ∈ (k :: ks).dropLast) : ∃ n,n < A.length ∧ arcD A n = ⟨2 + 2 * m,3 + 2 * m,c m - 1⟩:=by
 induction h with
 | last k i h1 h2 h3=>simp at hm
 | more k y i j l ks h1 h2 h3 h4 h5 h6 ih =>
   rw [List.dropLast_cons_of_ne_nil (by simp)] at hm
   rcases List.mem_cons.1 hm with rfl | hm
   ·exact ⟨i,h1,h2⟩
   ·exact ih hm
theorem zhB.whole (h : zhB A E seeds sinks c) {l : List Nat} (hw : WayA A 0 l 1) : ∃ x i l' ks,l = i :: l' ∧ i < A.length ∧ x ∈ seeds ∧ 0 ≤ x ∧ arcD A i = ⟨0,2 + 2 * x,c x⟩ ∧ zgt A E sinks c x l' ks ∧ zaY A l = x :: ks:=by
 cases l with
 | nil=>have : (0 : Int) = 1:=hw; omega
 | cons i l =>
   obtain ⟨h1,h2,h3⟩:=hw
   rcases h.kind i h1 with ⟨x,hs,hx,e⟩ | ⟨x,hx,e⟩ | ⟨x,hs,hx,e⟩ | ⟨x,y,hx,hy,_,e⟩
   ·rw [e] at h3
    obtain ⟨ks,hp⟩:=h.path l.length l x (Nat.le_refl _) hx h3
    refine ⟨x,i,l,ks,rfl,h1,hs,hx,e,hp,?_⟩
    have hk:=hp.keys
    unfold zaY metA at hk ⊢
    rw [List.map_cons,List.filterMap_cons,e]
    simp only
    rw [zln hx,hk]
   ·rw [e] at h2; simp only at h2; omega
   ·rw [e] at h2; simp only at h2; omega
   ·rw [e] at h2; simp only at h2; omega
theorem zon {l : List Nat} (h : (metA A l).Nodup) : (zaY A l).Nodup:=by
 unfold zaY
 refine List.Pairwise.filterMap _ (fun a a' hne b hb b' hb'=>?_) h
 unfold keyT at hb hb'
 split at hb <;> split at hb' <;> simp at hb hb' <;> omega
def sumN (g : List Nat → Nat) (W : List (List Nat)) : Nat:=(W.map g).sum
theorem zjh (g : List Nat → Nat) (w : List Nat) (W : List (List Nat)) : sumN g (w :: W) = g w + sumN g W:=by simp [sumN]
theorem zkw {l : List Int} (h : ∀ x,l.count x ≤ 1) : l.Nodup:=by
 induction l with
 | nil=>exact List.nodup_nil
 | cons x l ih =>
   rw [List.nodup_cons]
   refine ⟨fun hm=>?_,ih fun y=>?_⟩
   ·have h1:=h x
    rw [List.count_cons_self] at h1
    have h2:=List.count_pos_iff.2 hm
    omega
   ·have h1:=h y
    rw [List.count_cons] at h1
    omega
theorem zsk {A : List Ed} {n : Nat} {k : Int} : ∀ {W : List (List Nat)},(∀ w ∈ W,(zaY A w).head? = some k → 1 ≤ w.count n) → begC (W.map (zaY A)) k ≤ sumN (List.count n) W
 | [],_=>by simp [begC,sumN]
 | w :: W,h=>by
   have ih:=zsk (n:=n) (k:=k) fun x hx=>h x (List.mem_cons_of_mem w hx)
   have h1:=h w (List.mem_cons_self ..)
   unfold begC at ih ⊢
   rw [List.map_cons,List.countP_cons,zjh]
   by_cases hk : (zaY A w).head? = some k
   ·have:=h1 hk
    simp only [hk,decide_true,if_true]
    omega
   ·simp only [hk,decide_false,Bool.false_eq_true,if_false]
    omega
theorem zoh {A : List Ed} {k : Int} : ∀ {W : List (List Nat)},begC (W.map (zaY A)) k = 0 ∨ ∃ w ∈ W,(zaY A w).head? = some k
 | []=>.inl rfl
 | w :: W=>by
   by_cases hk : (zaY A w).head? = some k
   ·exact .inr ⟨w,List.mem_cons_self ..,hk⟩
   ·rcases zoh (A:=A) (k:=k) (W:=W) with h | ⟨x,hx,hx2⟩
    ·left
     unfold begC at h ⊢
     rw [List.map_cons,List.countP_cons,h]
     simp [hk]
    ·exact .inr ⟨x,List.mem_cons_of_mem _ hx,hx2⟩
theorem zsM {A : List Ed} {n : Nat} {k : Int} : ∀ {W : List (List Nat)},(∀ w ∈ W,(zaY A w).dropLast.count k ≤ w.count n) → useC (W.map (zaY A)) k ≤ sumN (List.count n) W
 | [],_=>by simp [useC,sumN]
 | w :: W,h=>by
   have ih:=zsM (n:=n) (k:=k) fun x hx=>h x (List.mem_cons_of_mem w hx)
   have h1:=h w (List.mem_cons_self ..)
   unfold useC at ih ⊢
   rw [List.map_cons,List.flatMap_cons,List.count_append,zjh]
   omega
theorem zn2 {A : List Ed} {k : Int} : ∀ {W : List (List Nat)},useC (W.map (zaY A)) k = 0 ∨ ∃ w ∈ W,k ∈ (zaY A w).dropLast
 | []=>.inl rfl
 | w :: W=>by
   by_cases hk : k ∈ (zaY A w).dropLast
   ·exact .inr ⟨w,List.mem_cons_self ..,hk⟩
   ·rcases zn2 (A:=A) (k:=k) (W:=W) with h | ⟨x,hx,hx2⟩
    ·left
     unfold useC at h ⊢
     rw [List.map_cons,List.flatMap_cons,List.count_append,h,List.count_eq_zero.2 hk]
    ·exact .inr ⟨x,List.mem_cons_of_mem _ hx,hx2⟩
theorem zpU {A : List Ed} {n : Nat} {k : Int} : ∀ {W : List (List Nat)},(∀ w ∈ W,(zaY A w).getLast? = some k → 1 ≤ w.count n) → (lasts (W.map (zaY A))).count k ≤ sumN (List.count n) W
 | [],_=>by simp [lasts,sumN]
 | w :: W,h=>by
   have ih:=zpU (n:=n) (k:=k) fun x hx=>h x (List.mem_cons_of_mem w hx)
   have h1:=h w (List.mem_cons_self ..)
   unfold lasts at ih ⊢
   rw [List.map_cons,List.filterMap_cons,zjh]
   cases hl : (zaY A w).getLast? with
   | none=>simp only; omega
   | some z =>
     simp only [List.count_cons]
     by_cases hz : z = k
     ·subst hz
      have:=h1 hl
      simp only [beq_self_eq_true,if_true]
      omega
     ·have : (z == k) = false:=by simpa using hz
      rw [this]
      simp only [Bool.false_eq_true,if_false]
      omega
theorem zq4 {A : List Ed} {E : Int → Int → Prop} {seeds sinks : List Int} {cl : List Int} {f : List Int} {W : List (List Nat)}
  (hk : zhB A E seeds sinks fun x=>cl.getD x.toNat 0) (hf : Fit2 A f) (hw : ∀ w ∈ W,WayA A 0 w 1 ∧ (metA A w).Nodup) (hs : ∀ i,i < A.length → (sumN (List.count i) W : Int) ≤ f.getD i 0) (hc : ∀ x ∈ cl,0 ≤ x) :
  zkY cl (W.map (zaY A)) ∧ (lasts (W.map (zaY A))).Nodup ∧ (∀ k ∈ lasts (W.map (zaY A)),k ∈ sinks) ∧
  ∀ p ∈ W.map (zaY A),(∃ k,p.head? = some k ∧ k ∈ seeds) ∧ p.Nodup ∧ ∀ i (h : i + 1 < p.length),E p[i] p[i + 1]:=by
 have hfit:=(zb8.1 hf).2
 have hlast : ∀ w ∈ W,∃ z,(zaY A w).getLast? = some z ∧ z ∈ sinks ∧ ∃ i ∈ w,i < A.length ∧ arcD A i = ⟨2 + 2 * z,1,1⟩:=fun w hwW=>by
  obtain ⟨x,i,l',ks,rfl,hi,hxs,hx0,he,hp,hkk⟩:=hk.whole (hw w hwW).1
  obtain ⟨z,hz,hzs,m,hm,hm2,hm3⟩:=hp.ends
  exact ⟨z,by rw [hkk]; exact hz,hzs,m,List.mem_cons_of_mem _ hm,hm2,hm3⟩
 refine ⟨fun k hkl=>⟨?_,?_⟩,zkw fun z=>?_,fun z hz=>?_,fun p hp=>?_⟩
 ·have hck:=hc _ (List.getElem_mem hkl)
  have hcg : cl.getD k 0 = cl[k]:=by rw [List.getD_eq_getElem?_getD,List.getElem?_eq_getElem hkl,Option.getD_some]
  rcases zoh (A:=A) (k:=(k : Int)) (W:=W) with h | ⟨w,hwW,hh⟩
  ·rw [h]; exact hck
  ·obtain ⟨x,i,l',ks,rfl,hi,hxs,hx0,he,hp,hkk⟩:=hk.whole (hw w hwW).1
   rw [hkk] at hh
   have hxk : x = k:=Option.some.inj hh
   subst hxk
   have h1:=zsk (A:=A) (n:=i) (k:=(k : Int)) (W:=W) fun v hvW hvk=>by
    obtain ⟨y,j,l2,ks2,rfl,hj,_,_,he2,_,hkk2⟩:=hk.whole (hw v hvW).1
    rw [hkk2] at hvk
    have hyk : y = k:=Option.some.inj hvk
    have : j = i:=hk.uniq j i hj hi (by rw [he2,he]) (by rw [he2,he,hyk])
    subst this
    rw [List.count_cons_self]
    omega
   have h2:=hs i hi
   have h3:=(hfit i hi).2
   rw [he] at h3
   simp only [Int.toNat_natCast] at h3
   rw [hcg] at h3
   omega
 ·have hck:=hc _ (List.getElem_mem hkl)
  have hcg : cl.getD k 0 = cl[k]:=by rw [List.getD_eq_getElem?_getD,List.getElem?_eq_getElem hkl,Option.getD_some]
  rcases zn2 (A:=A) (k:=(k : Int)) (W:=W) with h | ⟨w,hwW,hh⟩
  ·rw [h]; omega
  ·obtain ⟨x,i,l',ks,rfl,hi,hxs,hx0,he,hp,hkk⟩:=hk.whole (hw w hwW).1
   rw [hkk] at hh
   obtain ⟨n,hn,hnA⟩:=hp.mids hh
   have h1:=zsM (A:=A) (n:=n) (k:=(k : Int)) (W:=W) fun v hvW=>by
    obtain ⟨y,j,l2,ks2,rfl,hj,_,_,he2,hp2,hkk2⟩:=hk.whole (hw v hvW).1
    rw [hkk2,List.count_cons]
    have:=hp2.uses hk.uniq hn hnA
    omega
   have h2:=hs n hn
   have h3:=(hfit n hn).2
   rw [hnA] at h3
   simp only [Int.toNat_natCast] at h3
   rw [hcg] at h3
   omega
 ·by_cases hz : z ∈ lasts (W.map (zaY A))
  ·obtain ⟨p,hp,hpz⟩:=List.mem_filterMap.1 hz
   obtain ⟨w,hwW,rfl⟩:=List.mem_map.1 hp
   obtain ⟨y,hy,hys,i,hiw,hi,hiA⟩:=hlast w hwW
   rw [hpz] at hy
   have hzy : z = y:=Option.some.inj hy
   subst hzy
   have h1:=zpU (A:=A) (n:=i) (k:=z) (W:=W) fun v hvW hvz=>by
    obtain ⟨y,hy,_,j,hjv,hj,hjA⟩:=hlast v hvW
    rw [hvz] at hy
    have hzy : z = y:=Option.some.inj hy
    have : j = i:=hk.uniq j i hj hi (by rw [hjA,hiA,hzy]) (by rw [hjA,hiA])
    subst this
    exact List.count_pos_iff.2 hjv
   have h2:=hs i hi
   have h3:=(hfit i hi).2
   rw [hiA] at h3
   simp only at h3
   omega
  ·rw [List.count_eq_zero.2 hz]
   omega
 ·obtain ⟨p,hp,hpz⟩:=List.mem_filterMap.1 hz
  obtain ⟨w,hwW,rfl⟩:=List.mem_map.1 hp
  obtain ⟨y,hy,hys,_⟩:=hlast w hwW
  rw [hpz] at hy
  rw [Option.some.inj hy]
  exact hys
 ·obtain ⟨w,hwW,rfl⟩:=List.mem_map.1 hp
  refine ⟨?_,zon (hw w hwW).2,?_⟩
  ·obtain ⟨x,i,l',ks,rfl,hi,hxs,hx0,he,hp,hkk⟩:=hk.whole (hw w hwW).1
   exact ⟨x,by rw [hkk]; rfl,hxs⟩
  ·obtain ⟨x,i,l',ks,rfl,hi,hxs,hx0,he,hp,hkk⟩:=hk.whole (hw w hwW).1
   have:=hp.edges
   intro n hn
   simp only [hkk] at hn ⊢
   exact this n hn
def zvi (A : List Ed) (left : List Int) (node k : Int) : Prop :=
 (k = -1 ∧ ∀ i,i < A.length → ¬ ((arcD A i).f = node ∧ 0 < left.getD i 0)) ∨ ∃ i : Nat,k = i ∧ i < A.length ∧ (arcD A i).f = node ∧ 0 < left.getD i 0
def totN (g : List Int) : Nat:=(g.map Int.toNat).sum
theorem zmn : ∀ {g : List Int} {k : Nat},k < g.length → 0 < g.getD k 0 → totN (g.set k (g.getD k 0 - 1)) < totN g
 | [],k,h,_=>by simp at h
 | x :: g,0,_,h=>by
   have h : 0 < x:=h
   simp only [List.set_cons_zero,totN,List.map_cons,List.sum_cons,List.getD_cons_zero]
   omega
 | x :: g,k + 1,hk,h=>by
   have ih:=zmn (g:=g) (k:=k) (by simpa using hk) h
   simp only [List.set_cons_succ,totN,List.map_cons,List.sum_cons,List.getD_cons_succ] at ih ⊢
   omega
theorem WayA.last {A : List Ed} : ∀ {l : List Nat} {u w : Int},WayA A u l w → (u :: metA A l)[l.length]? = some w
 | [],u,w,h=>by
   have : u = w:=h
   simp [metA,this]
 | i :: l,u,w,h=>by
   have:=WayA.last h.2.2
   simpa [metA] using this
structure BalF (N : Nat) (A : List Ed) (f : List Int) : Prop where
 len : f.length = A.length
 nonneg : ∀ i,0 ≤ f.getD i 0
 bal : ∀ x : Int,2 ≤ x → x < N → exF A f x = 0
variable {N : Nat} {A : List Ed} {f g : List Int}
theorem zaE.balF (h : zaE N A f) : BalF N A f:=by
 have hf:=zb8.1 h.fit
 refine ⟨hf.1,fun i=>?_,fun x h2 h3=>?_⟩
 ·by_cases hi : i < A.length
  ·exact (hf.2 i hi).1
  ·rw [List.getD_eq_getElem?_getD,List.getElem?_eq_none (by rw [hf.1]; omega)]
   exact Int.le_refl _
 ·have:=h.bal x.toNat (by omega) (by omega)
  rw [Int.toNat_of_nonneg (by omega)] at this
  unfold exF
  omega
theorem zeE.go_on (hn : zc5 N A) (hf : BalF N A f) {l : List Nat} {w : Int} (h : zeE A f g l w) (hw : w ≠ 1) (hv : l = [] → 0 < exF A f 0) : ∃ i,i < A.length ∧ (arcD A i).f = w ∧ 0 < g.getD i 0:=by
 refine zuq h.len h.nonneg ?_
 rw [h.ex w]
 have hl:=h.way.last
 cases l with
 | nil =>
   have e : (0 : Int) = w:=h.way
   subst e
   have:=hv rfl
   simp
   exact this
 | cons i l =>
   have hm : w ∈ metA A (i :: l):=by
    rw [List.length_cons,List.getElem?_cons_succ] at hl
    exact List.mem_of_getElem? hl
   have hw0 : w ≠ 0:=fun e=>by
    have:=(List.nodup_cons.1 h.met).1
    exact this (e ▸ hm)
   obtain ⟨j,hj,rfl⟩:=List.mem_map.1 hm
   have hja : j < A.length:=by
    have : ∀ {l : List Nat} {u w : Int},WayA A u l w → ∀ j ∈ l,j < A.length:=by
     intro l
     induction l with
     | nil=>intro _ _ _ j hj; cases hj
     | cons i l ih =>
       intro u w hw j hj
       rcases List.mem_cons.1 hj with rfl | hj
       ·exact hw.1
       ·exact ih hw.2.2 j hj
    exact this h.way j hj
   have ha:=hn.arc _ (zbD hja)
   rw [hf.bal _ (by omega) (by omega),if_neg hw0,if_pos rfl]
   omega
theorem zeE.balF (hf : BalF N A f) {l : List Nat} (h : zeE A f g l 1) : BalF N A g ∧ exF A g 0 = exF A f 0 - 1:=by
 refine ⟨⟨h.len,h.nonneg,fun x h2 h3=>?_⟩,?_⟩
 ·rw [h.ex x,hf.bal x h2 h3,if_neg (by omega),if_neg (by omega)]
  rfl
 ·rw [h.ex 0,if_pos rfl,if_neg (by decide)]
  omega
theorem zhY (hn : zc5 N A) (hf : BalF N A f) : 0 ≤ exF A f 0:=by
 unfold exF
 rw [zfz hn]
 have : 0 ≤ outF A f 0:=zgp hf.nonneg fun e v hv=>by split <;> omega
 omega
structure zeH (N : Nat) (A : List Ed) (f g : List Int) (W : List (List Nat)) : Prop where
 bal : BalF N A g
 ex : exF A g 0 = exF A f 0 - W.length
 ways : ∀ w ∈ W,WayA A 0 w 1 ∧ (metA A w).Nodup
 used : ∀ i,g.getD i 0 + (sumN (List.count i) W : Int) ≤ f.getD i 0
theorem zeH.nil (hf : BalF N A f) : zeH N A f f []:=⟨hf,by simp,by simp,fun i=>by simp [sumN]⟩
theorem zeH.more {g' : List Int} {W : List (List Nat)} {l : List Nat} (h : zeH N A f g W) (hl : zeE A g g' l 1) : zeH N A f g' (W ++ [l]):=by
 obtain ⟨b1,b2⟩:=hl.balF h.bal
 refine ⟨b1,by rw [b2,h.ex,List.length_append,List.length_singleton]; omega,fun w hw=>?_,fun i=>?_⟩
 ·rcases List.mem_append.1 hw with hw | hw
  ·exact h.ways w hw
  ·rw [List.mem_singleton] at hw
   subst hw
   exact ⟨hl.way,(List.nodup_cons.1 hl.met).2⟩
 ·have h1:=h.used i
  have h2:=hl.used i
  have h3 : sumN (List.count i) (W ++ [l]) = sumN (List.count i) W + l.count i:=by unfold sumN; simp
  rw [h3]
  omega
theorem zrh (l : List Ed) (key : Int) : (outs l key).length = l.countP fun e=>decide (e.f = key):=by
 induction l with
 | nil=>rfl
 | cons e l ih =>
   unfold outs at *
   by_cases h : e.f = key <;> simp [List.filterMap_cons,List.countP_cons,h,ih]
theorem GrOk.fits {g : Gr} (h : GrOk g) : ∀ e ∈ g.edges,Fits g e:=by
 intro e he
 obtain ⟨i,hi,rfl⟩:=List.mem_iff_getElem.1 he
 exact (h.2 i hi).1
theorem EqG.rfl' (a : Gr) : EqG a a:=⟨rfl,rfl,rfl⟩
abbrev zfw (l : List Int) : List Int:=l.mergeSort fun x y=>decide (x ≤ y)
theorem zhT (l : List Int) : (zfw l).length = l.length:=List.length_mergeSort ..
theorem zq3 {l : List Int} {x : Int} : x ∈ zfw l ↔ x ∈ l:=List.mem_mergeSort
theorem GrOk.pair {g : Gr} (h : GrOk g) : g.edges.Pairwise Bef:=by
 rw [List.pairwise_iff_getElem]
 intro i j hi hj hij
 exact h.lt j i hi hj hij
theorem zib {st st' : St} {i j : Nat} {sn : List Nat} {e e' : Ent} (hsz : st'.sz = st.sz) (hh : st'.h = [(j,some e')]) (hj : j < st'.n) (hs : ∀ k ∈ sn,k ≠ i) (he : st.hp i = some e) (hee : zax [(i,j)] sn st.hp 4 e = e') (hr : e'.ro ≤ e'.rows.length) (ht : ∀ p ∈ st'.t,Wk (conv [(i,j)] sn st.hp 4 (st.get p.1)) p.2) : Le 0 st st' :=
 Le.ents [(i,j)] sn hsz (by simp) (by simp) (by simpa using hj) (by simpa using hs) (Nat.zero_le _) ht (fun p hp=>by
  rw [hh] at hp
  simp at hp
  subst hp
  exact ⟨i,e,e',rfl,by simp,he,zay.eq hee hr⟩)
theorem zg8 (f : FuncId) (capt : List AV) (q : Int → Bool) (l : List Int) (hl : l.length ≤ 1099511627776) (hs : zhx capt) (hc : ∀ e ∈ l,zak Tryz.prog f (AV.I e :: capt) [] (.B (q e)) []) : zak Tryz.prog za2 [ints l,.fn (.func f) [] capt] [] (.I (idxQ l q)) []:=by
 have hs2 : ∀ ρ sn h,capt.map (conv ρ sn h 2) = capt:=fun _ _ _=>hs _ _ _ 1
 have hs3 : ∀ ρ sn h,capt.map (conv ρ sn h 3) = capt:=fun _ _ _=>hs _ _ _ 2
 have hs4 : ∀ ρ sn h,capt.map (conv ρ sn h 4) = capt:=fun _ _ _=>hs _ _ _ 3
 refine zd9.acalls (nbz rfl) (nbz rfl) (Nat.le_refl _) ?_
 show awp _ 0 _ _ ⟨19,[(0,ints l),(1,.fn (.func f) [] capt)],[],16⟩
 refine zab ?_
 refine zag (s:=?s1) rfl ?o1 ?q1
 case o1=>simp; rfl
 refine zab ?_
 refine zab ?_
 refine zag (s:=?s2) rfl ?o2 ?q2
 case o2=>simp; rfl
 refine zaf ?_
 refine zao (ι:=Nat) (fun k=>⟨19,[(0,ints l),(1,.fn (.func f) [] capt),(7,.I l.length),(8,.I k)],[],16⟩) (fun k=>k ≤ l.length ∧ ∀ i,i < k → ∀ h : i < l.length,q l[i] = false) (fun k=>l.length - k) (0) ?_ (Le.snap [] rfl rfl (by simp [hs2,hs3,hs4])) ?_
 ·simp
 rintro k ⟨hk,hp⟩
 refine zab ?_
 refine zag (s:=?s3) rfl ?o3 ?q3
 case o3=>simp; rfl
 refine zab ?_
 refine zac _ rfl (fun h4=>?_) fun h4=>?_
 ·try simp at h4
  have hw2 : IntKind.i64.wrap ((k : Int) + 1) = (k : Int) + 1:=w64 (by omega) (by omega)
  have hck:=hc l[k] (List.getElem_mem h4)
  refine zad ?_
  refine zab ?_
  refine zaf ?_
  refine zab ?_
  refine zag (s:=?s5) rfl ?o5 ?q5
  case o5=>simp [h4,hw2]; rfl
  refine zab ?_
  refine zag (s:=?s6) rfl ?o6 ?q6
  case o6 =>
   simp [h4,hw2]
   refine zal hck ?_ ?_
   ·simp [hs2,hs3,hs4]
   simp [h4,hw2]; rfl
  refine zac _ rfl (fun h7=>?_) fun h7=>?_
  ·try simp at h7
   refine zab ?_
   refine zag (s:=?s8) rfl ?o8 ?q8
   case o8=>simp [h4,hw2]; rfl
   refine zah ?_
   exact ⟨.inr rfl,zan.one (by simp [zmE h4 hp h7])⟩
  try simp at h7
  refine zad ?_
  refine zag (s:=?s9) rfl ?o9 ?q9
  case o9=>simp [h4,hw2]; rfl
  refine ⟨k + 1,⟨h4,fun i hi=>?_⟩,by omega,Le.snap [] rfl rfl (by simp [h4,hw2,hs2,hs3,hs4])⟩
  rcases Nat.lt_succ_iff_lt_or_eq.1 hi with h | rfl
  ·exact hp i h
  ·exact fun _=>h7
 try simp at h4
 have hall : ∀ i,i < l.length → ∀ h : i < l.length,q l[i] = false:=fun i hi=>hp i (by omega)
 refine zam ?_
 refine hit ?_
 refine zab ?_
 refine zag (s:=?s10) rfl ?o10 ?q10
 case o10=>simp; rfl
 refine zah ?_
 exact ⟨.inr rfl,zan.one (by simp [zmk hall])⟩
abbrev zae (l : List Int) : List (List AV):=l.map fun e=>[AV.I e]
theorem zgh {l : List Int} {q : Int → Bool} (h : ∀ i,i < l.length → ∀ h : i < l.length,q l[i] = false) : l.filter (fun e=>!q e) = l:=by
 rw [List.filter_eq_self]
 intro x hx
 obtain ⟨i,hi,rfl⟩:=List.mem_iff_getElem.1 hx
 simp [h i hi hi]
theorem zeJ (l : List Int) (q : Int → Bool) (j : Nat) (h : j < l.length) : (l.take (j + 1)).filter (fun e=>!q e) = (l.take j).filter (fun e=>!q e) ++ if q l[j] = true then [] else [l[j]]:=by
 rw [← List.take_concat_get h,List.concat_eq_append,List.filter_append]
 congr 1
 cases hq : q l[j] <;> simp [hq]
set_option maxRecDepth 100000 in
theorem zkH (f : FuncId) (capt : List AV) (q : Int → Bool) (l : List Int) (n m : Nat) (hn : l.length = n) (hm : (l.filter fun e=>!q e).length = m) (hl : n ≤ 1099511627776) (hs : zhx capt) (hc : ∀ e ∈ l,zak Tryz.prog f (AV.I e :: capt) [] (.B (q e)) []) :
  zak Tryz.prog zbg [.rs 0 0 n,.fn (.func f) [] capt] [⟨1,zae l,0⟩] (.rs 0 0 m) [some ⟨1,zae (l.filter fun e=>!q e) ++ List.replicate (n - m) [.I 0],0⟩]:=by
 have hs2 : ∀ ρ sn h,capt.map (conv ρ sn h 2) = capt:=fun _ _ _=>hs _ _ _ 1
 have hs3 : ∀ ρ sn h,capt.map (conv ρ sn h 3) = capt:=fun _ _ _=>hs _ _ _ 2
 have hs4 : ∀ ρ sn h,capt.map (conv ρ sn h 4) = capt:=fun _ _ _=>hs _ _ _ 3
 refine zdQ.acalls (nbz rfl) (nbz rfl) (nbz rfl) ?_
 show awp _ 1 _ _ ⟨42,[(0,.rs 0 0 n),(1,.fn (.func f) [] capt)],[(0,some ⟨1,zae l,0⟩)],16⟩
 have hmn : m ≤ n:=by rw [← hm,← hn]; exact List.length_filter_le _ _
 refine zaa ⟨42,[(0,.rs 0 0 n),(1,.fn (.func f) [] capt)],[(0,some ⟨1,zae l,0⟩)],24⟩ rfl ?_ ?_
 ·simp
  exact Le.keep rfl (Nat.le_refl _) (by simp) (by simp)
 refine zaa ⟨42,[(0,.rs 0 0 n),(1,.fn (.func f) [] capt),(5,.I (idxQ l q))],[(0,some ⟨1,zae l,0⟩)],56⟩ rfl ?_ ?_
 ·simp
  refine zeG [0] (zg8 f capt q l (by omega) hs hc) ?_ (.sc _) ?_
  ·simp [hs2,hs3,hs4,← hn,fcd,zaj]
  simp
  exact Le.keep rfl (Nat.le_refl _) (by simp) (by simp)
 refine zab ?_
 refine zaa ⟨42,[(0,.rs 0 0 n),(1,.fn (.func f) [] capt),(5,.I (idxQ l q)),(12,.B (decide (idxQ l q = -1)))],[(0,some ⟨1,zae l,0⟩)],72⟩ rfl ?_ ?_
 ·simp
  exact Le.keep rfl (Nat.le_refl _) (by simp <;> rw [Bool.eq_iff_iff] <;> simp) (by simp)
 refine zac _ rfl (fun h=>?_) fun h=>zad ?_
 ·simp only [decide_eq_true_eq] at h
  have hno : ∀ i,i < l.length → ∀ h : i < l.length,q l[i] = false:=by
   intro i hi _
   unfold idxQ at h
   split at h
   ·omega
   ·rename_i hnl
    have : l.findIdx q = l.length:=by have:=List.findIdx_le_length (xs:=l) (p:=q); omega
    rw [List.findIdx_eq_length] at this
    exact this _ (List.getElem_mem hi)
  have hf:=zgh hno
  rw [hf] at hm ⊢
  obtain rfl : n = m:=by omega
  refine zab ?_
  refine zag (s:=?s1) rfl ?o1 ?q1
  case o1=>simp; rfl
  refine zah ?_
  refine ⟨.inr rfl,⟨[.rs 0 0 n],rfl,[],[],by simp [List.range,List.range.loop],by simp,by simp,?_,?_⟩⟩
  ·simp [List.range,List.range.loop]
  ·simp [List.range,List.range.loop,fcd]
 simp only [decide_eq_false_iff_not] at h
 obtain ⟨i0,hi0,hlt,hbef,hat⟩ : ∃ i0 : Nat,idxQ l q = i0 ∧ i0 < l.length ∧ (∀ i,i < i0 → ∀ h : i < l.length,q l[i] = false) ∧ ∀ h : i0 < l.length,q l[i0] = true:=by
  unfold idxQ at h ⊢
  split at h
  ·rename_i hlt
   refine ⟨l.findIdx q,by rw [if_pos hlt],hlt,fun i hi _=>?_,fun h=>List.findIdx_getElem (w:=h)⟩
   simpa using List.not_of_lt_findIdx hi
  ·omega
 rw [hi0]
 have hA0 : (l.take (i0 + 1)).filter (fun e=>!q e) = l.take i0:=by
  rw [zeJ l q i0 hlt,if_pos (hat hlt),List.append_nil]
  refine zgh fun i hi h=>?_
  rw [List.length_take] at hi
  simp only [List.getElem_take]
  exact hbef i (by omega) (by omega)
 have hw0 : IntKind.i64.wrap ((i0 : Int) + 1) = ((i0 + 1 : Nat) : Int):=by rw [w64 (by omega) (by omega)]; omega
 let C : Nat × List Int → St:=fun p=>⟨42,[(0,.rs 0 0 n),(1,.fn (.func f) [] capt),(5,.I ((l.take p.1).filter fun e=>!q e).length),(6,.I p.1)],[(0,some ⟨1,zae ((l.take p.1).filter (fun e=>!q e) ++ p.2 ++ l.drop p.1),0⟩)],96⟩
 refine zab ?_
 refine zaa (C (i0 + 1,[l[i0]])) rfl ?_ ?_
 ·simp [hw0]
  refine Le.keep rfl (Nat.le_refl _) ?_ ?_
  ·simp only [C,hA0]
   simp
   omega
  ·simp only [C,hA0]
   simp
 refine zaf ?_
 refine zao C (fun p : Nat × List Int=>p.1 ≤ n ∧ p.2 ≠ [] ∧ ((l.take p.1).filter fun e=>!q e).length + p.2.length = p.1) (fun p : Nat × List Int=>n - p.1) (i0 + 1,[l[i0]]) ?_ (Le.refl _ _) ?_
 ·simp only [hA0]
  simp
  omega
 rintro ⟨j,M⟩ ⟨hj,hM,hlen⟩
 simp only at hj hM hlen ⊢
 obtain ⟨A,hA⟩ : ∃ A,A = (l.take j).filter fun e=>!q e:=⟨_,rfl⟩
 rw [← hA] at hlen
 have hC : C (j,M) = ⟨42,[(0,.rs 0 0 n),(1,.fn (.func f) [] capt),(5,.I A.length),(6,.I j)],[(0,some ⟨1,zae (A ++ M ++ l.drop j),0⟩)],96⟩:=by subst hA; rfl
 rw [hC]
 refine zab ?_
 refine zaa ⟨42,[(0,.rs 0 0 n),(1,.fn (.func f) [] capt),(5,.I A.length),(6,.I j),(19,.B (decide (j < n)))],[(0,some ⟨1,zae (A ++ M ++ l.drop j),0⟩)],128⟩ rfl ?_ ?_
 ·simp
  exact Le.keep rfl (Nat.le_refl _) (by simp) (by simp)
 refine zac _ rfl (fun h=>zad ?_) fun h=>zam (hit ?_)
 ·simp only [decide_eq_true_eq] at h
  have hjl : j < l.length:=by omega
  match M,hM,hlen with
  | m0 :: M1,_,hlen =>
  simp only [List.length_cons] at hlen
  have hnext:=zeJ l q j hjl
  rw [← hA] at hnext
  have hget : (zae (A ++ m0 :: M1 ++ l.drop j))[j]? = some [AV.I l[j]]:=by
   rw [List.getElem?_map,List.getElem?_append_right (by simp; omega),List.getElem?_drop,show j + (j - (A ++ m0 :: M1).length) = j by simp; omega,List.getElem?_eq_getElem hjl]
   rfl
  have hget2 : (zae (A ++ m0 :: M1 ++ l.drop j))[A.length]? = some [AV.I m0]:=by
   rw [List.getElem?_map,List.append_assoc,List.getElem?_append_right (by omega)]
   simp
  have hset : (zae (A ++ m0 :: M1 ++ l.drop j)).set A.length [AV.I l[j]] = zae ((A ++ [l[j]]) ++ (M1 ++ [l[j]]) ++ l.drop (j + 1)):=by
   have e1 : l.drop j = l[j] :: l.drop (j + 1):=List.drop_eq_getElem_cons hjl
   rw [e1]
   simp [zae,List.set_append]
  have hmore : A ++ m0 :: M1 ++ l.drop j = A ++ (m0 :: M1 ++ [l[j]]) ++ l.drop (j + 1):=by
   have e1 : l.drop j = l[j] :: l.drop (j + 1):=List.drop_eq_getElem_cons hjl
   rw [e1]
   simp
  generalize hrows : zae (A ++ m0 :: M1 ++ l.drop j) = R at *
  have hRl : R.length = n:=by rw [← hrows]; simp; omega
  have hck:=hc l[j] (List.getElem_mem hjl)
  generalize hv : l[j] = v at *
  refine zaI (ι:=List Int × List Int) (fun p=>⟨42,[(0,.rs 0 0 n),(1,.fn (.func f) [] capt),(5,.I p.1.length),(6,.I j)],[(0,some ⟨1,zae (p.1 ++ p.2 ++ l.drop (j + 1)),0⟩)],272⟩)
   (fun p=>p.1 = (l.take (j + 1)).filter (fun e=>!q e) ∧ p.2 ≠ [] ∧ p.1.length + p.2.length = j + 1) ?_ ?_
  ·refine zaf ?_
   refine zaa ⟨42,[(0,.rs 0 0 n),(1,.fn (.func f) [] capt),(5,.I A.length),(6,.I j),(7,.I v)],[(0,some ⟨1,R,0⟩)],168⟩ rfl ?_ ?_
   ·simp [h,hget]
    exact Le.keep rfl (Nat.le_refl _) (by simp) (by simp)
   refine zaa ⟨42,[(0,.rs 0 0 n),(1,.fn (.func f) [] capt),(5,.I A.length),(6,.I j),(7,.I v),(29,.B (!q v))],[(0,some ⟨1,R,0⟩)],200⟩ rfl ?_ ?_
   ·simp
    refine zal hck ?_ ?_
    ·simp [hs2,hs3,hs4]
    simp
    exact Le.keep rfl (Nat.le_refl _) (by simp) (by simp)
   refine zac _ rfl (fun h5=>?_) fun h5=>zad ?_
   ·simp only [Bool.not_eq_true'] at h5
    rw [h5] at hnext
    refine zaa ⟨42,[(0,.rs 0 0 n),(1,.fn (.func f) [] capt),(5,.I A.length),(6,.I j)],[(0,some ⟨1,zae ((A ++ [v]) ++ (M1 ++ [v]) ++ l.drop (j + 1)),0⟩)],240⟩ rfl ?_ ?_
    ·simp [hget2,show A.length < n by omega,zaw,hset]
     exact Le.keep rfl (Nat.le_refl _) (by simp) (by simp)
    have hwA : IntKind.i64.wrap ((A.length : Int) + 1) = ((A.length + 1 : Nat) : Int):=by rw [w64 (by omega) (by omega)]; omega
    refine zar rfl ?_
    simp [hwA]
    refine ⟨A ++ [v],M1 ++ [v],⟨by rw [hnext]; simp,by simp,by simp; omega⟩,Le.keep rfl (nbz rfl) (by simp) (by simp)⟩
   ·simp only [Bool.not_eq_false'] at h5
    rw [h5] at hnext
    refine ⟨(A,m0 :: M1 ++ [v]),⟨by rw [hnext]; simp,by simp,by simp; omega⟩,Le.keep rfl (nbz rfl) (by simp) ?_⟩
    rw [← hmore,hrows]
    simp
  rintro ⟨A',M'⟩ ⟨p1,p2,p3⟩
  simp only at p1 p2 p3 ⊢
  have hwj : IntKind.i64.wrap ((j : Int) + 1) = ((j + 1 : Nat) : Int):=by rw [w64 (by omega) (by omega)]; omega
  refine zar rfl ?_
  simp [hwj]
  refine ⟨j + 1,M',⟨by omega,p2,by rw [← p1]; omega⟩,by omega,?_⟩
  have hD : C (j + 1,M') = ⟨42,[(0,.rs 0 0 n),(1,.fn (.func f) [] capt),(5,.I A'.length),(6,.I ((j + 1 : Nat) : Int))],[(0,some ⟨1,zae (A' ++ M' ++ l.drop (j + 1)),0⟩)],96⟩:=by rw [p1]
  rw [hD]
  refine Le.ents [(0,0)] [] rfl (by simp) (by simp) (by simp) (by simp) (by simp) (by simp [hs2,hs3,hs4]) fun p hp=>?_
  simp at hp
  subst hp
  exact ⟨0,_,_,rfl,by simp,rfl,zay.eq (by simp [fcd]) (by simp)⟩
 simp only [decide_eq_false_iff_not] at h
 obtain rfl : j = n:=by omega
 have hd : l.drop j = []:=List.drop_eq_nil_of_le (by omega)
 have ht : l.take j = l:=List.take_of_length_le (by omega)
 rw [ht] at hA
 rw [hd,List.append_nil]
 rw [← hA] at hm ⊢
 subst hm
 have hAM : (zae (A ++ M)).take A.length = zae A:=by simp [zae]
 have hAd : (zae (A ++ M)).drop (A.length + (j - A.length)) = []:=List.drop_eq_nil_of_le (by simp; omega)
 have hAl : (zae (A ++ M)).length = j:=by simp; omega
 generalize zae (A ++ M) = R at *
 refine zaa ⟨42,[(0,.rs 0 0 j),(5,.I A.length)],[(0,some ⟨1,zae A ++ List.replicate (j - A.length) [.I 0],0⟩)],160⟩ rfl ?_ ?_
 ·simp
  refine ⟨by omega,by omega,?_⟩
  rw [hAM,hAd]
  exact Le.keep rfl (Nat.le_refl _) (by simp) (by simp)
 refine zab ?_
 refine zag (s:=?s2) rfl ?o2 ?q2
 case o2 =>
  simp
  refine ⟨by omega,?_⟩
  rfl
 refine zah ?_
 refine ⟨.inr rfl,⟨[.rs 0 0 A.length],rfl,[],[],by simp [List.range,List.range.loop],by simp,by simp,?_,?_⟩⟩
 ·simp [List.range,List.range.loop]
 ·simp [List.range,List.range.loop,fcd]
theorem ziL (f : FuncId) (capt : List AV) (q : Int → Bool) (l : List Int) (hl : l.length ≤ 1099511627776) (hs : zhx capt) (hc : ∀ e ∈ l,zak Tryz.prog f (AV.I e :: capt) [] (.B (q e)) []) : zak Tryz.prog zbc [ints l,.fn (.func f) [] capt] [] (.B (l.any q)) []:=by
 have hs2 : ∀ ρ sn h,capt.map (conv ρ sn h 2) = capt:=fun _ _ _=>hs _ _ _ 1
 have hs3 : ∀ ρ sn h,capt.map (conv ρ sn h 3) = capt:=fun _ _ _=>hs _ _ _ 2
 have hs4 : ∀ ρ sn h,capt.map (conv ρ sn h 4) = capt:=fun _ _ _=>hs _ _ _ 3
 refine zdC.acalls (nbz rfl) (nbz rfl) (Nat.le_refl _) ?_
 show awp _ 0 _ _ ⟨9,[(0,ints l),(1,.fn (.func f) [] capt)],[],16⟩
 refine zab ?_
 refine zag (s:=?s1) rfl ?o1 ?q1
 case o1=>simp; rfl
 have hi : decide (0 ≤ idxQ l q) = l.any q:=by
  unfold idxQ
  by_cases h : l.findIdx q < l.length
  ·rw [if_pos h]
   have:=List.findIdx_getElem (w:=h)
   have h2 : l.any q = true:=List.any_eq_true.2 ⟨_,List.getElem_mem h,this⟩
   rw [h2]
   simp
  ·rw [if_neg h]
   have : l.findIdx q = l.length:=by have:=List.findIdx_le_length (xs:=l) (p:=q); omega
   rw [List.findIdx_eq_length] at this
   have h2 : l.any q = false:=by
    rw [List.any_eq_false]
    intro x hx
    simp [this x hx]
   rw [h2]
   simp
 refine zaa ⟨9,[(4,.B (l.any q))],[],16⟩ rfl ?_ ?_
 ·simp
  refine zal (zg8 f capt q l hl hs hc) ?_ ?_
  ·simp [hs2,hs3,hs4]
  simp
  exact Le.snap [] rfl rfl (by simp; exact wkB hi)
 refine zah ?_
 exact ⟨.inr rfl,zan.one (by simp)⟩
def za8 (n : Nat) (q : Int → Bool) : List Int:=((List.range n).map fun (i : Nat)=>(i : Int)).filter q
theorem zjX (n : Nat) (q : Int → Bool) : za8 (n + 1) q = za8 n q ++ if q n = true then [(n : Int)] else []:=by
 unfold za8
 rw [List.range_succ,List.map_append,List.filter_append]
 congr 1
 cases hq : q n <;> simp [hq]
theorem zfF (n : Nat) (q : Int → Bool) : (za8 n q).length ≤ n:=by
 unfold za8
 have:=List.length_filter_le q ((List.range n).map fun (i : Nat)=>(i : Int))
 simpa using this
set_option maxRecDepth 100000 in
theorem zpE (f : FuncId) (capt : List AV) (q : Int → Bool) (N : Int) (hN : N ≤ 1000000) (hs : zhx capt) (hc : ∀ k : Nat,(k : Int) < N → zak Tryz.prog f (AV.I k :: capt) [] (.B (q k)) []) :
  zak Tryz.prog zb5 [.I N,.fn (.func f) [] capt] [] (.rs 0 0 (za8 N.toNat q).length) [some ⟨1,zae (za8 N.toNat q),0⟩]:=by
 have hs2 : ∀ ρ sn h,capt.map (conv ρ sn h 2) = capt:=fun _ _ _=>hs _ _ _ 1
 have hs3 : ∀ ρ sn h,capt.map (conv ρ sn h 3) = capt:=fun _ _ _=>hs _ _ _ 2
 have hs4 : ∀ ρ sn h,capt.map (conv ρ sn h 4) = capt:=fun _ _ _=>hs _ _ _ 3
 refine ziq.acalls (nbz rfl) (nbz rfl) (Nat.zero_le _) ?_
 show awp _ 0 _ _ ⟨20,[(0,.I N),(1,.fn (.func f) [] capt)],[],16⟩
 refine zab ?_
 refine zag (s:=?s0) rfl ?o0 ?q0
 case o0=>simp; rfl
 refine zab ?_
 refine zag (s:=?s1) rfl ?o1 ?q1
 case o1=>simp; rfl
 refine zab ?_
 refine zab ?_
 refine zag (s:=?s2) rfl ?o2 ?q2
 case o2=>simp; rfl
 refine zaf ?_
 let C : Nat → St:=fun k=>⟨20,[(1,.fn (.func f) [] capt),(5,.rs 16 0 (za8 k q).length),(7,.I N),(8,.I k)],[(16,some ⟨1,zae (za8 k q),0⟩)],24⟩
 refine zao C (fun k=>k ≤ N.toNat) (fun k=>N.toNat - k) 0 (Nat.zero_le _) (Le.lst [] [] [(16,1)] rfl (by simp) (by simp) (by simp) (by simp [C]) (by simp) (by simp) (by simp) (by simp [C,Up,za8,hs2,hs3,hs4]) (by simp [C,za8])) ?_
 intro k hk
 have hwl:=zfF k q
 have hCk : C k = ⟨20,[(1,.fn (.func f) [] capt),(5,.rs 16 0 (za8 k q).length),(7,.I N),(8,.I k)],[(16,some ⟨1,zae (za8 k q),0⟩)],24⟩:=rfl
 rw [hCk]
 refine zaa ⟨20,[(1,.fn (.func f) [] capt),(5,.rs 16 0 (za8 k q).length),(7,.I N),(8,.I k),(9,.B (decide ((k : Int) < N)))],[(16,some ⟨1,zae (za8 k q),0⟩)],32⟩ rfl ?_ ?_
 ·simp
  exact Le.keep rfl (Nat.le_refl _) (by simp) (by simp)
 refine zab ?_
 refine zac _ rfl (fun h=>zad ?_) fun h=>zam (hit ?_)
 ·simp only [decide_eq_true_eq] at h
  have hck:=hc k h
  have hnext:=zjX k q
  have hw2 : IntKind.i64.wrap ((k : Int) + 1) = ((k + 1 : Nat) : Int):=by rw [w64 (by omega) (by omega)]; omega
  refine zaI (ι:=Unit) (fun _=>⟨20,[(1,.fn (.func f) [] capt),(5,.rs 16 0 (za8 (k + 1) q).length),(7,.I N),(8,.I k)],[(16,some ⟨1,zae (za8 (k + 1) q),0⟩)],24⟩) (fun _=>True) ?_ fun _ _=>?_
  ·rw [hnext]
   generalize za8 k q = W at *
   refine zaf ?_
   refine zab ?_
   refine zag (s:=?s3) rfl ?o3 ?q3
   case o3=>simp; rfl
   refine zaa ⟨20,[(1,.fn (.func f) [] capt),(5,.rs 16 0 W.length),(6,.I k),(7,.I N),(8,.I k),(13,.B (q k))],[(16,some ⟨1,zae W,0⟩)],72⟩ rfl ?_ ?_
   ·simp
    refine zal hck ?_ ?_
    ·simp [hs2,hs3,hs4]
    simp
    exact Le.keep rfl (Nat.le_refl _) (by simp) (by simp)
   refine zac _ rfl (fun h5=>?_) fun h5=>zad ?_
   ·rw [if_pos h5]
    refine zar rfl ?_
    simp [List.replicate]
    refine ⟨by omega,by omega,zib (i:=96) (sn:=[]) rfl rfl (by simp) (by simp) rfl (by simp [fcd,zaj]) (by simp) (by simp [hs2,hs3,hs4])⟩
   ·rw [if_neg (by simp [h5]),List.append_nil]
    exact ⟨(),trivial,zib (i:=16) (sn:=[]) rfl rfl (by simp) (by simp) rfl (by simp [fcd]) (by simp) (by simp [hs2,hs3,hs4])⟩
  refine zar rfl ?_
  simp [hw2]
  exact ⟨k + 1,by omega,by omega,zib (i:=16) (sn:=[]) rfl rfl (by simp [C]) (by simp) rfl (by simp [fcd]) (by simp) (by simp [C,hs2,hs3,hs4])⟩
 simp only [decide_eq_false_iff_not] at h
 obtain rfl : k = N.toNat:=by omega
 generalize za8 N.toNat q = W at *
 refine zab ?_
 refine zag (s:=?s9) rfl ?o9 ?q9
 case o9=>simp; rfl
 refine zah ?_
 exact ⟨.inr rfl,zan.out [16] [] rfl (by simp) (by simp) (by simp) (by simp [fcd])⟩
end Go.Proofs.YteiabadhhhckfaaGreat
