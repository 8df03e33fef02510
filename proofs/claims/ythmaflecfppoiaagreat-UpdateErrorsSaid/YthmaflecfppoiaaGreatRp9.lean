/- Texts of this claim,merged. -/
import Derived.Test.YthmaflecfppoiaaGreatRp8
import Derived.Test.YthmaflecfppoiaaGreatRp6
import Derived.Test.YthmaflecfppoiaaGreatProg
import Derived.KernelRfl
import Derived.Test.YthmaflecfppoiaaGreatRp7
import Derived.Test.YthmaflecfppoiaaGreatRp5
set_option linter.unusedSimpArgs false
set_option linter.unusedVariables false
set_option linter.unusedSectionVars false
namespace Go.Proofs.YthmaflecfppoiaaGreat
open Go
theorem zhp : Src Tryz.prog zet zhq:=mkS Tryz.f4
theorem zoY : Src Tryz.prog zeK zoG:=mkS Tryz.f9
theorem zi7 : Src Tryz.prog zdm ziu:=mkS Tryz.f12
theorem zhT : Src Tryz.prog zbU znw:=mkS Tryz.f13
theorem zgC : Src Tryz.prog zbR zpx:=mkS Tryz.f14
theorem zki : Src Tryz.prog zdj zqz:=mkS Tryz.f17
theorem zmD : Src Tryz.prog zfg zrW:=mkS Tryz.f18
theorem zoj : Src Tryz.prog zgw zpo:=mkS Tryz.f19
theorem zfk : Src Tryz.prog zbA zmX:=mkS Tryz.f20
theorem zgm : Src Tryz.prog zb9 zoX:=mkS Tryz.f21
theorem zlq : Src Tryz.prog zes zpy:=mkS Tryz.f34
theorem zlJ : Src Tryz.prog ze4 zlQ:=mkS Tryz.f36
theorem zmg : Src Tryz.prog zef zsc:=mkS Tryz.f37
theorem zkX : Src Tryz.prog zdp zqt:=mkS Tryz.f38
theorem zja : Src Tryz.prog zaX zoh:=mkS Tryz.f39
theorem zod : Src Tryz.prog zgs zpp:=mkS Tryz.f41
theorem zhX : Src Tryz.prog zaM zm2:=mkS Tryz.f42
theorem zjg : Src Tryz.prog zeN zoI:=mkS Tryz.f43
theorem zoN : Src Tryz.prog zeP zn0:=mkS Tryz.f44
theorem zl8 : Src Tryz.prog zdB zlx:=mkS Tryz.f45
theorem zkC : Src Tryz.prog zbN zkc:=mkS Tryz.f53
theorem zmL : Src Tryz.prog zd2 znb:=mkS Tryz.f54
theorem zoL : Src Tryz.prog zeI zpa:=mkS Tryz.f55
theorem zj5 : Src Tryz.prog zbO zkm:=mkS Tryz.f56
theorem zmI : Src Tryz.prog zcZ zno:=mkS Tryz.f57
theorem znB : Src Tryz.prog zfK zmK:=mkS Tryz.f58
theorem zpv : Src Tryz.prog zcQ zpl:=mkS Tryz.f63
theorem zmV : Src Tryz.prog zdY znM:=mkS Tryz.f66
theorem zlN : Src Tryz.prog zeS zl4:=mkS Tryz.f67
theorem ziY : Src Tryz.prog zds ziK:=mkS Tryz.f68
theorem zpM : Src Tryz.prog zhm zpA:=mkS Tryz.f69
theorem zlV : Src Tryz.prog zcs zlX:=mkS Tryz.f71
theorem zjc : Src Tryz.prog zdN zoW:=mkS Tryz.f72
theorem zjm : Src Tryz.prog zdL zo1:=mkS Tryz.f73
theorem znU : Src Tryz.prog zfI znI:=mkS Tryz.f74
theorem zhr : Src Tryz.prog zcE zhh:=mkS Tryz.f75
theorem zlE : Src Tryz.prog ze9 zlO:=mkS Tryz.f76
theorem zpC : Src Tryz.prog zfm zqy:=mkS Tryz.f77
theorem zqf : Src Tryz.prog zfz zp6:=mkS Tryz.f78
theorem zqi : Src Tryz.prog zhi zqs:=mkS Tryz.f79
theorem zsj : Src Tryz.prog ziO zrC:=mkS Tryz.f80
theorem zmZ : Src Tryz.prog zd8 zmJ:=mkS Tryz.f81
theorem zld : Src Tryz.prog zc4 zky:=mkS Tryz.f83
theorem zlT : Src Tryz.prog zeV zlH:=mkS Tryz.f93
theorem zsX : Src Tryz.prog zk3 ztx:=mkS Tryz.f94
theorem zrU : Src Tryz.prog zgQ zsm:=mkS Tryz.f95
theorem zgH : Src Tryz.prog zbz zgc:=mkS Tryz.f96
theorem zjE : Src Tryz.prog zaK zjU:=mkS Tryz.f98
theorem zns : Src Tryz.prog zfq znC:=mkS Tryz.f101
theorem zsi : Src Tryz.prog zgP zrS:=mkS Tryz.f103
theorem zkT : Src Tryz.prog zc7 zkP:=mkS Tryz.f104
theorem zrI : Src Tryz.prog ziN zsv:=mkS Tryz.f105
theorem zph : Src Tryz.prog zcG zoo:=mkS Tryz.f106
theorem zpO : Src Tryz.prog zfr zqB:=mkS Tryz.f107
theorem zob : Src Tryz.prog zdJ zoC:=mkS Tryz.f108
theorem zps : Src Tryz.prog zeJ zn1:=mkS Tryz.f109
theorem zkp : Src Tryz.prog zep zlf:=mkS Tryz.f110
theorem zqJ : Src Tryz.prog zeq zp5:=mkS Tryz.f111
theorem zmP : Src Tryz.prog zdZ zm6:=mkS Tryz.f113
theorem zlA : Src Tryz.prog zdC zlR:=mkS Tryz.f114
theorem zsd : Src Tryz.prog zgM zst:=mkS Tryz.f115
theorem zni : Src Tryz.prog zfL znN:=mkS Tryz.f116
theorem zif : Src Tryz.prog zb6 zir:=mkS Tryz.f117
theorem zfp : Src Tryz.prog zbW zfA:=mkS Tryz.f118
theorem zpk : Src Tryz.prog zbQ zo8:=mkS Tryz.f127
theorem ziZ : Src Tryz.prog zaJ zi6:=mkS Tryz.f128
theorem znk : Src Tryz.prog zfy zne:=mkS Tryz.f129
theorem zqx : Src Tryz.prog zfE zpX:=mkS Tryz.f130
theorem zr4 : Src Tryz.prog ziR zrF:=mkS Tryz.f131
theorem zhv : Src Tryz.prog zbT zhy:=mkS Tryz.f132
theorem ztM : Src Tryz.prog zj7 ztg:=mkS Tryz.f133
theorem zl0 : Src Tryz.prog zdz zlu:=mkS Tryz.f134
theorem zcp : Src Tryz.prog zaW zcq:=mkS Tryz.f135
theorem zhu : Src Tryz.prog zcF zht:=mkS Tryz.f136
theorem zo2 : Src Tryz.prog zgG zpc:=mkS Tryz.f146
theorem zhz : Src Tryz.prog zcC zhc:=mkS Tryz.f147
theorem zcV : Src Tryz.prog za4 zcU:=mkS Tryz.f148
theorem zhn : Src Tryz.prog zbt zhA:=mkS Tryz.f192
theorem zgW : Src Tryz.prog zbm zgY:=mkS Tryz.f196
def modI (n m : Int) : Int:=if m < 1 then 0 else n % m
theorem zsx {n m : Int} (hm : 0 < m) : n.tmod m % m = n % m:=by
 have h:=Int.mul_tdiv_add_tmod n m
 conv=>rhs; rw [← h]
 rw [Int.add_comm,Int.add_mul_emod_self_left]
theorem zrE {n m : Int} (hm : 0 < m) : -m < n.tmod m ∧ n.tmod m < m:=⟨Int.lt_tmod_of_pos n hm,Int.tmod_lt_of_pos n hm⟩
def zaz (L : List Int) (a : Nat) (n : Int) : Int × Nat:=if h : a < L.length then (modI L[a] n,a + 1) else (0,a)
abbrev dice (L : List Int) (a : Nat) : Ent:=⟨2,[[ints L,.I a]],0⟩
theorem zak.k1 {rs : List (Nat × Option (Bool × Nat))} {st : St} {vs : List AV} {res : AV} {e : Ent} (h1 : zfO st rs = some vs) (hw : Wk (conv [(0,0)] [] st.hp 4 (resV vs)) res) (he : (st.hp 0).map (zax [(0,0)] [] st.hp 4) = some e) : zak rs 1 st res [some e] :=
 ⟨vs,h1,[],[],by decide,by simp,by simp,hw,by simpa using he⟩
theorem zuj (L : List Int) : zai Tryz.prog zhk [ints L] [] (.B (decide (L.length ≤ 400))) []:=by
 refine zp2.acalls (nbz rfl) (nbz rfl) (Nat.le_refl _) ?_
 show awp _ 0 _ _ ⟨6,[(0,ints L)],[],16⟩
 refine zab ?_
 refine zad (s:=?s1) rfl ?o1 ?q1
 case o1=>simp; rfl
 refine zaa ⟨6,[(2,.B (decide (L.length ≤ 400)))],[],16⟩ rfl ?_ ?_
 ·simp
  exact Le.snap [] rfl rfl (by simp <;> exact wkB (by simp; omega))
 refine zag ?_
 exact ⟨.inr rfl,zak.one (by simp)⟩
theorem zv6 (n m : Int) (hm : m ≤ 9223372036854775807) : zai Tryz.prog zlc [.I n,.I m] [] (.I (modI n m)) []:=by
 refine ztl.acalls (nbz rfl) (nbz rfl) (Nat.le_refl _) ?_
 show awp _ 0 _ _ ⟨16,[(0,.I n),(1,.I m)],[],16⟩
 refine zab ?_
 refine zad (s:=?s1) rfl ?o1 ?q1
 case o1=>simp; rfl
 refine zab ?_
 refine zab ?_
 refine zad (s:=?s2) rfl ?o2 ?q2
 case o2=>simp; rfl
 refine zac _ rfl (fun h3=>?_) fun h3=>?_
 ·try simp at h3
  refine zab ?_
  refine zad (s:=?s4) rfl ?o4 ?q4
  case o4=>simp; rfl
  refine zag ?_
  exact ⟨.inr rfl,zak.one (by simp [modI,h3])⟩
 try simp at h3
 have hm0 : m ≠ 0:=by omega
 have hlt : ¬ m < 1:=by omega
 obtain ⟨t1,t2⟩:=zrE (n:=n) (m:=m) (by omega)
 have te:=zsx (n:=n) (m:=m) (by omega)
 refine zae ?_
 refine zab ?_
 refine zad (s:=?s5) rfl ?o5 ?q5
 case o5=>simp [hm0]; rfl
 refine zab ?_
 refine zab ?_
 refine zad (s:=?s6) rfl ?o6 ?q6
 case o6=>simp; rfl
 refine zac _ rfl (fun h7=>?_) fun h7=>?_
 ·try simp at h7
  have hw : IntKind.i64.wrap (n.tmod m + m) = n.tmod m + m:=w64 (by omega) (by omega)
  have hr : n % m = n.tmod m + m:=by rw [← te,← Int.add_emod_right,Int.emod_eq_of_lt (by omega) (by omega)]
  refine zad (s:=?s8) rfl ?o8 ?q8
  case o8=>simp [hw]; rfl
  refine zab ?_
  refine zad (s:=?s9) rfl ?o9 ?q9
  case o9=>simp; rfl
  refine zag ?_
  exact ⟨.inr rfl,zak.one (by simp [modI,hlt,hr])⟩
 try simp at h7
 have hr : n % m = n.tmod m:=by rw [← te,Int.emod_eq_of_lt (by omega) (by omega)]
 refine zae ?_
 refine zab ?_
 refine zad (s:=?s10) rfl ?o10 ?q10
 case o10=>simp; rfl
 refine zag ?_
 exact ⟨.inr rfl,zak.one (by simp [modI,hlt,hr])⟩
theorem zvq (L : List Int) : zai Tryz.prog ziv [ints L] [] (.pt 0 0 0) [some (dice L 0)]:=by
 refine zsg.acalls (nbz rfl) (nbz rfl) (Nat.zero_le _) ?_
 show awp _ 0 _ _ ⟨6,[(0,ints L)],[],16⟩
 refine zab ?_
 refine zad (s:=?s1) rfl ?o1 ?q1
 case o1=>simp; rfl
 refine zab ?_
 refine zad (s:=?s2) rfl ?o2 ?q2
 case o2=>simp; rfl
 refine zag ?_
 exact ⟨.inr rfl,zak.out [40] [] rfl (by simp) (by simp) (by simp) (by simp)⟩
theorem znF (L : List Int) (a : Nat) (n : Int) (hl : L.length ≤ 1099511627776) (ha : a ≤ L.length) (hn : n ≤ 9223372036854775807) : zai Tryz.prog zaD [.pt 0 0 0,.I n] [dice L a] (.I (zaz L a n).1) [some (dice L (zaz L a n).2)]:=by
 refine zkh.acalls (nbz rfl) (nbz rfl) (Nat.le_refl _) ?_
 show awp _ 1 _ _ ⟨35,[(0,.pt 0 0 0),(1,.I n)],[(0,some (dice L a))],16⟩
 refine zab ?_
 refine zad (s:=?s1) rfl ?o1 ?q1
 case o1=>simp; rfl
 refine zab ?_
 refine zab ?_
 refine zdv (s:=?s2) (tr:=?t2) rfl ?o2 ?r2 ?q2
 case o2=>simp; constructor <;> rfl
 case r2=>rfl
 refine zac _ rfl (fun h3=>?_) fun h3=>?_
 ·try simp at h3
  refine zab ?_
  refine zad (s:=?s4) rfl ?o4 ?q4
  case o4=>simp; rfl
  refine zag ?_
  have hr : zaz L a n = (0,a):=by unfold zaz; rw [dif_neg (by omega)]
  rw [hr]
  exact ⟨.inr rfl,zak.k1 rfl (by simp) (by simp [fcd])⟩
 try simp at h3
 have hw : IntKind.i64.wrap ((a : Int) + 1) = (a : Int) + 1:=w64 (by omega) (by omega)
 have hw0 : IntKind.i64.wrap (a : Int) = (a : Int):=w64 (by omega) (by omega)
 refine zae ?_
 refine zab ?_
 refine zad (s:=?s5) rfl ?o5 ?q5
 case o5=>simp [hw]; rfl
 refine zab ?_
 refine zdv (s:=?s6) (tr:=?t6) rfl ?o6 ?r6 ?q6
 case o6=>simp [hw0,h3]; refine zaj (zv6 _ _ hn) rfl ?_; simp; constructor <;> rfl
 case r6=>rfl
 refine zag ?_
 have hr : zaz L a n = (modI L[a] n,a + 1):=by unfold zaz; rw [dif_pos h3]
 rw [hr]
 exact ⟨.inr rfl,zak.k1 rfl (by simp) (by simp [fcd])⟩
theorem zvp {n m : Int} (hm : 0 < m) : 0 ≤ modI n m ∧ modI n m < m:=by
 unfold modI
 rw [if_neg (by omega)]
 exact ⟨Int.emod_nonneg _ (by omega),Int.emod_lt_of_pos _ hm⟩
theorem zeG {L : List Int} {a : Nat} {n : Int} (hn : 0 < n) : 0 ≤ (zaz L a n).1 ∧ (zaz L a n).1 < n:=by
 unfold zaz
 split
 ·exact zvp hn
 ·exact ⟨Int.le_refl _,hn⟩
theorem zbS {L : List Int} {a : Nat} {n : Int} (ha : a ≤ L.length) : (zaz L a n).2 ≤ L.length:=by
 unfold zaz
 split
 ·simp only; omega
 ·exact ha
def ofD (L : List Int) (a : Nat) (l : List Int) : Int:=l.getD (zaz L a l.length).1.toNat 0
theorem zuZ (L : List Int) (a : Nat) (n : Int) (hl : L.length ≤ 1099511627776) (ha : a ≤ L.length) (hn0 : 0 ≤ n) (hn : n ≤ 9223372036854775807) : zai Tryz.prog zcv [.pt 0 0 0,.I n] [dice L a] (.B (decide ((zaz L a n).1 = n - 1))) [some (dice L (zaz L a n).2)]:=by
 refine zl3.acalls (nbz rfl) (nbz rfl) (Nat.le_refl _) ?_
 show awp _ 1 _ _ ⟨11,[(0,.pt 0 0 0),(1,.I n)],[(0,some (dice L a))],16⟩
 have hw : IntKind.i64.wrap (n - 1) = n - 1:=w64 (by omega) (by omega)
 refine zab ?_
 refine zad (s:=?s1) rfl ?o1 ?q1
 case o1=>simp; rfl
 refine zab ?_
 refine zad (s:=?s2) rfl ?o2 ?q2
 case o2 =>
  simp
  refine zbH (i:=0) rfl (e':=dice L a) (by simp [fcd]) (znF L a n hl ha hn) (by simp) (by simp) ?_
  simp [hw,fcd]
  rfl
 refine zag ?_
 exact ⟨.inr rfl,zak.k1 rfl (by simp <;> exact wkB rfl) (by simp [fcd])⟩
theorem zxE (L : List Int) (a : Nat) (l : List Int) (hl : L.length ≤ 1099511627776) (ha : a ≤ L.length) (h0 : 0 < l.length) (hl2 : l.length ≤ 1099511627776) : zai Tryz.prog zcX [.pt 0 0 0,ints l] [dice L a] (.I (ofD L a l)) [some (dice L (zaz L a l.length).2)]:=by
 refine znl.acalls (nbz rfl) (nbz rfl) (Nat.le_refl _) ?_
 show awp _ 1 _ _ ⟨12,[(0,.pt 0 0 0),(1,ints l)],[(0,some (dice L a))],16⟩
 obtain ⟨q,hq,hql⟩ : ∃ q : Nat,(zaz L a l.length).1 = q ∧ q < l.length:=by
  have:=zeG (L:=L) (a:=a) (n:=l.length) (by omega)
  exact ⟨(zaz L a l.length).1.toNat,by omega,by omega⟩
 have ho : ofD L a l = l[q]:=by unfold ofD; rw [hq]; simp [hql]
 refine zab ?_
 refine zad (s:=?s1) rfl ?o1 ?q1
 case o1=>simp; rfl
 refine zab ?_
 refine zad (s:=?s2) rfl ?o2 ?q2
 case o2 =>
  simp
  refine zbH (i:=0) rfl (e':=dice L a) (by simp [fcd]) (znF L a l.length hl ha (by omega)) (by simp) (by simp) ?_
  simp [hq,hql,fcd]
  rfl
 refine zag ?_
 rw [ho]
 exact ⟨.inr rfl,zak.k1 rfl (by simp) (by simp [fcd])⟩
section
variable {P : Program} {np id : Nat} {h : Nat → Option Ent} {K : AV → List Nat → List (Nat × Option Ent) → Prop} {s i off len c k l m : Nat}
@[simp] theorem zxX : aK P np id (.slc s true false false) [.rk i off len c,.sc (.int .i64 (k : Int))] h K = (k ≤ len ∧ len ≤ c ∧ (∃ e,h i = some e ∧ e.s = s) ∧ K (.rk i (off + k) (len - k) (c - k)) [i] []):=by
 rw [zku]
 refine propext ⟨?_,?_⟩
 ·rintro ⟨l,r,m,n,h1,h2,h4,h5,h6,h7,h3,h10,h11,h8,h9⟩
  obtain rfl:=h6 rfl
  simp at h4 h1
  subst h1
  have : k = l:=by omega
  subst this
  obtain rfl:=h11 rfl
  exact ⟨h2,h3,h8,h9⟩
 ·rintro ⟨h1,h2,h3,h4⟩
  exact ⟨k,len,c,len,rfl,h1,by simp,(fun h=>by cases h),fun _=>rfl,(fun h=>by cases h),h2,Nat.le_refl _,fun _=>rfl,h3,h4⟩
@[simp] theorem zx3 : aK P np id (.slc s false true false) [.rk i off len c,.sc (.int .i64 (k : Int))] h K = (k ≤ c ∧ (∃ e,h i = some e ∧ e.s = s) ∧ K (.rk i off k c) [i] []):=by
 rw [zku]
 refine propext ⟨?_,?_⟩
 ·rintro ⟨l,r,m,n,h1,h2,h4,h5,h6,h7,h3,h10,h11,h8,h9⟩
  obtain rfl:=h5 rfl
  simp at h4 h1
  have : k = r:=by omega
  subst this
  obtain rfl:=h11 rfl
  exact ⟨h3,h8,by simpa using h9⟩
 ·rintro ⟨h1,h3,h4⟩
  exact ⟨0,k,c,len,rfl,Nat.zero_le _,by simp,fun _=>rfl,(fun h=>by cases h),(fun h=>by cases h),h1,Nat.le_refl _,fun _=>rfl,h3,by simpa using h4⟩
@[simp] theorem zxa : aK P np id (.slc s true true false) [.rk i off len c,.sc (.int .i64 (l : Int)),.sc (.int .i64 (k : Int))] h K = (l ≤ k ∧ k ≤ c ∧ (∃ e,h i = some e ∧ e.s = s) ∧ K (.rk i (off + l) (k - l) (c - l)) [i] []):=by
 rw [zku]
 refine propext ⟨?_,?_⟩
 ·rintro ⟨l',r,m,n,h1,h2,h4,h5,h6,h7,h3,h10,h11,h8,h9⟩
  simp at h4 h1
  have : k = r:=by omega
  subst this
  have : l = l':=by omega
  subst this
  obtain rfl:=h11 rfl
  exact ⟨h2,h3,h8,h9⟩
 ·rintro ⟨h1,h2,h3,h4⟩
  exact ⟨l,k,c,len,rfl,h1,by simp,(fun h=>by cases h),(fun h=>by cases h),(fun h=>by cases h),h2,Nat.le_refl _,fun _=>rfl,h3,h4⟩
@[simp] theorem zxL : aK P np id (.slc s true true true) [.rk i off len c,.sc (.int .i64 (l : Int)),.sc (.int .i64 (k : Int)),.sc (.int .i64 (m : Int))] h K = (l ≤ k ∧ k ≤ m ∧ m ≤ c ∧ (∃ e,h i = some e ∧ e.s = s) ∧ K (.rk i (off + l) (k - l) (m - l)) [i] []):=by
 rw [zku]
 refine propext ⟨?_,?_⟩
 ·rintro ⟨l',r,m',n,h1,h2,h4,h5,h6,h7,h3,h10,h11,h8,h9⟩
  simp at h4 h1
  have : k = r:=by omega
  subst this
  have : l = l':=by omega
  subst this
  have : m = m':=by omega
  subst this
  exact ⟨h2,h3,h10,h8,h9⟩
 ·rintro ⟨h1,h2,h3,h4,h5⟩
  exact ⟨l,k,m,len,rfl,h1,by simp,(fun h=>by cases h),(fun h=>by cases h),(fun _=>rfl),h2,h3,(fun h=>by cases h),h4,h5⟩
@[simp] theorem zx5 : aK P np id (.slc s true false false) [.rs i off len,.sc (.int .i64 (k : Int))] h K = (k ≤ len ∧ (∃ e,h i = some e ∧ e.s = s) ∧ K (.rs i (off + k) (len - k)) [i] []):=by
 rw [zku]
 refine propext ⟨?_,?_⟩
 ·rintro ⟨l,r,m,n,h1,h2,h4,h5,h6,h7,h3,h10,h8,h9⟩
  obtain rfl:=h6 rfl
  simp at h4 h1
  subst h1
  have : k = l:=by omega
  subst this
  exact ⟨h2,h8,h9⟩
 ·rintro ⟨h1,h3,h4⟩
  exact ⟨k,len,0,len,rfl,h1,by simp,(fun h=>by cases h),fun _=>rfl,(fun h=>by cases h),Nat.le_refl _,rfl,h3,h4⟩
@[simp] theorem zxG : aK P np id (.slc s false true false) [.rs i off len,.sc (.int .i64 (k : Int))] h K = (k ≤ len ∧ (∃ e,h i = some e ∧ e.s = s) ∧ K (.rs i off k) [i] []):=by
 rw [zku]
 refine propext ⟨?_,?_⟩
 ·rintro ⟨l,r,m,n,h1,h2,h4,h5,h6,h7,h3,h10,h8,h9⟩
  obtain rfl:=h5 rfl
  simp at h4 h1
  have : k = r:=by omega
  subst this
  exact ⟨by omega,h8,by simpa using h9⟩
 ·rintro ⟨h1,h3,h4⟩
  exact ⟨0,k,0,len,rfl,Nat.zero_le _,by simp,fun _=>rfl,(fun h=>by cases h),(fun h=>by cases h),h1,rfl,h3,by simpa using h4⟩
end
theorem Le.keep {np : Nat} {st st' : St} (hsz : st'.sz = st.sz) (hn : st.n ≤ st'.n) (ht : ∀ p ∈ st'.t,st.get p.1 = p.2) (hh : ∀ p ∈ st'.h,∀ e,p.2 = some e → st.hp p.1 = some e) : Le np st st':=by
 intro T0 M0 w0 T M a w ok hnp
 have hp : ∀ id e,st'.hp id = some e → st.hp id = some e:=by
  intro id e he
  unfold St.hp at he
  cases hl : lkp st'.h id with
  | none=>rw [hl] at he; cases he
  | some v =>
    rw [hl] at he
    exact hh _ (zbn hl) e he
 refine ⟨T,M,⟨ok.sz.trans hsz.symm,ok.df,fun i=>?_,⟨fun id e he=>ok.hs.ent id e (hp id e he),fun id id' e e' g g' b h1 h2=>ok.hs.inj id id' e e' g g' b (hp _ _ h1) (hp _ _ h2)⟩,fun id g hg=>Nat.lt_of_lt_of_le (ok.dom id g hg) hn,ok.after⟩,Nat.le_trans hnp hn⟩
 unfold St.get at *
 cases hl : lkp st'.t i with
 | none=>exact .dead _ _
 | some v =>
   have:=ht _ (zbn hl)
   simp only at this
   show Rep T w M v _
   rw [← this]
   exact ok.tm i
theorem Le.mv1 {st st' : St} (j i : Nat) {e0 e : Ent} (hsz : st'.sz = st.sz) (hh : st'.h = [(i,some e)]) (hi : i < st'.n) (h1 : 1 ≤ i) (h0 : st.hp j = some e0) (he : zax [(j,i)] [] st.hp 4 e0 = e) (hr : e.ro ≤ e.rows.length)
  (ht : ∀ p ∈ st'.t,Wk (conv [(j,i)] [] st.hp 4 (st.get p.1)) p.2) : Le 1 st st' :=
 Le.lst [(j,i)] [] [] hsz (by simp) (by simp) (by simp [hi]; omega) (by simp) (by simp) (by omega) (by simp) (fun p hp=>.inl (ht p hp)) (fun p hp e' he'=>by
  rw [hh] at hp
  simp at hp
  subst hp
  cases he'
  exact .inl ⟨(j,i),by simp,rfl,e0,h0,by rw [he]; exact zaI.rfl' hr⟩)
theorem zak.m1 {rs : List (Nat × Option (Bool × Nat))} {st : St} {vs : List AV} {res : AV} {e : Ent} (i : Nat) (hi : 1 ≤ i) (h1 : zfO st rs = some vs) (hw : Wk (conv [(0,0),(i,1)] [] st.hp 4 (resV vs)) res) (h0 : st.hp 0 = none) (he : (st.hp i).map (zax [(0,0),(i,1)] [] st.hp 4) = some e) : zak rs 1 st res [none,some e] :=
 ⟨vs,h1,[i],[],by simp [List.range,List.range.loop]; omega,by simpa using hi,by simp,by simpa [List.range,List.range.loop] using hw,by simpa [List.range,List.range.loop,h0] using he⟩
def Flat (R : List (List AV)) : Prop:=∀ ρ sn h n,R.map (List.map (conv ρ sn h (n + 1))) = R
set_option maxRecDepth 100000 in
theorem zvv (R : List (List AV)) (row : List AV) (n k : Nat) (hn : R.length = n) (hk : k ≤ n) (hR : Flat R) (hr : Flat [row]) (hl : (n + 1) * 24 ≤ 140737488355328) :
  zai Tryz.prog za6 [.rs 0 0 n,.I k,.vs 3 false [row]] [⟨3,R,0⟩] (.rs 1 0 (n + 1)) [none,some ⟨3,R.take k ++ row :: R.drop k,0⟩]:=by
 have hrow : ∀ ρ sn h n,row.map (conv ρ sn h (n + 1)) = row:=fun ρ sn h n=>by simpa using hr ρ sn h n
 have hflat : ∀ ρ sn h n,(R.take k ++ row :: R.drop k).map (List.map (conv ρ sn h (n + 1))) = R.take k ++ row :: R.drop k:=fun ρ sn h n=>by
  have:=hR ρ sn h n
  rw [List.map_append,List.map_cons,List.map_take,List.map_drop,this,hrow]
 refine zma fun c hc=>?_
 refine zc1.acalls (nbz rfl) (nbz rfl) (nbz rfl) ?_
 show awp _ 1 _ _ ⟨95,[(0,.rk 0 0 n c),(1,.I k),(2,.vs 3 false [row])],[(0,some ⟨3,R,0⟩)],16⟩
 obtain ⟨n1,hn1⟩ : ∃ n1,n1 = n + 1:=⟨_,rfl⟩
 obtain ⟨k1,hk1⟩ : ∃ k1,k1 = k + 1:=⟨_,rfl⟩
 obtain ⟨d,hd⟩ : ∃ d,d = n1 - k:=⟨_,rfl⟩
 have hw1 : IntKind.i64.wrap ((n : Int) + 1) = (n1 : Int):=by rw [w64 (by omega) (by omega)]; omega
 have hw2 : IntKind.i64.wrap ((k : Int) + 1) = (k1 : Int):=by rw [w64 (by omega) (by omega)]; omega
 have hw3 : IntKind.i64.wrap ((n1 : Int) - (k : Int)) = (d : Int):=by rw [w64 (by omega) (by omega)]; omega
 have fin : ∀ (t : List (Nat × AV)) (m : Nat),awp Tryz.prog 1 .ret (fun e st=>(e = .normal ∨ e = .ret) ∧ zak [(6,none)] 1 st (.rs 1 0 (n + 1)) [none,some ⟨3,R.take k ++ row :: R.drop k,0⟩]) ⟨95,[(6,.rs 16 0 n1)],[(16,some ⟨3,R.take k ++ row :: R.drop k,0⟩)],24⟩:=by
  intro t m
  refine zag ⟨.inr rfl,?_⟩
  refine zak.m1 (vs:=[.rs 16 0 n1]) 16 (by omega) rfl (by simp [hn1]) rfl ?_
  show Option.map _ (some _) = _
  rw [Option.map_some]
  unfold zax
  simp only [hflat]
 refine zaa ⟨95,[(0,.rk 0 0 n c),(1,.I k),(2,.vs 3 false [row])],[(0,some ⟨3,R,0⟩)],24⟩ rfl ?_ ?_
 ·simp
  exact Le.keep rfl (Nat.le_refl _) (by simp) (by simp)
 refine zaa ⟨95,[(0,.rk 0 0 n c),(1,.I k),(2,.vs 3 false [row])],[(0,some ⟨3,R,0⟩)],48⟩ rfl ?_ ?_
 ·simp [hk,hc]
  exact Le.keep rfl (Nat.le_refl _) (by simp) (by simp)
 refine zaa ⟨95,[(0,.rk 0 0 n c),(1,.I k),(2,.vs 3 false [row]),(7,.I 1)],[(0,some ⟨3,R,0⟩)],72⟩ rfl ?_ ?_
 ·simp
  exact Le.keep rfl (Nat.le_refl _) (by simp) (by simp)
 refine zab ?_
 refine zaa ⟨95,[(0,.rk 0 0 n c),(1,.I k),(2,.vs 3 false [row]),(7,.I 1),(16,.B false)],[(0,some ⟨3,R,0⟩)],88⟩ rfl ?_ ?_
 ·simp
  exact Le.keep rfl (Nat.le_refl _) (by simp) (by simp)
 refine zac _ rfl (fun h=>by cases h) fun _=>zae ?_
 refine zaa ⟨95,[(0,.rk 0 0 n c),(1,.I k),(2,.vs 3 false [row]),(7,.I 1),(8,.I n)],[(0,some ⟨3,R,0⟩)],112⟩ rfl ?_ ?_
 ·simp
  exact Le.keep rfl (Nat.le_refl _) (by simp) (by simp)
 refine zab ?_
 refine zaa ⟨95,[(0,.rk 0 0 n c),(1,.I k),(2,.vs 3 false [row]),(7,.I 1),(8,.I n),(22,.B (decide (k = n)))],[(0,some ⟨3,R,0⟩)],136⟩ rfl ?_ ?_
 ·simp
  exact Le.keep rfl (Nat.le_refl _) (by simp <;> rw [Bool.eq_iff_iff] <;> simp <;> omega) (by simp)
 refine zac _ rfl (fun h=>?_) fun h=>zae ?_
 ·
  simp at h
  subst h
  have hT : R.take k = R:=List.take_of_length_le (by omega)
  have hD : R.drop k = []:=List.drop_eq_nil_of_le (by omega)
  have hD1 : R.drop n1 = []:=List.drop_eq_nil_of_le (by omega)
  simp only [hT,hD] at fin hflat ⊢
  refine zaa ⟨95,[(6,.rs 16 0 n1)],[(16,some ⟨3,R ++ [row],0⟩)],24⟩ rfl ?_ (fin [] 0)
  simp [hn,← hn1,hT,hD1]
  refine ⟨by omega,by omega,?_⟩
  split
  ·exact Le.mv1 0 16 rfl rfl (nbz rfl) (by omega) rfl (by simp only [zax,hflat]) (Nat.zero_le _) (by simp)
  ·exact Le.mv1 152 16 rfl rfl (nbz rfl) (by omega) rfl (by simp only [zax,hflat]) (Nat.zero_le _) (by simp)
 simp at h
 have hkn : k < n:=by omega
 refine zab ?_
 refine zaa ⟨95,[(0,.rk 0 0 n c),(1,.I k),(2,.vs 3 false [row]),(7,.I 1),(8,.I n),(31,.B (decide (c < n1)))],[(0,some ⟨3,R,0⟩)],184⟩ rfl ?_ ?_
 ·simp [hw1]
  exact Le.keep rfl (Nat.le_refl _) (by simp) (by simp)
 refine zac _ rfl (fun h=>?_) fun h=>zae ?_
 ·
  simp at h
  have hdn : n - k + 1 = d:=by omega
  refine zaa ⟨95,[(0,.rk 0 0 n c),(1,.I k),(2,.vs 3 false [row]),(7,.I 1),(8,.I n),(9,.rs 248 0 n1)],[(0,some ⟨3,R,0⟩),(248,some ⟨3,R.take k ++ List.replicate d [.I 0,.I 0,.I 0],0⟩)],264⟩ rfl ?_ ?_
  ·have hkd : k + d = n1:=by omega
   simp [hw1,hw3,hkd]
   exact ⟨by omega,by omega,by omega,h,by omega,by omega,Le.keep rfl (Nat.le_refl _) (by simp) (by simp)⟩
  refine zaa ⟨95,[(0,.rk 0 0 n c),(1,.I k),(2,.vs 3 false [row]),(7,.I 1),(8,.I n),(9,.rs 248 0 n1)],[(0,some ⟨3,R,0⟩),(248,some ⟨3,R.take k ++ row :: List.replicate (n - k) [.I 0,.I 0,.I 0],0⟩)],304⟩ rfl ?_ ?_
  ·have hm : min 1 (n1 - k) = 1:=by omega
   have hl0 : (R.take k).length = k:=by simp; omega
   have h1 : (R.take k ++ List.replicate d [AV.I 0,AV.I 0,AV.I 0]).take k = R.take k:=by
    rw [List.take_append_of_le_length (by omega),List.take_take]
    congr 1; omega
   have h2 : (R.take k ++ List.replicate d [AV.I 0,AV.I 0,AV.I 0]).drop (k + 1) = List.replicate (n - k) [AV.I 0,AV.I 0,AV.I 0]:=by
    rw [List.drop_append,hl0,List.drop_eq_nil_of_le (by omega),List.drop_replicate]
    simp
    omega
   simp [show k ≤ n1 by omega,hm]
   exact ⟨by omega,Le.keep rfl (Nat.le_refl _) (by simp) (by simp [h1,h2])⟩
  refine zaq ⟨95,[(9,.rs 248 0 n1)],[(248,some ⟨3,R.take k ++ row :: R.drop k,0⟩)],376⟩ rfl ?_ ?_
  ·have hl0 : (R.take k).length = k:=by simp; omega
   have hx : List.take (n - k) (List.drop k R) = List.drop k R:=List.take_of_length_le (by simp; omega)
   have hxl : (List.drop k R).length = n - k:=by simp; omega
   have hm : min (n - k) (n1 - k1) = n - k:=by omega
   have h1 : (R.take k ++ row :: List.replicate (n - k) [AV.I 0,AV.I 0,AV.I 0]).take k1 = R.take k ++ [row]:=by
    rw [List.take_append,hl0,List.take_of_length_le (by omega),hk1,show k + 1 - k = 1 by omega]
    rfl
   have h2 : (R.take k ++ row :: List.replicate (n - k) [AV.I 0,AV.I 0,AV.I 0]).drop (k1 + (n - k)) = []:=List.drop_eq_nil_of_le (by simp; omega)
   simp [hw2]
   refine ⟨by omega,by omega,by omega,by omega,_,⟨by omega,hx⟩,rfl,?_⟩
   rw [hxl,hm,h1,h2,hx]
   exact Le.keep rfl (Nat.le_refl _) (by simp) (by simp)
  refine zaa ⟨95,[(6,.rs 16 0 n1)],[(16,some ⟨3,R.take k ++ row :: R.drop k,0⟩)],24⟩ rfl ?_ (fin [] 0)
  simp
  exact Le.mv1 248 16 rfl rfl (nbz rfl) (by omega) rfl (by simp only [zax,hflat]) (Nat.zero_le _) (by simp)
 simp at h
 refine zaa ⟨95,[(0,.rk 0 0 n1 c),(1,.I k),(2,.vs 3 false [row]),(7,.I 1),(8,.I n)],[(0,some ⟨3,R,0⟩)],232⟩ rfl ?_ ?_
 ·simp [hw1,h]
  exact Le.keep rfl (Nat.le_refl _) (by simp) (by simp)
 refine zab ?_
 refine zaa ⟨95,[(0,.rk 0 0 n1 c),(1,.I k),(2,.vs 3 false [row]),(7,.I 1),(8,.I n),(68,.B true)],[(0,some ⟨3,R,0⟩)],296⟩ rfl ?_ ?_
 ·simp [hw2,h,show k1 ≤ n1 by omega]
  exact Le.keep rfl (Nat.le_refl _) (by simp) (by simp)
 refine zac _ rfl (fun _=>?_) fun h=>by cases h
 have hmin : min (n1 - k) (n1 - k1) = n - k:=by omega
 have hRk : (R.drop k).take (n - k) = R.drop k:=List.take_of_length_le (by simp; omega)
 refine zaq ⟨95,[(0,.rk 0 0 n1 c),(1,.I k),(2,.vs 3 false [row]),(7,.I 1),(8,.I n)],[(0,some ⟨3,R.take k1 ++ R.drop k,0⟩)],368⟩ rfl ?_ ?_
 ·simp [hw2,h,show k1 ≤ n1 by omega,show k ≤ n1 by omega,hmin,hn,show k + (n - k) ≤ n by omega,show k1 ≤ n by omega,hRk,Nat.min_eq_left (show n - k ≤ n1 - k by omega)]
  refine ⟨rfl,Le.keep rfl (Nat.le_refl _) (by simp) (by simp; omega)⟩
 refine zaa ⟨95,[(0,.rk 0 0 n1 c)],[(0,some ⟨3,R.take k ++ row :: R.drop k,0⟩)],408⟩ rfl ?_ ?_
 ·have hm : min 1 (n1 - k) = 1:=by omega
  have h1 : (R.take k1 ++ R.drop k).take k = R.take k:=by
   rw [List.take_append_of_le_length (by simp; omega),List.take_take]
   congr 1; omega
  have h2 : (R.take k1 ++ R.drop k).drop (k + 1) = R.drop k:=by
   rw [← hk1,List.drop_append_of_le_length (by simp; omega)]
   rw [List.drop_eq_nil_of_le (by simp; omega)]; rfl
  simp [h,show k ≤ n1 by omega,hm,hn]
  exact ⟨by omega,Le.keep rfl (Nat.le_refl _) (by simp) (by simp [h1,h2])⟩
 refine zaa ⟨95,[(6,.rs 16 0 n1)],[(16,some ⟨3,R.take k ++ row :: R.drop k,0⟩)],24⟩ rfl ?_ (fin [] 0)
 simp
 exact Le.mv1 0 16 rfl rfl (nbz rfl) (by omega) rfl (by simp only [zax,hflat]) (Nat.zero_le _) (by simp)
set_option maxRecDepth 100000 in
theorem zvd (R : List (List AV)) (n k k1 : Nat) (hn : R.length = n) (hk : k < n) (hk1 : k1 = k + 1) (hR : Flat R) (hl : (n + 1) * 24 ≤ 140737488355328) :
  zai Tryz.prog za9 [.rs 0 0 n,.I k,.I k1] [⟨3,R,0⟩] (.rs 0 0 (n - 1)) [some ⟨3,R.take k ++ R.drop k1 ++ [[.I 0,.I 0,.I 0]],0⟩]:=by
 refine zma fun c hc=>?_
 refine zda.acalls (nbz rfl) (nbz rfl) (nbz rfl) ?_
 show awp _ 1 _ _ ⟨33,[(0,.rk 0 0 n c),(1,.I k),(2,.I k1)],[(0,some ⟨3,R,0⟩)],16⟩
 obtain ⟨nm,hnm⟩ : ∃ nm,nm = n - 1:=⟨_,rfl⟩
 refine zaa ⟨33,[(0,.rk 0 0 n c),(1,.I k),(2,.I k1)],[(0,some ⟨3,R,0⟩)],24⟩ rfl ?_ ?_
 ·simp
  exact Le.keep rfl (Nat.le_refl _) (by simp) (by simp)
 refine zaa ⟨33,[(0,.rk 0 0 n c),(1,.I k),(2,.I k1)],[(0,some ⟨3,R,0⟩)],72⟩ rfl ?_ ?_
 ·simp
  exact ⟨by omega,by omega,by omega,Le.keep rfl (Nat.le_refl _) (by simp) (by simp)⟩
 refine zab ?_
 refine zaa ⟨33,[(0,.rk 0 0 n c),(1,.I k),(2,.I k1),(16,.B false)],[(0,some ⟨3,R,0⟩)],96⟩ rfl ?_ ?_
 ·simp
  exact Le.keep rfl (Nat.le_refl _) (by simp; omega) (by simp)
 refine zac _ rfl (fun h=>by cases h) fun _=>zae ?_
 refine zaa ⟨33,[(0,.rk 0 0 n c),(1,.I k),(2,.I k1),(7,.I n)],[(0,some ⟨3,R,0⟩)],120⟩ rfl ?_ ?_
 ·simp
  exact Le.keep rfl (Nat.le_refl _) (by simp) (by simp)
 have hx : List.take (n - k1) (List.drop k1 R) = List.drop k1 R:=List.take_of_length_le (by simp; omega)
 have hxl : (List.drop k1 R).length = n - k1:=by simp; omega
 have hl0 : (R.take k).length = k:=by simp; omega
 refine zaq ⟨33,[(0,.rk 0 0 nm c),(7,.I n)],[(0,some ⟨3,R.take k ++ R.drop k1 ++ R.drop nm,0⟩)],184⟩ rfl ?_ ?_
 ·simp
  have hkn : k + (n - k1) = nm:=by omega
  refine ⟨by omega,by omega,by omega,_,⟨by omega,hx⟩,by omega,?_⟩
  rw [hxl,hkn]
  refine ⟨by omega,by omega,?_⟩
  rw [if_pos (by omega)]
  exact ⟨rfl,Le.keep rfl (Nat.le_refl _) (by simp) (by simp)⟩
 have h1 : (R.take k ++ R.drop k1 ++ R.drop nm).take nm = R.take k ++ R.drop k1:=by
  rw [List.take_append_of_le_length (by simp; omega),List.take_of_length_le (by simp; omega)]
 refine zaa ⟨33,[(0,.rk 0 0 nm c)],[(0,some ⟨3,R.take k ++ R.drop k1 ++ [[.I 0,.I 0,.I 0]],0⟩)],232⟩ rfl ?_ ?_
 ·rw [List.append_assoc] at h1
  have h2 : (R.take k ++ (R.drop k1 ++ R.drop nm)).drop (nm + (n - nm)) = []:=List.drop_eq_nil_of_le (by simp; omega)
  have h3 : n - nm = 1:=by omega
  simp
  refine ⟨by omega,by omega,by omega,?_⟩
  rw [h1,h2,h3]
  exact Le.keep rfl (Nat.le_refl _) (by simp) (by simp [List.replicate])
 refine zab ?_
 refine zad (s:=?s9) rfl ?o9 ?q9
 case o9=>simp; rfl
 refine zag ?_
 refine ⟨.inr rfl,⟨[.rk 0 0 nm c],rfl,[],[],by simp [List.range,List.range.loop],by simp,by simp,?_,?_⟩⟩
 ·simp [List.range,List.range.loop,← hnm]
 ·have hflat : ∀ ρ sn h n,(R.take k ++ (R.drop k1 ++ [[AV.I 0,AV.I 0,AV.I 0]])).map (List.map (conv ρ sn h (n + 1))) = R.take k ++ R.drop k1 ++ [[AV.I 0,AV.I 0,AV.I 0]]:=fun ρ sn h n=>by
   have:=hR ρ sn h n
   rw [List.map_append,List.map_append,List.map_take,List.map_drop,this]
   simp
  show [Option.map _ (some _)] = _
  rw [Option.map_some]
  unfold zax
  simp only [List.append_assoc,hflat]
theorem zvr (l : List Ed) : Flat (l.map fun e=>[AV.I e.f,AV.I e.t,AV.I e.v]):=by
 intro ρ sn h n
 simp [fcd]
theorem GrOk.lt {g : Gr} (h : GrOk g) : ∀ (j i : Nat) (hi : i < g.edges.length) (hj : j < g.edges.length),i < j → Bef g.edges[i] g.edges[j]
 | 0,_,_,_,h0=>by omega
 | j + 1,i,hi,hj,hij=>by
   have h1 : Bef g.edges[j] g.edges[j + 1]:=zgD.1 ((h.2 (j + 1) hj).2.2.2 (by omega))
   rcases Nat.lt_or_ge i j with h2 | h2
   ·have h3:=GrOk.lt h j i hi (by omega) h2
    unfold Bef at *
    omega
   ·obtain rfl : i = j:=by omega
    exact h1
theorem GrOk.mono {g : Gr} (h : GrOk g) (e : Ed) : ∀ (i j : Nat) (hi : i < g.edges.length) (hj : j < g.edges.length),i ≤ j → Bef g.edges[j] e → Bef g.edges[i] e:=by
 intro i j hi hj hij hb
 rcases Nat.lt_or_ge i j with h2 | h2
 ·have h3:=h.lt j i hi hj h2
  unfold Bef at *
  omega
 ·obtain rfl : i = j:=by omega
  exact hb
theorem zs1 (l : List Ed) (e : Ed) : idxE l e = idxE l ⟨e.f,e.t,0⟩:=rfl
section
variable {P : Program} {np id : Nat} {h : Nat → Option Ent} {K : AV → List Nat → List (Nat × Option Ent) → Prop} {f : FuncId} {first capt args args' : List AV} {res : AV}
theorem zm9 {i j : Nat} {e e' ej : Ent} {hs' : List (Option Ent)} (hij : j ≠ i) (hnp : np ≤ j) (hi : h i = some e) (hj : h j = some ej) (hee : zax [(i,0)] [j] h 4 e = e') (hc : zai P f args' [e'] res hs') (h8 : hs'.length ≤ 9) (he : (first ++ args ++ capt).map (conv [(i,0)] [j] h 4) = args')
  (hk : K (conv (swp [i] id) [] (fun _=>none) 4 res) [i,j] ((hs'.zipIdx.map fun (e,k)=>((i :: (List.range 8).map (id + ·)).getD k 0,e.map (zax (swp [i] id) [] (fun _=>none) 4))) ++ [(j,some { ej with ro:=ej.rows.length })])) : aK P np id .call (.fn (.func f) first capt :: args) h K :=
 ⟨[i],[j],true,args',[e'],res,hs',by simp,by simpa using hij,by simpa using hnp,by rw [show [i].zipIdx = [(i,0)] from rfl,he]; exact zbM _,by rw [show [i].zipIdx = [(i,0)] from rfl]; simpa [hi] using hee,hc,by simpa using h8,.inl rfl,by simpa [swp,hj] using hk⟩
end
open Classical in
set_option maxRecDepth 100000 in
theorem znq (g : Gr) (e : Ed) (hl : g.edges.length * 24 ≤ 140737488355328) (hl2 : g.gone.length * 8 ≤ 140737488355328) : zai Tryz.prog zhC [eG g,eE e] [] (.tup [eG (zbv g e).1,.I (zbv g e).2]) []:=by
 refine zqK.acalls (nbz rfl) (nbz rfl) (Nat.le_refl _) ?_
 show awp _ 0 _ _ ⟨51,[(0,eG g),(1,eE e)],[],16⟩
 refine zaa ⟨51,[(2,.pv (gC g)),(3,.pv (eC e)),(4,.pt 32 0 0)],[(32,some ⟨3,[[.I 0,.nilS,.nilS]],0⟩)],40⟩ rfl ?_ ?_
 ·simp
  exact Le.var1 32 [16,24] rfl rfl (nbz rfl) (by decide) rfl (by simp) (by simp) (by simp)
 refine zab ?_
 refine zab ?_
 refine zad (s:=?s1) rfl ?o1 ?q1
 case o1=>simp; refine zaj (zeZ g (by omega) (by omega)) rfl ?_; simp; rfl
 refine zac _ rfl (fun h2=>?_) fun h2=>?_
 ·have hg : ¬ GrOk g:=by
   intro hg
   simp [hg] at h2
  refine zab ?_
  refine zad (s:=?s3) rfl ?o3 ?q3
  case o3=>simp; rfl
  refine zag ?_
  refine ⟨.inr rfl,?_⟩
  show zak [(4,some (true,3)),(5,none)] 0 _ _ _
  refine zak.out (vs:=[.agg [.I 0,.nilS,.nilS],.I 14]) [] [] (by simp) (by simp) (by simp) ?_ (by simp)
  have hr : zbv g e = (zbd,14):=by grind [zbv]
  simp [hr,zbd]
  exact wkT2 (wkA3 (.refl _) (.nil _ _) (.nil _ _)) (.refl _)
 have hg : GrOk g:=by
  rcases Classical.em (GrOk g) with h | h
  ·exact h
  ·simp [h] at h2
 have h500 : g.edges.length ≤ 500:=hg.1.2.2.1
 refine zae ?_
 refine zab ?_
 refine zad (s:=?s4) rfl ?o4 ?q4
 case o4=>simp; refine zaj (zgb g.edges e (Nat.le_trans hg.1.2.2.1 (by omega)) (hg.mono e)) rfl ?_; simp [zs1]; rfl
 refine zab ?_
 refine zaf ?_
 refine zab ?_
 refine zad (s:=?s5) rfl ?o5 ?q5
 case o5=>simp; refine zaj (zhK g e hg.1.1 hg.1.2.1 (by omega)) rfl ?_; simp; rfl
 refine zac _ rfl (fun h6=>?_) fun h6=>?_
 ·try simp at h6
  refine zab ?_
  refine zad (s:=?s7) rfl ?o7 ?q7
  case o7=>simp; rfl
  refine zag ?_
  refine ⟨.inr rfl,?_⟩
  show zak [(4,some (true,3)),(5,none)] 0 _ _ _
  refine zak.out (vs:=[.agg [.I 0,.nilS,.nilS],.I 4]) [] [] (by simp) (by simp) (by simp) ?_ (by simp)
  have hr : zbv g e = (zbd,4):=by grind [zbv]
  simp [hr,zbd]
  exact wkT2 (wkA3 (.refl _) (.nil _ _) (.nil _ _)) (.refl _)
 try simp at h6
 refine zab ?_
 refine zad (s:=?s8) rfl ?o8 ?q8
 case o8=>simp; refine zaj (zbs ..) rfl ?_; simp; rfl
 refine zac _ rfl (fun h9=>?_) fun h9=>?_
 ·try simp at h9
  refine zab ?_
  refine zad (s:=?s10) rfl ?o10 ?q10
  case o10=>simp; rfl
  refine zag ?_
  refine ⟨.inr rfl,?_⟩
  show zak [(4,some (true,3)),(5,none)] 0 _ _ _
  refine zak.out (vs:=[.agg [.I 0,.nilS,.nilS],.I 2]) [] [] (by simp) (by simp) (by simp) ?_ (by simp)
  have hr : zbv g e = (zbd,2):=by grind [zbv]
  simp [hr,zbd]
  exact wkT2 (wkA3 (.refl _) (.nil _ _) (.nil _ _)) (.refl _)
 try simp at h9
 refine zab ?_
 refine zad (s:=?s11) rfl ?o11 ?q11
 case o11=>simp; rfl
 refine zac _ rfl (fun h12=>?_) fun h12=>?_
 ·try simp at h12
  refine zab ?_
  refine zad (s:=?s13) rfl ?o13 ?q13
  case o13=>simp; rfl
  refine zag ?_
  refine ⟨.inr rfl,?_⟩
  show zak [(4,some (true,3)),(5,none)] 0 _ _ _
  refine zak.out (vs:=[.agg [.I 0,.nilS,.nilS],.I 19]) [] [] (by simp) (by simp) (by simp) ?_ (by simp)
  have hr : zbv g e = (zbd,19):=by grind [zbv]
  simp [hr,zbd]
  exact wkT2 (wkA3 (.refl _) (.nil _ _) (.nil _ _)) (.refl _)
 try simp at h12
 refine zab ?_
 refine zad (s:=?s14) rfl ?o14 ?q14
 case o14=>simp; rfl
 refine zac _ rfl (fun h15=>?_) fun h15=>?_
 ·try simp at h15
  refine zab ?_
  refine zad (s:=?s16) rfl ?o16 ?q16
  case o16=>simp; rfl
  refine zag ?_
  refine ⟨.inr rfl,?_⟩
  show zak [(4,some (true,3)),(5,none)] 0 _ _ _
  refine zak.out (vs:=[.agg [.I 0,.nilS,.nilS],.I 3]) [] [] (by simp) (by simp) (by simp) ?_ (by simp)
  have hr : zbv g e = (zbd,3):=by grind [zbv]
  simp [hr,zbd]
  exact wkT2 (wkA3 (.refl _) (.nil _ _) (.nil _ _)) (.refl _)
 try simp at h15
 refine zae ?_
 refine zaa ⟨51,[(3,.pv (eC e)),(4,.pt 32 0 0),(6,.I (idxE g.edges ⟨e.f,e.t,0⟩)),(8,.pt 288 0 0)],[(32,some ⟨3,[[.I 0,.nilS,.nilS]],0⟩),(288,some ⟨3,[[.I g.size,.rs 280 0 g.edges.length,.rs 281 0 g.gone.length]],0⟩),(280,some ⟨3,g.edges.map fun e : Ed=>[AV.I e.f,AV.I e.t,AV.I e.v],0⟩),(281,some ⟨1,g.gone.map fun n=>[AV.I n],0⟩)],304⟩ rfl ?_ ?_
 ·simp
  refine zi9 (zeo g hl hl2) rfl ?_
  simp [fcd]
  exact Le.keep rfl (Nat.le_refl _) (by simp) (by simp)
 have hle:=zpV g.edges ⟨e.f,e.t,0⟩
 have hr : zbv g e = (ziw g e,0):=by grind [zbv]
 rw [hr]
 unfold ziw
 have hk : ∃ k,k = idxE g.edges ⟨e.f,e.t,0⟩:=⟨_,rfl⟩
 obtain ⟨k,hk⟩:=hk
 rw [← hk] at hle ⊢
 obtain ⟨R,hR⟩ : ∃ R,R = g.edges.map fun e : Ed=>[AV.I e.f,AV.I e.t,AV.I e.v]:=⟨_,rfl⟩
 rw [← hR]
 have hRl : R.length = g.edges.length:=by simp [hR]
 have hRf : Flat R:=by rw [hR]; exact zvr _
 obtain ⟨E,hE⟩ : ∃ E,E = g.edges.take k ++ e :: g.edges.drop k:=⟨_,rfl⟩
 have hEl : E.length = g.edges.length + 1:=by subst hE; simp; omega
 have hrows : R.take k ++ [AV.I e.f,AV.I e.t,AV.I e.v] :: R.drop k = E.map fun e : Ed=>[AV.I e.f,AV.I e.t,AV.I e.v]:=by subst hE hR; simp [List.map_take,List.map_drop]
 have hins:=zvv R [AV.I e.f,AV.I e.t,AV.I e.v] g.edges.length k hRl hle hRf (zvr [e]) (by omega)
 rw [hrows,← hEl] at hins
 rw [← hE]
 refine zaa ⟨51,[(4,.pt 32 0 0),(8,.pt 288 0 0)],[(32,some ⟨3,[[.I 0,.nilS,.nilS]],0⟩),(288,some ⟨3,[[.I g.size,.rs 344 0 E.length,.rs 281 0 g.gone.length]],0⟩),(344,some ⟨3,E.map fun e : Ed=>[AV.I e.f,AV.I e.t,AV.I e.v],0⟩),(281,some ⟨1,g.gone.map fun n=>[AV.I n],0⟩)],368⟩ rfl ?_ ?_
 ·simp
  refine zm9 (i:=280) (j:=336) (by decide) (Nat.zero_le _) rfl rfl ?_ hins (by simp) ?_ ?_
  ·have:=hRf [(280,0)] [336]
   simp only [zax,this]
  ·simp
  simp [fcd]
  exact Le.keep rfl (Nat.le_refl _) (by simp) (by simp)
 refine zab ?_
 refine zad (s:=?s21) rfl ?o21 ?q21
 case o21=>simp; rfl
 refine zag ?_
 refine ⟨.inr rfl,?_⟩
 show zak [(4,some (true,3)),(5,none)] 0 _ _ _
 refine zak.out (vs:=[.agg [.I g.size,.rs 344 0 E.length,.rs 281 0 g.gone.length],.I 0]) [] [344,281] (by simp) (by simp) (by simp) ?_ (by simp)
 simp [fcd,zal]
theorem zuk {l : List Ed} {e : Ed} {i : Nat} (h : i < idxE l e) (hi : i < l.length) : Bef l[i] e:=by
 have:=List.not_of_lt_findIdx h
 simpa using this
theorem zuw {l : List Ed} {e : Ed} (h : idxE l e < l.length) : ¬ Bef l[idxE l e] e:=by
 have h1 : l.findIdx (fun x=>!decide (Bef x e)) < l.length:=h
 have:=List.findIdx_getElem (w:=h1)
 intro hb
 have h2 : decide (Bef l[l.findIdx (fun x=>!decide (Bef x e))] e) = true:=decide_eq_true hb
 simp only [h2] at this
 cases this
theorem zue {g : Gr} {e : Ed} (hg : GrOk g) (hf : Fits g e) (h1 : 1 ≤ e.v) (h3 : e.v ≤ 3) (ha : ¬ AtE g.edges (idxE g.edges ⟨e.f,e.t,0⟩) e.f e.t) (hl : g.edges.length < 500) : GrOk (ziw g e):=by
 have hle:=zpV g.edges ⟨e.f,e.t,0⟩
 have hb : ∀ i (hi : i < g.edges.length),i < idxE g.edges ⟨e.f,e.t,0⟩ → Bef g.edges[i] e:=fun i hi h=>by
  have:=zuk h hi
  exact this
 have hn : ∀ (h : idxE g.edges ⟨e.f,e.t,0⟩ < g.edges.length),Bef e g.edges[idxE g.edges ⟨e.f,e.t,0⟩]:=fun h=>by
  have h2:=zuw h
  have h4 : ¬ (g.edges[idxE g.edges ⟨e.f,e.t,0⟩].f = e.f ∧ g.edges[idxE g.edges ⟨e.f,e.t,0⟩].t = e.t):=fun q=>ha ⟨h,q⟩
  simp only [Bef] at h2 ⊢
  omega
 unfold ziw
 generalize idxE g.edges ⟨e.f,e.t,0⟩ = k at *
 have hlen : (g.edges.take k ++ e :: g.edges.drop k).length = g.edges.length + 1:=by simp; omega
 have hget : ∀ i (hi : i < (g.edges.take k ++ e :: g.edges.drop k).length),(g.edges.take k ++ e :: g.edges.drop k)[i] = if h : i < k then g.edges[i]'(by omega) else if h2 : i = k then e else g.edges[i - 1]'(by omega):=by
  intro i hi
  have htl : (g.edges.take k).length = k:=by simp; omega
  by_cases h : i < k
  ·rw [dif_pos h,List.getElem_append_left (by omega),List.getElem_take]
  ·rw [dif_neg h,List.getElem_append_right (by omega)]
   by_cases h2 : i = k
   ·subst h2
    simp [htl]
   ·rw [dif_neg h2]
    rw [List.getElem_cons]
    rw [dif_neg (by omega),List.getElem_drop]
    congr 1
    omega
 refine ⟨⟨hg.1.1,hg.1.2.1,by simp only [hlen]; omega,hg.1.2.2.2⟩,fun i hi=>?_⟩
 simp only at hi
 have hfit : ∀ x : Ed,Fits ⟨g.size,g.edges.take k ++ e :: g.edges.drop k,g.gone⟩ x ↔ Fits g x:=fun x=>Iff.rfl
 simp only [hfit,zgD,hget]
 have hE:=fun j (hj : j < g.edges.length)=>hg.2 j hj
 by_cases h : i < k
 ·simp only [dif_pos h]
  refine ⟨(hE i (by omega)).1,(hE i (by omega)).2.1,(hE i (by omega)).2.2.1,fun h0=>?_⟩
  rw [dif_pos (by omega)]
  exact zgD.1 ((hE i (by omega)).2.2.2 h0)
 ·simp only [dif_neg h]
  by_cases h2 : i = k
  ·subst h2
   simp only [dif_pos]
   refine ⟨hf,h1,h3,fun h0=>?_⟩
   rw [dif_pos (by omega)]
   exact hb _ _ (by omega)
  ·simp only [dif_neg h2]
   refine ⟨(hE (i - 1) (by omega)).1,(hE (i - 1) (by omega)).2.1,(hE (i - 1) (by omega)).2.2.1,fun h0=>?_⟩
   rw [dif_neg (by omega)]
   by_cases h4 : i - 1 = k
   ·rw [dif_pos h4]
    subst h4
    exact hn _
   ·rw [dif_neg h4]
    exact hg.lt _ _ _ _ (by omega)
theorem zjX {g : Gr} {e : Ed} (h : (zbv g e).2 = 0) : GrOk g ∧ Fits g e ∧ (1 ≤ e.v ∧ e.v ≤ 3) ∧ ¬ AtE g.edges (idxE g.edges ⟨e.f,e.t,0⟩) e.f e.t ∧ g.edges.length < 500 ∧ (zbv g e).1 = ziw g e ∧ GrOk (ziw g e):=by
 have key : GrOk g ∧ Fits g e ∧ (1 ≤ e.v ∧ e.v ≤ 3) ∧ ¬ AtE g.edges (idxE g.edges ⟨e.f,e.t,0⟩) e.f e.t ∧ g.edges.length ≠ 500 ∧ (zbv g e).1 = ziw g e:=by
  unfold zbv at *
  split at h
  ·simp at h
  split at h
  ·simp at h
  split at h
  ·simp at h
  split at h
  ·simp at h
  split at h
  ·simp at h
  simp_all
 obtain ⟨h1,h2,h3,h4,h5,h6⟩:=key
 have h7 : g.edges.length < 500:=by have:=h1.1.2.2.1; omega
 exact ⟨h1,h2,h3,h4,h7,h6,zue h1 h2 h3.1 h3.2 h4 h7⟩
noncomputable def zo7 (L : List Int) (p : Gr × Nat) : Gr × Nat :=
 (if (zbv p.1 ⟨(zaz L p.2 p.1.size).1,(zaz L (zaz L p.2 p.1.size).2 p.1.size).1,1 + (zaz L (zaz L (zaz L p.2 p.1.size).2 p.1.size).2 3).1⟩).2 = 0
  then (zbv p.1 ⟨(zaz L p.2 p.1.size).1,(zaz L (zaz L p.2 p.1.size).2 p.1.size).1,1 + (zaz L (zaz L (zaz L p.2 p.1.size).2 p.1.size).2 3).1⟩).1 else p.1,
  (zaz L (zaz L (zaz L p.2 p.1.size).2 p.1.size).2 3).2)
noncomputable def zt8 (L : List Int) : Nat → Gr × Nat → Gr × Nat
 | 0,p=>p
 | n + 1,p=>zt8 L n (zo7 L p)
def zfn (L : List Int) (a : Nat) : Int:=if L.length = 0 then 4 else 2 + (zaz L a 8).1
def zcL (L : List Int) (a : Nat) : Gr × Nat :=
 if (zaz L (zaz L a 8).2 8).1 = 7 then (⟨zfn L a,[],[(zaz L (zaz L (zaz L a 8).2 8).2 (zfn L a)).1]⟩,(zaz L (zaz L (zaz L a 8).2 8).2 (zfn L a)).2)
 else (⟨zfn L a,[],[]⟩,(zaz L (zaz L a 8).2 8).2)
noncomputable def zmr (L : List Int) (a : Nat) : Gr × Nat:=zt8 L (zaz L (zcL L a).2 23).1.toNat ((zcL L a).1,(zaz L (zcL L a).2 23).2)
structure zqg (L : List Int) (p : Gr × Nat) : Prop where
 ok : GrOk p.1
 lo : 2 ≤ p.1.size
 hi : p.1.size ≤ 9
 at_ : p.2 ≤ L.length
 few : p.1.gone.length ≤ 1
theorem zke (L : List Int) (a : Nat) : 2 ≤ zfn L a ∧ zfn L a ≤ 9:=by
 have:=zeG (L:=L) (a:=a) (n:=8) (by omega)
 unfold zfn
 split <;> omega
theorem zkl (L : List Int) (a : Nat) (ha : a ≤ L.length) : zqg L (zcL L a):=by
 have hs:=zke L a
 have h1:=zbS (L:=L) (a:=a) (n:=8) ha
 have h2:=zbS (L:=L) (a:=(zaz L a 8).2) (n:=8) h1
 have hq:=zeG (L:=L) (a:=(zaz L (zaz L a 8).2 8).2) (n:=zfn L a) (by omega)
 unfold zcL
 split
 ·refine ⟨⟨⟨by simp only; omega,by simp only; omega,by simp,fun i hi=>?_⟩,fun i hi=>absurd hi (by simp)⟩,hs.1,hs.2,zbS h2,by simp⟩
  obtain rfl : i = 0:=by simpa using hi
  refine ⟨hq.1,?_,fun h=>by omega⟩
  have:=hq.2
  simp only [List.getElem_cons_zero]
  omega
 ·exact ⟨⟨⟨by simp only; omega,by simp only; omega,by simp,fun i hi=>absurd hi (by simp)⟩,fun i hi=>absurd hi (by simp)⟩,hs.1,hs.2,h2,by simp⟩
theorem zmE {L : List Int} {p : Gr × Nat} (h : zqg L p) : zqg L (zo7 L p):=by
 have h3:=zbS (n:=3) (zbS (n:=p.1.size) (zbS (n:=p.1.size) h.at_))
 unfold zo7
 by_cases hw : (zbv p.1 ⟨(zaz L p.2 p.1.size).1,(zaz L (zaz L p.2 p.1.size).2 p.1.size).1,1 + (zaz L (zaz L (zaz L p.2 p.1.size).2 p.1.size).2 3).1⟩).2 = 0
 ·rw [if_pos hw]
  obtain ⟨_,_,_,_,_,q6,q7⟩:=zjX hw
  rw [q6]
  exact ⟨q7,h.lo,h.hi,h3,h.few⟩
 ·rw [if_neg hw]
  exact ⟨h.ok,h.lo,h.hi,h3,h.few⟩
theorem zmz {L : List Int} : ∀ (n : Nat) {p : Gr × Nat},zqg L p → zqg L (zt8 L n p)
 | 0,_,h=>h
 | n + 1,_,h=>zmz n (zmE h)
theorem zpS (L : List Int) (a : Nat) (ha : a ≤ L.length) : zqg L (zmr L a):=by
 have h:=zkl L a ha
 exact zmz _ ⟨h.ok,h.lo,h.hi,zbS h.at_,h.few⟩
theorem zaI.eq {nl : List (Nat × Nat)} {e e' : Ent} (h : e = e') (hr : e'.ro ≤ e'.rows.length) : zaI nl e e':=by
 subst h
 exact zaI.rfl' hr
theorem zaI.row {nl : List (Nat × Nat)} {s ro : Nat} {e : Ent} {r r' : List AV} (h : e = ⟨s,[r],ro⟩) (hr : ro ≤ 1) (hu : UpL nl r r') (hs : s ≠ 0:=by decide) : zaI nl e ⟨s,[r'],ro⟩:=by
 subst h
 refine ⟨rfl,Nat.le_refl _,hr,.inr ⟨hs,rfl,fun i=>?_⟩⟩
 match i with
 | 0=>exact hu
 | _ + 1=>exact trivial
theorem zte {nl : List (Nat × Nat)} : ∀ {xs ys : List AV},WkL xs ys → UpL nl xs ys
 | [],[],_=>trivial
 | _ :: _,_ :: _,h=>⟨.inl h.1,zte h.2⟩
 | [],_ :: _,h=>False.elim h
 | _ :: _,[],h=>False.elim h
theorem Le.ents {np : Nat} {st st' : St} (ρ : List (Nat × Nat)) (sn : List Nat) (hsz : st'.sz = st.sz)
  (h0 : (ρ.map (·.1)).Nodup) (h1 : (ρ.map (·.2)).Nodup) (h2 : ∀ p ∈ ρ,p.2 < st'.n ∧ (p.2 < np → p.1 = p.2)) (h4 : ∀ i ∈ sn,np ≤ i ∧ i ∉ ρ.map (·.1)) (h5 : np ≤ st'.n)
  (ht : ∀ p ∈ st'.t,Wk (conv ρ sn st.hp 4 (st.get p.1)) p.2)
  (hh : ∀ p ∈ st'.h,∃ q e e',p.2 = some e' ∧ (q,p.1) ∈ ρ ∧ st.hp q = some e ∧ zaI [] (zax ρ sn st.hp 4 e) e') : Le np st st' :=
 Le.lst ρ sn [] hsz h0 h1 h2 (by simp) h4 h5 (by simp) (fun p hp=>.inl (ht p hp)) fun p hp e' he'=>by
  obtain ⟨q,e,e2,h1,h2,h3,h4⟩:=hh p hp
  rw [he'] at h1
  cases h1
  exact .inl ⟨(q,p.1),h2,rfl,e,h3,h4⟩
theorem zgN (L : List Int) (a : Nat) (n : Int) (hl : L.length ≤ 400) (ha : a ≤ L.length) (hn : n ≤ 9223372036854775807) : zai Tryz.prog zaD [.pt 0 0 0,.I n] [dice L a] (.I (zaz L a n).1) [some (dice L (zaz L a n).2)]:=znF L a n (by omega) ha hn
abbrev zG : Ent:=⟨3,[[.I 0,.nilS,.nilS]],0⟩
abbrev rowG (g : Gr) : Ent:=⟨3,[gC g],0⟩
set_option maxRecDepth 100000 in
theorem zuK (L : List Int) (a : Nat) (hl : L.length ≤ 400) (ha : a ≤ L.length) : zai Tryz.prog zcA [.pt 0 0 0] [dice L a] (eG (zmr L a).1) [some (dice L (zmr L a).2)]:=by
 refine zjr.acalls (nbz rfl) (nbz rfl) (Nat.le_refl _) ?_
 show awp _ 1 _ _ ⟨53,[(0,.pt 0 0 0)],[(0,some (dice L a))],16⟩
 have a1:=zbS (L:=L) (a:=a) (n:=8) ha
 have r1:=zeG (L:=L) (a:=a) (n:=8) (by omega)
 have hs:=zke L a
 have a2:=zbS (L:=L) (a:=(zaz L a 8).2) (n:=8) a1
 have hw1 : IntKind.i64.wrap (2 + (zaz L a 8).1) = 2 + (zaz L a 8).1:=w64 (by omega) (by omega)
 have hm:=zkl L a ha
 refine zaa ⟨53,[(0,.pt 0 0 0),(2,.pt 16 0 0)],[(0,some (dice L a)),(16,some zG)],24⟩ rfl ?_ ?_
 ·simp
  exact Le.keep rfl (Nat.le_refl _) (by simp) (by simp)
 refine zaa ⟨53,[(0,.pt 0 0 0),(2,.pt 16 0 0),(3,.pt 56 0 0)],[(0,some (dice L (zaz L a 8).2)),(16,some zG),(56,some ⟨3,[[.I (2 + (zaz L a 8).1),.nilS,.nilS]],0⟩)],72⟩ rfl ?_ ?_
 ·simp
  refine zbH (i:=0) rfl (e':=dice L a) (by simp [fcd]) (zgN L a 8 hl ha (by omega)) (by simp) (by simp) ?_
  simp [hw1,fcd]
  exact Le.keep rfl (Nat.le_refl _) (by simp) (by simp)
 refine zaL (ι:=Unit) (fun _=>⟨53,[(0,.pt 0 0 0),(2,.pt 16 0 0),(3,.pt 56 0 0)],[(0,some (dice L (zaz L a 8).2)),(16,some zG),(56,some ⟨3,[[.I (zfn L a),.nilS,.nilS]],0⟩)],136⟩) (fun _=>True) ?_ fun _ _=>?_
 ·refine zaa ⟨53,[(0,.pt 0 0 0),(2,.pt 16 0 0),(3,.pt 56 0 0),(16,.B (decide (L.length = 0)))],[(0,some (dice L (zaz L a 8).2)),(16,some zG),(56,some ⟨3,[[.I (2 + (zaz L a 8).1),.nilS,.nilS]],0⟩)],120⟩ rfl ?_ ?_
  ·simp
   exact Le.keep rfl (Nat.le_refl _) (by simp <;> rw [Bool.eq_iff_iff] <;> simp) (by simp)
  refine zac _ rfl (fun h=>?_) fun h=>zae ?_
  ·simp only [decide_eq_true_eq] at h
   have hz : zfn L a = 4:=by unfold zfn; rw [if_pos h]
   refine zas rfl ?_
   simp
   exact Le.keep rfl (Nat.le_refl _) (by simp) (by simp [hz])
  ·simp only [decide_eq_false_iff_not] at h
   have hz : zfn L a = 2 + (zaz L a 8).1:=by unfold zfn; rw [if_neg h]
   exact ⟨(),trivial,Le.keep rfl (nbz rfl) (by simp) (by simp [hz])⟩
 refine zaL (ι:=Unit) (fun _=>⟨53,[(0,.pt 0 0 0),(2,.pt 16 0 0),(3,.pt 56 0 0)],[(0,some (dice L (zcL L a).2)),(16,some zG),(56,some (rowG (zcL L a).1))],208⟩) (fun _=>True) ?_ fun _ _=>?_
 ·refine zaa ⟨53,[(0,.pt 0 0 0),(2,.pt 16 0 0),(3,.pt 56 0 0),(19,.B (decide ((zaz L (zaz L a 8).2 8).1 = 7)))],[(0,some (dice L (zaz L (zaz L a 8).2 8).2)),(16,some zG),(56,some ⟨3,[[.I (zfn L a),.nilS,.nilS]],0⟩)],152⟩ rfl ?_ ?_
  ·simp
   refine zbH (i:=0) rfl (e':=dice L (zaz L a 8).2) (by simp [fcd]) (zuZ L _ 8 (by omega) a1 (by omega) (by omega)) (by simp) (by simp) ?_
   simp [fcd]
   exact Le.keep rfl (Nat.le_refl _) (by simp) (by simp)
  refine zac _ rfl (fun h=>?_) fun h=>zae ?_
  ·simp only [decide_eq_true_eq] at h
   have hz : zcL L a = (⟨zfn L a,[],[(zaz L (zaz L (zaz L a 8).2 8).2 (zfn L a)).1]⟩,(zaz L (zaz L (zaz L a 8).2 8).2 (zfn L a)).2):=by unfold zcL; rw [if_pos h]
   rw [hz]
   refine zas rfl ?_
   simp
   refine zbH (i:=0) rfl (e':=dice L (zaz L (zaz L a 8).2 8).2) (by simp [fcd]) (zgN L (zaz L (zaz L a 8).2 8).2 (zfn L a) hl a2 (by omega)) (by simp) (by simp) ?_
   simp [fcd]
   refine Le.ents [(0,0),(16,16),(56,56)] [184] rfl (by simp) (by simp) (by simp) (by simp) (by simp) (by simp) fun p hp=>?_
   simp at hp
   rcases hp with rfl | rfl | rfl
   ·exact ⟨0,_,_,rfl,by simp,rfl,zaI.eq (by simp) (by simp)⟩
   ·exact ⟨16,_,_,rfl,by simp,rfl,zaI.eq (by simp) (by simp)⟩
   ·exact ⟨56,_,_,rfl,by simp,rfl,zaI.row (by simp; rfl) (by simp) (zte (by simp; exact ⟨.nil _ _,.refl _⟩))⟩
  ·simp only [decide_eq_false_iff_not] at h
   have hz : zcL L a = (⟨zfn L a,[],[]⟩,(zaz L (zaz L a 8).2 8).2):=by unfold zcL; rw [if_neg h]
   rw [hz]
   refine ⟨(),trivial,Le.ents [(0,0),(16,16),(56,56)] [] rfl (by simp) (by simp) (by simp) (by simp) (by simp) (by simp) fun p hp=>?_⟩
   simp at hp
   rcases hp with rfl | rfl | rfl
   ·exact ⟨0,_,_,rfl,by simp,rfl,zaI.eq (by simp) (by simp)⟩
   ·exact ⟨16,_,_,rfl,by simp,rfl,zaI.eq (by simp) (by simp)⟩
   ·exact ⟨56,_,_,rfl,by simp,rfl,zaI.row (by simp; rfl) (by simp) (zte (by simp; exact ⟨.nil _ _,.nil _ _⟩))⟩
 have r4:=zeG (L:=L) (a:=(zcL L a).2) (n:=23) (by omega)
 obtain ⟨n0,hn0⟩ : ∃ n0 : Nat,(zaz L (zcL L a).2 23).1 = n0:=⟨(zaz L (zcL L a).2 23).1.toNat,by omega⟩
 refine zab ?_
 refine zaa ⟨53,[(0,.pt 0 0 0),(2,.pt 16 0 0),(3,.pt 56 0 0),(4,.I n0)],[(0,some (dice L (zaz L (zcL L a).2 23).2)),(16,some zG),(56,some (rowG (zcL L a).1))],232⟩ rfl ?_ ?_
 ·simp
  refine zbH (i:=0) rfl (e':=dice L (zcL L a).2) (by simp [fcd]) (zgN L (zcL L a).2 23 hl hm.at_ (by omega)) (by simp) (by simp) ?_
  simp [fcd,hn0]
  exact Le.keep rfl (Nat.le_refl _) (by simp) (by simp)
 refine zaf ?_
 refine zao (ι:=Nat × Gr × Nat) (fun q=>⟨53,[(0,.pt 0 0 0),(2,.pt 16 0 0),(3,.pt 56 0 0),(4,.I q.1)],[(0,some (dice L q.2.2)),(16,some zG),(56,some (rowG q.2.1))],232⟩)
  (fun q=>q.1 ≤ 23 ∧ zqg L q.2 ∧ zt8 L q.1 q.2 = zmr L a) (fun q=>q.1) (n0,(zcL L a).1,(zaz L (zcL L a).2 23).2) ?_ (Le.refl _ _) ?_
 ·refine ⟨by simp only; omega,⟨hm.ok,hm.lo,hm.hi,zbS hm.at_,hm.few⟩,?_⟩
  unfold zmr
  rw [hn0]
  rfl
 rintro ⟨k,p⟩ ⟨hk,hp,hit⟩
 simp only at hk hp hit ⊢
 refine zab ?_
 refine zaa ⟨53,[(0,.pt 0 0 0),(2,.pt 16 0 0),(3,.pt 56 0 0),(4,.I k),(29,.B (decide (0 < k)))],[(0,some (dice L p.2)),(16,some zG),(56,some (rowG p.1))],248⟩ rfl ?_ ?_
 ·simp
  exact Le.keep rfl (Nat.le_refl _) (by simp) (by simp)
 refine zac _ rfl (fun h=>zae ?_) fun h=>zan (Go.Proofs.YthmaflecfppoiaaGreat.hit ?_)
 ·simp only [decide_eq_true_eq] at h
  refine zaL (ι:=Unit) (fun _=>⟨53,[(0,.pt 0 0 0),(2,.pt 16 0 0),(3,.pt 56 0 0),(4,.I k)],[(0,some (dice L (zo7 L p).2)),(16,some zG),(56,some (rowG (zo7 L p).1))],440⟩) (fun _=>True) ?_ fun _ _=>?_
  ·refine zaf ?_
   have q1:=zbS (n:=p.1.size) hp.at_
   have q2:=zbS (n:=p.1.size) q1
   have hlo:=hp.lo
   have hhi:=hp.hi
   have l3:=zeG (L:=L) (a:=(zaz L (zaz L p.2 p.1.size).2 p.1.size).2) (n:=3) (by omega)
   have hwv : IntKind.i64.wrap (1 + (zaz L (zaz L (zaz L p.2 p.1.size).2 p.1.size).2 3).1) = 1 + (zaz L (zaz L (zaz L p.2 p.1.size).2 p.1.size).2 3).1:=w64 (by omega) (by omega)
   obtain ⟨w,hw⟩ : ∃ w,w = zbv p.1 ⟨(zaz L p.2 p.1.size).1,(zaz L (zaz L p.2 p.1.size).2 p.1.size).1,1 + (zaz L (zaz L (zaz L p.2 p.1.size).2 p.1.size).2 3).1⟩:=⟨_,rfl⟩
   have hst : zo7 L p = (if w.2 = 0 then w.1 else p.1,(zaz L (zaz L (zaz L p.2 p.1.size).2 p.1.size).2 3).2):=by rw [hw]; rfl
   have h500:=hp.ok.1.2.2.1
   have hfew:=hp.few
   have hwith:=zfx p.1 ⟨(zaz L p.2 p.1.size).1,(zaz L (zaz L p.2 p.1.size).2 p.1.size).1,1 + (zaz L (zaz L (zaz L p.2 p.1.size).2 p.1.size).2 3).1⟩ (by omega) (by omega)
   rw [← hw] at hwith
   rw [hst]
   refine zaq ⟨53,[(0,.pt 0 0 0),(2,.pt 16 0 0),(3,.pt 56 0 0),(4,.I k),(5,.pv (gC w.1)),(6,.I w.2)],[(0,some (dice L (zaz L (zaz L (zaz L p.2 p.1.size).2 p.1.size).2 3).2)),(16,some zG),(56,some (rowG p.1))],408⟩ rfl ?_ ?_
   ·simp
    refine zbH (i:=0) rfl (e':=dice L p.2) (by simp [fcd]) (zgN L p.2 p.1.size hl hp.at_ (by omega)) (by simp) (by simp) ?_
    simp [fcd]
    refine zbH (i:=0) rfl (e':=dice L (zaz L p.2 p.1.size).2) (by simp [fcd]) (zgN L (zaz L p.2 p.1.size).2 p.1.size hl q1 (by omega)) (by simp) (by simp) ?_
    simp [fcd]
    refine zbH (i:=0) rfl (e':=dice L (zaz L (zaz L p.2 p.1.size).2 p.1.size).2) (by simp [fcd]) (zgN L (zaz L (zaz L p.2 p.1.size).2 p.1.size).2 3 hl q2 (by omega)) (by simp) (by simp) ?_
    simp [fcd,hwv]
    refine zaj hwith rfl ?_
    simp
    refine ⟨rfl,Le.ents [(0,0),(16,16),(56,56)] [384] rfl (by simp) (by simp) (by simp) (by simp) (by simp) (by simp) fun p hp=>?_⟩
    simp at hp
    rcases hp with rfl | rfl | rfl
    ·exact ⟨0,_,_,rfl,by simp,rfl,zaI.eq (by simp [fcd]) (by simp)⟩
    ·exact ⟨16,_,_,rfl,by simp,rfl,zaI.eq (by simp) (by simp)⟩
    ·exact ⟨56,_,_,rfl,by simp,rfl,zaI.eq (by simp) (by simp)⟩
   refine zaa ⟨53,[(0,.pt 0 0 0),(2,.pt 16 0 0),(3,.pt 56 0 0),(4,.I k),(5,.pv (gC w.1)),(50,.B (decide (w.2 = 0)))],[(0,some (dice L (zaz L (zaz L (zaz L p.2 p.1.size).2 p.1.size).2 3).2)),(16,some zG),(56,some (rowG p.1))],424⟩ rfl ?_ ?_
   ·simp
    exact Le.keep rfl (Nat.le_refl _) (by simp <;> rw [Bool.eq_iff_iff] <;> simp) (by simp)
   refine zac _ rfl (fun h=>?_) fun h=>zae ?_
   ·simp only [decide_eq_true_eq] at h
    refine zas rfl ?_
    simp [h]
    exact Le.keep rfl (nbz rfl) (by simp) (by simp)
   ·simp only [decide_eq_false_iff_not] at h
    rw [if_neg h]
    exact ⟨(),trivial,Le.keep rfl (nbz rfl) (by simp) (by simp)⟩
  have hwk : IntKind.i64.wrap ((k : Int) - 1) = ((k - 1 : Nat) : Int):=by rw [w64 (by omega) (by omega)]; omega
  refine zas rfl ?_
  simp [hwk]
  refine ⟨k - 1,(zo7 L p).1,(zo7 L p).2,⟨by omega,zmE hp,?_⟩,by omega,Le.ents [(0,0),(16,16),(56,56)] [] rfl (by simp) (by simp) (by simp) (by simp) (by simp) (by simp) fun p hp=>?_⟩
  ·rw [← hit]
   obtain ⟨k,rfl⟩ : ∃ j,k = j + 1:=⟨k - 1,by omega⟩
   rfl
  ·simp at hp
   rcases hp with rfl | rfl | rfl
   ·exact ⟨0,_,_,rfl,by simp,rfl,zaI.eq (by simp [fcd]) (by simp)⟩
   ·exact ⟨16,_,_,rfl,by simp,rfl,zaI.eq (by simp) (by simp)⟩
   ·exact ⟨56,_,_,rfl,by simp,rfl,zaI.eq (by simp) (by simp)⟩
 simp only [decide_eq_false_iff_not] at h
 obtain rfl : k = 0:=by omega
 have hpe : p = zmr L a:=hit
 rw [← hpe]
 refine zaa ⟨53,[(2,.pt 16 0 0)],[(0,some (dice L p.2)),(16,some (rowG p.1))],264⟩ rfl ?_ ?_
 ·simp
  exact Le.keep rfl (Nat.le_refl _) (by simp) (by simp)
 refine zag ?_
 exact ⟨.inr rfl,zak.k1 (vs:=[eG p.1]) rfl (by simp) (by simp [fcd])⟩
def zkD (capt : List AV) : Prop:=∀ ρ sn h n,capt.map (conv ρ sn h (n + 1)) = capt
def idxQ {α : Type} (l : List α) (q : α → Bool) : Int:=if l.findIdx q < l.length then (l.findIdx q : Int) else -1
theorem zpE {α : Type} {l : List α} {q : α → Bool} {k : Nat} (hk : k < l.length) (h1 : ∀ i,i < k → ∀ h : i < l.length,q l[i] = false) (h2 : q l[k] = true) : idxQ l q = k:=by
 have : l.findIdx q = k:=by
  rw [List.findIdx_eq hk]
  exact ⟨h2,fun j hj=>by simpa using h1 j hj (by omega)⟩
 unfold idxQ
 rw [this,if_pos hk]
theorem zqh {α : Type} {l : List α} {q : α → Bool} (h1 : ∀ i,i < l.length → ∀ h : i < l.length,q l[i] = false) : idxQ l q = -1:=by
 have : l.findIdx q = l.length:=by
  rw [List.findIdx_eq_length]
  intro x hx
  obtain ⟨i,hi,rfl⟩:=List.mem_iff_getElem.1 hx
  exact h1 i hi hi
 unfold idxQ
 rw [this,if_neg (by omega)]
theorem znG (f : FuncId) (capt : List AV) (q : Ed → Bool) (l : List Ed) (hl : l.length ≤ 1099511627776) (hs : zkD capt) (hc : ∀ e ∈ l,zai Tryz.prog f (eE e :: capt) [] (.B (q e)) []) : zai Tryz.prog za1 [eEs l,.fn (.func f) [] capt] [] (.I (idxQ l q)) []:=by
 have hs2 : ∀ ρ sn h,capt.map (conv ρ sn h 2) = capt:=fun _ _ _=>hs _ _ _ 1
 have hs3 : ∀ ρ sn h,capt.map (conv ρ sn h 3) = capt:=fun _ _ _=>hs _ _ _ 2
 have hs4 : ∀ ρ sn h,capt.map (conv ρ sn h 4) = capt:=fun _ _ _=>hs _ _ _ 3
 refine zcx.acalls (nbz rfl) (nbz rfl) (Nat.le_refl _) ?_
 show awp _ 0 _ _ ⟨19,[(0,eEs l),(1,.fn (.func f) [] capt)],[],16⟩
 refine zab ?_
 refine zad (s:=?s1) rfl ?o1 ?q1
 case o1=>simp; rfl
 refine zab ?_
 refine zab ?_
 refine zad (s:=?s2) rfl ?o2 ?q2
 case o2=>simp; rfl
 refine zaf ?_
 refine zao (ι:=Nat) (fun k=>⟨19,[(0,eEs l),(1,.fn (.func f) [] capt),(7,.I l.length),(8,.I k)],[],16⟩) (fun k=>k ≤ l.length ∧ ∀ i,i < k → ∀ h : i < l.length,q l[i] = false) (fun k=>l.length - k) (0) ?_ (Le.snap [] rfl rfl (by simp [hs2,hs3,hs4])) ?_
 ·simp
 rintro k ⟨hk,hp⟩
 refine zab ?_
 refine zad (s:=?s3) rfl ?o3 ?q3
 case o3=>simp; rfl
 refine zab ?_
 refine zac _ rfl (fun h4=>?_) fun h4=>?_
 ·try simp at h4
  have hw2 : IntKind.i64.wrap ((k : Int) + 1) = (k : Int) + 1:=w64 (by omega) (by omega)
  have hck:=hc l[k] (List.getElem_mem h4)
  refine zae ?_
  refine zab ?_
  refine zaf ?_
  refine zab ?_
  refine zad (s:=?s5) rfl ?o5 ?q5
  case o5=>simp [h4,hw2]; rfl
  refine zab ?_
  refine zad (s:=?s6) rfl ?o6 ?q6
  case o6 =>
   simp [h4,hw2]
   refine zaj hck ?_ ?_
   ·simp [hs2,hs3,hs4]
   simp [h4,hw2]; rfl
  refine zac _ rfl (fun h7=>?_) fun h7=>?_
  ·try simp at h7
   refine zab ?_
   refine zad (s:=?s8) rfl ?o8 ?q8
   case o8=>simp [h4,hw2]; rfl
   refine zag ?_
   exact ⟨.inr rfl,zak.one (by simp [zpE h4 hp h7])⟩
  try simp at h7
  refine zae ?_
  refine zad (s:=?s9) rfl ?o9 ?q9
  case o9=>simp [h4,hw2]; rfl
  refine ⟨k + 1,⟨h4,fun i hi=>?_⟩,by omega,Le.snap [] rfl rfl (by simp [h4,hw2,hs2,hs3,hs4])⟩
  rcases Nat.lt_succ_iff_lt_or_eq.1 hi with h | rfl
  ·exact hp i h
  ·exact fun _=>h7
 try simp at h4
 have hall : ∀ i,i < l.length → ∀ h : i < l.length,q l[i] = false:=fun i hi=>hp i (by omega)
 refine zan ?_
 refine hit ?_
 refine zab ?_
 refine zad (s:=?s10) rfl ?o10 ?q10
 case o10=>simp; rfl
 refine zag ?_
 exact ⟨.inr rfl,zak.one (by simp [zqh hall])⟩
abbrev za8 (l : List Ed) : List (List AV):=l.map fun e=>[AV.I e.f,AV.I e.t,AV.I e.v]
theorem zhS {l : List Ed} {q : Ed → Bool} (h : ∀ i,i < l.length → ∀ h : i < l.length,q l[i] = false) : l.filter (fun e=>!q e) = l:=by
 rw [List.filter_eq_self]
 intro x hx
 obtain ⟨i,hi,rfl⟩:=List.mem_iff_getElem.1 hx
 simp [h i hi hi]
theorem zfP (l : List Ed) (q : Ed → Bool) (j : Nat) (h : j < l.length) : (l.take (j + 1)).filter (fun e=>!q e) = (l.take j).filter (fun e=>!q e) ++ if q l[j] = true then [] else [l[j]]:=by
 rw [← List.take_concat_get h,List.concat_eq_append,List.filter_append]
 congr 1
 cases hq : q l[j] <;> simp [hq]
set_option maxRecDepth 100000 in
theorem zlD (f : FuncId) (capt : List AV) (q : Ed → Bool) (l : List Ed) (n m : Nat) (hn : l.length = n) (hm : (l.filter fun e=>!q e).length = m) (hl : n ≤ 1099511627776) (hs : zkD capt) (hc : ∀ e ∈ l,zai Tryz.prog f (eE e :: capt) [] (.B (q e)) []) :
  zai Tryz.prog zaV [.rs 0 0 n,.fn (.func f) [] capt] [⟨3,za8 l,0⟩] (.rs 0 0 m) [some ⟨3,za8 (l.filter fun e=>!q e) ++ List.replicate (n - m) [.I 0,.I 0,.I 0],0⟩]:=by
 have hs2 : ∀ ρ sn h,capt.map (conv ρ sn h 2) = capt:=fun _ _ _=>hs _ _ _ 1
 have hs3 : ∀ ρ sn h,capt.map (conv ρ sn h 3) = capt:=fun _ _ _=>hs _ _ _ 2
 have hs4 : ∀ ρ sn h,capt.map (conv ρ sn h 4) = capt:=fun _ _ _=>hs _ _ _ 3
 refine zco.acalls (nbz rfl) (nbz rfl) (nbz rfl) ?_
 show awp _ 1 _ _ ⟨42,[(0,.rs 0 0 n),(1,.fn (.func f) [] capt)],[(0,some ⟨3,za8 l,0⟩)],16⟩
 have hmn : m ≤ n:=by rw [← hm,← hn]; exact List.length_filter_le _ _
 refine zaa ⟨42,[(0,.rs 0 0 n),(1,.fn (.func f) [] capt)],[(0,some ⟨3,za8 l,0⟩)],24⟩ rfl ?_ ?_
 ·simp
  exact Le.keep rfl (Nat.le_refl _) (by simp) (by simp)
 refine zaa ⟨42,[(0,.rs 0 0 n),(1,.fn (.func f) [] capt),(5,.I (idxQ l q))],[(0,some ⟨3,za8 l,0⟩)],56⟩ rfl ?_ ?_
 ·simp
  refine zle [0] (znG f capt q l (by omega) hs hc) ?_ (.sc _) ?_
  ·simp [hs2,hs3,hs4,← hn,fcd,zal]
  simp
  exact Le.keep rfl (Nat.le_refl _) (by simp) (by simp)
 refine zab ?_
 refine zaa ⟨42,[(0,.rs 0 0 n),(1,.fn (.func f) [] capt),(5,.I (idxQ l q)),(12,.B (decide (idxQ l q = -1)))],[(0,some ⟨3,za8 l,0⟩)],72⟩ rfl ?_ ?_
 ·simp
  exact Le.keep rfl (Nat.le_refl _) (by simp <;> rw [Bool.eq_iff_iff] <;> simp) (by simp)
 refine zac _ rfl (fun h=>?_) fun h=>zae ?_
 ·simp only [decide_eq_true_eq] at h
  have hno : ∀ i,i < l.length → ∀ h : i < l.length,q l[i] = false:=by
   intro i hi _
   unfold idxQ at h
   split at h
   ·omega
   ·rename_i hnl
    have : l.findIdx q = l.length:=by have:=List.findIdx_le_length (xs:=l) (p:=q); omega
    rw [List.findIdx_eq_length] at this
    exact this _ (List.getElem_mem hi)
  have hf:=zhS hno
  rw [hf] at hm ⊢
  obtain rfl : n = m:=by omega
  refine zab ?_
  refine zad (s:=?s1) rfl ?o1 ?q1
  case o1=>simp; rfl
  refine zag ?_
  refine ⟨.inr rfl,⟨[.rs 0 0 n],rfl,[],[],by simp [List.range,List.range.loop],by simp,by simp,?_,?_⟩⟩
  ·simp [List.range,List.range.loop]
  ·simp [List.range,List.range.loop,fcd]
 simp only [decide_eq_false_iff_not] at h
 obtain ⟨i0,hi0,hlt,hbef,hat⟩ : ∃ i0 : Nat,idxQ l q = i0 ∧ i0 < l.length ∧ (∀ i,i < i0 → ∀ h : i < l.length,q l[i] = false) ∧ ∀ h : i0 < l.length,q l[i0] = true:=by
  unfold idxQ at h ⊢
  split at h
  ·rename_i hlt
   refine ⟨l.findIdx q,by rw [if_pos hlt],hlt,fun i hi _=>?_,fun h=>List.findIdx_getElem (w:=h)⟩
   simpa using List.not_of_lt_findIdx hi
  ·omega
 rw [hi0]
 have hA0 : (l.take (i0 + 1)).filter (fun e=>!q e) = l.take i0:=by
  rw [zfP l q i0 hlt,if_pos (hat hlt),List.append_nil]
  refine zhS fun i hi h=>?_
  rw [List.length_take] at hi
  simp only [List.getElem_take]
  exact hbef i (by omega) (by omega)
 have hw0 : IntKind.i64.wrap ((i0 : Int) + 1) = ((i0 + 1 : Nat) : Int):=by rw [w64 (by omega) (by omega)]; omega
 let C : Nat × List Ed → St:=fun p=>⟨42,[(0,.rs 0 0 n),(1,.fn (.func f) [] capt),(5,.I ((l.take p.1).filter fun e=>!q e).length),(6,.I p.1)],[(0,some ⟨3,za8 ((l.take p.1).filter (fun e=>!q e) ++ p.2 ++ l.drop p.1),0⟩)],96⟩
 refine zab ?_
 refine zaa (C (i0 + 1,[l[i0]])) rfl ?_ ?_
 ·simp [hw0]
  refine Le.keep rfl (Nat.le_refl _) ?_ ?_
  ·simp only [C,hA0]
   simp
   omega
  ·simp only [C,hA0]
   simp
 refine zaf ?_
 refine zao C (fun p : Nat × List Ed=>p.1 ≤ n ∧ p.2 ≠ [] ∧ ((l.take p.1).filter fun e=>!q e).length + p.2.length = p.1) (fun p : Nat × List Ed=>n - p.1) (i0 + 1,[l[i0]]) ?_ (Le.refl _ _) ?_
 ·simp only [hA0]
  simp
  omega
 rintro ⟨j,M⟩ ⟨hj,hM,hlen⟩
 simp only at hj hM hlen ⊢
 obtain ⟨A,hA⟩ : ∃ A,A = (l.take j).filter fun e=>!q e:=⟨_,rfl⟩
 rw [← hA] at hlen
 have hC : C (j,M) = ⟨42,[(0,.rs 0 0 n),(1,.fn (.func f) [] capt),(5,.I A.length),(6,.I j)],[(0,some ⟨3,za8 (A ++ M ++ l.drop j),0⟩)],96⟩:=by subst hA; rfl
 rw [hC]
 refine zab ?_
 refine zaa ⟨42,[(0,.rs 0 0 n),(1,.fn (.func f) [] capt),(5,.I A.length),(6,.I j),(19,.B (decide (j < n)))],[(0,some ⟨3,za8 (A ++ M ++ l.drop j),0⟩)],128⟩ rfl ?_ ?_
 ·simp
  exact Le.keep rfl (Nat.le_refl _) (by simp) (by simp)
 refine zac _ rfl (fun h=>zae ?_) fun h=>zan (hit ?_)
 ·simp only [decide_eq_true_eq] at h
  have hjl : j < l.length:=by omega
  match M,hM,hlen with
  | m0 :: M1,_,hlen =>
  simp only [List.length_cons] at hlen
  have hnext:=zfP l q j hjl
  rw [← hA] at hnext
  have hget : (za8 (A ++ m0 :: M1 ++ l.drop j))[j]? = some [AV.I l[j].f,AV.I l[j].t,AV.I l[j].v]:=by
   rw [List.getElem?_map,List.getElem?_append_right (by simp; omega),List.getElem?_drop,show j + (j - (A ++ m0 :: M1).length) = j by simp; omega,List.getElem?_eq_getElem hjl]
   rfl
  have hget2 : (za8 (A ++ m0 :: M1 ++ l.drop j))[A.length]? = some [AV.I m0.f,AV.I m0.t,AV.I m0.v]:=by
   rw [List.getElem?_map,List.append_assoc,List.getElem?_append_right (by omega)]
   simp
  have hset : (za8 (A ++ m0 :: M1 ++ l.drop j)).set A.length [AV.I l[j].f,AV.I l[j].t,AV.I l[j].v] = za8 ((A ++ [l[j]]) ++ (M1 ++ [l[j]]) ++ l.drop (j + 1)):=by
   have e1 : l.drop j = l[j] :: l.drop (j + 1):=List.drop_eq_getElem_cons hjl
   rw [e1]
   simp [za8,List.set_append]
  have hmore : A ++ m0 :: M1 ++ l.drop j = A ++ (m0 :: M1 ++ [l[j]]) ++ l.drop (j + 1):=by
   have e1 : l.drop j = l[j] :: l.drop (j + 1):=List.drop_eq_getElem_cons hjl
   rw [e1]
   simp
  generalize hrows : za8 (A ++ m0 :: M1 ++ l.drop j) = R at *
  have hRl : R.length = n:=by rw [← hrows]; simp; omega
  have hck:=hc l[j] (List.getElem_mem hjl)
  generalize hv : l[j] = v at *
  refine zaL (ι:=List Ed × List Ed) (fun p=>⟨42,[(0,.rs 0 0 n),(1,.fn (.func f) [] capt),(5,.I p.1.length),(6,.I j)],[(0,some ⟨3,za8 (p.1 ++ p.2 ++ l.drop (j + 1)),0⟩)],272⟩)
   (fun p=>p.1 = (l.take (j + 1)).filter (fun e=>!q e) ∧ p.2 ≠ [] ∧ p.1.length + p.2.length = j + 1) ?_ ?_
  ·refine zaf ?_
   refine zaa ⟨42,[(0,.rs 0 0 n),(1,.fn (.func f) [] capt),(5,.I A.length),(6,.I j),(7,.pt 160 0 0)],[(0,some ⟨3,R,0⟩),(160,some ⟨3,[[.I v.f,.I v.t,.I v.v]],0⟩)],176⟩ rfl ?_ ?_
   ·simp [h,hget]
    exact Le.keep rfl (Nat.le_refl _) (by simp) (by simp)
   refine zaa ⟨42,[(0,.rs 0 0 n),(1,.fn (.func f) [] capt),(5,.I A.length),(6,.I j),(7,.pt 160 0 0),(29,.B (!q v))],[(0,some ⟨3,R,0⟩),(160,some ⟨3,[[.I v.f,.I v.t,.I v.v]],0⟩)],208⟩ rfl ?_ ?_
   ·simp
    refine zaj hck ?_ ?_
    ·simp [hs2,hs3,hs4]
    simp
    exact Le.keep rfl (Nat.le_refl _) (by simp) (by simp)
   refine zac _ rfl (fun h5=>?_) fun h5=>zae ?_
   ·simp only [Bool.not_eq_true'] at h5
    rw [h5] at hnext
    refine zaa ⟨42,[(0,.rs 0 0 n),(1,.fn (.func f) [] capt),(5,.I A.length),(6,.I j)],[(0,some ⟨3,za8 ((A ++ [v]) ++ (M1 ++ [v]) ++ l.drop (j + 1)),0⟩)],248⟩ rfl ?_ ?_
    ·simp [hget2,show A.length < n by omega,zar,hset]
     exact Le.keep rfl (Nat.le_refl _) (by simp) (by simp)
    have hwA : IntKind.i64.wrap ((A.length : Int) + 1) = ((A.length + 1 : Nat) : Int):=by rw [w64 (by omega) (by omega)]; omega
    refine zas rfl ?_
    simp [hwA]
    refine ⟨A ++ [v],M1 ++ [v],⟨by rw [hnext]; simp,by simp,by simp; omega⟩,Le.keep rfl (Nat.le_refl _) (by simp) (by simp)⟩
   ·simp only [Bool.not_eq_false'] at h5
    rw [h5] at hnext
    refine ⟨(A,m0 :: M1 ++ [v]),⟨by rw [hnext]; simp,by simp,by simp; omega⟩,Le.keep rfl (nbz rfl) (by simp) ?_⟩
    rw [← hmore,hrows]
    simp
  rintro ⟨A',M'⟩ ⟨p1,p2,p3⟩
  simp only at p1 p2 p3 ⊢
  have hwj : IntKind.i64.wrap ((j : Int) + 1) = ((j + 1 : Nat) : Int):=by rw [w64 (by omega) (by omega)]; omega
  refine zas rfl ?_
  simp [hwj]
  refine ⟨j + 1,M',⟨by omega,p2,by rw [← p1]; omega⟩,by omega,?_⟩
  have hD : C (j + 1,M') = ⟨42,[(0,.rs 0 0 n),(1,.fn (.func f) [] capt),(5,.I A'.length),(6,.I ((j + 1 : Nat) : Int))],[(0,some ⟨3,za8 (A' ++ M' ++ l.drop (j + 1)),0⟩)],96⟩:=by rw [p1]
  rw [hD]
  refine Le.ents [(0,0)] [] rfl (by simp) (by simp) (by simp) (by simp) (by simp) (by simp [hs2,hs3,hs4]) fun p hp=>?_
  simp at hp
  subst hp
  exact ⟨0,_,_,rfl,by simp,rfl,zaI.eq (by simp [fcd]) (by simp)⟩
 simp only [decide_eq_false_iff_not] at h
 obtain rfl : j = n:=by omega
 have hd : l.drop j = []:=List.drop_eq_nil_of_le (by omega)
 have ht : l.take j = l:=List.take_of_length_le (by omega)
 rw [ht] at hA
 rw [hd,List.append_nil]
 rw [← hA] at hm ⊢
 subst hm
 have hAM : (za8 (A ++ M)).take A.length = za8 A:=by simp [za8]
 have hAd : (za8 (A ++ M)).drop (A.length + (j - A.length)) = []:=List.drop_eq_nil_of_le (by simp; omega)
 have hAl : (za8 (A ++ M)).length = j:=by simp; omega
 generalize za8 (A ++ M) = R at *
 refine zaa ⟨42,[(0,.rs 0 0 j),(5,.I A.length)],[(0,some ⟨3,za8 A ++ List.replicate (j - A.length) [.I 0,.I 0,.I 0],0⟩)],160⟩ rfl ?_ ?_
 ·simp
  refine ⟨by omega,by omega,?_⟩
  rw [hAM,hAd]
  exact Le.keep rfl (Nat.le_refl _) (by simp) (by simp)
 refine zab ?_
 refine zad (s:=?s2) rfl ?o2 ?q2
 case o2 =>
  simp
  refine ⟨by omega,?_⟩
  rfl
 refine zag ?_
 refine ⟨.inr rfl,⟨[.rs 0 0 A.length],rfl,[],[],by simp [List.range,List.range.loop],by simp,by simp,?_,?_⟩⟩
 ·simp [List.range,List.range.loop]
 ·simp [List.range,List.range.loop,fcd]
def zam (g : Gr) (v : Int) : Gr:=⟨g.size,g.edges.filter fun e=>!decide (e.v < v),g.gone⟩
theorem ziQ (e : Ed) (v : Int) : zai Tryz.prog zdc [eE e,.pv [.I v]] [] (.B (decide (e.v < v))) []:=by
 refine zj9.acalls (nbz rfl) (nbz rfl) (Nat.le_refl _) ?_
 show awp _ 0 _ _ ⟨8,[(0,eE e),(1,.pv [.I v])],[],16⟩
 refine zaa ⟨8,[(1,.pv [.I v]),(2,.pv (eC e))],[],16⟩ rfl ?_ ?_
 ·simp
  exact Le.snap [16] rfl rfl (by simp)
 refine zab ?_
 refine zad (s:=?s1) rfl ?o1 ?q1
 case o1=>simp; rfl
 refine zag ?_
 exact ⟨.inr rfl,zak.one (by simp)⟩
set_option maxRecDepth 100000 in
theorem zdx (g : Gr) (v : Int) (hl : g.edges.length ≤ 1099511627776) (hl2 : g.gone.length ≤ 1099511627776) : zai Tryz.prog zcR [eG g,.I v] [] (eG (zam g v)) []:=by
 refine zop.acalls (nbz rfl) (nbz rfl) (Nat.le_refl _) ?_
 show awp _ 0 _ _ ⟨14,[(0,eG g),(1,.I v)],[],16⟩
 obtain ⟨E,hE⟩ : ∃ E,E = g.edges.filter fun e=>!decide (e.v < v):=⟨_,rfl⟩
 have hEl : E.length ≤ g.edges.length:=by rw [hE]; exact List.length_filter_le _ _
 have hdel:=zlD zdc [.pv [.I v]] (fun e=>decide (e.v < v)) g.edges g.edges.length E.length rfl (by rw [hE]) hl (fun ρ sn h n=>by simp) (fun e _=>ziQ e v)
 rw [← hE] at hdel
 have hres : zam g v = ⟨g.size,E,g.gone⟩:=by rw [hE]; rfl
 rw [hres]
 refine zaa ⟨14,[(2,.pv (gC g)),(3,.pt 24 0 0),(4,.pt 32 0 0)],[(24,some ⟨1,[[.I v]],0⟩),(32,some zG)],40⟩ rfl ?_ ?_
 ·simp
  refine Le.ents [(24,24),(32,32)] [16] rfl (by simp) (by simp) (by simp) (by simp) (by simp) (by simp) fun p hp=>?_
  simp at hp
  rcases hp with rfl | rfl
  ·exact ⟨24,_,_,rfl,by simp,rfl,zaI.eq (by simp) (by simp)⟩
  ·exact ⟨32,_,_,rfl,by simp,rfl,zaI.eq (by simp) (by simp)⟩
 refine zaa ⟨14,[(3,.pt 24 0 0),(4,.pt 32 0 0),(5,.pt 56 0 0)],[(24,some ⟨1,[[.I v]],0⟩),(32,some zG),(56,some ⟨3,[[.I g.size,.rs 48 0 g.edges.length,.rs 49 0 g.gone.length]],0⟩),(48,some ⟨3,za8 g.edges,0⟩),(49,some ⟨1,g.gone.map fun n=>[AV.I n],0⟩)],72⟩ rfl ?_ ?_
 ·simp
  refine zi9 (zeo g (by omega) (by omega)) rfl ?_
  simp [fcd]
  exact Le.keep rfl (Nat.le_refl _) (by simp) (by simp)
 refine zaa ⟨14,[(4,.pt 32 0 0),(5,.pt 56 0 0)],[(32,some zG),(56,some ⟨3,[[.I g.size,.rs 48 0 E.length,.rs 49 0 g.gone.length]],0⟩),(48,some ⟨3,za8 E ++ List.replicate (g.edges.length - E.length) [.I 0,.I 0,.I 0],0⟩),(49,some ⟨1,g.gone.map fun n=>[AV.I n],0⟩)],120⟩ rfl ?_ ?_
 ·simp
  refine zm9 (i:=48) (j:=24) (by decide) (Nat.zero_le _) rfl rfl ?_ hdel (by simp) ?_ ?_
  ·simp [fcd]
  ·simp
  simp [fcd]
  exact Le.keep rfl (Nat.le_refl _) (by simp) (by simp)
 refine zab ?_
 refine zad (s:=?s21) rfl ?o21 ?q21
 case o21=>simp; rfl
 refine zag ?_
 refine ⟨.inr rfl,?_⟩
 show zak [(4,some (true,3))] 0 _ _ _
 refine zak.out (vs:=[.agg [.I g.size,.rs 48 0 E.length,.rs 49 0 g.gone.length]]) [] [48,49] (by simp) (by simp) (by simp) ?_ (by simp)
 simp [fcd,zal]
theorem zo0 (l : List Ed) (v : Int) (k : Nat) (h : k < l.length) : (l.take (k + 1)).filter (fun e=>!decide (e.v < v)) = (l.take k).filter (fun e=>!decide (e.v < v)) ++ if v ≤ l[k].v then [l[k]] else []:=by
 rw [← List.take_concat_get h,List.concat_eq_append,List.filter_append]
 congr 1
 by_cases hq : v ≤ l[k].v
 ·have : ¬ l[k].v < v:=by omega
  simp [hq,this]
 ·have : l[k].v < v:=by omega
  simp [hq,this]
set_option maxRecDepth 100000 in
theorem zdw (g : Gr) (v : Int) (hl : g.edges.length ≤ 1099511627776) (hl2 : g.gone.length ≤ 1099511627776) : zai Tryz.prog zcK [eG g,.I v] [] (eG (zam g v)) []:=by
 refine zon.acalls (nbz rfl) (nbz rfl) (Nat.le_refl _) ?_
 show awp _ 0 _ _ ⟨36,[(0,eG g),(1,.I v)],[],16⟩
 refine zaa ⟨36,[(1,.I v),(2,.pv (gC g)),(4,.pt 24 0 0)],[(24,some zG)],32⟩ rfl ?_ ?_
 ·simp
  refine Le.ents [(24,24)] [16] rfl (by simp) (by simp) (by simp) (by simp) (by simp) (by simp) fun p hp=>?_
  simp at hp
  subst hp
  exact ⟨24,_,_,rfl,by simp,rfl,zaI.eq (by simp) (by simp)⟩
 refine zaa ⟨36,[(1,.I v),(2,.pv (gC g)),(4,.pt 24 0 0),(5,.pt 48 0 0)],[(24,some zG),(48,some ⟨3,[[.I g.size,.rs 40 0 g.edges.length,.rs 41 0 g.gone.length]],0⟩),(40,some ⟨3,za8 g.edges,0⟩),(41,some ⟨1,g.gone.map fun n=>[AV.I n],0⟩)],64⟩ rfl ?_ ?_
 ·simp
  refine zi9 (zc2 g (by omega) (by omega)) rfl ?_
  simp [fcd]
  exact Le.keep rfl (Nat.le_refl _) (by simp) (by simp)
 refine zaa ⟨36,[(1,.I v),(2,.pv (gC g)),(4,.pt 24 0 0),(5,.pt 48 0 0)],[(24,some zG),(48,some ⟨3,[[.I g.size,.nilS,ints g.gone]],0⟩)],80⟩ rfl ?_ ?_
 ·simp
  refine Le.ents [(24,24),(48,48)] [41] rfl (by simp) (by simp) (by simp) (by simp) (by simp) (by simp) fun p hp=>?_
  simp at hp
  rcases hp with rfl | rfl
  ·exact ⟨24,_,_,rfl,by simp,rfl,zaI.eq (by simp) (by simp)⟩
  ·exact ⟨48,_,_,rfl,by simp,rfl,zaI.eq (by simp [zar,fcd,zal]) (by simp)⟩
 refine zab ?_
 refine zaa ⟨36,[(1,.I v),(2,.pv (gC g)),(4,.pt 24 0 0),(5,.pt 48 0 0),(6,.I 0)],[(24,some zG),(48,some ⟨3,[[.I g.size,.nilS,ints g.gone]],0⟩)],88⟩ rfl ?_ ?_
 ·simp
  exact Le.keep rfl (Nat.le_refl _) (by simp) (by simp)
 refine zaf ?_
 let F : Nat → List Ed:=fun k=>(g.edges.take k).filter fun e=>!decide (e.v < v)
 let C : Nat → St:=fun k=>⟨36,[(1,.I v),(2,.pv (gC g)),(4,.pt 24 0 0),(5,.pt 48 0 0),(6,.I k)],[(24,some zG),(48,some ⟨3,[[.I g.size,.rs 16 0 (F k).length,ints g.gone]],0⟩),(16,some ⟨3,za8 (F k),0⟩)],88⟩
 refine zao C (fun k=>k ≤ g.edges.length) (fun k=>g.edges.length - k) 0 (Nat.zero_le _) ?_ ?_
 ·refine Le.lst [(24,24),(48,48)] [] [(16,3)] rfl (by simp) (by simp) (by simp [C]) (by simp [C]) (by simp) (by simp) (by simp) (by simp [C,Up]) fun p hp e' he'=>?_
  simp [C] at hp
  rcases hp with rfl | rfl | rfl
  ·cases he'
   exact .inl ⟨(24,24),by simp,rfl,_,rfl,zaI.eq (by simp) (by simp)⟩
  ·cases he'
   refine .inl ⟨(48,48),by simp,rfl,_,rfl,zaI.row (by simp; rfl) (by simp) ?_⟩
   exact ⟨.inl (.refl _),.inr ⟨rfl,16,3,by simp [F],by simp⟩,.inl (.refl _),trivial⟩
  ·cases he'
   exact .inr ⟨by simp,by simp [F],rfl⟩
 intro k hk
 have hFl : (F k).length ≤ k:=by
  have h1 : (F k).length ≤ (g.edges.take k).length:=List.length_filter_le _ _
  simp at h1
  omega
 have hC : C k = ⟨36,[(1,.I v),(2,.pv (gC g)),(4,.pt 24 0 0),(5,.pt 48 0 0),(6,.I k)],[(24,some zG),(48,some ⟨3,[[.I g.size,.rs 16 0 (F k).length,ints g.gone]],0⟩),(16,some ⟨3,za8 (F k),0⟩)],88⟩:=rfl
 rw [hC]
 refine zab ?_
 refine zaa ⟨36,[(1,.I v),(2,.pv (gC g)),(4,.pt 24 0 0),(5,.pt 48 0 0),(6,.I k),(14,.B (decide (k < g.edges.length)))],[(24,some zG),(48,some ⟨3,[[.I g.size,.rs 16 0 (F k).length,ints g.gone]],0⟩),(16,some ⟨3,za8 (F k),0⟩)],128⟩ rfl ?_ ?_
 ·simp
  exact Le.keep rfl (Nat.le_refl _) (by simp) (by simp)
 refine zac _ rfl (fun h=>zae ?_) fun h=>zan (hit ?_)
 ·simp only [decide_eq_true_eq] at h
  have hnext:=zo0 g.edges v k h
  have hFs : F (k + 1) = F k ++ if v ≤ g.edges[k].v then [g.edges[k]] else []:=hnext
  refine zaL (ι:=Unit) (fun _=>⟨36,[(1,.I v),(2,.pv (gC g)),(4,.pt 24 0 0),(5,.pt 48 0 0),(6,.I k)],[(24,some zG),(48,some ⟨3,[[.I g.size,.rs 16 0 (F (k + 1)).length,ints g.gone]],0⟩),(16,some ⟨3,za8 (F (k + 1)),0⟩)],280⟩) (fun _=>True) ?_ fun _ _=>?_
  ·rw [hFs]
   generalize F k = A at *
   refine zaf ?_
   refine zaa ⟨36,[(1,.I v),(2,.pv (gC g)),(4,.pt 24 0 0),(5,.pt 48 0 0),(6,.I k),(24,.B (decide (v ≤ g.edges[k].v)))],[(24,some zG),(48,some ⟨3,[[.I g.size,.rs 16 0 A.length,ints g.gone]],0⟩),(16,some ⟨3,za8 A,0⟩)],192⟩ rfl ?_ ?_
   ·simp [h]
    exact Le.keep rfl (Nat.le_refl _) (by simp) (by simp)
   refine zac _ rfl (fun h5=>?_) fun h5=>zae ?_
   ·simp only [decide_eq_true_eq] at h5
    rw [if_pos h5]
    refine zbF rfl ?_
    have hrl : (za8 A).length = A.length:=by simp
    simp [h,zar,List.replicate]
    refine ⟨by omega,by omega,rfl,?_⟩
    refine Le.ents [(24,24),(48,48),(256,16)] [] rfl (by simp) (by simp) (by simp) (by simp) (by simp) (by simp) fun p hp=>?_
    simp at hp
    rcases hp with rfl | rfl | rfl
    ·exact ⟨24,_,_,rfl,by simp,rfl,zaI.eq (by simp) (by simp)⟩
    ·exact ⟨48,_,_,rfl,by simp,rfl,zaI.eq (by simp) (by simp)⟩
    ·exact ⟨256,_,_,rfl,by simp,rfl,zaI.eq (by simp [fcd,zal]) (by simp)⟩
   ·simp only [decide_eq_false_iff_not] at h5
    rw [if_neg h5,List.append_nil]
    exact ⟨(),trivial,Le.keep rfl (nbz rfl) (by simp) (by simp)⟩
  have hwj : IntKind.i64.wrap ((k : Int) + 1) = ((k + 1 : Nat) : Int):=by rw [w64 (by omega) (by omega)]; omega
  refine zas rfl ?_
  simp [hwj]
  refine ⟨k + 1,by omega,by omega,?_⟩
  refine Le.ents [(24,24),(48,48),(16,16)] [] rfl (by simp) (by simp) (by simp [C]) (by simp) (by simp [C]) (by simp [C]) fun p hp=>?_
  simp [C] at hp
  rcases hp with rfl | rfl | rfl
  ·exact ⟨24,_,_,rfl,by simp,rfl,zaI.eq (by simp) (by simp)⟩
  ·exact ⟨48,_,_,rfl,by simp,rfl,zaI.eq (by simp) (by simp)⟩
  ·exact ⟨16,_,_,rfl,by simp,rfl,zaI.eq (by simp [fcd]) (by simp)⟩
 simp only [decide_eq_false_iff_not] at h
 obtain rfl : k = g.edges.length:=by omega
 have hF : F g.edges.length = (zam g v).edges:=by
  show (g.edges.take g.edges.length).filter _ = _
  rw [List.take_of_length_le (Nat.le_refl _)]
  rfl
 rw [hF]
 have hres : zam g v = ⟨g.size,(zam g v).edges,g.gone⟩:=rfl
 rw [hres]
 generalize (zam g v).edges = E at *
 refine zab ?_
 refine zad (s:=?s21) rfl ?o21 ?q21
 case o21=>simp; rfl
 refine zag ?_
 refine ⟨.inr rfl,?_⟩
 show zak [(4,some (true,3))] 0 _ _ _
 refine zak.out (vs:=[.agg [.I g.size,.rs 16 0 E.length,ints g.gone]]) [] [16] (by simp) (by simp) (by simp) ?_ (by simp)
 simp [fcd,zal]
def zrf (g : Gr) (lv f t : Int) : Prop:=∃ e ∈ g.edges,e.f = f ∧ e.t = t ∧ lv ≤ e.v
theorem zcd : ∀ {a b : List Int},a.Nodup → (∀ x ∈ a,x ∈ b) → b.length ≤ a.length → a.Perm b
 | [],b,_,_,hl=>by
   have : b = []:=List.length_eq_zero_iff.1 (by simpa using hl)
   rw [this]
 | x :: a,b,hn,hs,hl=>by
   have hx : x ∈ b:=hs x (List.mem_cons_self ..)
   rw [List.nodup_cons] at hn
   have hb:=List.perm_cons_erase hx
   have hlb : (b.erase x).length + 1 = b.length:=by have:=hb.length_eq; simp at this; omega
   refine (List.Perm.cons x (zcd hn.2 (fun y hy=>?_) ?_)).trans hb.symm
   ·have hy2:=hs y (List.mem_cons_of_mem _ hy)
    have hne : y ≠ x:=fun e=>hn.1 (e ▸ hy)
    exact (List.mem_erase_of_ne hne).2 hy2
   ·rw [List.length_cons] at hl
    omega
def srt (l : List Int) : List Int:=l.mergeSort fun x y=>decide (x ≤ y)
theorem zgK (l : List Int) : (srt l).Perm l:=List.mergeSort_perm ..
theorem ztH (l : List Int) : (srt l).Pairwise (· ≤ ·):=by
 have h:=List.pairwise_mergeSort (le:=fun x y : Int=>decide (x ≤ y)) (fun a b c h1 h2=>by simp at *; omega) (fun a b=>by simp; omega) l
 exact h.imp fun {a b} h=>by simpa using h
theorem zgV {a b : List Int} : srt a = srt b ↔ a.Perm b:=by
 constructor
 ·intro h
  exact (zgK a).symm.trans (h ▸ zgK b)
 ·intro h
  exact List.Perm.eq_of_pairwise (le:=(· ≤ ·)) (fun x y _ _ h1 h2=>by omega) (ztH a) (ztH b) (((zgK a).trans h).trans (zgK b).symm)
def zuM (g : Gr) (lv : Int) (seeds order w : List Int) : Prop :=
 (∃ k,w.head? = some k ∧ k ∈ seeds) ∧ (∀ k ∈ w,k ∈ order) ∧ w.Nodup ∧ ∀ i (h : i + 1 < w.length),zrf g lv w[i] w[i + 1]
def begC (P : List (List Int)) (k : Int) : Nat:=P.countP fun w=>decide (w.head? = some k)
def useC (P : List (List Int)) (k : Int) : Nat:=(P.flatMap List.dropLast).count k
def znc (c : List Int) (P : List (List Int)) : Prop:=∀ k (h : k < c.length),(begC P k : Int) ≤ c[k] ∧ (useC P k : Int) ≤ max 0 (c[k] - 1)
def ziV (P : List (List Int)) : List Int:=P.filterMap List.getLast?
def ziA (g : Gr) (lv : Int) (seeds order c : List Int) (P : List (List Int)) (ends : List Int) : Prop :=
 (∀ w ∈ P,zuM g lv seeds order w) ∧ znc c P ∧ srt (ziV P) = srt ends
def zkU (g : Gr) (lv : Int) (seeds order c : List Int) (P : List (List Int)) (ends : List Int) : Prop :=
 P.length = ends.length ∧ ends.Nodup ∧ (∀ w ∈ P,zuM g lv seeds order w) ∧ (∀ k ∈ ziV P,k ∈ ends) ∧ (ziV P).Nodup ∧ znc c P
theorem zuM.ne {g : Gr} {lv : Int} {seeds order w : List Int} (h : zuM g lv seeds order w) : w ≠ []:=by
 rintro rfl
 obtain ⟨k,hk,_⟩:=h.1
 cases hk
theorem zpw {P : List (List Int)} (h : ∀ w ∈ P,w ≠ []) : (ziV P).length = P.length:=by
 unfold ziV
 induction P with
 | nil=>rfl
 | cons w P ih =>
   have hw:=h w (List.mem_cons_self ..)
   rw [List.filterMap_cons,List.getLast?_eq_some_getLast hw]
   simp only [List.length_cons]
   rw [ih fun x hx=>h x (List.mem_cons_of_mem _ hx)]
theorem zmi {g : Gr} {lv : Int} {seeds order c : List Int} {P : List (List Int)} {ends : List Int} (hn : ends.Nodup) : ziA g lv seeds order c P ends ↔ zkU g lv seeds order c P ends:=by
 constructor
 ·rintro ⟨h1,h2,h3⟩
  have hp:=zgV.1 h3
  have hl:=zpw fun w hw=>(h1 w hw).ne
  exact ⟨by rw [← hl,hp.length_eq],hn,h1,fun k hk=>hp.mem_iff.1 hk,hp.nodup_iff.2 hn,h2⟩
 ·rintro ⟨h0,_,h1,h2,h3,h4⟩
  have hl:=zpw fun w hw=>(h1 w hw).ne
  exact ⟨h1,h4,zgV.2 (zcd h3 h2 (by omega))⟩
def zin (order : List Int) (key : Int) : List Int:=order.takeWhile fun x=>decide (x ≠ key)
theorem zpZ (x : Int) (o : List Int) (key : Int) : zin (x :: o) key = if x = key then [] else x :: zin o key:=by
 unfold zin
 rw [List.takeWhile_cons]
 by_cases h : x = key <;> simp [h]
def zf5 (order l : List Int) (key : Int) : Prop:=l.Sublist (zin order key)
theorem zls (order : List Int) (key : Int) : key ∉ zin order key:=by
 induction order with
 | nil=>simp [zin]
 | cons x o ih =>
   rw [zpZ]
   split
   ·simp
   ·rename_i h
    simp only [List.mem_cons,not_or]
    exact ⟨fun e=>h e.symm,ih⟩
theorem zf5.nodup {order l : List Int} {key : Int} (h : zf5 order l key) (hn : order.Nodup) : (l ++ [key]).Nodup:=by
 rw [List.nodup_append]
 refine ⟨(hn.sublist (List.takeWhile_sublist _)).sublist h,by simp,fun x hx y hy=>?_⟩
 rw [List.mem_singleton] at hy
 subst hy
 rintro rfl
 exact zls order x (h.subset hx)
structure zhY (A : List Ed) (E : Int → Int → Prop) (seeds sinks : List Int) (c : Int → Int) : Prop where
 kind : ∀ i,i < A.length → (∃ x,x ∈ seeds ∧ 0 ≤ x ∧ arcD A i = ⟨0,2 + 2 * x,c x⟩) ∨ (∃ x,0 ≤ x ∧ arcD A i = ⟨2 + 2 * x,3 + 2 * x,c x - 1⟩) ∨ (∃ x,x ∈ sinks ∧ 0 ≤ x ∧ arcD A i = ⟨2 + 2 * x,1,1⟩) ∨ (∃ x y,0 ≤ x ∧ 0 ≤ y ∧ E x y ∧ arcD A i = ⟨3 + 2 * x,2 + 2 * y,64⟩)
 uniq : ∀ i j,i < A.length → j < A.length → (arcD A i).f = (arcD A j).f → (arcD A i).t = (arcD A j).t → i = j
inductive zhE (A : List Ed) (E : Int → Int → Prop) (sinks : List Int) (c : Int → Int) : Int → List Nat → List Int → Prop
 | last (k : Int) (i : Nat) : i < A.length → arcD A i = ⟨2 + 2 * k,1,1⟩ → k ∈ sinks → zhE A E sinks c k [i] []
 | more (k y : Int) (i j : Nat) (l : List Nat) (ks : List Int) : i < A.length → arcD A i = ⟨2 + 2 * k,3 + 2 * k,c k - 1⟩ → arcD A j = ⟨3 + 2 * k,2 + 2 * y,64⟩ → E k y → 0 ≤ y → zhE A E sinks c y l ks → zhE A E sinks c k (i :: j :: l) (y :: ks)
variable {A : List Ed} {E : Int → Int → Prop} {seeds sinks : List Int} {c : Int → Int}
theorem zhY.sinkless (h : zhY A E seeds sinks c) {i : Nat} (hi : i < A.length) : (arcD A i).f ≠ 1:=by
 rcases h.kind i hi with ⟨x,_,hx,e⟩ | ⟨x,hx,e⟩ | ⟨x,_,hx,e⟩ | ⟨x,y,hx,hy,_,e⟩ <;> rw [e] <;> simp only <;> omega
theorem zhY.path (h : zhY A E seeds sinks c) : ∀ (n : Nat) (l : List Nat) (k : Int),l.length ≤ n → 0 ≤ k → WayA A (2 + 2 * k) l 1 → ∃ ks,zhE A E sinks c k l ks
 | _,[],k,_,hk,hw=>by
   have : 2 + 2 * k = 1:=hw
   omega
 | n,[i],k,_,hk,hw=>by
   obtain ⟨h1,h2,h3⟩:=hw
   have h3' : (arcD A i).t = 1:=h3
   rcases h.kind i h1 with ⟨x,_,hx,e⟩ | ⟨x,hx,e⟩ | ⟨x,hs,hx,e⟩ | ⟨x,y,hx,hy,_,e⟩ <;> rw [e] at h2 h3' <;> simp only at h2 h3'
   ·omega
   ·omega
   ·have : x = k:=by omega
    subst this
    exact ⟨[],.last _ i h1 e hs⟩
   ·omega
 | 0,_ :: _ :: _,_,hn,_,_=>by simp at hn
 | n + 1,i :: j :: l,k,hn,hk,hw=>by
   obtain ⟨h1,h2,h4,h5,h6⟩:=hw
   rcases h.kind i h1 with ⟨x,_,hx,e⟩ | ⟨x,hx,e⟩ | ⟨x,hs,hx,e⟩ | ⟨x,y,hx,hy,_,e⟩
   ·rw [e] at h2; simp only at h2; omega
   ·rw [e] at h2 h5
    simp only at h2 h5
    have : x = k:=by omega
    subst this
    rcases h.kind j h4 with ⟨z,_,hz,e'⟩ | ⟨z,hz,e'⟩ | ⟨z,hs,hz,e'⟩ | ⟨z,y,hz,hy,hE,e'⟩
    ·rw [e'] at h5; simp only at h5; omega
    ·rw [e'] at h5; simp only at h5; omega
    ·rw [e'] at h5; simp only at h5; omega
    ·rw [e'] at h5 h6
     simp only at h5 h6
     have : z = x:=by omega
     subst this
     obtain ⟨ks,hp⟩:=h.path n l y (by simp at hn; omega) hy h6
     exact ⟨y :: ks,.more _ y i j l ks h1 e e' hE hy hp⟩
   ·rw [e] at h5
    simp only at h5
    exact absurd h5 (h.sinkless h4)
   ·rw [e] at h2; simp only at h2; omega
def keyT (t : Int) : Option Int:=if 2 ≤ t ∧ t % 2 = 0 then some ((t - 2) / 2) else none
def zcS (A : List Ed) (l : List Nat) : List Int:=(metA A l).filterMap keyT
theorem zmx {k : Int} (h : 0 ≤ k) : keyT (2 + 2 * k) = some k:=by
 unfold keyT
 rw [if_pos ⟨by omega,by omega⟩]
 congr 1
 omega
theorem ztN (k : Int) : keyT (3 + 2 * k) = none:=if_neg (by omega)
theorem zsG : keyT 1 = none:=if_neg (by omega)
theorem zhE.keys {k : Int} {l : List Nat} {ks : List Int} (h : zhE A E sinks c k l ks) : zcS A l = ks:=by
 induction h with
 | last k i h1 h2 h3 =>
   unfold zcS metA
   rw [List.map_cons,List.map_nil,List.filterMap_cons,h2]
   simp only
   rw [zsG]
   rfl
 | more k y i j l ks h1 h2 h3 h4 h5 h6 ih =>
   unfold zcS metA at ih ⊢
   rw [List.map_cons,List.map_cons,List.filterMap_cons,h2]
   simp only
   rw [ztN,List.filterMap_cons,h3]
   simp only
   rw [zmx h5,ih]
theorem zhE.edges {k : Int} {l : List Nat} {ks : List Int} (h : zhE A E sinks c k l ks) : ∀ i (hi : i + 1 < (k :: ks).length),E (k :: ks)[i] (k :: ks)[i + 1]:=by
 induction h with
 | last k i h1 h2 h3=>intro i hi; simp at hi
 | more k y i j l ks h1 h2 h3 h4 h5 h6 ih =>
   intro n hn
   cases n with
   | zero=>exact h4
   | succ n=>exact ih n (by simpa using hn)
theorem zhE.ends {k : Int} {l : List Nat} {ks : List Int} (h : zhE A E sinks c k l ks) : ∃ z,(k :: ks).getLast? = some z ∧ z ∈ sinks ∧ ∃ i ∈ l,i < A.length ∧ arcD A i = ⟨2 + 2 * z,1,1⟩:=by
 induction h with
 | last k i h1 h2 h3=>exact ⟨k,rfl,h3,i,List.mem_singleton.2 rfl,h1,h2⟩
 | more k y i j l ks h1 h2 h3 h4 h5 h6 ih =>
   obtain ⟨z,hz,hs,m,hm,hm2,hm3⟩:=ih
   exact ⟨z,by rw [List.getLast?_cons_cons]; exact hz,hs,m,List.mem_cons_of_mem _ (List.mem_cons_of_mem _ hm),hm2,hm3⟩
theorem zhE.uses (hu : ∀ i j,i < A.length → j < A.length → (arcD A i).f = (arcD A j).f → (arcD A i).t = (arcD A j).t → i = j) {k : Int} {l : List Nat} {ks : List Int} (h : zhE A E sinks c k l ks) {m : Int} {n : Nat} (hn : n < A.length) (hm : arcD A n = ⟨2 + 2 * m,3 + 2 * m,c m - 1⟩) : (k :: ks).dropLast.count m ≤ l.count n:=by
 induction h with
 | last k i h1 h2 h3=>simp
 | more k y i j l ks h1 h2 h3 h4 h5 h6 ih =>
   rw [List.dropLast_cons_of_ne_nil (by simp),List.count_cons]
   have h7 : l.count n ≤ (j :: l).count n:=by rw [List.count_cons]; omega
   rw [List.count_cons]
   by_cases hk : k = m
   ·subst hk
    have : i = n:=hu i n h1 hn (by rw [h2,hm]) (by rw [h2,hm])
    subst this
    simp only [beq_self_eq_true,if_true]
    omega
   ·have hk' : (k == m) = false:=by simpa using hk
    rw [hk']
    simp only [Bool.false_eq_true,if_false]
    omega
theorem zhE.mids {k : Int} {l : List Nat} {ks : List Int} (h : zhE A E sinks c k l ks) {m : Int} (hm : m ∈ (k :: ks).dropLast) : ∃ n,n < A.length ∧ arcD A n = ⟨2 + 2 * m,3 + 2 * m,c m - 1⟩:=by
 induction h with
 | last k i h1 h2 h3=>simp at hm
 | more k y i j l ks h1 h2 h3 h4 h5 h6 ih =>
   rw [List.dropLast_cons_of_ne_nil (by simp)] at hm
   rcases List.mem_cons.1 hm with rfl | hm
   ·exact ⟨i,h1,h2⟩
   ·exact ih hm
theorem zhY.whole (h : zhY A E seeds sinks c) {l : List Nat} (hw : WayA A 0 l 1) : ∃ x i l' ks,l = i :: l' ∧ i < A.length ∧ x ∈ seeds ∧ 0 ≤ x ∧ arcD A i = ⟨0,2 + 2 * x,c x⟩ ∧ zhE A E sinks c x l' ks ∧ zcS A l = x :: ks:=by
 cases l with
 | nil=>have : (0 : Int) = 1:=hw; omega
 | cons i l =>
   obtain ⟨h1,h2,h3⟩:=hw
   rcases h.kind i h1 with ⟨x,hs,hx,e⟩ | ⟨x,hx,e⟩ | ⟨x,hs,hx,e⟩ | ⟨x,y,hx,hy,_,e⟩
   ·rw [e] at h3
    obtain ⟨ks,hp⟩:=h.path l.length l x (Nat.le_refl _) hx h3
    refine ⟨x,i,l,ks,rfl,h1,hs,hx,e,hp,?_⟩
    have hk:=hp.keys
    unfold zcS metA at hk ⊢
    rw [List.map_cons,List.filterMap_cons,e]
    simp only
    rw [zmx hx,hk]
   ·rw [e] at h2; simp only at h2; omega
   ·rw [e] at h2; simp only at h2; omega
   ·rw [e] at h2; simp only at h2; omega
theorem zql {l : List Nat} (h : (metA A l).Nodup) : (zcS A l).Nodup:=by
 unfold zcS
 refine List.Pairwise.filterMap _ (fun a a' hne b hb b' hb'=>?_) h
 unfold keyT at hb hb'
 split at hb <;> split at hb' <;> simp at hb hb' <;> omega
end Go.Proofs.YthmaflecfppoiaaGreat
