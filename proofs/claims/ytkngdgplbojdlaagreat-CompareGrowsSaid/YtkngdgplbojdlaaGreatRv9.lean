/- Texts of this claim,merged. -/
import Derived.Test.YtkngdgplbojdlaaGreatRv8
import Derived.Test.YtkngdgplbojdlaaGreatRv6
import Derived.Test.YtkngdgplbojdlaaGreatProg
import Derived.KernelRfl
import Derived.Test.YtkngdgplbojdlaaGreatRv7
import Derived.Test.YtkngdgplbojdlaaGreatRv5
set_option linter.unusedSimpArgs false
set_option linter.unusedVariables false
set_option linter.unusedSectionVars false
namespace Go.Proofs.YtkngdgplbojdlaaGreat
open Go
theorem ziU : Src Tryz.prog zfK ziS:=mkS Tryz.f7
theorem zpH : Src Tryz.prog zeZ zoJ:=mkS Tryz.f9
theorem zj1 : Src Tryz.prog zeQ zkm:=mkS Tryz.f12
theorem zmK : Src Tryz.prog zdF ziq:=mkS Tryz.f14
theorem zop : Src Tryz.prog zfq zny:=mkS Tryz.f19
theorem znF : Src Tryz.prog zfu zoc:=mkS Tryz.f21
theorem zr0 : Src Tryz.prog zkp zsa:=mkS Tryz.f28
theorem zp6 : Src Tryz.prog ziY zqz:=mkS Tryz.f32
theorem zqn : Src Tryz.prog zdV zqj:=mkS Tryz.f36
theorem ziZ : Src Tryz.prog zbm zfQ:=mkS Tryz.f40
theorem zj2 : Src Tryz.prog zeL zgD:=mkS Tryz.f42
theorem zhQ : Src Tryz.prog zbP zhP:=mkS Tryz.f43
theorem zmn : Src Tryz.prog zbg zhX:=mkS Tryz.f45
theorem zp9 : Src Tryz.prog zd3 zlU:=mkS Tryz.f46
theorem zh4 : Src Tryz.prog zbM zhx:=mkS Tryz.f50
theorem zkP : Src Tryz.prog zdN zk6:=mkS Tryz.f52
theorem zou : Src Tryz.prog zgJ znK:=mkS Tryz.f53
theorem zk1 : Src Tryz.prog zaX zkU:=mkS Tryz.f54
theorem zd2 : Src Tryz.prog zbn zdY:=mkS Tryz.f55
theorem zkV : Src Tryz.prog zdS zkJ:=mkS Tryz.f60
theorem zkH : Src Tryz.prog zdO zkN:=mkS Tryz.f61
theorem zt5 : Src Tryz.prog zmp zuj:=mkS Tryz.f67
theorem znG : Src Tryz.prog zgR zol:=mkS Tryz.f70
theorem zoX : Src Tryz.prog zhG zpL:=mkS Tryz.f71
theorem zll : Src Tryz.prog zel zlj:=mkS Tryz.f72
theorem zn2 : Src Tryz.prog zep znH:=mkS Tryz.f73
theorem zos : Src Tryz.prog zg2 zoF:=mkS Tryz.f74
theorem zka : Src Tryz.prog zeC zgu:=mkS Tryz.f84
theorem zhB : Src Tryz.prog zcz zeY:=mkS Tryz.f85
theorem zhm : Src Tryz.prog zc4 zez:=mkS Tryz.f86
theorem zjt : Src Tryz.prog zer zf6:=mkS Tryz.f87
theorem zmI : Src Tryz.prog zgo zix:=mkS Tryz.f91
theorem zoD : Src Tryz.prog zhc zjh:=mkS Tryz.f92
theorem zjq : Src Tryz.prog zej zf8:=mkS Tryz.f93
theorem zjL : Src Tryz.prog zeg zf1:=mkS Tryz.f95
theorem zpU : Src Tryz.prog zhq zkD:=mkS Tryz.f96
theorem zmN : Src Tryz.prog zgl ziz:=mkS Tryz.f97
theorem zpT : Src Tryz.prog zhy zpq:=mkS Tryz.f98
theorem zmm : Src Tryz.prog zfD zlL:=mkS Tryz.f99
theorem zdj : Src Tryz.prog zbb zdl:=mkS Tryz.f110
theorem zk4 : Src Tryz.prog zdT zkS:=mkS Tryz.f111
theorem zmT : Src Tryz.prog zgj zmM:=mkS Tryz.f121
theorem zoA : Src Tryz.prog zcS zoo:=mkS Tryz.f122
theorem znq : Src Tryz.prog zgt znl:=mkS Tryz.f123
theorem ze5 : Src Tryz.prog zbN ze2:=mkS Tryz.f124
theorem zkX : Src Tryz.prog zaQ zkQ:=mkS Tryz.f125
theorem zgH : Src Tryz.prog za1 zeG:=mkS Tryz.f132
theorem ziP : Src Tryz.prog zbE zfX:=mkS Tryz.f133
theorem zio : Src Tryz.prog zdv zfl:=mkS Tryz.f135
theorem zjd : Src Tryz.prog zdc zga:=mkS Tryz.f136
theorem zoL : Src Tryz.prog zdo zkt:=mkS Tryz.f137
theorem zlG : Src Tryz.prog zfI zlh:=mkS Tryz.f138
theorem znb : Src Tryz.prog zh7 znt:=mkS Tryz.f139
theorem zln : Src Tryz.prog zg8 zlm:=mkS Tryz.f140
theorem zjj : Src Tryz.prog zeq zjp:=mkS Tryz.f141
theorem zoS : Src Tryz.prog zcL zoY:=mkS Tryz.f158
theorem zko : Src Tryz.prog zaI zjT:=mkS Tryz.f159
theorem znC : Src Tryz.prog zgS zoC:=mkS Tryz.f160
theorem zp5 : Src Tryz.prog zg6 zqm:=mkS Tryz.f161
theorem zjc : Src Tryz.prog zda zjv:=mkS Tryz.f162
theorem zgP : Src Tryz.prog zcX zgV:=mkS Tryz.f163
theorem zfR : Src Tryz.prog zcd zfy:=mkS Tryz.f164
theorem zhk : Src Tryz.prog zdU ze7:=mkS Tryz.f168
theorem zin : Src Tryz.prog zdx zfj:=mkS Tryz.f171
theorem zgI : Src Tryz.prog zcT zen:=mkS Tryz.f173
theorem ziu : Src Tryz.prog zdA ziC:=mkS Tryz.f175
theorem zb3 : Src Tryz.prog zaW zb2:=mkS Tryz.f176
theorem zfL : Src Tryz.prog zcU zfG:=mkS Tryz.f177
theorem ziy : Src Tryz.prog zdH ziw:=mkS Tryz.f178
theorem zo4 : Src Tryz.prog zhL zpc:=mkS Tryz.f185
theorem ziW : Src Tryz.prog zdW ziI:=mkS Tryz.f186
theorem zdI : Src Tryz.prog zbJ zcB:=mkS Tryz.f197
theorem zn4 : Src Tryz.prog zg7 zju:=mkS Tryz.f199
theorem zhM : Src Tryz.prog zdg ze1:=mkS Tryz.f200
theorem zco : Src Tryz.prog za4 zcp:=mkS Tryz.f201
theorem zqi : Src Tryz.prog zbZ zlI:=mkS Tryz.f209
theorem zuZ : Src Tryz.prog zhT zpz:=mkS Tryz.f210
theorem zsb : Src Tryz.prog zj0 zna:=mkS Tryz.f211
theorem zcQ : Src Tryz.prog za2 zbu:=mkS Tryz.f212
theorem zkT : Src Tryz.prog zfi zhe:=mkS Tryz.f213
theorem ziX : Src Tryz.prog zdZ zfP:=mkS Tryz.f214
theorem zmF : Src Tryz.prog zgk ziB:=mkS Tryz.f219
theorem ziE : Src Tryz.prog zd1 zfE:=mkS Tryz.f220
theorem zuS : Src Tryz.prog zlo zo8:=mkS Tryz.f221
theorem zgy : Src Tryz.prog zbT zd5:=mkS Tryz.f222
theorem zdX : Src Tryz.prog zaK zch:=mkS Tryz.f223
theorem zkk : Src Tryz.prog zdr zgG:=mkS Tryz.f224
theorem zhl : Src Tryz.prog zc6 zey:=mkS Tryz.f227
theorem zgU : Src Tryz.prog zcP zeu:=mkS Tryz.f228
theorem zc5 : Src Tryz.prog za5 zbC:=mkS Tryz.f229
def modI (n m : Int) : Int:=if m<1 then 0 else n % m
theorem ztz {n m : Int} (hm : 0<m) : n.tmod m % m=n % m:=by
 have h:=Int.mul_tdiv_add_tmod n m
 conv=>rhs; rw [← h]
 rw [Int.add_comm,Int.add_mul_emod_self_left]
theorem zso {n m : Int} (hm : 0<m) : -m<n.tmod m∧n.tmod m<m:=⟨Int.lt_tmod_of_pos n hm,Int.tmod_lt_of_pos n hm⟩
def zat (L : List Int) (a : Nat) (n : Int) : Int × Nat:=if h : a<L.length then (modI L[a] n,a+1) else (0,a)
abbrev dice (L : List Int) (a : Nat) : Ent:=⟨2,[[ints L,.I a]],0⟩
theorem zan.k1 {rs : List (Nat × Option (Bool × Nat))} {st : St} {vs : List AV} {res : AV} {e : Ent} (h1 : zge st rs=some vs) (hw : Wk (conv [(0,0)] [] st.hp 4 (resV vs)) res) (he : (st.hp 0).map (zau [(0,0)] [] st.hp 4)=some e) : zan rs 1 st res [some e] :=
 ⟨vs,h1,[],[],by decide,by simp,by simp,hw,by simpa using he⟩
theorem zv0 (L : List Int) : zak Tryz.prog ziR [ints L] [] (.B (decide (L.length≤400))) []:=by
 refine zqa.acalls (nbz rfl) (nbz rfl) (Nat.le_refl _) ?_
 show awp _ 0 _ _ ⟨6,[(0,ints L)],[],16⟩
 refine zaa ?_
 refine zac (s:=?s1) rfl ?o1 ?q1
 case o1=>simp; rfl
 refine zab ⟨6,[(2,.B (decide (L.length≤400)))],[],16⟩ rfl ?_ ?_
 ·simp
  exact Le.snap [] rfl rfl (by simp <;> exact wkB (by simp; omega))
 refine zag ?_
 exact ⟨.inr rfl,zan.one (by simp)⟩
theorem zy8 (n m : Int) (hm : m≤9223372036854775807) : zak Tryz.prog zmd [.I n,.I m] [] (.I (modI n m)) []:=by
 refine zuD.acalls (nbz rfl) (nbz rfl) (Nat.le_refl _) ?_
 show awp _ 0 _ _ ⟨16,[(0,.I n),(1,.I m)],[],16⟩
 refine zaa ?_
 refine zac (s:=?s1) rfl ?o1 ?q1
 case o1=>simp; rfl
 refine zaa ?_
 refine zaa ?_
 refine zac (s:=?s2) rfl ?o2 ?q2
 case o2=>simp; rfl
 refine zae _ rfl (fun h3=>?_) fun h3=>?_
 ·try simp at h3
  refine zaa ?_
  refine zac (s:=?s4) rfl ?o4 ?q4
  case o4=>simp; rfl
  refine zag ?_
  exact ⟨.inr rfl,zan.one (by simp [modI,h3])⟩
 try simp at h3
 have hm0 : m≠0:=by omega
 have hlt : ¬ m<1:=by omega
 obtain ⟨t1,t2⟩:=zso (n:=n) (m:=m) (by omega)
 have te:=ztz (n:=n) (m:=m) (by omega)
 refine zaf ?_
 refine zaa ?_
 refine zac (s:=?s5) rfl ?o5 ?q5
 case o5=>simp [hm0]; rfl
 refine zaa ?_
 refine zaa ?_
 refine zac (s:=?s6) rfl ?o6 ?q6
 case o6=>simp; rfl
 refine zae _ rfl (fun h7=>?_) fun h7=>?_
 ·try simp at h7
  have hw : IntKind.i64.wrap (n.tmod m+m)=n.tmod m+m:=w64 (by omega) (by omega)
  have hr : n % m=n.tmod m+m:=by rw [← te,← Int.add_emod_right,Int.emod_eq_of_lt (by omega) (by omega)]
  refine zac (s:=?s8) rfl ?o8 ?q8
  case o8=>simp [hw]; rfl
  refine zaa ?_
  refine zac (s:=?s9) rfl ?o9 ?q9
  case o9=>simp; rfl
  refine zag ?_
  exact ⟨.inr rfl,zan.one (by simp [modI,hlt,hr])⟩
 try simp at h7
 have hr : n % m=n.tmod m:=by rw [← te,Int.emod_eq_of_lt (by omega) (by omega)]
 refine zaf ?_
 refine zaa ?_
 refine zac (s:=?s10) rfl ?o10 ?q10
 case o10=>simp; rfl
 refine zag ?_
 exact ⟨.inr rfl,zan.one (by simp [modI,hlt,hr])⟩
theorem zw7 (L : List Int) : zak Tryz.prog zjU [ints L] [] (.pt 0 0 0) [some (dice L 0)]:=by
 refine zsL.acalls (nbz rfl) (nbz rfl) (Nat.zero_le _) ?_
 show awp _ 0 _ _ ⟨6,[(0,ints L)],[],16⟩
 refine zaa ?_
 refine zac (s:=?s1) rfl ?o1 ?q1
 case o1=>simp; rfl
 refine zaa ?_
 refine zac (s:=?s2) rfl ?o2 ?q2
 case o2=>simp; rfl
 refine zag ?_
 exact ⟨.inr rfl,zan.out [40] [] rfl (by simp) (by simp) (by simp) (by simp)⟩
theorem zn7 (L : List Int) (a : Nat) (n : Int) (hl : L.length≤1099511627776) (ha : a≤L.length) (hn : n≤9223372036854775807) : zak Tryz.prog zaB [.pt 0 0 0,.I n] [dice L a] (.I (zat L a n).1) [some (dice L (zat L a n).2)]:=by
 refine zmk.acalls (nbz rfl) (nbz rfl) (Nat.le_refl _) ?_
 show awp _ 1 _ _ ⟨35,[(0,.pt 0 0 0),(1,.I n)],[(0,some (dice L a))],16⟩
 refine zaa ?_
 refine zac (s:=?s1) rfl ?o1 ?q1
 case o1=>simp; rfl
 refine zaa ?_
 refine zaa ?_
 refine zg9 (s:=?s2) (tr:=?t2) rfl ?o2 ?r2 ?q2
 case o2=>simp; constructor <;> rfl
 case r2=>rfl
 refine zae _ rfl (fun h3=>?_) fun h3=>?_
 ·try simp at h3
  refine zaa ?_
  refine zac (s:=?s4) rfl ?o4 ?q4
  case o4=>simp; rfl
  refine zag ?_
  have hr : zat L a n=(0,a):=by unfold zat; rw [dif_neg (by omega)]
  rw [hr]
  exact ⟨.inr rfl,zan.k1 rfl (by simp) (by simp [fcd])⟩
 try simp at h3
 have hw : IntKind.i64.wrap ((a : Int)+1)=(a : Int)+1:=w64 (by omega) (by omega)
 have hw0 : IntKind.i64.wrap (a : Int)=(a : Int):=w64 (by omega) (by omega)
 refine zaf ?_
 refine zaa ?_
 refine zac (s:=?s5) rfl ?o5 ?q5
 case o5=>simp [hw]; rfl
 refine zaa ?_
 refine zg9 (s:=?s6) (tr:=?t6) rfl ?o6 ?r6 ?q6
 case o6=>simp [hw0,h3]; refine zaq (zy8 _ _ hn) rfl ?_; simp; constructor <;> rfl
 case r6=>rfl
 refine zag ?_
 have hr : zat L a n=(modI L[a] n,a+1):=by unfold zat; rw [dif_pos h3]
 rw [hr]
 exact ⟨.inr rfl,zan.k1 rfl (by simp) (by simp [fcd])⟩
theorem zwZ {n m : Int} (hm : 0<m) : 0≤modI n m∧modI n m<m:=by
 unfold modI
 rw [if_neg (by omega)]
 exact ⟨Int.emod_nonneg _ (by omega),Int.emod_lt_of_pos _ hm⟩
theorem zgf {L : List Int} {a : Nat} {n : Int} (hn : 0<n) : 0≤(zat L a n).1∧(zat L a n).1<n:=by
 unfold zat
 split
 ·exact zwZ hn
 ·exact ⟨Int.le_refl _,hn⟩
theorem zcN {L : List Int} {a : Nat} {n : Int} (ha : a≤L.length) : (zat L a n).2≤L.length:=by
 unfold zat
 split
 ·simp only; omega
 ·exact ha
def ofD (L : List Int) (a : Nat) (l : List Int) : Int:=l.getD (zat L a l.length).1.toNat 0
theorem zwl (L : List Int) (a : Nat) (n : Int) (hl : L.length≤1099511627776) (ha : a≤L.length) (hn0 : 0≤n) (hn : n≤9223372036854775807) : zak Tryz.prog zdC [.pt 0 0 0,.I n] [dice L a] (.B (decide ((zat L a n).1=n - 1))) [some (dice L (zat L a n).2)]:=by
 refine zmU.acalls (nbz rfl) (nbz rfl) (Nat.le_refl _) ?_
 show awp _ 1 _ _ ⟨11,[(0,.pt 0 0 0),(1,.I n)],[(0,some (dice L a))],16⟩
 have hw : IntKind.i64.wrap (n - 1)=n - 1:=w64 (by omega) (by omega)
 refine zaa ?_
 refine zac (s:=?s1) rfl ?o1 ?q1
 case o1=>simp; rfl
 refine zaa ?_
 refine zac (s:=?s2) rfl ?o2 ?q2
 case o2 =>
  simp
  refine zcJ (i:=0) rfl (e':=dice L a) (by simp [fcd]) (zn7 L a n hl ha hn) (by simp) (by simp) ?_
  simp [hw,fcd]
  rfl
 refine zag ?_
 exact ⟨.inr rfl,zan.k1 rfl (by simp <;> exact wkB rfl) (by simp [fcd])⟩
theorem zzK (L : List Int) (a : Nat) (l : List Int) (hl : L.length≤1099511627776) (ha : a≤L.length) (h0 : 0<l.length) (hl2 : l.length≤1099511627776) : zak Tryz.prog zef [.pt 0 0 0,ints l] [dice L a] (.I (ofD L a l)) [some (dice L (zat L a l.length).2)]:=by
 refine zn1.acalls (nbz rfl) (nbz rfl) (Nat.le_refl _) ?_
 show awp _ 1 _ _ ⟨12,[(0,.pt 0 0 0),(1,ints l)],[(0,some (dice L a))],16⟩
 obtain ⟨q,hq,hql⟩ : ∃ q : Nat,(zat L a l.length).1=q∧q<l.length:=by
  have:=zgf (L:=L) (a:=a) (n:=l.length) (by omega)
  exact ⟨(zat L a l.length).1.toNat,by omega,by omega⟩
 have ho : ofD L a l=l[q]:=by unfold ofD; rw [hq]; simp [hql]
 refine zaa ?_
 refine zac (s:=?s1) rfl ?o1 ?q1
 case o1=>simp; rfl
 refine zaa ?_
 refine zac (s:=?s2) rfl ?o2 ?q2
 case o2 =>
  simp
  refine zcJ (i:=0) rfl (e':=dice L a) (by simp [fcd]) (zn7 L a l.length hl ha (by omega)) (by simp) (by simp) ?_
  simp [hq,hql,fcd]
  rfl
 refine zag ?_
 rw [ho]
 exact ⟨.inr rfl,zan.k1 rfl (by simp) (by simp [fcd])⟩
section
variable {P : Program} {np id : Nat} {h : Nat→Option Ent} {K : AV→List Nat→List (Nat × Option Ent)→Prop} {s i off len c k l m : Nat}
@[simp] theorem zAf : aK P np id (.slc s true false false) [.rk i off len c,.sc (.int .i64 (k : Int))] h K=(k≤len∧len≤c∧(∃ e,h i=some e∧e.s=s)∧K (.rk i (off+k) (len - k) (c - k)) [i] []):=by
 rw [zl9]
 refine propext ⟨?_,?_⟩
 ·rintro ⟨l,r,m,n,h1,h2,h4,h5,h6,h7,h3,h10,h11,h8,h9⟩
  obtain rfl:=h6 rfl
  simp at h4 h1
  subst h1
  have : k=l:=by omega
  subst this
  obtain rfl:=h11 rfl
  exact ⟨h2,h3,h8,h9⟩
 ·rintro ⟨h1,h2,h3,h4⟩
  exact ⟨k,len,c,len,rfl,h1,by simp,(fun h=>by cases h),fun _=>rfl,(fun h=>by cases h),h2,Nat.le_refl _,fun _=>rfl,h3,h4⟩
@[simp] theorem zAn : aK P np id (.slc s false true false) [.rk i off len c,.sc (.int .i64 (k : Int))] h K=(k≤c∧(∃ e,h i=some e∧e.s=s)∧K (.rk i off k c) [i] []):=by
 rw [zl9]
 refine propext ⟨?_,?_⟩
 ·rintro ⟨l,r,m,n,h1,h2,h4,h5,h6,h7,h3,h10,h11,h8,h9⟩
  obtain rfl:=h5 rfl
  simp at h4 h1
  have : k=r:=by omega
  subst this
  obtain rfl:=h11 rfl
  exact ⟨h3,h8,by simpa using h9⟩
 ·rintro ⟨h1,h3,h4⟩
  exact ⟨0,k,c,len,rfl,Nat.zero_le _,by simp,fun _=>rfl,(fun h=>by cases h),(fun h=>by cases h),h1,Nat.le_refl _,fun _=>rfl,h3,by simpa using h4⟩
@[simp] theorem zzx : aK P np id (.slc s true true false) [.rk i off len c,.sc (.int .i64 (l : Int)),.sc (.int .i64 (k : Int))] h K=(l≤k∧k≤c∧(∃ e,h i=some e∧e.s=s)∧K (.rk i (off+l) (k - l) (c - l)) [i] []):=by
 rw [zl9]
 refine propext ⟨?_,?_⟩
 ·rintro ⟨l',r,m,n,h1,h2,h4,h5,h6,h7,h3,h10,h11,h8,h9⟩
  simp at h4 h1
  have : k=r:=by omega
  subst this
  have : l=l':=by omega
  subst this
  obtain rfl:=h11 rfl
  exact ⟨h2,h3,h8,h9⟩
 ·rintro ⟨h1,h2,h3,h4⟩
  exact ⟨l,k,c,len,rfl,h1,by simp,(fun h=>by cases h),(fun h=>by cases h),(fun h=>by cases h),h2,Nat.le_refl _,fun _=>rfl,h3,h4⟩
@[simp] theorem zAo : aK P np id (.slc s true true true) [.rk i off len c,.sc (.int .i64 (l : Int)),.sc (.int .i64 (k : Int)),.sc (.int .i64 (m : Int))] h K=(l≤k∧k≤m∧m≤c∧(∃ e,h i=some e∧e.s=s)∧K (.rk i (off+l) (k - l) (m - l)) [i] []):=by
 rw [zl9]
 refine propext ⟨?_,?_⟩
 ·rintro ⟨l',r,m',n,h1,h2,h4,h5,h6,h7,h3,h10,h11,h8,h9⟩
  simp at h4 h1
  have : k=r:=by omega
  subst this
  have : l=l':=by omega
  subst this
  have : m=m':=by omega
  subst this
  exact ⟨h2,h3,h10,h8,h9⟩
 ·rintro ⟨h1,h2,h3,h4,h5⟩
  exact ⟨l,k,m,len,rfl,h1,by simp,(fun h=>by cases h),(fun h=>by cases h),(fun _=>rfl),h2,h3,(fun h=>by cases h),h4,h5⟩
@[simp] theorem zAh : aK P np id (.slc s true false false) [.rs i off len,.sc (.int .i64 (k : Int))] h K=(k≤len∧(∃ e,h i=some e∧e.s=s)∧K (.rs i (off+k) (len - k)) [i] []):=by
 rw [zl9]
 refine propext ⟨?_,?_⟩
 ·rintro ⟨l,r,m,n,h1,h2,h4,h5,h6,h7,h3,h10,h8,h9⟩
  obtain rfl:=h6 rfl
  simp at h4 h1
  subst h1
  have : k=l:=by omega
  subst this
  exact ⟨h2,h8,h9⟩
 ·rintro ⟨h1,h3,h4⟩
  exact ⟨k,len,0,len,rfl,h1,by simp,(fun h=>by cases h),fun _=>rfl,(fun h=>by cases h),Nat.le_refl _,rfl,h3,h4⟩
@[simp] theorem zAe : aK P np id (.slc s false true false) [.rs i off len,.sc (.int .i64 (k : Int))] h K=(k≤len∧(∃ e,h i=some e∧e.s=s)∧K (.rs i off k) [i] []):=by
 rw [zl9]
 refine propext ⟨?_,?_⟩
 ·rintro ⟨l,r,m,n,h1,h2,h4,h5,h6,h7,h3,h10,h8,h9⟩
  obtain rfl:=h5 rfl
  simp at h4 h1
  have : k=r:=by omega
  subst this
  exact ⟨by omega,h8,by simpa using h9⟩
 ·rintro ⟨h1,h3,h4⟩
  exact ⟨0,k,0,len,rfl,Nat.zero_le _,by simp,fun _=>rfl,(fun h=>by cases h),(fun h=>by cases h),h1,rfl,h3,by simpa using h4⟩
end
theorem Le.keep {np : Nat} {st st' : St} (hsz : st'.sz=st.sz) (hn : st.n≤st'.n) (ht : ∀ p∈st'.t,st.get p.1=p.2) (hh : ∀ p∈st'.h,∀ e,p.2=some e→st.hp p.1=some e) : Le np st st':=by
 intro T0 M0 w0 T M a w ok hnp
 have hp : ∀ id e,st'.hp id=some e→st.hp id=some e:=by
  intro id e he
  unfold St.hp at he
  cases hl : lkp st'.h id with
  | none=>rw [hl] at he; cases he
  | some v =>
    rw [hl] at he
    exact hh _ (zbV hl) e he
 refine ⟨T,M,⟨ok.sz.trans hsz.symm,ok.df,fun i=>?_,⟨fun id e he=>ok.hs.ent id e (hp id e he),fun id id' e e' g g' b h1 h2=>ok.hs.inj id id' e e' g g' b (hp _ _ h1) (hp _ _ h2)⟩,fun id g hg=>Nat.lt_of_lt_of_le (ok.dom id g hg) hn,ok.after⟩,Nat.le_trans hnp hn⟩
 unfold St.get at *
 cases hl : lkp st'.t i with
 | none=>exact .dead _ _
 | some v =>
   have:=ht _ (zbV hl)
   simp only at this
   show Rep T w M v _
   rw [← this]
   exact ok.tm i
theorem zan.m1 {rs : List (Nat × Option (Bool × Nat))} {st : St} {vs : List AV} {res : AV} {e : Ent} (i : Nat) (hi : 1≤i) (h1 : zge st rs=some vs) (hw : Wk (conv [(0,0),(i,1)] [] st.hp 4 (resV vs)) res) (h0 : st.hp 0=none) (he : (st.hp i).map (zau [(0,0),(i,1)] [] st.hp 4)=some e) : zan rs 1 st res [none,some e] :=
 ⟨vs,h1,[i],[],by simp [List.range,List.range.loop]; omega,by simpa using hi,by simp,by simpa [List.range,List.range.loop] using hw,by simpa [List.range,List.range.loop,h0] using he⟩
theorem GrOk.lt {g : Gr} (h : GrOk g) : ∀ (j i : Nat) (hi : i<g.edges.length) (hj : j<g.edges.length),i<j→Bef g.edges[i] g.edges[j]
 | 0,_,_,_,h0=>by omega
 | j+1,i,hi,hj,hij=>by
   have h1 : Bef g.edges[j] g.edges[j+1]:=zj3.1 ((h.2 (j+1) hj).2.2.2 (by omega))
   rcases Nat.lt_or_ge i j with h2 | h2
   ·have h3:=GrOk.lt h j i hi (by omega) h2
    unfold Bef at *
    omega
   ·obtain rfl : i=j:=by omega
    exact h1
theorem GrOk.mono {g : Gr} (h : GrOk g) (e : Ed) : ∀ (i j : Nat) (hi : i<g.edges.length) (hj : j<g.edges.length),i≤j→Bef g.edges[j] e→Bef g.edges[i] e:=by
 intro i j hi hj hij hb
 rcases Nat.lt_or_ge i j with h2 | h2
 ·have h3:=h.lt j i hi hj h2
  unfold Bef at *
  omega
 ·obtain rfl : i=j:=by omega
  exact hb
section
variable {P : Program} {np id : Nat} {h : Nat→Option Ent} {K : AV→List Nat→List (Nat × Option Ent)→Prop} {f : FuncId} {first capt args args' : List AV} {res : AV}
theorem zoy {i j : Nat} {e e' ej : Ent} {hs' : List (Option Ent)} (hij : j≠i) (hnp : np≤j) (hi : h i=some e) (hj : h j=some ej) (hee : zau [(i,0)] [j] h 4 e=e') (hc : zak P f args' [e'] res hs') (h8 : hs'.length≤9) (he : (first++args++capt).map (conv [(i,0)] [j] h 4)=args')
  (hk : K (conv (swp [i] id) [] (fun _=>none) 4 res) [i,j] ((hs'.zipIdx.map fun (e,k)=>((i::(List.range 8).map (id + ·)).getD k 0,e.map (zau (swp [i] id) [] (fun _=>none) 4)))++[(j,some { ej with ro:=ej.rows.length })])) : aK P np id .call (.fn (.func f) first capt::args) h K :=
 ⟨[i],[j],true,args',[e'],res,hs',by simp,by simpa using hij,by simpa using hnp,by rw [show [i].zipIdx=[(i,0)] from rfl,he]; exact zdq _,by rw [show [i].zipIdx=[(i,0)] from rfl]; simpa [hi] using hee,hc,by simpa using h8,.inl rfl,by simpa [swp,hj] using hk⟩
end
theorem zva {l : List Ed} {e : Ed} {i : Nat} (h : i<idxE l e) (hi : i<l.length) : Bef l[i] e:=by
 have:=List.not_of_lt_findIdx h
 simpa using this
theorem zvY {l : List Ed} {e : Ed} (h : idxE l e<l.length) : ¬ Bef l[idxE l e] e:=by
 have h1 : l.findIdx (fun x=>!decide (Bef x e))<l.length:=h
 have:=List.findIdx_getElem (w:=h1)
 intro hb
 have h2 : decide (Bef l[l.findIdx (fun x=>!decide (Bef x e))] e)=true:=decide_eq_true hb
 simp only [h2] at this
 cases this
theorem zu2 {g : Gr} {e : Ed} (hg : GrOk g) (hf : Fits g e) (h1 : 1≤e.v) (h3 : e.v≤3) (ha : ¬ AtE g.edges (idxE g.edges ⟨e.f,e.t,0⟩) e.f e.t) (hl : g.edges.length<500) : GrOk (zoZ g e):=by
 have hle:=ztr g.edges ⟨e.f,e.t,0⟩
 have hb : ∀ i (hi : i<g.edges.length),i<idxE g.edges ⟨e.f,e.t,0⟩→Bef g.edges[i] e:=fun i hi h=>by
  have:=zva h hi
  exact this
 have hn : ∀ (h : idxE g.edges ⟨e.f,e.t,0⟩<g.edges.length),Bef e g.edges[idxE g.edges ⟨e.f,e.t,0⟩]:=fun h=>by
  have h2:=zvY h
  have h4 : ¬ (g.edges[idxE g.edges ⟨e.f,e.t,0⟩].f=e.f∧g.edges[idxE g.edges ⟨e.f,e.t,0⟩].t=e.t):=fun q=>ha ⟨h,q⟩
  simp only [Bef] at h2 ⊢
  omega
 unfold zoZ
 generalize idxE g.edges ⟨e.f,e.t,0⟩=k at *
 have hlen : (g.edges.take k++e::g.edges.drop k).length=g.edges.length+1:=by simp; omega
 have hget : ∀ i (hi : i<(g.edges.take k++e::g.edges.drop k).length),(g.edges.take k++e::g.edges.drop k)[i]=if h : i<k then g.edges[i]'(by omega) else if h2 : i=k then e else g.edges[i - 1]'(by omega):=by
  intro i hi
  have htl : (g.edges.take k).length=k:=by simp; omega
  by_cases h : i<k
  ·rw [dif_pos h,List.getElem_append_left (by omega),List.getElem_take]
  ·rw [dif_neg h,List.getElem_append_right (by omega)]
   by_cases h2 : i=k
   ·subst h2
    simp [htl]
   ·rw [dif_neg h2]
    rw [List.getElem_cons]
    rw [dif_neg (by omega),List.getElem_drop]
    congr 1
    omega
 refine ⟨⟨hg.1.1,hg.1.2.1,by simp only [hlen]; omega,hg.1.2.2.2⟩,fun i hi=>?_⟩
 simp only at hi
 have hfit : ∀ x : Ed,Fits ⟨g.size,g.edges.take k++e::g.edges.drop k,g.gone⟩ x↔Fits g x:=fun x=>Iff.rfl
 simp only [hfit,zj3,hget]
 have hE:=fun j (hj : j<g.edges.length)=>hg.2 j hj
 by_cases h : i<k
 ·simp only [dif_pos h]
  refine ⟨(hE i (by omega)).1,(hE i (by omega)).2.1,(hE i (by omega)).2.2.1,fun h0=>?_⟩
  rw [dif_pos (by omega)]
  exact zj3.1 ((hE i (by omega)).2.2.2 h0)
 ·simp only [dif_neg h]
  by_cases h2 : i=k
  ·subst h2
   simp only [dif_pos]
   refine ⟨hf,h1,h3,fun h0=>?_⟩
   rw [dif_pos (by omega)]
   exact hb _ _ (by omega)
  ·simp only [dif_neg h2]
   refine ⟨(hE (i - 1) (by omega)).1,(hE (i - 1) (by omega)).2.1,(hE (i - 1) (by omega)).2.2.1,fun h0=>?_⟩
   rw [dif_neg (by omega)]
   by_cases h4 : i - 1=k
   ·rw [dif_pos h4]
    subst h4
    exact hn _
   ·rw [dif_neg h4]
    exact hg.lt _ _ _ _ (by omega)
theorem zvw {g : Gr} {e : Ed} (h : (zfY g e).2=0) : GrOk g∧Fits g e∧(1≤e.v∧e.v≤3)∧¬ AtE g.edges (idxE g.edges ⟨e.f,e.t,0⟩) e.f e.t∧g.edges.length<500∧(zfY g e).1=zoZ g e∧GrOk (zoZ g e):=by
 have key : GrOk g∧Fits g e∧(1≤e.v∧e.v≤3)∧¬ AtE g.edges (idxE g.edges ⟨e.f,e.t,0⟩) e.f e.t∧g.edges.length≠500∧(zfY g e).1=zoZ g e:=by
  unfold zfY at *
  split at h
  ·simp at h
  split at h
  ·simp at h
  split at h
  ·simp at h
  split at h
  ·simp at h
  split at h
  ·simp at h
  simp_all
 obtain ⟨h1,h2,h3,h4,h5,h6⟩:=key
 have h7 : g.edges.length<500:=by have:=h1.1.2.2.1; omega
 exact ⟨h1,h2,h3,h4,h7,h6,zu2 h1 h2 h3.1 h3.2 h4 h7⟩
noncomputable def zpC (L : List Int) (p : Gr × Nat) : Gr × Nat :=
 (if (zfY p.1 ⟨(zat L p.2 p.1.size).1,(zat L (zat L p.2 p.1.size).2 p.1.size).1,1+(zat L (zat L (zat L p.2 p.1.size).2 p.1.size).2 3).1⟩).2=0
  then (zfY p.1 ⟨(zat L p.2 p.1.size).1,(zat L (zat L p.2 p.1.size).2 p.1.size).1,1+(zat L (zat L (zat L p.2 p.1.size).2 p.1.size).2 3).1⟩).1 else p.1,
  (zat L (zat L (zat L p.2 p.1.size).2 p.1.size).2 3).2)
noncomputable def zvG (L : List Int) : Nat→Gr × Nat→Gr × Nat
 | 0,p=>p
 | n+1,p=>zvG L n (zpC L p)
def zgZ (L : List Int) (a : Nat) : Int:=if L.length=0 then 4 else 2+(zat L a 8).1
def zd8 (L : List Int) (a : Nat) : Gr × Nat :=
 if (zat L (zat L a 8).2 8).1=7 then (⟨zgZ L a,[],[(zat L (zat L (zat L a 8).2 8).2 (zgZ L a)).1]⟩,(zat L (zat L (zat L a 8).2 8).2 (zgZ L a)).2)
 else (⟨zgZ L a,[],[]⟩,(zat L (zat L a 8).2 8).2)
noncomputable def zm7 (L : List Int) (a : Nat) : Gr × Nat:=zvG L (zat L (zd8 L a).2 23).1.toNat ((zd8 L a).1,(zat L (zd8 L a).2 23).2)
structure zp7 (L : List Int) (p : Gr × Nat) : Prop where
 ok : GrOk p.1
 lo : 2≤p.1.size
 hi : p.1.size≤9
 at_ : p.2≤L.length
 few : p.1.gone.length≤1
theorem zlK (L : List Int) (a : Nat) : 2≤zgZ L a∧zgZ L a≤9:=by
 have:=zgf (L:=L) (a:=a) (n:=8) (by omega)
 unfold zgZ
 split <;> omega
theorem zle (L : List Int) (a : Nat) (ha : a≤L.length) : zp7 L (zd8 L a):=by
 have hs:=zlK L a
 have h1:=zcN (L:=L) (a:=a) (n:=8) ha
 have h2:=zcN (L:=L) (a:=(zat L a 8).2) (n:=8) h1
 have hq:=zgf (L:=L) (a:=(zat L (zat L a 8).2 8).2) (n:=zgZ L a) (by omega)
 unfold zd8
 split
 ·refine ⟨⟨⟨by simp only; omega,by simp only; omega,by simp,fun i hi=>?_⟩,fun i hi=>absurd hi (by simp)⟩,hs.1,hs.2,zcN h2,by simp⟩
  obtain rfl : i=0:=by simpa using hi
  refine ⟨hq.1,?_,fun h=>by omega⟩
  have:=hq.2
  simp only [List.getElem_cons_zero]
  omega
 ·exact ⟨⟨⟨by simp only; omega,by simp only; omega,by simp,fun i hi=>absurd hi (by simp)⟩,fun i hi=>absurd hi (by simp)⟩,hs.1,hs.2,h2,by simp⟩
theorem znd {L : List Int} {p : Gr × Nat} (h : zp7 L p) : zp7 L (zpC L p):=by
 have h3:=zcN (n:=3) (zcN (n:=p.1.size) (zcN (n:=p.1.size) h.at_))
 unfold zpC
 by_cases hw : (zfY p.1 ⟨(zat L p.2 p.1.size).1,(zat L (zat L p.2 p.1.size).2 p.1.size).1,1+(zat L (zat L (zat L p.2 p.1.size).2 p.1.size).2 3).1⟩).2=0
 ·rw [if_pos hw]
  obtain ⟨_,_,_,_,_,q6,q7⟩:=zvw hw
  rw [q6]
  exact ⟨q7,h.lo,h.hi,h3,h.few⟩
 ·rw [if_neg hw]
  exact ⟨h.ok,h.lo,h.hi,h3,h.few⟩
theorem zm9 {L : List Int} : ∀ (n : Nat) {p : Gr × Nat},zp7 L p→zp7 L (zvG L n p)
 | 0,_,h=>h
 | n+1,_,h=>zm9 n (znd h)
theorem zqx (L : List Int) (a : Nat) (ha : a≤L.length) : zp7 L (zm7 L a):=by
 have h:=zle L a ha
 exact zm9 _ ⟨h.ok,h.lo,h.hi,zcN h.at_,h.few⟩
theorem zaM.eq {nl : List (Nat × Nat)} {e e' : Ent} (h : e=e') (hr : e'.ro≤e'.rows.length) : zaM nl e e':=by
 subst h
 exact zaM.rfl' hr
theorem zaM.row {nl : List (Nat × Nat)} {s ro : Nat} {e : Ent} {r r' : List AV} (h : e=⟨s,[r],ro⟩) (hr : ro≤1) (hu : UpL nl r r') (hs : s≠0:=by decide) : zaM nl e ⟨s,[r'],ro⟩:=by
 subst h
 refine ⟨rfl,Nat.le_refl _,hr,.inr ⟨hs,rfl,fun i=>?_⟩⟩
 match i with
 | 0=>exact hu
 | _+1=>exact trivial
theorem zus {nl : List (Nat × Nat)} : ∀ {xs ys : List AV},WkL xs ys→UpL nl xs ys
 | [],[],_=>trivial
 | _::_,_::_,h=>⟨.inl h.1,zus h.2⟩
 | [],_::_,h=>False.elim h
 | _::_,[],h=>False.elim h
theorem Le.ents {np : Nat} {st st' : St} (ρ : List (Nat × Nat)) (sn : List Nat) (hsz : st'.sz=st.sz)
  (h0 : (ρ.map (·.1)).Nodup) (h1 : (ρ.map (·.2)).Nodup) (h2 : ∀ p∈ρ,p.2<st'.n∧(p.2<np→p.1=p.2)) (h4 : ∀ i∈sn,np≤i∧i∉ρ.map (·.1)) (h5 : np≤st'.n)
  (ht : ∀ p∈st'.t,Wk (conv ρ sn st.hp 4 (st.get p.1)) p.2)
  (hh : ∀ p∈st'.h,∃ q e e',p.2=some e'∧(q,p.1)∈ρ∧st.hp q=some e∧zaM [] (zau ρ sn st.hp 4 e) e') : Le np st st' :=
 Le.lst ρ sn [] hsz h0 h1 h2 (by simp) h4 h5 (by simp) (fun p hp=>.inl (ht p hp)) fun p hp e' he'=>by
  obtain ⟨q,e,e2,h1,h2,h3,h4⟩:=hh p hp
  rw [he'] at h1
  cases h1
  exact .inl ⟨(q,p.1),h2,rfl,e,h3,h4⟩
theorem zif (L : List Int) (a : Nat) (n : Int) (hl : L.length≤400) (ha : a≤L.length) (hn : n≤9223372036854775807) : zak Tryz.prog zaB [.pt 0 0 0,.I n] [dice L a] (.I (zat L a n).1) [some (dice L (zat L a n).2)]:=zn7 L a n (by omega) ha hn
abbrev zG : Ent:=⟨3,[[.I 0,.nilS,.nilS]],0⟩
abbrev rowG (g : Gr) : Ent:=⟨3,[gC g],0⟩
set_option maxRecDepth 100000 in
theorem zvI (L : List Int) (a : Nat) (hl : L.length≤400) (ha : a≤L.length) : zak Tryz.prog zdM [.pt 0 0 0] [dice L a] (eG (zm7 L a).1) [some (dice L (zm7 L a).2)]:=by
 refine zkG.acalls (nbz rfl) (nbz rfl) (Nat.le_refl _) ?_
 show awp _ 1 _ _ ⟨53,[(0,.pt 0 0 0)],[(0,some (dice L a))],16⟩
 have a1:=zcN (L:=L) (a:=a) (n:=8) ha
 have r1:=zgf (L:=L) (a:=a) (n:=8) (by omega)
 have hs:=zlK L a
 have a2:=zcN (L:=L) (a:=(zat L a 8).2) (n:=8) a1
 have hw1 : IntKind.i64.wrap (2+(zat L a 8).1)=2+(zat L a 8).1:=w64 (by omega) (by omega)
 have hm:=zle L a ha
 refine zab ⟨53,[(0,.pt 0 0 0),(2,.pt 16 0 0)],[(0,some (dice L a)),(16,some zG)],24⟩ rfl ?_ ?_
 ·simp
  exact Le.keep rfl (Nat.le_refl _) (by simp) (by simp)
 refine zab ⟨53,[(0,.pt 0 0 0),(2,.pt 16 0 0),(3,.pt 56 0 0)],[(0,some (dice L (zat L a 8).2)),(16,some zG),(56,some ⟨3,[[.I (2+(zat L a 8).1),.nilS,.nilS]],0⟩)],72⟩ rfl ?_ ?_
 ·simp
  refine zcJ (i:=0) rfl (e':=dice L a) (by simp [fcd]) (zif L a 8 hl ha (by omega)) (by simp) (by simp) ?_
  simp [hw1,fcd]
  exact Le.keep rfl (Nat.le_refl _) (by simp) (by simp)
 refine zbH (ι:=Unit) (fun _=>⟨53,[(0,.pt 0 0 0),(2,.pt 16 0 0),(3,.pt 56 0 0)],[(0,some (dice L (zat L a 8).2)),(16,some zG),(56,some ⟨3,[[.I (zgZ L a),.nilS,.nilS]],0⟩)],136⟩) (fun _=>True) ?_ fun _ _=>?_
 ·refine zab ⟨53,[(0,.pt 0 0 0),(2,.pt 16 0 0),(3,.pt 56 0 0),(16,.B (decide (L.length=0)))],[(0,some (dice L (zat L a 8).2)),(16,some zG),(56,some ⟨3,[[.I (2+(zat L a 8).1),.nilS,.nilS]],0⟩)],120⟩ rfl ?_ ?_
  ·simp
   exact Le.keep rfl (Nat.le_refl _) (by simp <;> rw [Bool.eq_iff_iff] <;> simp) (by simp)
  refine zae _ rfl (fun h=>?_) fun h=>zaf ?_
  ·simp only [decide_eq_true_eq] at h
   have hz : zgZ L a=4:=by unfold zgZ; rw [if_pos h]
   refine zaL rfl ?_
   simp
   exact Le.keep rfl (Nat.le_refl _) (by simp) (by simp [hz])
  ·simp only [decide_eq_false_iff_not] at h
   have hz : zgZ L a=2+(zat L a 8).1:=by unfold zgZ; rw [if_neg h]
   exact ⟨(),trivial,Le.keep rfl (nbz rfl) (by simp) (by simp [hz])⟩
 refine zbH (ι:=Unit) (fun _=>⟨53,[(0,.pt 0 0 0),(2,.pt 16 0 0),(3,.pt 56 0 0)],[(0,some (dice L (zd8 L a).2)),(16,some zG),(56,some (rowG (zd8 L a).1))],208⟩) (fun _=>True) ?_ fun _ _=>?_
 ·refine zab ⟨53,[(0,.pt 0 0 0),(2,.pt 16 0 0),(3,.pt 56 0 0),(19,.B (decide ((zat L (zat L a 8).2 8).1=7)))],[(0,some (dice L (zat L (zat L a 8).2 8).2)),(16,some zG),(56,some ⟨3,[[.I (zgZ L a),.nilS,.nilS]],0⟩)],152⟩ rfl ?_ ?_
  ·simp
   refine zcJ (i:=0) rfl (e':=dice L (zat L a 8).2) (by simp [fcd]) (zwl L _ 8 (by omega) a1 (by omega) (by omega)) (by simp) (by simp) ?_
   simp [fcd]
   exact Le.keep rfl (Nat.le_refl _) (by simp) (by simp)
  refine zae _ rfl (fun h=>?_) fun h=>zaf ?_
  ·simp only [decide_eq_true_eq] at h
   have hz : zd8 L a=(⟨zgZ L a,[],[(zat L (zat L (zat L a 8).2 8).2 (zgZ L a)).1]⟩,(zat L (zat L (zat L a 8).2 8).2 (zgZ L a)).2):=by unfold zd8; rw [if_pos h]
   rw [hz]
   refine zaL rfl ?_
   simp
   refine zcJ (i:=0) rfl (e':=dice L (zat L (zat L a 8).2 8).2) (by simp [fcd]) (zif L (zat L (zat L a 8).2 8).2 (zgZ L a) hl a2 (by omega)) (by simp) (by simp) ?_
   simp [fcd]
   refine Le.ents [(0,0),(16,16),(56,56)] [184] rfl (by simp) (by simp) (by simp) (by simp) (by simp) (by simp) fun p hp=>?_
   simp at hp
   rcases hp with rfl | rfl | rfl
   ·exact ⟨0,_,_,rfl,by simp,rfl,zaM.eq (by simp) (by simp)⟩
   ·exact ⟨16,_,_,rfl,by simp,rfl,zaM.eq (by simp) (by simp)⟩
   ·exact ⟨56,_,_,rfl,by simp,rfl,zaM.row (by simp; rfl) (by simp) (zus (by simp; exact ⟨.nil _ _,.refl _⟩))⟩
  ·simp only [decide_eq_false_iff_not] at h
   have hz : zd8 L a=(⟨zgZ L a,[],[]⟩,(zat L (zat L a 8).2 8).2):=by unfold zd8; rw [if_neg h]
   rw [hz]
   refine ⟨(),trivial,Le.ents [(0,0),(16,16),(56,56)] [] rfl (by simp) (by simp) (by simp) (by simp) (by simp) (by simp) fun p hp=>?_⟩
   simp at hp
   rcases hp with rfl | rfl | rfl
   ·exact ⟨0,_,_,rfl,by simp,rfl,zaM.eq (by simp) (by simp)⟩
   ·exact ⟨16,_,_,rfl,by simp,rfl,zaM.eq (by simp) (by simp)⟩
   ·exact ⟨56,_,_,rfl,by simp,rfl,zaM.row (by simp; rfl) (by simp) (zus (by simp; exact ⟨.nil _ _,.nil _ _⟩))⟩
 have r4:=zgf (L:=L) (a:=(zd8 L a).2) (n:=23) (by omega)
 obtain ⟨n0,hn0⟩ : ∃ n0 : Nat,(zat L (zd8 L a).2 23).1=n0:=⟨(zat L (zd8 L a).2 23).1.toNat,by omega⟩
 refine zaa ?_
 refine zab ⟨53,[(0,.pt 0 0 0),(2,.pt 16 0 0),(3,.pt 56 0 0),(4,.I n0)],[(0,some (dice L (zat L (zd8 L a).2 23).2)),(16,some zG),(56,some (rowG (zd8 L a).1))],232⟩ rfl ?_ ?_
 ·simp
  refine zcJ (i:=0) rfl (e':=dice L (zd8 L a).2) (by simp [fcd]) (zif L (zd8 L a).2 23 hl hm.at_ (by omega)) (by simp) (by simp) ?_
  simp [fcd,hn0]
  exact Le.keep rfl (Nat.le_refl _) (by simp) (by simp)
 refine zah ?_
 refine zav (ι:=Nat × Gr × Nat) (fun q=>⟨53,[(0,.pt 0 0 0),(2,.pt 16 0 0),(3,.pt 56 0 0),(4,.I q.1)],[(0,some (dice L q.2.2)),(16,some zG),(56,some (rowG q.2.1))],232⟩)
  (fun q=>q.1≤23∧zp7 L q.2∧zvG L q.1 q.2=zm7 L a) (fun q=>q.1) (n0,(zd8 L a).1,(zat L (zd8 L a).2 23).2) ?_ (Le.refl _ _) ?_
 ·refine ⟨by simp only; omega,⟨hm.ok,hm.lo,hm.hi,zcN hm.at_,hm.few⟩,?_⟩
  unfold zm7
  rw [hn0]
  rfl
 rintro ⟨k,p⟩ ⟨hk,hp,hit⟩
 simp only at hk hp hit ⊢
 refine zaa ?_
 refine zab ⟨53,[(0,.pt 0 0 0),(2,.pt 16 0 0),(3,.pt 56 0 0),(4,.I k),(29,.B (decide (0<k)))],[(0,some (dice L p.2)),(16,some zG),(56,some (rowG p.1))],248⟩ rfl ?_ ?_
 ·simp
  exact Le.keep rfl (Nat.le_refl _) (by simp) (by simp)
 refine zae _ rfl (fun h=>zaf ?_) fun h=>zas (Go.Proofs.YtkngdgplbojdlaaGreat.hit ?_)
 ·simp only [decide_eq_true_eq] at h
  refine zbH (ι:=Unit) (fun _=>⟨53,[(0,.pt 0 0 0),(2,.pt 16 0 0),(3,.pt 56 0 0),(4,.I k)],[(0,some (dice L (zpC L p).2)),(16,some zG),(56,some (rowG (zpC L p).1))],440⟩) (fun _=>True) ?_ fun _ _=>?_
  ·refine zah ?_
   have q1:=zcN (n:=p.1.size) hp.at_
   have q2:=zcN (n:=p.1.size) q1
   have hlo:=hp.lo
   have hhi:=hp.hi
   have l3:=zgf (L:=L) (a:=(zat L (zat L p.2 p.1.size).2 p.1.size).2) (n:=3) (by omega)
   have hwv : IntKind.i64.wrap (1+(zat L (zat L (zat L p.2 p.1.size).2 p.1.size).2 3).1)=1+(zat L (zat L (zat L p.2 p.1.size).2 p.1.size).2 3).1:=w64 (by omega) (by omega)
   obtain ⟨w,hw⟩ : ∃ w,w=zfY p.1 ⟨(zat L p.2 p.1.size).1,(zat L (zat L p.2 p.1.size).2 p.1.size).1,1+(zat L (zat L (zat L p.2 p.1.size).2 p.1.size).2 3).1⟩:=⟨_,rfl⟩
   have hst : zpC L p=(if w.2=0 then w.1 else p.1,(zat L (zat L (zat L p.2 p.1.size).2 p.1.size).2 3).2):=by rw [hw]; rfl
   have h500:=hp.ok.1.2.2.1
   have hfew:=hp.few
   have hwith:=znw p.1 ⟨(zat L p.2 p.1.size).1,(zat L (zat L p.2 p.1.size).2 p.1.size).1,1+(zat L (zat L (zat L p.2 p.1.size).2 p.1.size).2 3).1⟩ (by omega) (by omega)
   rw [← hw] at hwith
   rw [hst]
   refine zba ⟨53,[(0,.pt 0 0 0),(2,.pt 16 0 0),(3,.pt 56 0 0),(4,.I k),(5,.pv (gC w.1)),(6,.I w.2)],[(0,some (dice L (zat L (zat L (zat L p.2 p.1.size).2 p.1.size).2 3).2)),(16,some zG),(56,some (rowG p.1))],408⟩ rfl ?_ ?_
   ·simp
    refine zcJ (i:=0) rfl (e':=dice L p.2) (by simp [fcd]) (zif L p.2 p.1.size hl hp.at_ (by omega)) (by simp) (by simp) ?_
    simp [fcd]
    refine zcJ (i:=0) rfl (e':=dice L (zat L p.2 p.1.size).2) (by simp [fcd]) (zif L (zat L p.2 p.1.size).2 p.1.size hl q1 (by omega)) (by simp) (by simp) ?_
    simp [fcd]
    refine zcJ (i:=0) rfl (e':=dice L (zat L (zat L p.2 p.1.size).2 p.1.size).2) (by simp [fcd]) (zif L (zat L (zat L p.2 p.1.size).2 p.1.size).2 3 hl q2 (by omega)) (by simp) (by simp) ?_
    simp [fcd,hwv]
    refine zaq hwith rfl ?_
    simp
    refine ⟨rfl,Le.ents [(0,0),(16,16),(56,56)] [384] rfl (by simp) (by simp) (by simp) (by simp) (by simp) (by simp) fun p hp=>?_⟩
    simp at hp
    rcases hp with rfl | rfl | rfl
    ·exact ⟨0,_,_,rfl,by simp,rfl,zaM.eq (by simp [fcd]) (by simp)⟩
    ·exact ⟨16,_,_,rfl,by simp,rfl,zaM.eq (by simp) (by simp)⟩
    ·exact ⟨56,_,_,rfl,by simp,rfl,zaM.eq (by simp) (by simp)⟩
   refine zab ⟨53,[(0,.pt 0 0 0),(2,.pt 16 0 0),(3,.pt 56 0 0),(4,.I k),(5,.pv (gC w.1)),(50,.B (decide (w.2=0)))],[(0,some (dice L (zat L (zat L (zat L p.2 p.1.size).2 p.1.size).2 3).2)),(16,some zG),(56,some (rowG p.1))],424⟩ rfl ?_ ?_
   ·simp
    exact Le.keep rfl (Nat.le_refl _) (by simp <;> rw [Bool.eq_iff_iff] <;> simp) (by simp)
   refine zae _ rfl (fun h=>?_) fun h=>zaf ?_
   ·simp only [decide_eq_true_eq] at h
    refine zaL rfl ?_
    simp [h]
    exact Le.keep rfl (nbz rfl) (by simp) (by simp)
   ·simp only [decide_eq_false_iff_not] at h
    rw [if_neg h]
    exact ⟨(),trivial,Le.keep rfl (nbz rfl) (by simp) (by simp)⟩
  have hwk : IntKind.i64.wrap ((k : Int) - 1)=((k - 1 : Nat) : Int):=by rw [w64 (by omega) (by omega)]; omega
  refine zaL rfl ?_
  simp [hwk]
  refine ⟨k - 1,(zpC L p).1,(zpC L p).2,⟨by omega,znd hp,?_⟩,by omega,Le.ents [(0,0),(16,16),(56,56)] [] rfl (by simp) (by simp) (by simp) (by simp) (by simp) (by simp) fun p hp=>?_⟩
  ·rw [← hit]
   obtain ⟨k,rfl⟩ : ∃ j,k=j+1:=⟨k - 1,by omega⟩
   rfl
  ·simp at hp
   rcases hp with rfl | rfl | rfl
   ·exact ⟨0,_,_,rfl,by simp,rfl,zaM.eq (by simp [fcd]) (by simp)⟩
   ·exact ⟨16,_,_,rfl,by simp,rfl,zaM.eq (by simp) (by simp)⟩
   ·exact ⟨56,_,_,rfl,by simp,rfl,zaM.eq (by simp) (by simp)⟩
 simp only [decide_eq_false_iff_not] at h
 obtain rfl : k=0:=by omega
 have hpe : p=zm7 L a:=hit
 rw [← hpe]
 refine zab ⟨53,[(2,.pt 16 0 0)],[(0,some (dice L p.2)),(16,some (rowG p.1))],264⟩ rfl ?_ ?_
 ·simp
  exact Le.keep rfl (Nat.le_refl _) (by simp) (by simp)
 refine zag ?_
 exact ⟨.inr rfl,zan.k1 (vs:=[eG p.1]) rfl (by simp) (by simp [fcd])⟩
def zk2 (capt : List AV) : Prop:=∀ ρ sn h n,capt.map (conv ρ sn h (n+1))=capt
def idxQ {α : Type} (l : List α) (q : α→Bool) : Int:=if l.findIdx q<l.length then (l.findIdx q : Int) else -1
theorem zqG {α : Type} {l : List α} {q : α→Bool} {k : Nat} (hk : k<l.length) (h1 : ∀ i,i<k → ∀ h : i<l.length,q l[i]=false) (h2 : q l[k]=true) : idxQ l q=k:=by
 have : l.findIdx q=k:=by
  rw [List.findIdx_eq hk]
  exact ⟨h2,fun j hj=>by simpa using h1 j hj (by omega)⟩
 unfold idxQ
 rw [this,if_pos hk]
theorem zqQ {α : Type} {l : List α} {q : α→Bool} (h1 : ∀ i,i<l.length → ∀ h : i<l.length,q l[i]=false) : idxQ l q = -1:=by
 have : l.findIdx q=l.length:=by
  rw [List.findIdx_eq_length]
  intro x hx
  obtain ⟨i,hi,rfl⟩:=List.mem_iff_getElem.1 hx
  exact h1 i hi hi
 unfold idxQ
 rw [this,if_neg (by omega)]
theorem zjn (f : FuncId) (capt : List AV) (q : Ed→Bool) (l : List Ed) (hl : l.length≤1099511627776) (hs : zk2 capt) (hc : ∀ e∈l,zak Tryz.prog f (eE e::capt) [] (.B (q e)) []) : zak Tryz.prog zay [eEs l,.fn (.func f) [] capt] [] (.I (idxQ l q)) []:=by
 have hs2 : ∀ ρ sn h,capt.map (conv ρ sn h 2)=capt:=fun _ _ _=>hs _ _ _ 1
 have hs3 : ∀ ρ sn h,capt.map (conv ρ sn h 3)=capt:=fun _ _ _=>hs _ _ _ 2
 have hs4 : ∀ ρ sn h,capt.map (conv ρ sn h 4)=capt:=fun _ _ _=>hs _ _ _ 3
 refine zbi.acalls (nbz rfl) (nbz rfl) (Nat.le_refl _) ?_
 show awp _ 0 _ _ ⟨19,[(0,eEs l),(1,.fn (.func f) [] capt)],[],16⟩
 refine zaa ?_
 refine zac (s:=?s1) rfl ?o1 ?q1
 case o1=>simp; rfl
 refine zaa ?_
 refine zaa ?_
 refine zac (s:=?s2) rfl ?o2 ?q2
 case o2=>simp; rfl
 refine zah ?_
 refine zav (ι:=Nat) (fun k=>⟨19,[(0,eEs l),(1,.fn (.func f) [] capt),(7,.I l.length),(8,.I k)],[],16⟩) (fun k=>k≤l.length ∧ ∀ i,i<k → ∀ h : i<l.length,q l[i]=false) (fun k=>l.length - k) (0) ?_ (Le.snap [] rfl rfl (by simp [hs2,hs3,hs4])) ?_
 ·simp
 rintro k ⟨hk,hp⟩
 refine zaa ?_
 refine zac (s:=?s3) rfl ?o3 ?q3
 case o3=>simp; rfl
 refine zaa ?_
 refine zae _ rfl (fun h4=>?_) fun h4=>?_
 ·try simp at h4
  have hw2 : IntKind.i64.wrap ((k : Int)+1)=(k : Int)+1:=w64 (by omega) (by omega)
  have hck:=hc l[k] (List.getElem_mem h4)
  refine zaf ?_
  refine zaa ?_
  refine zah ?_
  refine zaa ?_
  refine zac (s:=?s5) rfl ?o5 ?q5
  case o5=>simp [h4,hw2]; rfl
  refine zaa ?_
  refine zac (s:=?s6) rfl ?o6 ?q6
  case o6 =>
   simp [h4,hw2]
   refine zaq hck ?_ ?_
   ·simp [hs2,hs3,hs4]
   simp [h4,hw2]; rfl
  refine zae _ rfl (fun h7=>?_) fun h7=>?_
  ·try simp at h7
   refine zaa ?_
   refine zac (s:=?s8) rfl ?o8 ?q8
   case o8=>simp [h4,hw2]; rfl
   refine zag ?_
   exact ⟨.inr rfl,zan.one (by simp [zqG h4 hp h7])⟩
  try simp at h7
  refine zaf ?_
  refine zac (s:=?s9) rfl ?o9 ?q9
  case o9=>simp [h4,hw2]; rfl
  refine ⟨k+1,⟨h4,fun i hi=>?_⟩,by omega,Le.snap [] rfl rfl (by simp [h4,hw2,hs2,hs3,hs4])⟩
  rcases Nat.lt_succ_iff_lt_or_eq.1 hi with h | rfl
  ·exact hp i h
  ·exact fun _=>h7
 try simp at h4
 have hall : ∀ i,i<l.length → ∀ h : i<l.length,q l[i]=false:=fun i hi=>hp i (by omega)
 refine zas ?_
 refine hit ?_
 refine zaa ?_
 refine zac (s:=?s10) rfl ?o10 ?q10
 case o10=>simp; rfl
 refine zag ?_
 exact ⟨.inr rfl,zan.one (by simp [zqQ hall])⟩
abbrev za3 (l : List Ed) : List (List AV):=l.map fun e=>[AV.I e.f,AV.I e.t,AV.I e.v]
theorem zjz {l : List Ed} {q : Ed→Bool} (h : ∀ i,i<l.length → ∀ h : i<l.length,q l[i]=false) : l.filter (fun e=>!q e)=l:=by
 rw [List.filter_eq_self]
 intro x hx
 obtain ⟨i,hi,rfl⟩:=List.mem_iff_getElem.1 hx
 simp [h i hi hi]
theorem zhj (l : List Ed) (q : Ed→Bool) (j : Nat) (h : j<l.length) : (l.take (j+1)).filter (fun e=>!q e)=(l.take j).filter (fun e=>!q e)++if q l[j]=true then [] else [l[j]]:=by
 rw [← List.take_concat_get h,List.concat_eq_append,List.filter_append]
 congr 1
 cases hq : q l[j] <;> simp [hq]
set_option maxRecDepth 100000 in
theorem zis (f : FuncId) (capt : List AV) (q : Ed→Bool) (l : List Ed) (n m : Nat) (hn : l.length=n) (hm : (l.filter fun e=>!q e).length=m) (hl : n≤1099511627776) (hs : zk2 capt) (hc : ∀ e∈l,zak Tryz.prog f (eE e::capt) [] (.B (q e)) []) :
  zak Tryz.prog zaF [.rs 0 0 n,.fn (.func f) [] capt] [⟨3,za3 l,0⟩] (.rs 0 0 m) [some ⟨3,za3 (l.filter fun e=>!q e)++List.replicate (n - m) [.I 0,.I 0,.I 0],0⟩]:=by
 have hs2 : ∀ ρ sn h,capt.map (conv ρ sn h 2)=capt:=fun _ _ _=>hs _ _ _ 1
 have hs3 : ∀ ρ sn h,capt.map (conv ρ sn h 3)=capt:=fun _ _ _=>hs _ _ _ 2
 have hs4 : ∀ ρ sn h,capt.map (conv ρ sn h 4)=capt:=fun _ _ _=>hs _ _ _ 3
 refine zbf.acalls (nbz rfl) (nbz rfl) (nbz rfl) ?_
 show awp _ 1 _ _ ⟨42,[(0,.rs 0 0 n),(1,.fn (.func f) [] capt)],[(0,some ⟨3,za3 l,0⟩)],16⟩
 have hmn : m≤n:=by rw [← hm,← hn]; exact List.length_filter_le _ _
 refine zab ⟨42,[(0,.rs 0 0 n),(1,.fn (.func f) [] capt)],[(0,some ⟨3,za3 l,0⟩)],24⟩ rfl ?_ ?_
 ·simp
  exact Le.keep rfl (Nat.le_refl _) (by simp) (by simp)
 refine zab ⟨42,[(0,.rs 0 0 n),(1,.fn (.func f) [] capt),(5,.I (idxQ l q))],[(0,some ⟨3,za3 l,0⟩)],56⟩ rfl ?_ ?_
 ·simp
  refine zlC [0] (zjn f capt q l (by omega) hs hc) ?_ (.sc _) ?_
  ·simp [hs2,hs3,hs4,← hn,fcd,zao]
  simp
  exact Le.keep rfl (Nat.le_refl _) (by simp) (by simp)
 refine zaa ?_
 refine zab ⟨42,[(0,.rs 0 0 n),(1,.fn (.func f) [] capt),(5,.I (idxQ l q)),(12,.B (decide (idxQ l q = -1)))],[(0,some ⟨3,za3 l,0⟩)],72⟩ rfl ?_ ?_
 ·simp
  exact Le.keep rfl (Nat.le_refl _) (by simp <;> rw [Bool.eq_iff_iff] <;> simp) (by simp)
 refine zae _ rfl (fun h=>?_) fun h=>zaf ?_
 ·simp only [decide_eq_true_eq] at h
  have hno : ∀ i,i<l.length → ∀ h : i<l.length,q l[i]=false:=by
   intro i hi _
   unfold idxQ at h
   split at h
   ·omega
   ·rename_i hnl
    have : l.findIdx q=l.length:=by have:=List.findIdx_le_length (xs:=l) (p:=q); omega
    rw [List.findIdx_eq_length] at this
    exact this _ (List.getElem_mem hi)
  have hf:=zjz hno
  rw [hf] at hm ⊢
  obtain rfl : n=m:=by omega
  refine zaa ?_
  refine zac (s:=?s1) rfl ?o1 ?q1
  case o1=>simp; rfl
  refine zag ?_
  refine ⟨.inr rfl,⟨[.rs 0 0 n],rfl,[],[],by simp [List.range,List.range.loop],by simp,by simp,?_,?_⟩⟩
  ·simp [List.range,List.range.loop]
  ·simp [List.range,List.range.loop,fcd]
 simp only [decide_eq_false_iff_not] at h
 obtain ⟨i0,hi0,hlt,hbef,hat⟩ : ∃ i0 : Nat,idxQ l q=i0∧i0<l.length∧(∀ i,i<i0 → ∀ h : i<l.length,q l[i]=false) ∧ ∀ h : i0<l.length,q l[i0]=true:=by
  unfold idxQ at h ⊢
  split at h
  ·rename_i hlt
   refine ⟨l.findIdx q,by rw [if_pos hlt],hlt,fun i hi _=>?_,fun h=>List.findIdx_getElem (w:=h)⟩
   simpa using List.not_of_lt_findIdx hi
  ·omega
 rw [hi0]
 have hA0 : (l.take (i0+1)).filter (fun e=>!q e)=l.take i0:=by
  rw [zhj l q i0 hlt,if_pos (hat hlt),List.append_nil]
  refine zjz fun i hi h=>?_
  rw [List.length_take] at hi
  simp only [List.getElem_take]
  exact hbef i (by omega) (by omega)
 have hw0 : IntKind.i64.wrap ((i0 : Int)+1)=((i0+1 : Nat) : Int):=by rw [w64 (by omega) (by omega)]; omega
 let C : Nat × List Ed→St:=fun p=>⟨42,[(0,.rs 0 0 n),(1,.fn (.func f) [] capt),(5,.I ((l.take p.1).filter fun e=>!q e).length),(6,.I p.1)],[(0,some ⟨3,za3 ((l.take p.1).filter (fun e=>!q e)++p.2++l.drop p.1),0⟩)],96⟩
 refine zaa ?_
 refine zab (C (i0+1,[l[i0]])) rfl ?_ ?_
 ·simp [hw0]
  refine Le.keep rfl (Nat.le_refl _) ?_ ?_
  ·simp only [C,hA0]
   simp
   omega
  ·simp only [C,hA0]
   simp
 refine zah ?_
 refine zav C (fun p : Nat × List Ed=>p.1≤n∧p.2≠[]∧((l.take p.1).filter fun e=>!q e).length+p.2.length=p.1) (fun p : Nat × List Ed=>n - p.1) (i0+1,[l[i0]]) ?_ (Le.refl _ _) ?_
 ·simp only [hA0]
  simp
  omega
 rintro ⟨j,M⟩ ⟨hj,hM,hlen⟩
 simp only at hj hM hlen ⊢
 obtain ⟨A,hA⟩ : ∃ A,A=(l.take j).filter fun e=>!q e:=⟨_,rfl⟩
 rw [← hA] at hlen
 have hC : C (j,M)=⟨42,[(0,.rs 0 0 n),(1,.fn (.func f) [] capt),(5,.I A.length),(6,.I j)],[(0,some ⟨3,za3 (A++M++l.drop j),0⟩)],96⟩:=by subst hA; rfl
 rw [hC]
 refine zaa ?_
 refine zab ⟨42,[(0,.rs 0 0 n),(1,.fn (.func f) [] capt),(5,.I A.length),(6,.I j),(19,.B (decide (j<n)))],[(0,some ⟨3,za3 (A++M++l.drop j),0⟩)],128⟩ rfl ?_ ?_
 ·simp
  exact Le.keep rfl (Nat.le_refl _) (by simp) (by simp)
 refine zae _ rfl (fun h=>zaf ?_) fun h=>zas (hit ?_)
 ·simp only [decide_eq_true_eq] at h
  have hjl : j<l.length:=by omega
  match M,hM,hlen with
  | m0::M1,_,hlen =>
  simp only [List.length_cons] at hlen
  have hnext:=zhj l q j hjl
  rw [← hA] at hnext
  have hget : (za3 (A++m0::M1++l.drop j))[j]? = some [AV.I l[j].f,AV.I l[j].t,AV.I l[j].v]:=by
   rw [List.getElem?_map,List.getElem?_append_right (by simp; omega),List.getElem?_drop,show j+(j - (A++m0::M1).length)=j by simp; omega,List.getElem?_eq_getElem hjl]
   rfl
  have hget2 : (za3 (A++m0::M1++l.drop j))[A.length]? = some [AV.I m0.f,AV.I m0.t,AV.I m0.v]:=by
   rw [List.getElem?_map,List.append_assoc,List.getElem?_append_right (by omega)]
   simp
  have hset : (za3 (A++m0::M1++l.drop j)).set A.length [AV.I l[j].f,AV.I l[j].t,AV.I l[j].v]=za3 ((A++[l[j]])++(M1++[l[j]])++l.drop (j+1)):=by
   have e1 : l.drop j=l[j]::l.drop (j+1):=List.drop_eq_getElem_cons hjl
   rw [e1]
   simp [za3,List.set_append]
  have hmore : A++m0::M1++l.drop j=A++(m0::M1++[l[j]])++l.drop (j+1):=by
   have e1 : l.drop j=l[j]::l.drop (j+1):=List.drop_eq_getElem_cons hjl
   rw [e1]
   simp
  generalize hrows : za3 (A++m0::M1++l.drop j)=R at *
  have hRl : R.length=n:=by rw [← hrows]; simp; omega
  have hck:=hc l[j] (List.getElem_mem hjl)
  generalize hv : l[j]=v at *
  refine zbH (ι:=List Ed × List Ed) (fun p=>⟨42,[(0,.rs 0 0 n),(1,.fn (.func f) [] capt),(5,.I p.1.length),(6,.I j)],[(0,some ⟨3,za3 (p.1++p.2++l.drop (j+1)),0⟩)],272⟩)
   (fun p=>p.1=(l.take (j+1)).filter (fun e=>!q e)∧p.2≠[]∧p.1.length+p.2.length=j+1) ?_ ?_
  ·refine zah ?_
   refine zab ⟨42,[(0,.rs 0 0 n),(1,.fn (.func f) [] capt),(5,.I A.length),(6,.I j),(7,.pt 160 0 0)],[(0,some ⟨3,R,0⟩),(160,some ⟨3,[[.I v.f,.I v.t,.I v.v]],0⟩)],176⟩ rfl ?_ ?_
   ·simp [h,hget]
    exact Le.keep rfl (Nat.le_refl _) (by simp) (by simp)
   refine zab ⟨42,[(0,.rs 0 0 n),(1,.fn (.func f) [] capt),(5,.I A.length),(6,.I j),(7,.pt 160 0 0),(29,.B (!q v))],[(0,some ⟨3,R,0⟩),(160,some ⟨3,[[.I v.f,.I v.t,.I v.v]],0⟩)],208⟩ rfl ?_ ?_
   ·simp
    refine zaq hck ?_ ?_
    ·simp [hs2,hs3,hs4]
    simp
    exact Le.keep rfl (Nat.le_refl _) (by simp) (by simp)
   refine zae _ rfl (fun h5=>?_) fun h5=>zaf ?_
   ·simp only [Bool.not_eq_true'] at h5
    rw [h5] at hnext
    refine zab ⟨42,[(0,.rs 0 0 n),(1,.fn (.func f) [] capt),(5,.I A.length),(6,.I j)],[(0,some ⟨3,za3 ((A++[v])++(M1++[v])++l.drop (j+1)),0⟩)],248⟩ rfl ?_ ?_
    ·simp [hget2,show A.length<n by omega,zaZ,hset]
     exact Le.keep rfl (Nat.le_refl _) (by simp) (by simp)
    have hwA : IntKind.i64.wrap ((A.length : Int)+1)=((A.length+1 : Nat) : Int):=by rw [w64 (by omega) (by omega)]; omega
    refine zaL rfl ?_
    simp [hwA]
    refine ⟨A++[v],M1++[v],⟨by rw [hnext]; simp,by simp,by simp; omega⟩,Le.keep rfl (Nat.le_refl _) (by simp) (by simp)⟩
   ·simp only [Bool.not_eq_false'] at h5
    rw [h5] at hnext
    refine ⟨(A,m0::M1++[v]),⟨by rw [hnext]; simp,by simp,by simp; omega⟩,Le.keep rfl (nbz rfl) (by simp) ?_⟩
    rw [← hmore,hrows]
    simp
  rintro ⟨A',M'⟩ ⟨p1,p2,p3⟩
  simp only at p1 p2 p3 ⊢
  have hwj : IntKind.i64.wrap ((j : Int)+1)=((j+1 : Nat) : Int):=by rw [w64 (by omega) (by omega)]; omega
  refine zaL rfl ?_
  simp [hwj]
  refine ⟨j+1,M',⟨by omega,p2,by rw [← p1]; omega⟩,by omega,?_⟩
  have hD : C (j+1,M')=⟨42,[(0,.rs 0 0 n),(1,.fn (.func f) [] capt),(5,.I A'.length),(6,.I ((j+1 : Nat) : Int))],[(0,some ⟨3,za3 (A'++M'++l.drop (j+1)),0⟩)],96⟩:=by rw [p1]
  rw [hD]
  refine Le.ents [(0,0)] [] rfl (by simp) (by simp) (by simp) (by simp) (by simp) (by simp [hs2,hs3,hs4]) fun p hp=>?_
  simp at hp
  subst hp
  exact ⟨0,_,_,rfl,by simp,rfl,zaM.eq (by simp [fcd]) (by simp)⟩
 simp only [decide_eq_false_iff_not] at h
 obtain rfl : j=n:=by omega
 have hd : l.drop j=[]:=List.drop_eq_nil_of_le (by omega)
 have ht : l.take j=l:=List.take_of_length_le (by omega)
 rw [ht] at hA
 rw [hd,List.append_nil]
 rw [← hA] at hm ⊢
 subst hm
 have hAM : (za3 (A++M)).take A.length=za3 A:=by simp [za3]
 have hAd : (za3 (A++M)).drop (A.length+(j - A.length))=[]:=List.drop_eq_nil_of_le (by simp; omega)
 have hAl : (za3 (A++M)).length=j:=by simp; omega
 generalize za3 (A++M)=R at *
 refine zab ⟨42,[(0,.rs 0 0 j),(5,.I A.length)],[(0,some ⟨3,za3 A++List.replicate (j - A.length) [.I 0,.I 0,.I 0],0⟩)],160⟩ rfl ?_ ?_
 ·simp
  refine ⟨by omega,by omega,?_⟩
  rw [hAM,hAd]
  exact Le.keep rfl (Nat.le_refl _) (by simp) (by simp)
 refine zaa ?_
 refine zac (s:=?s2) rfl ?o2 ?q2
 case o2 =>
  simp
  refine ⟨by omega,?_⟩
  rfl
 refine zag ?_
 refine ⟨.inr rfl,⟨[.rs 0 0 A.length],rfl,[],[],by simp [List.range,List.range.loop],by simp,by simp,?_,?_⟩⟩
 ·simp [List.range,List.range.loop]
 ·simp [List.range,List.range.loop,fcd]
def zaj (g : Gr) (v : Int) : Gr:=⟨g.size,g.edges.filter fun e=>!decide (e.v<v),g.gone⟩
theorem zgx (e : Ed) (v : Int) : zak Tryz.prog zcj [eE e,.pv [.I v]] [] (.B (decide (e.v<v))) []:=by
 refine zfM.acalls (nbz rfl) (nbz rfl) (Nat.le_refl _) ?_
 show awp _ 0 _ _ ⟨8,[(0,eE e),(1,.pv [.I v])],[],16⟩
 refine zab ⟨8,[(1,.pv [.I v]),(2,.pv (eC e))],[],16⟩ rfl ?_ ?_
 ·simp
  exact Le.snap [16] rfl rfl (by simp)
 refine zaa ?_
 refine zac (s:=?s1) rfl ?o1 ?q1
 case o1=>simp; rfl
 refine zag ?_
 exact ⟨.inr rfl,zan.one (by simp)⟩
set_option maxRecDepth 100000 in
theorem zgi (g : Gr) (v : Int) (hl : g.edges.length≤1099511627776) (hl2 : g.gone.length≤1099511627776) : zak Tryz.prog zbQ [eG g,.I v] [] (eG (zaj g v)) []:=by
 refine zf9.acalls (nbz rfl) (nbz rfl) (Nat.le_refl _) ?_
 show awp _ 0 _ _ ⟨14,[(0,eG g),(1,.I v)],[],16⟩
 obtain ⟨E,hE⟩ : ∃ E,E=g.edges.filter fun e=>!decide (e.v<v):=⟨_,rfl⟩
 have hEl : E.length≤g.edges.length:=by rw [hE]; exact List.length_filter_le _ _
 have hdel:=zis zcj [.pv [.I v]] (fun e=>decide (e.v<v)) g.edges g.edges.length E.length rfl (by rw [hE]) hl (fun ρ sn h n=>by simp) (fun e _=>zgx e v)
 rw [← hE] at hdel
 have hres : zaj g v=⟨g.size,E,g.gone⟩:=by rw [hE]; rfl
 rw [hres]
 refine zab ⟨14,[(2,.pv (gC g)),(3,.pt 24 0 0),(4,.pt 32 0 0)],[(24,some ⟨1,[[.I v]],0⟩),(32,some zG)],40⟩ rfl ?_ ?_
 ·simp
  refine Le.ents [(24,24),(32,32)] [16] rfl (by simp) (by simp) (by simp) (by simp) (by simp) (by simp) fun p hp=>?_
  simp at hp
  rcases hp with rfl | rfl
  ·exact ⟨24,_,_,rfl,by simp,rfl,zaM.eq (by simp) (by simp)⟩
  ·exact ⟨32,_,_,rfl,by simp,rfl,zaM.eq (by simp) (by simp)⟩
 refine zab ⟨14,[(3,.pt 24 0 0),(4,.pt 32 0 0),(5,.pt 56 0 0)],[(24,some ⟨1,[[.I v]],0⟩),(32,some zG),(56,some ⟨3,[[.I g.size,.rs 48 0 g.edges.length,.rs 49 0 g.gone.length]],0⟩),(48,some ⟨3,za3 g.edges,0⟩),(49,some ⟨1,g.gone.map fun n=>[AV.I n],0⟩)],72⟩ rfl ?_ ?_
 ·simp
  refine zrn (zhC g (by omega) (by omega)) rfl ?_
  simp [fcd]
  exact Le.keep rfl (Nat.le_refl _) (by simp) (by simp)
 refine zab ⟨14,[(4,.pt 32 0 0),(5,.pt 56 0 0)],[(32,some zG),(56,some ⟨3,[[.I g.size,.rs 48 0 E.length,.rs 49 0 g.gone.length]],0⟩),(48,some ⟨3,za3 E++List.replicate (g.edges.length - E.length) [.I 0,.I 0,.I 0],0⟩),(49,some ⟨1,g.gone.map fun n=>[AV.I n],0⟩)],120⟩ rfl ?_ ?_
 ·simp
  refine zoy (i:=48) (j:=24) (by decide) (Nat.zero_le _) rfl rfl ?_ hdel (by simp) ?_ ?_
  ·simp [fcd]
  ·simp
  simp [fcd]
  exact Le.keep rfl (Nat.le_refl _) (by simp) (by simp)
 refine zaa ?_
 refine zac (s:=?s21) rfl ?o21 ?q21
 case o21=>simp; rfl
 refine zag ?_
 refine ⟨.inr rfl,?_⟩
 show zan [(4,some (true,3))] 0 _ _ _
 refine zan.out (vs:=[.agg [.I g.size,.rs 48 0 E.length,.rs 49 0 g.gone.length]]) [] [48,49] (by simp) (by simp) (by simp) ?_ (by simp)
 simp [fcd,zao]
theorem zpM (l : List Ed) (v : Int) (k : Nat) (h : k<l.length) : (l.take (k+1)).filter (fun e=>!decide (e.v<v))=(l.take k).filter (fun e=>!decide (e.v<v))++if v≤l[k].v then [l[k]] else []:=by
 rw [← List.take_concat_get h,List.concat_eq_append,List.filter_append]
 congr 1
 by_cases hq : v≤l[k].v
 ·have : ¬ l[k].v<v:=by omega
  simp [hq,this]
 ·have : l[k].v<v:=by omega
  simp [hq,this]
set_option maxRecDepth 100000 in
theorem ziv (g : Gr) (v : Int) (hl : g.edges.length≤1099511627776) (hl2 : g.gone.length≤1099511627776) : zak Tryz.prog zgd [eG g,.I v] [] (eG (zaj g v)) []:=by
 refine zph.acalls (nbz rfl) (nbz rfl) (Nat.le_refl _) ?_
 show awp _ 0 _ _ ⟨36,[(0,eG g),(1,.I v)],[],16⟩
 refine zab ⟨36,[(1,.I v),(2,.pv (gC g)),(4,.pt 24 0 0)],[(24,some zG)],32⟩ rfl ?_ ?_
 ·simp
  refine Le.ents [(24,24)] [16] rfl (by simp) (by simp) (by simp) (by simp) (by simp) (by simp) fun p hp=>?_
  simp at hp
  subst hp
  exact ⟨24,_,_,rfl,by simp,rfl,zaM.eq (by simp) (by simp)⟩
 refine zab ⟨36,[(1,.I v),(2,.pv (gC g)),(4,.pt 24 0 0),(5,.pt 48 0 0)],[(24,some zG),(48,some ⟨3,[[.I g.size,.rs 40 0 g.edges.length,.rs 41 0 g.gone.length]],0⟩),(40,some ⟨3,za3 g.edges,0⟩),(41,some ⟨1,g.gone.map fun n=>[AV.I n],0⟩)],64⟩ rfl ?_ ?_
 ·simp
  refine zrn (zjD g (by omega) (by omega)) rfl ?_
  simp [fcd]
  exact Le.keep rfl (Nat.le_refl _) (by simp) (by simp)
 refine zab ⟨36,[(1,.I v),(2,.pv (gC g)),(4,.pt 24 0 0),(5,.pt 48 0 0)],[(24,some zG),(48,some ⟨3,[[.I g.size,.nilS,ints g.gone]],0⟩)],80⟩ rfl ?_ ?_
 ·simp
  refine Le.ents [(24,24),(48,48)] [41] rfl (by simp) (by simp) (by simp) (by simp) (by simp) (by simp) fun p hp=>?_
  simp at hp
  rcases hp with rfl | rfl
  ·exact ⟨24,_,_,rfl,by simp,rfl,zaM.eq (by simp) (by simp)⟩
  ·exact ⟨48,_,_,rfl,by simp,rfl,zaM.eq (by simp [zaZ,fcd,zao]) (by simp)⟩
 refine zaa ?_
 refine zab ⟨36,[(1,.I v),(2,.pv (gC g)),(4,.pt 24 0 0),(5,.pt 48 0 0),(6,.I 0)],[(24,some zG),(48,some ⟨3,[[.I g.size,.nilS,ints g.gone]],0⟩)],88⟩ rfl ?_ ?_
 ·simp
  exact Le.keep rfl (Nat.le_refl _) (by simp) (by simp)
 refine zah ?_
 let F : Nat→List Ed:=fun k=>(g.edges.take k).filter fun e=>!decide (e.v<v)
 let C : Nat→St:=fun k=>⟨36,[(1,.I v),(2,.pv (gC g)),(4,.pt 24 0 0),(5,.pt 48 0 0),(6,.I k)],[(24,some zG),(48,some ⟨3,[[.I g.size,.rs 16 0 (F k).length,ints g.gone]],0⟩),(16,some ⟨3,za3 (F k),0⟩)],88⟩
 refine zav C (fun k=>k≤g.edges.length) (fun k=>g.edges.length - k) 0 (Nat.zero_le _) ?_ ?_
 ·refine Le.lst [(24,24),(48,48)] [] [(16,3)] rfl (by simp) (by simp) (by simp [C]) (by simp [C]) (by simp) (by simp) (by simp) (by simp [C,Up]) fun p hp e' he'=>?_
  simp [C] at hp
  rcases hp with rfl | rfl | rfl
  ·cases he'
   exact .inl ⟨(24,24),by simp,rfl,_,rfl,zaM.eq (by simp) (by simp)⟩
  ·cases he'
   refine .inl ⟨(48,48),by simp,rfl,_,rfl,zaM.row (by simp; rfl) (by simp) ?_⟩
   exact ⟨.inl (.refl _),.inr ⟨rfl,16,3,by simp [F],by simp⟩,.inl (.refl _),trivial⟩
  ·cases he'
   exact .inr ⟨by simp,by simp [F],rfl⟩
 intro k hk
 have hFl : (F k).length≤k:=by
  have h1 : (F k).length≤(g.edges.take k).length:=List.length_filter_le _ _
  simp at h1
  omega
 have hC : C k=⟨36,[(1,.I v),(2,.pv (gC g)),(4,.pt 24 0 0),(5,.pt 48 0 0),(6,.I k)],[(24,some zG),(48,some ⟨3,[[.I g.size,.rs 16 0 (F k).length,ints g.gone]],0⟩),(16,some ⟨3,za3 (F k),0⟩)],88⟩:=rfl
 rw [hC]
 refine zaa ?_
 refine zab ⟨36,[(1,.I v),(2,.pv (gC g)),(4,.pt 24 0 0),(5,.pt 48 0 0),(6,.I k),(14,.B (decide (k<g.edges.length)))],[(24,some zG),(48,some ⟨3,[[.I g.size,.rs 16 0 (F k).length,ints g.gone]],0⟩),(16,some ⟨3,za3 (F k),0⟩)],128⟩ rfl ?_ ?_
 ·simp
  exact Le.keep rfl (Nat.le_refl _) (by simp) (by simp)
 refine zae _ rfl (fun h=>zaf ?_) fun h=>zas (hit ?_)
 ·simp only [decide_eq_true_eq] at h
  have hnext:=zpM g.edges v k h
  have hFs : F (k+1)=F k++if v≤g.edges[k].v then [g.edges[k]] else []:=hnext
  refine zbH (ι:=Unit) (fun _=>⟨36,[(1,.I v),(2,.pv (gC g)),(4,.pt 24 0 0),(5,.pt 48 0 0),(6,.I k)],[(24,some zG),(48,some ⟨3,[[.I g.size,.rs 16 0 (F (k+1)).length,ints g.gone]],0⟩),(16,some ⟨3,za3 (F (k+1)),0⟩)],280⟩) (fun _=>True) ?_ fun _ _=>?_
  ·rw [hFs]
   generalize F k=A at *
   refine zah ?_
   refine zab ⟨36,[(1,.I v),(2,.pv (gC g)),(4,.pt 24 0 0),(5,.pt 48 0 0),(6,.I k),(24,.B (decide (v≤g.edges[k].v)))],[(24,some zG),(48,some ⟨3,[[.I g.size,.rs 16 0 A.length,ints g.gone]],0⟩),(16,some ⟨3,za3 A,0⟩)],192⟩ rfl ?_ ?_
   ·simp [h]
    exact Le.keep rfl (Nat.le_refl _) (by simp) (by simp)
   refine zae _ rfl (fun h5=>?_) fun h5=>zaf ?_
   ·simp only [decide_eq_true_eq] at h5
    rw [if_pos h5]
    refine zfe rfl ?_
    have hrl : (za3 A).length=A.length:=by simp
    simp [h,zaZ,List.replicate]
    refine ⟨by omega,by omega,rfl,?_⟩
    refine Le.ents [(24,24),(48,48),(256,16)] [] rfl (by simp) (by simp) (by simp) (by simp) (by simp) (by simp) fun p hp=>?_
    simp at hp
    rcases hp with rfl | rfl | rfl
    ·exact ⟨24,_,_,rfl,by simp,rfl,zaM.eq (by simp) (by simp)⟩
    ·exact ⟨48,_,_,rfl,by simp,rfl,zaM.eq (by simp) (by simp)⟩
    ·exact ⟨256,_,_,rfl,by simp,rfl,zaM.eq (by simp [fcd,zao]) (by simp)⟩
   ·simp only [decide_eq_false_iff_not] at h5
    rw [if_neg h5,List.append_nil]
    exact ⟨(),trivial,Le.keep rfl (nbz rfl) (by simp) (by simp)⟩
  have hwj : IntKind.i64.wrap ((k : Int)+1)=((k+1 : Nat) : Int):=by rw [w64 (by omega) (by omega)]; omega
  refine zaL rfl ?_
  simp [hwj]
  refine ⟨k+1,by omega,by omega,?_⟩
  refine Le.ents [(24,24),(48,48),(16,16)] [] rfl (by simp) (by simp) (by simp [C]) (by simp) (by simp [C]) (by simp [C]) fun p hp=>?_
  simp [C] at hp
  rcases hp with rfl | rfl | rfl
  ·exact ⟨24,_,_,rfl,by simp,rfl,zaM.eq (by simp) (by simp)⟩
  ·exact ⟨48,_,_,rfl,by simp,rfl,zaM.eq (by simp) (by simp)⟩
  ·exact ⟨16,_,_,rfl,by simp,rfl,zaM.eq (by simp [fcd]) (by simp)⟩
 simp only [decide_eq_false_iff_not] at h
 obtain rfl : k=g.edges.length:=by omega
 have hF : F g.edges.length=(zaj g v).edges:=by
  show (g.edges.take g.edges.length).filter _=_
  rw [List.take_of_length_le (Nat.le_refl _)]
  rfl
 rw [hF]
 have hres : zaj g v=⟨g.size,(zaj g v).edges,g.gone⟩:=rfl
 rw [hres]
 generalize (zaj g v).edges=E at *
 refine zaa ?_
 refine zac (s:=?s21) rfl ?o21 ?q21
 case o21=>simp; rfl
 refine zag ?_
 refine ⟨.inr rfl,?_⟩
 show zan [(4,some (true,3))] 0 _ _ _
 refine zan.out (vs:=[.agg [.I g.size,.rs 16 0 E.length,ints g.gone]]) [] [16] (by simp) (by simp) (by simp) ?_ (by simp)
 simp [fcd,zao]
def zrs (g : Gr) (lv f t : Int) : Prop:=∃ e∈g.edges,e.f=f∧e.t=t∧lv≤e.v
theorem zeJ : ∀ {a b : List Int},a.Nodup→(∀ x∈a,x∈b)→b.length≤a.length→a.Perm b
 | [],b,_,_,hl=>by
   have : b=[]:=List.length_eq_zero_iff.1 (by simpa using hl)
   rw [this]
 | x::a,b,hn,hs,hl=>by
   have hx : x∈b:=hs x (List.mem_cons_self ..)
   rw [List.nodup_cons] at hn
   have hb:=List.perm_cons_erase hx
   have hlb : (b.erase x).length+1=b.length:=by have:=hb.length_eq; simp at this; omega
   refine (List.Perm.cons x (zeJ hn.2 (fun y hy=>?_) ?_)).trans hb.symm
   ·have hy2:=hs y (List.mem_cons_of_mem _ hy)
    have hne : y≠x:=fun e=>hn.1 (e ▸ hy)
    exact (List.mem_erase_of_ne hne).2 hy2
   ·rw [List.length_cons] at hl
    omega
def srt (l : List Int) : List Int:=l.mergeSort fun x y=>decide (x≤y)
theorem zh6 (l : List Int) : (srt l).Perm l:=List.mergeSort_perm ..
theorem zuF (l : List Int) : (srt l).Pairwise (· ≤ ·):=by
 have h:=List.pairwise_mergeSort (le:=fun x y : Int=>decide (x≤y)) (fun a b c h1 h2=>by simp at *; omega) (fun a b=>by simp; omega) l
 exact h.imp fun {a b} h=>by simpa using h
theorem zij {a b : List Int} : srt a=srt b↔a.Perm b:=by
 constructor
 ·intro h
  exact (zh6 a).symm.trans (h ▸ zh6 b)
 ·intro h
  exact List.Perm.eq_of_pairwise (le:=(· ≤ ·)) (fun x y _ _ h1 h2=>by omega) (zuF a) (zuF b) (((zh6 a).trans h).trans (zh6 b).symm)
def zvF (g : Gr) (lv : Int) (seeds order w : List Int) : Prop :=
 (∃ k,w.head? = some k∧k∈seeds)∧(∀ k∈w,k∈order)∧w.Nodup ∧ ∀ i (h : i+1<w.length),zrs g lv w[i] w[i+1]
def begC (P : List (List Int)) (k : Int) : Nat:=P.countP fun w=>decide (w.head? = some k)
def useC (P : List (List Int)) (k : Int) : Nat:=(P.flatMap List.dropLast).count k
def znQ (c : List Int) (P : List (List Int)) : Prop:=∀ k (h : k<c.length),(begC P k : Int)≤c[k]∧(useC P k : Int)≤max 0 (c[k] - 1)
def zke (P : List (List Int)) : List Int:=P.filterMap List.getLast?
def zj5 (g : Gr) (lv : Int) (seeds order c : List Int) (P : List (List Int)) (ends : List Int) : Prop :=
 (∀ w∈P,zvF g lv seeds order w)∧znQ c P∧srt (zke P)=srt ends
def zl8 (g : Gr) (lv : Int) (seeds order c : List Int) (P : List (List Int)) (ends : List Int) : Prop :=
 P.length=ends.length∧ends.Nodup∧(∀ w∈P,zvF g lv seeds order w)∧(∀ k∈zke P,k∈ends)∧(zke P).Nodup∧znQ c P
theorem zvF.ne {g : Gr} {lv : Int} {seeds order w : List Int} (h : zvF g lv seeds order w) : w≠[]:=by
 rintro rfl
 obtain ⟨k,hk,_⟩:=h.1
 cases hk
theorem zps {P : List (List Int)} (h : ∀ w∈P,w≠[]) : (zke P).length=P.length:=by
 unfold zke
 induction P with
 | nil=>rfl
 | cons w P ih =>
   have hw:=h w (List.mem_cons_self ..)
   rw [List.filterMap_cons,List.getLast?_eq_some_getLast hw]
   simp only [List.length_cons]
   rw [ih fun x hx=>h x (List.mem_cons_of_mem _ hx)]
theorem zns {g : Gr} {lv : Int} {seeds order c : List Int} {P : List (List Int)} {ends : List Int} (hn : ends.Nodup) : zj5 g lv seeds order c P ends↔zl8 g lv seeds order c P ends:=by
 constructor
 ·rintro ⟨h1,h2,h3⟩
  have hp:=zij.1 h3
  have hl:=zps fun w hw=>(h1 w hw).ne
  exact ⟨by rw [← hl,hp.length_eq],hn,h1,fun k hk=>hp.mem_iff.1 hk,hp.nodup_iff.2 hn,h2⟩
 ·rintro ⟨h0,_,h1,h2,h3,h4⟩
  have hl:=zps fun w hw=>(h1 w hw).ne
  exact ⟨h1,h4,zij.2 (zeJ h3 h2 (by omega))⟩
def zjP (order : List Int) (key : Int) : List Int:=order.takeWhile fun x=>decide (x≠key)
theorem zqf (x : Int) (o : List Int) (key : Int) : zjP (x::o) key=if x=key then [] else x::zjP o key:=by
 unfold zjP
 rw [List.takeWhile_cons]
 by_cases h : x=key <;> simp [h]
def zh3 (order l : List Int) (key : Int) : Prop:=l.Sublist (zjP order key)
theorem zmE (order : List Int) (key : Int) : key∉zjP order key:=by
 induction order with
 | nil=>simp [zjP]
 | cons x o ih =>
   rw [zqf]
   split
   ·simp
   ·rename_i h
    simp only [List.mem_cons,not_or]
    exact ⟨fun e=>h e.symm,ih⟩
theorem zh3.nodup {order l : List Int} {key : Int} (h : zh3 order l key) (hn : order.Nodup) : (l++[key]).Nodup:=by
 rw [List.nodup_append]
 refine ⟨(hn.sublist (List.takeWhile_sublist _)).sublist h,by simp,fun x hx y hy=>?_⟩
 rw [List.mem_singleton] at hy
 subst hy
 rintro rfl
 exact zmE order x (h.subset hx)
structure zjx (A : List Ed) (E : Int→Int→Prop) (seeds sinks : List Int) (c : Int→Int) : Prop where
 kind : ∀ i,i<A.length→(∃ x,x∈seeds∧0≤x∧arcD A i=⟨0,2+2*x,c x⟩)∨(∃ x,0≤x∧arcD A i=⟨2+2*x,3+2*x,c x - 1⟩)∨(∃ x,x∈sinks∧0≤x∧arcD A i=⟨2+2*x,1,1⟩)∨(∃ x y,0≤x∧0≤y∧E x y∧arcD A i=⟨3+2*x,2+2*y,64⟩)
 uniq : ∀ i j,i<A.length→j<A.length→(arcD A i).f=(arcD A j).f→(arcD A i).t=(arcD A j).t→i=j
inductive ziG (A : List Ed) (E : Int→Int→Prop) (sinks : List Int) (c : Int→Int) : Int→List Nat→List Int→Prop
 | last (k : Int) (i : Nat) : i<A.length→arcD A i=⟨2+2*k,1,1⟩→k∈sinks→ziG A E sinks c k [i] []
 | more (k y : Int) (i j : Nat) (l : List Nat) (ks : List Int) : i<A.length→arcD A i=⟨2+2*k,3+2*k,c k - 1⟩→arcD A j=⟨3+2*k,2+2*y,64⟩→E k y→0≤y→ziG A E sinks c y l ks→ziG A E sinks c k (i::j::l) (y::ks)
variable {A : List Ed} {E : Int→Int→Prop} {seeds sinks : List Int} {c : Int→Int}
theorem zjx.sinkless (h : zjx A E seeds sinks c) {i : Nat} (hi : i<A.length) : (arcD A i).f≠1:=by
 rcases h.kind i hi with ⟨x,_,hx,e⟩ | ⟨x,hx,e⟩ | ⟨x,_,hx,e⟩ | ⟨x,y,hx,hy,_,e⟩ <;> rw [e] <;> simp only <;> omega
theorem zjx.path (h : zjx A E seeds sinks c) : ∀ (n : Nat) (l : List Nat) (k : Int),l.length≤n→0≤k→WayA A (2+2*k) l 1 → ∃ ks,ziG A E sinks c k l ks
 | _,[],k,_,hk,hw=>by
   have : 2+2*k=1:=hw
   omega
 | n,[i],k,_,hk,hw=>by
   obtain ⟨h1,h2,h3⟩:=hw
   have h3' : (arcD A i).t=1:=h3
   rcases h.kind i h1 with ⟨x,_,hx,e⟩ | ⟨x,hx,e⟩ | ⟨x,hs,hx,e⟩ | ⟨x,y,hx,hy,_,e⟩ <;> rw [e] at h2 h3' <;> simp only at h2 h3'
   ·omega
   ·omega
   ·have : x=k:=by omega
    subst this
    exact ⟨[],.last _ i h1 e hs⟩
   ·omega
 | 0,_::_::_,_,hn,_,_=>by simp at hn
 | n+1,i::j::l,k,hn,hk,hw=>by
   obtain ⟨h1,h2,h4,h5,h6⟩:=hw
   rcases h.kind i h1 with ⟨x,_,hx,e⟩ | ⟨x,hx,e⟩ | ⟨x,hs,hx,e⟩ | ⟨x,y,hx,hy,_,e⟩
   ·rw [e] at h2; simp only at h2; omega
   ·rw [e] at h2 h5
    simp only at h2 h5
    have : x=k:=by omega
    subst this
    rcases h.kind j h4 with ⟨z,_,hz,e'⟩ | ⟨z,hz,e'⟩ | ⟨z,hs,hz,e'⟩ | ⟨z,y,hz,hy,hE,e'⟩
    ·rw [e'] at h5; simp only at h5; omega
    ·rw [e'] at h5; simp only at h5; omega
    ·rw [e'] at h5; simp only at h5; omega
    ·rw [e'] at h5 h6
     simp only at h5 h6
     have : z=x:=by omega
     subst this
     obtain ⟨ks,hp⟩:=h.path n l y (by simp at hn; omega) hy h6
     exact ⟨y::ks,.more _ y i j l ks h1 e e' hE hy hp⟩
   ·rw [e] at h5
    simp only at h5
    exact absurd h5 (h.sinkless h4)
   ·rw [e] at h2; simp only at h2; omega
def keyT (t : Int) : Option Int:=if 2≤t∧t % 2=0 then some ((t - 2) / 2) else none
def zed (A : List Ed) (l : List Nat) : List Int:=(metA A l).filterMap keyT
theorem zm6 {k : Int} (h : 0≤k) : keyT (2+2*k)=some k:=by
 unfold keyT
 rw [if_pos ⟨by omega,by omega⟩]
 congr 1
 omega
theorem ztT (k : Int) : keyT (3+2*k)=none:=if_neg (by omega)
theorem ztQ : keyT 1=none:=if_neg (by omega)
theorem ziG.keys {k : Int} {l : List Nat} {ks : List Int} (h : ziG A E sinks c k l ks) : zed A l=ks:=by
 induction h with
 | last k i h1 h2 h3 =>
   unfold zed metA
   rw [List.map_cons,List.map_nil,List.filterMap_cons,h2]
   simp only
   rw [ztQ]
   rfl
 | more k y i j l ks h1 h2 h3 h4 h5 h6 ih =>
   unfold zed metA at ih ⊢
   rw [List.map_cons,List.map_cons,List.filterMap_cons,h2]
   simp only
   rw [ztT,List.filterMap_cons,h3]
   simp only
   rw [zm6 h5,ih]
theorem ziG.edges {k : Int} {l : List Nat} {ks : List Int} (h : ziG A E sinks c k l ks) : ∀ i (hi : i+1<(k::ks).length),E (k::ks)[i] (k::ks)[i+1]:=by
 induction h with
 | last k i h1 h2 h3=>intro i hi; simp at hi
 | more k y i j l ks h1 h2 h3 h4 h5 h6 ih =>
   intro n hn
   cases n with
   | zero=>exact h4
   | succ n=>exact ih n (by simpa using hn)
theorem ziG.ends {k : Int} {l : List Nat} {ks : List Int} (h : ziG A E sinks c k l ks) : ∃ z,(k::ks).getLast? = some z∧z∈sinks ∧ ∃ i∈l,i<A.length∧arcD A i=⟨2+2*z,1,1⟩:=by
 induction h with
 | last k i h1 h2 h3=>exact ⟨k,rfl,h3,i,List.mem_singleton.2 rfl,h1,h2⟩
 | more k y i j l ks h1 h2 h3 h4 h5 h6 ih =>
   obtain ⟨z,hz,hs,m,hm,hm2,hm3⟩:=ih
   exact ⟨z,by rw [List.getLast?_cons_cons]; exact hz,hs,m,List.mem_cons_of_mem _ (List.mem_cons_of_mem _ hm),hm2,hm3⟩
theorem ziG.uses (hu : ∀ i j,i<A.length→j<A.length→(arcD A i).f=(arcD A j).f→(arcD A i).t=(arcD A j).t→i=j) {k : Int} {l : List Nat} {ks : List Int} (h : ziG A E sinks c k l ks) {m : Int} {n : Nat} (hn : n<A.length) (hm : arcD A n=⟨2+2*m,3+2*m,c m - 1⟩) : (k::ks).dropLast.count m≤l.count n:=by
 induction h with
 | last k i h1 h2 h3=>simp
 | more k y i j l ks h1 h2 h3 h4 h5 h6 ih =>
   rw [List.dropLast_cons_of_ne_nil (by simp),List.count_cons]
   have h7 : l.count n≤(j::l).count n:=by rw [List.count_cons]; omega
   rw [List.count_cons]
   by_cases hk : k=m
   ·subst hk
    have : i=n:=hu i n h1 hn (by rw [h2,hm]) (by rw [h2,hm])
    subst this
    simp only [beq_self_eq_true,if_true]
    omega
   ·have hk' : (k == m)=false:=by simpa using hk
    rw [hk']
    simp only [Bool.false_eq_true,if_false]
    omega
theorem ziG.mids {k : Int} {l : List Nat} {ks : List Int} (h : ziG A E sinks c k l ks) {m : Int} (hm : m∈(k::ks).dropLast) : ∃ n,n<A.length∧arcD A n=⟨2+2*m,3+2*m,c m - 1⟩:=by
 induction h with
 | last k i h1 h2 h3=>simp at hm
 | more k y i j l ks h1 h2 h3 h4 h5 h6 ih =>
   rw [List.dropLast_cons_of_ne_nil (by simp)] at hm
   rcases List.mem_cons.1 hm with rfl | hm
   ·exact ⟨i,h1,h2⟩
   ·exact ih hm
theorem zjx.whole (h : zjx A E seeds sinks c) {l : List Nat} (hw : WayA A 0 l 1) : ∃ x i l' ks,l=i::l'∧i<A.length∧x∈seeds∧0≤x∧arcD A i=⟨0,2+2*x,c x⟩∧ziG A E sinks c x l' ks∧zed A l=x::ks:=by
 cases l with
 | nil=>have : (0 : Int)=1:=hw; omega
 | cons i l =>
   obtain ⟨h1,h2,h3⟩:=hw
   rcases h.kind i h1 with ⟨x,hs,hx,e⟩ | ⟨x,hx,e⟩ | ⟨x,hs,hx,e⟩ | ⟨x,y,hx,hy,_,e⟩
   ·rw [e] at h3
    obtain ⟨ks,hp⟩:=h.path l.length l x (Nat.le_refl _) hx h3
    refine ⟨x,i,l,ks,rfl,h1,hs,hx,e,hp,?_⟩
    have hk:=hp.keys
    unfold zed metA at hk ⊢
    rw [List.map_cons,List.filterMap_cons,e]
    simp only
    rw [zm6 hx,hk]
   ·rw [e] at h2; simp only at h2; omega
   ·rw [e] at h2; simp only at h2; omega
   ·rw [e] at h2; simp only at h2; omega
theorem zqL {l : List Nat} (h : (metA A l).Nodup) : (zed A l).Nodup:=by
 unfold zed
 refine List.Pairwise.filterMap _ (fun a a' hne b hb b' hb'=>?_) h
 unfold keyT at hb hb'
 split at hb <;> split at hb' <;> simp at hb hb' <;> omega
def sumN (g : List Nat→Nat) (W : List (List Nat)) : Nat:=(W.map g).sum
theorem zlw (g : List Nat→Nat) (w : List Nat) (W : List (List Nat)) : sumN g (w::W)=g w+sumN g W:=by simp [sumN]
theorem zmP {l : List Int} (h : ∀ x,l.count x≤1) : l.Nodup:=by
 induction l with
 | nil=>exact List.nodup_nil
 | cons x l ih =>
   rw [List.nodup_cons]
   refine ⟨fun hm=>?_,ih fun y=>?_⟩
   ·have h1:=h x
    rw [List.count_cons_self] at h1
    have h2:=List.count_pos_iff.2 hm
    omega
   ·have h1:=h y
    rw [List.count_cons] at h1
    omega
theorem zuX {A : List Ed} {n : Nat} {k : Int} : ∀ {W : List (List Nat)},(∀ w∈W,(zed A w).head? = some k→1≤w.count n)→begC (W.map (zed A)) k≤sumN (List.count n) W
 | [],_=>by simp [begC,sumN]
 | w::W,h=>by
   have ih:=zuX (n:=n) (k:=k) fun x hx=>h x (List.mem_cons_of_mem w hx)
   have h1:=h w (List.mem_cons_self ..)
   unfold begC at ih ⊢
   rw [List.map_cons,List.countP_cons,zlw]
   by_cases hk : (zed A w).head? = some k
   ·have:=h1 hk
    simp only [hk,decide_true,if_true]
    omega
   ·simp only [hk,decide_false,Bool.false_eq_true,if_false]
    omega
theorem zpk {A : List Ed} {k : Int} : ∀ {W : List (List Nat)},begC (W.map (zed A)) k=0 ∨ ∃ w∈W,(zed A w).head? = some k
 | []=>.inl rfl
 | w::W=>by
   by_cases hk : (zed A w).head? = some k
   ·exact .inr ⟨w,List.mem_cons_self ..,hk⟩
   ·rcases zpk (A:=A) (k:=k) (W:=W) with h | ⟨x,hx,hx2⟩
    ·left
     unfold begC at h ⊢
     rw [List.map_cons,List.countP_cons,h]
     simp [hk]
    ·exact .inr ⟨x,List.mem_cons_of_mem _ hx,hx2⟩
theorem ztc {A : List Ed} {n : Nat} {k : Int} : ∀ {W : List (List Nat)},(∀ w∈W,(zed A w).dropLast.count k≤w.count n)→useC (W.map (zed A)) k≤sumN (List.count n) W
 | [],_=>by simp [useC,sumN]
 | w::W,h=>by
   have ih:=ztc (n:=n) (k:=k) fun x hx=>h x (List.mem_cons_of_mem w hx)
   have h1:=h w (List.mem_cons_self ..)
   unfold useC at ih ⊢
   rw [List.map_cons,List.flatMap_cons,List.count_append,zlw]
   omega
theorem zo3 {A : List Ed} {k : Int} : ∀ {W : List (List Nat)},useC (W.map (zed A)) k=0 ∨ ∃ w∈W,k∈(zed A w).dropLast
 | []=>.inl rfl
 | w::W=>by
   by_cases hk : k∈(zed A w).dropLast
   ·exact .inr ⟨w,List.mem_cons_self ..,hk⟩
   ·rcases zo3 (A:=A) (k:=k) (W:=W) with h | ⟨x,hx,hx2⟩
    ·left
     unfold useC at h ⊢
     rw [List.map_cons,List.flatMap_cons,List.count_append,h,List.count_eq_zero.2 hk]
    ·exact .inr ⟨x,List.mem_cons_of_mem _ hx,hx2⟩
theorem zro {A : List Ed} {n : Nat} {k : Int} : ∀ {W : List (List Nat)},(∀ w∈W,(zed A w).getLast? = some k→1≤w.count n)→(zke (W.map (zed A))).count k≤sumN (List.count n) W
 | [],_=>by simp [zke,sumN]
 | w::W,h=>by
   have ih:=zro (n:=n) (k:=k) fun x hx=>h x (List.mem_cons_of_mem w hx)
   have h1:=h w (List.mem_cons_self ..)
   unfold zke at ih ⊢
   rw [List.map_cons,List.filterMap_cons,zlw]
   cases hl : (zed A w).getLast? with
   | none=>simp only; omega
   | some z =>
     simp only [List.count_cons]
     by_cases hz : z=k
     ·subst hz
      have:=h1 hl
      simp only [beq_self_eq_true,if_true]
      omega
     ·have : (z == k)=false:=by simpa using hz
      rw [this]
      simp only [Bool.false_eq_true,if_false]
      omega
theorem zsS {A : List Ed} {E : Int→Int→Prop} {seeds sinks : List Int} {cl : List Int} {f : List Int} {W : List (List Nat)}
  (hk : zjx A E seeds sinks fun x=>cl.getD x.toNat 0) (hf : Fit2 A f) (hw : ∀ w∈W,WayA A 0 w 1∧(metA A w).Nodup) (hs : ∀ i,i<A.length→(sumN (List.count i) W : Int)≤f.getD i 0) (hc : ∀ x∈cl,0≤x) :
  znQ cl (W.map (zed A))∧(zke (W.map (zed A))).Nodup∧(∀ k∈zke (W.map (zed A)),k∈sinks) ∧
  ∀ p∈W.map (zed A),(∃ k,p.head? = some k∧k∈seeds)∧p.Nodup ∧ ∀ i (h : i+1<p.length),E p[i] p[i+1]:=by
 have hfit:=(zf3.1 hf).2
 have hlast : ∀ w∈W,∃ z,(zed A w).getLast? = some z∧z∈sinks ∧ ∃ i∈w,i<A.length∧arcD A i=⟨2+2*z,1,1⟩:=fun w hwW=>by
  obtain ⟨x,i,l',ks,rfl,hi,hxs,hx0,he,hp,hkk⟩:=hk.whole (hw w hwW).1
  obtain ⟨z,hz,hzs,m,hm,hm2,hm3⟩:=hp.ends
  exact ⟨z,by rw [hkk]; exact hz,hzs,m,List.mem_cons_of_mem _ hm,hm2,hm3⟩
 refine ⟨fun k hkl=>⟨?_,?_⟩,zmP fun z=>?_,fun z hz=>?_,fun p hp=>?_⟩
 ·have hck:=hc _ (List.getElem_mem hkl)
  have hcg : cl.getD k 0=cl[k]:=by rw [List.getD_eq_getElem?_getD,List.getElem?_eq_getElem hkl,Option.getD_some]
  rcases zpk (A:=A) (k:=(k : Int)) (W:=W) with h | ⟨w,hwW,hh⟩
  ·rw [h]; exact hck
  ·obtain ⟨x,i,l',ks,rfl,hi,hxs,hx0,he,hp,hkk⟩:=hk.whole (hw w hwW).1
   rw [hkk] at hh
   have hxk : x=k:=Option.some.inj hh
   subst hxk
   have h1:=zuX (A:=A) (n:=i) (k:=(k : Int)) (W:=W) fun v hvW hvk=>by
    obtain ⟨y,j,l2,ks2,rfl,hj,_,_,he2,_,hkk2⟩:=hk.whole (hw v hvW).1
    rw [hkk2] at hvk
    have hyk : y=k:=Option.some.inj hvk
    have : j=i:=hk.uniq j i hj hi (by rw [he2,he]) (by rw [he2,he,hyk])
    subst this
    rw [List.count_cons_self]
    omega
   have h2:=hs i hi
   have h3:=(hfit i hi).2
   rw [he] at h3
   simp only [Int.toNat_natCast] at h3
   rw [hcg] at h3
   omega
 ·have hck:=hc _ (List.getElem_mem hkl)
  have hcg : cl.getD k 0=cl[k]:=by rw [List.getD_eq_getElem?_getD,List.getElem?_eq_getElem hkl,Option.getD_some]
  rcases zo3 (A:=A) (k:=(k : Int)) (W:=W) with h | ⟨w,hwW,hh⟩
  ·rw [h]; omega
  ·obtain ⟨x,i,l',ks,rfl,hi,hxs,hx0,he,hp,hkk⟩:=hk.whole (hw w hwW).1
   rw [hkk] at hh
   obtain ⟨n,hn,hnA⟩:=hp.mids hh
   have h1:=ztc (A:=A) (n:=n) (k:=(k : Int)) (W:=W) fun v hvW=>by
    obtain ⟨y,j,l2,ks2,rfl,hj,_,_,he2,hp2,hkk2⟩:=hk.whole (hw v hvW).1
    rw [hkk2,List.count_cons]
    have:=hp2.uses hk.uniq hn hnA
    omega
   have h2:=hs n hn
   have h3:=(hfit n hn).2
   rw [hnA] at h3
   simp only [Int.toNat_natCast] at h3
   rw [hcg] at h3
   omega
 ·by_cases hz : z∈zke (W.map (zed A))
  ·obtain ⟨p,hp,hpz⟩:=List.mem_filterMap.1 hz
   obtain ⟨w,hwW,rfl⟩:=List.mem_map.1 hp
   obtain ⟨y,hy,hys,i,hiw,hi,hiA⟩:=hlast w hwW
   rw [hpz] at hy
   have hzy : z=y:=Option.some.inj hy
   subst hzy
   have h1:=zro (A:=A) (n:=i) (k:=z) (W:=W) fun v hvW hvz=>by
    obtain ⟨y,hy,_,j,hjv,hj,hjA⟩:=hlast v hvW
    rw [hvz] at hy
    have hzy : z=y:=Option.some.inj hy
    have : j=i:=hk.uniq j i hj hi (by rw [hjA,hiA,hzy]) (by rw [hjA,hiA])
    subst this
    exact List.count_pos_iff.2 hjv
   have h2:=hs i hi
   have h3:=(hfit i hi).2
   rw [hiA] at h3
   simp only at h3
   omega
  ·rw [List.count_eq_zero.2 hz]
   omega
 ·obtain ⟨p,hp,hpz⟩:=List.mem_filterMap.1 hz
  obtain ⟨w,hwW,rfl⟩:=List.mem_map.1 hp
  obtain ⟨y,hy,hys,_⟩:=hlast w hwW
  rw [hpz] at hy
  rw [Option.some.inj hy]
  exact hys
 ·obtain ⟨w,hwW,rfl⟩:=List.mem_map.1 hp
  refine ⟨?_,zqL (hw w hwW).2,?_⟩
  ·obtain ⟨x,i,l',ks,rfl,hi,hxs,hx0,he,hp,hkk⟩:=hk.whole (hw w hwW).1
   exact ⟨x,by rw [hkk]; rfl,hxs⟩
  ·obtain ⟨x,i,l',ks,rfl,hi,hxs,hx0,he,hp,hkk⟩:=hk.whole (hw w hwW).1
   have:=hp.edges
   intro n hn
   simp only [hkk] at hn ⊢
   exact this n hn
theorem zsE (l : List Ed) (key : Int) : (outs l key).length=l.countP fun e=>decide (e.f=key):=by
 induction l with
 | nil=>rfl
 | cons e l ih =>
   unfold outs at *
   by_cases h : e.f=key <;> simp [List.filterMap_cons,List.countP_cons,h,ih]
theorem GrOk.fits {g : Gr} (h : GrOk g) : ∀ e∈g.edges,Fits g e:=by
 intro e he
 obtain ⟨i,hi,rfl⟩:=List.mem_iff_getElem.1 he
 exact (h.2 i hi).1
theorem EqG.rfl' (a : Gr) : EqG a a:=⟨rfl,rfl,rfl⟩
abbrev zh0 (l : List Int) : List Int:=l.mergeSort fun x y=>decide (x≤y)
theorem zkj (l : List Int) : (zh0 l).length=l.length:=List.length_mergeSort ..
theorem zsD {l : List Int} {x : Int} : x∈zh0 l↔x∈l:=List.mem_mergeSort
theorem GrOk.pair {g : Gr} (h : GrOk g) : g.edges.Pairwise Bef:=by
 rw [List.pairwise_iff_getElem]
 intro i j hi hj hij
 exact h.lt j i hi hj hij
theorem zkL {st st' : St} {i j : Nat} {sn : List Nat} {e e' : Ent} (hsz : st'.sz=st.sz) (hh : st'.h=[(j,some e')]) (hj : j<st'.n) (hs : ∀ k∈sn,k≠i) (he : st.hp i=some e) (hee : zau [(i,j)] sn st.hp 4 e=e') (hr : e'.ro≤e'.rows.length) (ht : ∀ p∈st'.t,Wk (conv [(i,j)] sn st.hp 4 (st.get p.1)) p.2) : Le 0 st st' :=
 Le.ents [(i,j)] sn hsz (by simp) (by simp) (by simpa using hj) (by simpa using hs) (Nat.zero_le _) ht (fun p hp=>by
  rw [hh] at hp
  simp at hp
  subst hp
  exact ⟨i,e,e',rfl,by simp,he,zaM.eq hee hr⟩)
end Go.Proofs.YtkngdgplbojdlaaGreat
