/- Texts of this claim,merged. -/
import Derived.Test.YtkngdgplbojdlaaGreatRw8
import Derived.Test.YtkngdgplbojdlaaGreatRw6
import Derived.Test.YtkngdgplbojdlaaGreatProg
import Derived.KernelRfl
import Derived.Test.YtkngdgplbojdlaaGreatRw7
import Derived.Test.YtkngdgplbojdlaaGreatRw5
set_option linter.unusedSimpArgs false
set_option linter.unusedVariables false
set_option linter.unusedSectionVars false
namespace Go.Proofs.YtkngdgplbojdlaaGreat
open Go
theorem zjB : Src Tryz.prog zfX zjn:=mkS Tryz.f5
theorem zqH : Src Tryz.prog zfe zpW:=mkS Tryz.f9
theorem zk7 : Src Tryz.prog zeV zkN:=mkS Tryz.f12
theorem znF : Src Tryz.prog zdO zi7:=mkS Tryz.f14
theorem zpu : Src Tryz.prog zeI zo5:=mkS Tryz.f19
theorem zo7 : Src Tryz.prog zfD zoQ:=mkS Tryz.f21
theorem ztI : Src Tryz.prog zk6 ztL:=mkS Tryz.f25
theorem zr4 : Src Tryz.prog zjG zrL:=mkS Tryz.f27
theorem ztU : Src Tryz.prog ziH zt4:=mkS Tryz.f28
theorem zsl : Src Tryz.prog zji zsk:=mkS Tryz.f32
theorem zrF : Src Tryz.prog zd4 zsa:=mkS Tryz.f36
theorem zjk : Src Tryz.prog zbs zfT:=mkS Tryz.f40
theorem zk5 : Src Tryz.prog zeS zgP:=mkS Tryz.f42
theorem ziy : Src Tryz.prog zbQ zh2:=mkS Tryz.f43
theorem zm7 : Src Tryz.prog zbn zh6:=mkS Tryz.f45
theorem zrv : Src Tryz.prog zd8 zmc:=mkS Tryz.f46
theorem zrl : Src Tryz.prog zgu zqK:=mkS Tryz.f47
theorem ziC : Src Tryz.prog zbS ziF:=mkS Tryz.f50
theorem zlQ : Src Tryz.prog zdR zlI:=mkS Tryz.f52
theorem zpf : Src Tryz.prog zht zpy:=mkS Tryz.f53
theorem zlP : Src Tryz.prog za3 zlw:=mkS Tryz.f54
theorem zd2 : Src Tryz.prog zbr zd7:=mkS Tryz.f55
theorem zlK : Src Tryz.prog zdS zlD:=mkS Tryz.f60
theorem zlG : Src Tryz.prog zdX zly:=mkS Tryz.f61
theorem zph : Src Tryz.prog zfG zo2:=mkS Tryz.f62
theorem znP : Src Tryz.prog zgD znD:=mkS Tryz.f63
theorem zpM : Src Tryz.prog zhf zpe:=mkS Tryz.f64
theorem ztG : Src Tryz.prog zg0 ztB:=mkS Tryz.f65
theorem zq3 : Src Tryz.prog zgj zrb:=mkS Tryz.f66
theorem zwh : Src Tryz.prog znr zvn:=mkS Tryz.f67
theorem zoU : Src Tryz.prog zhn zoT:=mkS Tryz.f70
theorem zqs : Src Tryz.prog zic zqg:=mkS Tryz.f71
theorem zmR : Src Tryz.prog zes zm8:=mkS Tryz.f72
theorem zoY : Src Tryz.prog zex zo0:=mkS Tryz.f73
theorem zpO : Src Tryz.prog zhF zoH:=mkS Tryz.f74
theorem zkM : Src Tryz.prog zeX zg9:=mkS Tryz.f84
theorem zh1 : Src Tryz.prog zcI zfc:=mkS Tryz.f85
theorem zhU : Src Tryz.prog zdf zeN:=mkS Tryz.f86
theorem zjX : Src Tryz.prog zeH zgx:=mkS Tryz.f87
theorem znt : Src Tryz.prog zgE zjf:=mkS Tryz.f91
theorem zoV : Src Tryz.prog zhA zjL:=mkS Tryz.f92
theorem zkB : Src Tryz.prog zeu zgw:=mkS Tryz.f93
theorem zjR : Src Tryz.prog zeD zgk:=mkS Tryz.f95
theorem zq9 : Src Tryz.prog zie zlm:=mkS Tryz.f96
theorem znw : Src Tryz.prog zgM zje:=mkS Tryz.f97
theorem zqa : Src Tryz.prog zh8 zqq:=mkS Tryz.f98
theorem zmY : Src Tryz.prog zf2 zna:=mkS Tryz.f99
theorem zoA : Src Tryz.prog zhH zoW:=mkS Tryz.f100
theorem zds : Src Tryz.prog zbc zdm:=mkS Tryz.f110
theorem zlv : Src Tryz.prog zdV zlV:=mkS Tryz.f111
theorem znI : Src Tryz.prog zgN zns:=mkS Tryz.f115
theorem zmN : Src Tryz.prog zer zmV:=mkS Tryz.f116
theorem zqf : Src Tryz.prog zgo zqJ:=mkS Tryz.f117
theorem zqV : Src Tryz.prog zit zqE:=mkS Tryz.f118
theorem znM : Src Tryz.prog zgJ znO:=mkS Tryz.f121
theorem zoJ : Src Tryz.prog zc2 zoC:=mkS Tryz.f122
theorem zoj : Src Tryz.prog zg7 zop:=mkS Tryz.f123
theorem zfj : Src Tryz.prog zbT zfg:=mkS Tryz.f124
theorem zlT : Src Tryz.prog zaW zlB:=mkS Tryz.f125
theorem zgZ : Src Tryz.prog za5 zeU:=mkS Tryz.f132
theorem zjo : Src Tryz.prog zbJ zfW:=mkS Tryz.f133
theorem ziY : Src Tryz.prog zdE zfC:=mkS Tryz.f135
theorem zkd : Src Tryz.prog zdi zgy:=mkS Tryz.f136
theorem zrj : Src Tryz.prog zdo zln:=mkS Tryz.f137
theorem znn : Src Tryz.prog zfP zl7:=mkS Tryz.f138
theorem znW : Src Tryz.prog ziO zn6:=mkS Tryz.f139
theorem zmZ : Src Tryz.prog zhg zmG:=mkS Tryz.f140
theorem zkA : Src Tryz.prog zey zjZ:=mkS Tryz.f141
theorem zrk : Src Tryz.prog zef zq4:=mkS Tryz.f156
theorem zst : Src Tryz.prog zho zsb:=mkS Tryz.f157
theorem zqR : Src Tryz.prog zcT zpZ:=mkS Tryz.f158
theorem zkP : Src Tryz.prog zaP zkF:=mkS Tryz.f159
theorem zpj : Src Tryz.prog zhw zoI:=mkS Tryz.f160
theorem zss : Src Tryz.prog zhh zrs:=mkS Tryz.f161
theorem zj6 : Src Tryz.prog zdh zkp:=mkS Tryz.f162
theorem zhu : Src Tryz.prog zcY zhc:=mkS Tryz.f163
theorem zfY : Src Tryz.prog zci zfR:=mkS Tryz.f164
theorem zhQ : Src Tryz.prog zd1 zfx:=mkS Tryz.f168
theorem zi1 : Src Tryz.prog zdD zfB:=mkS Tryz.f171
theorem zhb : Src Tryz.prog zcV zeE:=mkS Tryz.f173
theorem zi9 : Src Tryz.prog zdK zi6:=mkS Tryz.f175
theorem zb7 : Src Tryz.prog za2 zb9:=mkS Tryz.f176
theorem zf0 : Src Tryz.prog zc5 zfV:=mkS Tryz.f177
theorem zjb : Src Tryz.prog zdP zjd:=mkS Tryz.f178
theorem zq0 : Src Tryz.prog zij zp9:=mkS Tryz.f185
theorem zjl : Src Tryz.prog zea zjs:=mkS Tryz.f186
theorem zdI : Src Tryz.prog zbM zcJ:=mkS Tryz.f197
theorem zpK : Src Tryz.prog zhi zjW:=mkS Tryz.f199
theorem ziA : Src Tryz.prog zdt zfd:=mkS Tryz.f200
theorem zcw : Src Tryz.prog za7 zcv:=mkS Tryz.f201
theorem zrM : Src Tryz.prog zbY zmI:=mkS Tryz.f209
theorem zwy : Src Tryz.prog zh4 zqW:=mkS Tryz.f210
theorem ztv : Src Tryz.prog zle zob:=mkS Tryz.f211
theorem zc0 : Src Tryz.prog za6 zbw:=mkS Tryz.f212
theorem zlJ : Src Tryz.prog zfr zhN:=mkS Tryz.f213
theorem zjy : Src Tryz.prog zd9 zfQ:=mkS Tryz.f214
theorem znQ : Src Tryz.prog zgH zja:=mkS Tryz.f219
theorem zju : Src Tryz.prog zeb zfU:=mkS Tryz.f220
theorem zwe : Src Tryz.prog znm zqc:=mkS Tryz.f221
theorem zgW : Src Tryz.prog zbX zej:=mkS Tryz.f222
theorem zd3 : Src Tryz.prog zaS zco:=mkS Tryz.f223
theorem zkW : Src Tryz.prog zdw zgU:=mkS Tryz.f224
theorem zhT : Src Tryz.prog zdd zeL:=mkS Tryz.f227
theorem zhy : Src Tryz.prog zc3 zev:=mkS Tryz.f228
theorem zde : Src Tryz.prog za8 zbI:=mkS Tryz.f229
def modI (n m : Int) : Int:=if m<1 then 0 else n % m
theorem zuO {n m : Int} (hm : 0<m) : n.tmod m % m=n % m:=by
 have h:=Int.mul_tdiv_add_tmod n m
 conv=>rhs; rw [<- h]
 rw [Int.add_comm,Int.add_mul_emod_self_left]
theorem ztV {n m : Int} (hm : 0<m) : -m<n.tmod m/\n.tmod m<m:=⟨Int.lt_tmod_of_pos n hm,Int.tmod_lt_of_pos n hm⟩
def zav (L : List Int) (a : Nat) (n : Int) : Int × Nat:=if h : a<L.length then (modI L[a] n,a+1) else (0,a)
abbrev dice (L : List Int) (a : Nat) : Ent:=⟨2,[[ints L,.I a]],0⟩
theorem zao.k1 {rs : List (Nat × Option (Bool × Nat))} {st : St} {vs : List AV} {res : AV} {e : Ent} (h1 : zgp st rs=some vs) (hw : Wk (conv [(0,0)] [] st.hp 4 (resV vs)) res) (he : (st.hp 0).map (zaw [(0,0)] [] st.hp 4)=some e) : zao rs 1 st res [some e] :=
 ⟨vs,h1,[],[],by decide,by simp,by simp,hw,by simpa using he⟩
theorem zwE (L : List Int) : zaj Tryz.prog zjC [ints L] [] (.B (decide (L.length<=400))) []:=by
 refine zr5.ac ?_;show awp _ 0 _ _ ⟨6,[(0,ints L)],[],16⟩;refine zab ?_;refine zan ?_;refine zaa ⟨6,[(2,.B (decide (L.length<=400)))],[],16⟩ rfl ?_ ?_
 .simp
  exact Le.snap [] rfl rfl (by simp <;> exact wkB (by simp; omega))
 refine zah ?_;exact ⟨.inr rfl,zao.one (by simp)⟩
theorem zAk (n m : Int) (hm : m<=9223372036854775807) : zaj Tryz.prog znl [.I n,.I m] [] (.I (modI n m)) []:=by
 refine zuG.ac ?_;show awp _ 0 _ _ ⟨16,[(0,.I n),(1,.I m)],[],16⟩;refine zab ?_;refine zan ?_;refine zab ?_;refine zab ?_;refine zan ?_;refine zac _ rfl (λ h3=>?_) λ h3=>?_
 .try simp at h3
  refine zab ?_;refine zan ?_;refine zah ?_;exact ⟨.inr rfl,zao.one (by simp [modI,h3])⟩
 try simp at h3
 have hm0 : m≠0:=by omega
 have hlt : ¬ m<1:=by omega
 obtain ⟨t1,t2⟩:=ztV (n:=n) (m:=m) (by omega)
 have te:=zuO (n:=n) (m:=m) (by omega)
 refine zad ?_;refine zab ?_;refine zap (s:=?s5) rfl ?o5 ?q5
 case o5=>simp [hm0]; rfl
 refine zab ?_;refine zab ?_;refine zan ?_;refine zac _ rfl (λ h7=>?_) λ h7=>?_
 .try simp at h7
  have hw : IntKind.i64.wrap (n.tmod m+m)=n.tmod m+m:=w6;have hr : n % m=n.tmod m+m:=by rw [<- te,<- Int.add_emod_right,Int.emod_eq_of_lt (by omega) (by omega)]
  refine zap (s:=?s8) rfl ?o8 ?q8
  case o8=>simp [hw]; rfl
  refine zab ?_;refine zan ?_;refine zah ?_;exact ⟨.inr rfl,zao.one (by simp [modI,hlt,hr])⟩
 try simp at h7
 have hr : n % m=n.tmod m:=by rw [<- te,Int.emod_eq_of_lt (by omega) (by omega)]
 refine zad ?_;refine zab ?_;refine zan ?_;refine zah ?_;exact ⟨.inr rfl,zao.one (by simp [modI,hlt,hr])⟩
theorem zyt (L : List Int) : zaj Tryz.prog zkQ [ints L] [] (.pt 0 0 0) [some (dice L 0)]:=by
 refine ztA.ac ?_;show awp _ 0 _ _ ⟨6,[(0,ints L)],[],16⟩;refine zab ?_;refine zan ?_;refine zab ?_;refine zan ?_;refine zah ?_;exact ⟨.inr rfl,zao.out [40] [] rfl (by simp) (by simp) (by simp) (by simp)⟩
theorem zpF (L : List Int) (a : Nat) (n : Int) (hl : L.length<=1099511627776) (ha : a<=L.length) (hn : n<=9223372036854775807) : zaj Tryz.prog zaC [.pt 0 0 0,.I n] [dice L a] (.I (zav L a n).1) [some (dice L (zav L a n).2)]:=by
 refine zm2.ac ?_;show awp _ 1 _ _ ⟨35,[(0,.pt 0 0 0),(1,.I n)],[(0,some (dice L a))],16⟩;refine zab ?_;refine zan ?_;refine zab ?_;refine zab ?_;refine zhs (s:=?s2) (tr:=?t2) rfl ?o2 ?r2 ?q2
 case o2=>simp; constructor <;> rfl
 case r2=>rfl
 refine zac _ rfl (λ h3=>?_) λ h3=>?_
 .try simp at h3
  refine zab ?_;refine zan ?_;refine zah ?_;have hr : zav L a n=(0,a):=by unfold zav; rw [dif_neg (by omega)]
  rw [hr];exact ⟨.inr rfl,zao.k1 rfl (by simp) (by simp [fcd])⟩
 try simp at h3
 have hw : IntKind.i64.wrap ((a : Int)+1)=(a : Int)+1:=w6;have hw0 : IntKind.i64.wrap (a : Int)=(a : Int):=w6;refine zad ?_;refine zab ?_;refine zap (s:=?s5) rfl ?o5 ?q5
 case o5=>simp [hw]; rfl
 refine zab ?_;refine zhs (s:=?s6) (tr:=?t6) rfl ?o6 ?r6 ?q6
 case o6=>simp [hw0,h3]; refine zaq (zAk _ _ hn) rfl ?_; simp; constructor <;> rfl
 case r6=>rfl
 refine zah ?_;have hr : zav L a n=(modI L[a] n,a+1):=by unfold zav; rw [dif_pos h3]
 rw [hr];exact ⟨.inr rfl,zao.k1 rfl (by simp) (by simp [fcd])⟩
theorem zyo {n m : Int} (hm : 0<m) : 0<=modI n m/\modI n m<m:=by
 unfold modI;rw [if_neg (by omega)]
 exact ⟨Int.emod_nonneg _ (by omega),Int.emod_lt_of_pos _ hm⟩
theorem zgq {L : List Int} {a : Nat} {n : Int} (hn : 0<n) : 0<=(zav L a n).1/\(zav L a n).1<n:=by
 unfold zav;split
 .exact zyo hn
 .exact ⟨Int.le_refl _,hn⟩
theorem zcX {L : List Int} {a : Nat} {n : Int} (ha : a<=L.length) : (zav L a n).2<=L.length:=by
 unfold zav;split
 .simp only; omega
 .exact ha
def ofD (L : List Int) (a : Nat) (l : List Int) : Int:=l.getD (zav L a l.length).1.toNat 0
theorem zx5 (L : List Int) (a : Nat) (n : Int) (hl : L.length<=1099511627776) (ha : a<=L.length) (hn0 : 0<=n) (hn : n<=9223372036854775807) : zaj Tryz.prog zdQ [.pt 0 0 0,.I n] [dice L a] (.B (decide ((zav L a n).1=n - 1))) [some (dice L (zav L a n).2)]:=by
 refine znJ.ac ?_;show awp _ 1 _ _ ⟨11,[(0,.pt 0 0 0),(1,.I n)],[(0,some (dice L a))],16⟩;have hw : IntKind.i64.wrap (n - 1)=n - 1:=w6;refine zab ?_;refine zan ?_;refine zab ?_;refine zap (s:=?s2) rfl ?o2 ?q2
 case o2 =>
  simp;refine zcO (i:=0) rfl (e':=dice L a) (by simp [fcd]) (zpF L a n hl ha hn) (by simp) (by simp) ?_
  simp [hw,fcd];rfl
 refine zah ?_;exact ⟨.inr rfl,zao.k1 rfl (by simp <;> exact wkB rfl) (by simp [fcd])⟩
theorem zBd (L : List Int) (a : Nat) (l : List Int) (hl : L.length<=1099511627776) (ha : a<=L.length) (h0 : 0<l.length) (hl2 : l.length<=1099511627776) : zaj Tryz.prog zeq [.pt 0 0 0,ints l] [dice L a] (.I (ofD L a l)) [some (dice L (zav L a l.length).2)]:=by
 refine zpA.ac ?_;show awp _ 1 _ _ ⟨12,[(0,.pt 0 0 0),(1,ints l)],[(0,some (dice L a))],16⟩
 obtain ⟨q,hq,hql⟩ : ∃ q : Nat,(zav L a l.length).1=q/\q<l.length:=by
  have:=zgq (L:=L) (a:=a) (n:=l.length) (by omega)
  exact ⟨(zav L a l.length).1.toNat,by omega,by omega⟩
 have ho : ofD L a l=l[q]:=by unfold ofD; rw [hq]; simp [hql]
 refine zab ?_;refine zan ?_;refine zab ?_;refine zap (s:=?s2) rfl ?o2 ?q2
 case o2 =>
  simp;refine zcO (i:=0) rfl (e':=dice L a) (by simp [fcd]) (zpF L a l.length hl ha (by omega)) (by simp) (by simp) ?_
  simp [hq,hql,fcd];rfl
 refine zah ?_;rw [ho];exact ⟨.inr rfl,zao.k1 rfl (by simp) (by simp [fcd])⟩
section
variable {P : Program} {np id : Nat} {h : Nat->Option Ent} {K : AV->List Nat->List (Nat × Option Ent)->Prop} {s i off len c k l m : Nat}
@[simp] theorem zBZ : aK P np id (.slc s true false false) [.rk i off len c,.sc (.int .i64 (k : Int))] h K=(k<=len/\len<=c/\(∃ e,h i=some e/\e.s=s)/\K (.rk i (off+k) (len - k) (c - k)) [i] []):=by
 rw [zmF];refine propext ⟨?_,?_⟩
 .rintro ⟨l,r,m,n,h1,h2,h4,h5,h6,h7,h3,h10,h11,h8,h9⟩
  obtain rfl:=h6 rfl;simp at h4 h1;subst h1;have : k=l:=by omega
  subst this;obtain rfl:=h11 rfl;exact ⟨h2,h3,h8,h9⟩
 .rintro ⟨h1,h2,h3,h4⟩
  exact ⟨k,len,c,len,rfl,h1,by simp,(λ h=>by cases h),λ _=>rfl,(λ h=>by cases h),h2,Nat.le_refl _,λ _=>rfl,h3,h4⟩
@[simp] theorem zBL : aK P np id (.slc s false true false) [.rk i off len c,.sc (.int .i64 (k : Int))] h K=(k<=c/\(∃ e,h i=some e/\e.s=s)/\K (.rk i off k c) [i] []):=by
 rw [zmF];refine propext ⟨?_,?_⟩
 .rintro ⟨l,r,m,n,h1,h2,h4,h5,h6,h7,h3,h10,h11,h8,h9⟩
  obtain rfl:=h5 rfl;simp at h4 h1;have : k=r:=by omega
  subst this;obtain rfl:=h11 rfl;exact ⟨h3,h8,by simpa using h9⟩
 .rintro ⟨h1,h3,h4⟩
  exact ⟨0,k,c,len,rfl,Nat.zero_le _,by simp,λ _=>rfl,(λ h=>by cases h),(λ h=>by cases h),h1,Nat.le_refl _,λ _=>rfl,h3,by simpa using h4⟩
@[simp] theorem zBq : aK P np id (.slc s true true false) [.rk i off len c,.sc (.int .i64 (l : Int)),.sc (.int .i64 (k : Int))] h K=(l<=k/\k<=c/\(∃ e,h i=some e/\e.s=s)/\K (.rk i (off+l) (k - l) (c - l)) [i] []):=by
 rw [zmF];refine propext ⟨?_,?_⟩
 .rintro ⟨l',r,m,n,h1,h2,h4,h5,h6,h7,h3,h10,h11,h8,h9⟩
  simp at h4 h1;have : k=r:=by omega
  subst this;have : l=l':=by omega
  subst this;obtain rfl:=h11 rfl;exact ⟨h2,h3,h8,h9⟩
 .rintro ⟨h1,h2,h3,h4⟩
  exact ⟨l,k,c,len,rfl,h1,by simp,(λ h=>by cases h),(λ h=>by cases h),(λ h=>by cases h),h2,Nat.le_refl _,λ _=>rfl,h3,h4⟩
@[simp] theorem zBW : aK P np id (.slc s true true true) [.rk i off len c,.sc (.int .i64 (l : Int)),.sc (.int .i64 (k : Int)),.sc (.int .i64 (m : Int))] h K=(l<=k/\k<=m/\m<=c/\(∃ e,h i=some e/\e.s=s)/\K (.rk i (off+l) (k - l) (m - l)) [i] []):=by
 rw [zmF];refine propext ⟨?_,?_⟩
 .rintro ⟨l',r,m',n,h1,h2,h4,h5,h6,h7,h3,h10,h11,h8,h9⟩
  simp at h4 h1;have : k=r:=by omega
  subst this;have : l=l':=by omega
  subst this;have : m=m':=by omega
  subst this;exact ⟨h2,h3,h10,h8,h9⟩
 .rintro ⟨h1,h2,h3,h4,h5⟩
  exact ⟨l,k,m,len,rfl,h1,by simp,(λ h=>by cases h),(λ h=>by cases h),(λ _=>rfl),h2,h3,(λ h=>by cases h),h4,h5⟩
@[simp] theorem zBY : aK P np id (.slc s true false false) [.rs i off len,.sc (.int .i64 (k : Int))] h K=(k<=len/\(∃ e,h i=some e/\e.s=s)/\K (.rs i (off+k) (len - k)) [i] []):=by
 rw [zmF];refine propext ⟨?_,?_⟩
 .rintro ⟨l,r,m,n,h1,h2,h4,h5,h6,h7,h3,h10,h8,h9⟩
  obtain rfl:=h6 rfl;simp at h4 h1;subst h1;have : k=l:=by omega
  subst this;exact ⟨h2,h8,h9⟩
 .rintro ⟨h1,h3,h4⟩
  exact ⟨k,len,0,len,rfl,h1,by simp,(λ h=>by cases h),λ _=>rfl,(λ h=>by cases h),Nat.le_refl _,rfl,h3,h4⟩
@[simp] theorem zBV : aK P np id (.slc s false true false) [.rs i off len,.sc (.int .i64 (k : Int))] h K=(k<=len/\(∃ e,h i=some e/\e.s=s)/\K (.rs i off k) [i] []):=by
 rw [zmF];refine propext ⟨?_,?_⟩
 .rintro ⟨l,r,m,n,h1,h2,h4,h5,h6,h7,h3,h10,h8,h9⟩
  obtain rfl:=h5 rfl;simp at h4 h1;have : k=r:=by omega
  subst this;exact ⟨by omega,h8,by simpa using h9⟩
 .rintro ⟨h1,h3,h4⟩
  exact ⟨0,k,0,len,rfl,Nat.zero_le _,by simp,λ _=>rfl,(λ h=>by cases h),(λ h=>by cases h),h1,rfl,h3,by simpa using h4⟩
end
theorem Le.keep {np : Nat} {st st' : St} (hsz : st'.sz=st.sz) (hn : st.n<=st'.n) (ht : ∀ p∈st'.t,st.get p.1=p.2) (hh : ∀ p∈st'.h,∀ e,p.2=some e->st.hp p.1=some e) : Le np st st':=by
 intro T0 M0 w0 T M a w ok hnp
 have hp : ∀ id e,st'.hp id=some e->st.hp id=some e:=by
  intro id e he;unfold St.hp at he
  cases hl : lkp st'.h id with
  | none=>rw [hl] at he; cases he
  | some v =>
    rw [hl] at he;exact hh _ (zb1 hl) e he
 refine ⟨T,M,⟨ok.sz.trans hsz.symm,ok.df,λ i=>?_,⟨λ id e he=>ok.hs.ent id e (hp id e he),λ id id' e e' g g' b h1 h2=>ok.hs.inj id id' e e' g g' b (hp _ _ h1) (hp _ _ h2)⟩,λ id g hg=>Nat.lt_of_lt_of_le (ok.dom id g hg) hn,ok.after⟩,Nat.le_trans hnp hn⟩;unfold St.get at *
 cases hl : lkp st'.t i with
 | none=>exact .dead _ _
 | some v =>
   have:=ht _ (zb1 hl);simp only at this;show Rep T w M v _;rw [<- this];exact ok.tm i
theorem zao.m1 {rs : List (Nat × Option (Bool × Nat))} {st : St} {vs : List AV} {res : AV} {e : Ent} (i : Nat) (hi : 1<=i) (h1 : zgp st rs=some vs) (hw : Wk (conv [(0,0),(i,1)] [] st.hp 4 (resV vs)) res) (h0 : st.hp 0=none) (he : (st.hp i).map (zaw [(0,0),(i,1)] [] st.hp 4)=some e) : zao rs 1 st res [none,some e] :=
 ⟨vs,h1,[i],[],by simp [List.range,List.range.loop]; omega,by simpa using hi,by simp,by simpa [List.range,List.range.loop] using hw,by simpa [List.range,List.range.loop,h0] using he⟩
theorem GrOk.lt {g : Gr} (h : GrOk g) : ∀ (j i : Nat) (hi : i<g.edges.length) (hj : j<g.edges.length),i<j->Bef g.edges[i] g.edges[j]
 | 0,_,_,_,h0=>by omega
 | j+1,i,hi,hj,hij=>by
   have h1 : Bef g.edges[j] g.edges[j+1]:=zk1.1 ((h.2 (j+1) hj).2.2.2 (by omega))
   rcases Nat.lt_or_ge i j with h2 | h2
   .have h3:=GrOk.lt h j i hi (by omega) h2
    unfold Bef at *;omega
   .obtain rfl : i=j:=by omega
    exact h1
theorem GrOk.mono {g : Gr} (h : GrOk g) (e : Ed) : ∀ (i j : Nat) (hi : i<g.edges.length) (hj : j<g.edges.length),i<=j->Bef g.edges[j] e->Bef g.edges[i] e:=by
 intro i j hi hj hij hb;rcases Nat.lt_or_ge i j with h2 | h2
 .have h3:=h.lt j i hi hj h2
  unfold Bef at *;omega
 .obtain rfl : i=j:=by omega
  exact hb
section
variable {P : Program} {np id : Nat} {h : Nat->Option Ent} {K : AV->List Nat->List (Nat × Option Ent)->Prop} {f : FuncId} {first capt args args' : List AV} {res : AV}
theorem zpJ {i j : Nat} {e e' ej : Ent} {hs' : List (Option Ent)} (hij : j≠i) (hnp : np<=j) (hi : h i=some e) (hj : h j=some ej) (hee : zaw [(i,0)] [j] h 4 e=e') (hc : zaj P f args' [e'] res hs') (h8 : hs'.length<=9) (he : (first++args++capt).map (conv [(i,0)] [j] h 4)=args')
  (hk : K (conv (swp [i] id) [] (λ _=>none) 4 res) [i,j] ((hs'.zipIdx.map λ (e,k)=>((i::(List.range 8).map (id + ·)).getD k 0,e.map (zaw (swp [i] id) [] (λ _=>none) 4)))++[(j,some { ej with ro:=ej.rows.length })])) : aK P np id .call (.fn (.func f) first capt::args) h K :=
 ⟨[i],[j],true,args',[e'],res,hs',by simp,by simpa using hij,by simpa using hnp,by rw [show [i].zipIdx=[(i,0)] from rfl,he]; exact zdz _,by rw [show [i].zipIdx=[(i,0)] from rfl]; simpa [hi] using hee,hc,by simpa using h8,.inl rfl,by simpa [swp,hj] using hk⟩
end
theorem zwX {l : List Ed} {e : Ed} {i : Nat} (h : i<idxE l e) (hi : i<l.length) : Bef l[i] e:=by
 have:=List.not_of_lt_findIdx h
 simpa using this
theorem zxd {l : List Ed} {e : Ed} (h : idxE l e<l.length) : ¬ Bef l[idxE l e] e:=by
 have h1 : l.findIdx (λ x=>!decide (Bef x e))<l.length:=h;have:=List.findIdx_getElem (w:=h1);intro hb;have h2 : decide (Bef l[l.findIdx (λ x=>!decide (Bef x e))] e)=true:=decide_eq_true hb;simp only [h2] at this
 cases this
theorem zw8 {g : Gr} {e : Ed} (hg : GrOk g) (hf : Fits g e) (h1 : 1<=e.v) (h3 : e.v<=3) (ha : ¬ AtE g.edges (idxE g.edges ⟨e.f,e.t,0⟩) e.f e.t) (hl : g.edges.length<500) : GrOk (zq5 g e):=by
 have hle:=zuI g.edges ⟨e.f,e.t,0⟩
 have hb : ∀ i (hi : i<g.edges.length),i<idxE g.edges ⟨e.f,e.t,0⟩->Bef g.edges[i] e:=λ i hi h=>by
  have:=zwX h hi;exact this
 have hn : ∀ (h : idxE g.edges ⟨e.f,e.t,0⟩<g.edges.length),Bef e g.edges[idxE g.edges ⟨e.f,e.t,0⟩]:=λ h=>by
  have h2:=zxd h;have h4 : ¬ (g.edges[idxE g.edges ⟨e.f,e.t,0⟩].f=e.f/\g.edges[idxE g.edges ⟨e.f,e.t,0⟩].t=e.t):=λ q=>ha ⟨h,q⟩;simp only [Bef] at h2 ⊢;omega
 unfold zq5;generalize idxE g.edges ⟨e.f,e.t,0⟩=k at *;have hlen : (g.edges.take k++e::g.edges.drop k).length=g.edges.length+1:=by simp; omega
 have hget : ∀ i (hi : i<(g.edges.take k++e::g.edges.drop k).length),(g.edges.take k++e::g.edges.drop k)[i]=if h : i<k then g.edges[i]'(by omega) else if h2 : i=k then e else g.edges[i - 1]'(by omega):=by
  intro i hi;have htl : (g.edges.take k).length=k:=by simp; omega
  by_cases h : i<k
  .rw [dif_pos h,List.getElem_append_left (by omega),List.getElem_take]
  .rw [dif_neg h,List.getElem_append_right (by omega)]
   by_cases h2 : i=k
   .subst h2
    simp [htl]
   .rw [dif_neg h2]
    rw [List.getElem_cons];rw [dif_neg (by omega),List.getElem_drop]
    congr 1
    omega
 refine ⟨⟨hg.1.1,hg.1.2.1,by simp only [hlen]; omega,hg.1.2.2.2⟩,λ i hi=>?_⟩
 simp only at hi;have hfit : ∀ x : Ed,Fits ⟨g.size,g.edges.take k++e::g.edges.drop k,g.gone⟩ x↔Fits g x:=λ x=>Iff.rfl;simp only [hfit,zk1,hget];have hE:=λ j (hj : j<g.edges.length)=>hg.2 j hj
 by_cases h : i<k
 .simp only [dif_pos h]
  refine ⟨(hE i (by omega)).1,(hE i (by omega)).2.1,(hE i (by omega)).2.2.1,λ h0=>?_⟩
  rw [dif_pos (by omega)]
  exact zk1.1 ((hE i (by omega)).2.2.2 h0)
 .simp only [dif_neg h]
  by_cases h2 : i=k
  .subst h2
   simp only [dif_pos];refine ⟨hf,h1,h3,λ h0=>?_⟩;rw [dif_pos (by omega)]
   exact hb _ _ (by omega)
  .simp only [dif_neg h2]
   refine ⟨(hE (i - 1) (by omega)).1,(hE (i - 1) (by omega)).2.1,(hE (i - 1) (by omega)).2.2.1,λ h0=>?_⟩
   rw [dif_neg (by omega)]
   by_cases h4 : i - 1=k
   .rw [dif_pos h4]
    subst h4;exact hn _
   .rw [dif_neg h4]
    exact hg.lt _ _ _ _ (by omega)
theorem zwD {g : Gr} {e : Ed} (h : (zgg g e).2=0) : GrOk g/\Fits g e/\(1<=e.v/\e.v<=3)/\¬ AtE g.edges (idxE g.edges ⟨e.f,e.t,0⟩) e.f e.t/\g.edges.length<500/\(zgg g e).1=zq5 g e/\GrOk (zq5 g e):=by
 have key : GrOk g/\Fits g e/\(1<=e.v/\e.v<=3)/\¬ AtE g.edges (idxE g.edges ⟨e.f,e.t,0⟩) e.f e.t/\g.edges.length≠500/\(zgg g e).1=zq5 g e:=by
  unfold zgg at *;split at h
  .simp at h
  split at h
  .simp at h
  split at h
  .simp at h
  split at h
  .simp at h
  split at h
  .simp at h
  simp_all
 obtain ⟨h1,h2,h3,h4,h5,h6⟩:=key;have h7 : g.edges.length<500:=by have:=h1.1.2.2.1; omega
 exact ⟨h1,h2,h3,h4,h7,h6,zw8 h1 h2 h3.1 h3.2 h4 h7⟩
noncomputable def zqB (L : List Int) (p : Gr × Nat) : Gr × Nat :=
 (if (zgg p.1 ⟨(zav L p.2 p.1.size).1,(zav L (zav L p.2 p.1.size).2 p.1.size).1,1+(zav L (zav L (zav L p.2 p.1.size).2 p.1.size).2 3).1⟩).2=0
  then (zgg p.1 ⟨(zav L p.2 p.1.size).1,(zav L (zav L p.2 p.1.size).2 p.1.size).1,1+(zav L (zav L (zav L p.2 p.1.size).2 p.1.size).2 3).1⟩).1 else p.1,
  (zav L (zav L (zav L p.2 p.1.size).2 p.1.size).2 3).2)
noncomputable def zxA (L : List Int) : Nat->Gr × Nat->Gr × Nat
 | 0,p=>p
 | n+1,p=>zxA L n (zqB L p)
def zhC (L : List Int) (a : Nat) : Int:=if L.length=0 then 4 else 2+(zav L a 8).1
def zek (L : List Int) (a : Nat) : Gr × Nat :=
 if (zav L (zav L a 8).2 8).1=7 then (⟨zhC L a,[],[(zav L (zav L (zav L a 8).2 8).2 (zhC L a)).1]⟩,(zav L (zav L (zav L a 8).2 8).2 (zhC L a)).2)
 else (⟨zhC L a,[],[]⟩,(zav L (zav L a 8).2 8).2)
noncomputable def zoc (L : List Int) (a : Nat) : Gr × Nat:=zxA L (zav L (zek L a).2 23).1.toNat ((zek L a).1,(zav L (zek L a).2 23).2)
structure zsq (L : List Int) (p : Gr × Nat) : Prop where
 ok : GrOk p.1
 lo : 2<=p.1.size
 hi : p.1.size<=9
 at_ : p.2<=L.length
 few : p.1.gone.length<=1
theorem zmC (L : List Int) (a : Nat) : 2<=zhC L a/\zhC L a<=9:=by
 have:=zgq (L:=L) (a:=a) (n:=8) (by omega)
 unfold zhC;split <;> omega
theorem zmS (L : List Int) (a : Nat) (ha : a<=L.length) : zsq L (zek L a):=by
 have hs:=zmC L a;have h1:=zcX (L:=L) (a:=a) (n:=8) ha;have h2:=zcX (L:=L) (a:=(zav L a 8).2) (n:=8) h1;have hq:=zgq (L:=L) (a:=(zav L (zav L a 8).2 8).2) (n:=zhC L a) (by omega)
 unfold zek;split
 .refine ⟨⟨⟨by simp only; omega,by simp only; omega,by simp,λ i hi=>?_⟩,λ i hi=>absurd hi (by simp)⟩,hs.1,hs.2,zcX h2,by simp⟩
  obtain rfl : i=0:=by simpa using hi
  refine ⟨hq.1,?_,λ h=>by omega⟩
  have:=hq.2;simp only [List.getElem_cons_zero];omega
 .exact ⟨⟨⟨by simp only; omega,by simp only; omega,by simp,λ i hi=>absurd hi (by simp)⟩,λ i hi=>absurd hi (by simp)⟩,hs.1,hs.2,h2,by simp⟩
theorem zod {L : List Int} {p : Gr × Nat} (h : zsq L p) : zsq L (zqB L p):=by
 have h3:=zcX (n:=3) (zcX (n:=p.1.size) (zcX (n:=p.1.size) h.at_));unfold zqB
 by_cases hw : (zgg p.1 ⟨(zav L p.2 p.1.size).1,(zav L (zav L p.2 p.1.size).2 p.1.size).1,1+(zav L (zav L (zav L p.2 p.1.size).2 p.1.size).2 3).1⟩).2=0
 .rw [if_pos hw]
  obtain ⟨_,_,_,_,_,q6,q7⟩:=zwD hw;rw [q6];exact ⟨q7,h.lo,h.hi,h3,h.few⟩
 .rw [if_neg hw]
  exact ⟨h.ok,h.lo,h.hi,h3,h.few⟩
theorem zoi {L : List Int} : ∀ (n : Nat) {p : Gr × Nat},zsq L p->zsq L (zxA L n p)
 | 0,_,h=>h
 | n+1,_,h=>zoi n (zod h)
theorem zrw (L : List Int) (a : Nat) (ha : a<=L.length) : zsq L (zoc L a):=by
 have h:=zmS L a ha;exact zoi _ ⟨h.ok,h.lo,h.hi,zcX h.at_,h.few⟩
theorem zaQ.eq {nl : List (Nat × Nat)} {e e' : Ent} (h : e=e') (hr : e'.ro<=e'.rows.length) : zaQ nl e e':=by
 subst h;exact zaQ.rfl' hr
theorem zaQ.row {nl : List (Nat × Nat)} {s ro : Nat} {e : Ent} {r r' : List AV} (h : e=⟨s,[r],ro⟩) (hr : ro<=1) (hu : UpL nl r r') (hs : s≠0:=by decide) : zaQ nl e ⟨s,[r'],ro⟩:=by
 subst h;refine ⟨rfl,Nat.le_refl _,hr,.inr ⟨hs,rfl,λ i=>?_⟩⟩
 match i with
 | 0=>exact hu
 | _+1=>exact trivial
theorem zuF {nl : List (Nat × Nat)} : ∀ {xs ys : List AV},WkL xs ys->UpL nl xs ys
 | [],[],_=>trivial
 | _::_,_::_,h=>⟨.inl h.1,zuF h.2⟩
 | [],_::_,h=>False.elim h
 | _::_,[],h=>False.elim h
theorem Le.ents {np : Nat} {st st' : St} (ρ : List (Nat × Nat)) (sn : List Nat) (hsz : st'.sz=st.sz)
  (h0 : (ρ.map (·.1)).Nodup) (h1 : (ρ.map (·.2)).Nodup) (h2 : ∀ p∈ρ,p.2<st'.n/\(p.2<np->p.1=p.2)) (h4 : ∀ i∈sn,np<=i/\i∉ρ.map (·.1)) (h5 : np<=st'.n)
  (ht : ∀ p∈st'.t,Wk (conv ρ sn st.hp 4 (st.get p.1)) p.2)
  (hh : ∀ p∈st'.h,∃ q e e',p.2=some e'/\(q,p.1)∈ρ/\st.hp q=some e/\zaQ [] (zaw ρ sn st.hp 4 e) e') : Le np st st' :=
 Le.lst ρ sn [] hsz h0 h1 h2 (by simp) h4 h5 (by simp) (λ p hp=>.inl (ht p hp)) λ p hp e' he'=>by
  obtain ⟨q,e,e2,h1,h2,h3,h4⟩:=hh p hp;rw [he'] at h1
  cases h1;exact .inl ⟨(q,p.1),h2,rfl,e,h3,h4⟩
theorem ziW (L : List Int) (a : Nat) (n : Int) (hl : L.length<=400) (ha : a<=L.length) (hn : n<=9223372036854775807) : zaj Tryz.prog zaC [.pt 0 0 0,.I n] [dice L a] (.I (zav L a n).1) [some (dice L (zav L a n).2)]:=zpF L a n (by omega) ha hn
abbrev zG : Ent:=⟨3,[[.I 0,.nilS,.nilS]],0⟩
abbrev rowG (g : Gr) : Ent:=⟨3,[gC g],0⟩
set_option maxRecDepth 100000 in
theorem zwN (L : List Int) (a : Nat) (hl : L.length<=400) (ha : a<=L.length) : zaj Tryz.prog zdW [.pt 0 0 0] [dice L a] (eG (zoc L a).1) [some (dice L (zoc L a).2)]:=by
 refine zlu.ac ?_;show awp _ 1 _ _ ⟨53,[(0,.pt 0 0 0)],[(0,some (dice L a))],16⟩;have a1:=zcX (L:=L) (a:=a) (n:=8) ha;have r1:=zgq (L:=L) (a:=a) (n:=8) (by omega)
 have hs:=zmC L a;have a2:=zcX (L:=L) (a:=(zav L a 8).2) (n:=8) a1;have hw1 : IntKind.i64.wrap (2+(zav L a 8).1)=2+(zav L a 8).1:=w6;have hm:=zmS L a ha;refine zaa ⟨53,[(0,.pt 0 0 0),(2,.pt 16 0 0)],[(0,some (dice L a)),(16,some zG)],24⟩ rfl ?_ ?_
 .simp
  exact Le.keep rfl (Nat.le_refl _) (by simp) (by simp)
 refine zaa ⟨53,[(0,.pt 0 0 0),(2,.pt 16 0 0),(3,.pt 56 0 0)],[(0,some (dice L (zav L a 8).2)),(16,some zG),(56,some ⟨3,[[.I (2+(zav L a 8).1),.nilS,.nilS]],0⟩)],72⟩ rfl ?_ ?_
 .simp
  refine zcO (i:=0) rfl (e':=dice L a) (by simp [fcd]) (ziW L a 8 hl ha (by omega)) (by simp) (by simp) ?_
  simp [hw1,fcd];exact Le.keep rfl (Nat.le_refl _) (by simp) (by simp)
 refine zaT (ι:=Unit) (λ _=>⟨53,[(0,.pt 0 0 0),(2,.pt 16 0 0),(3,.pt 56 0 0)],[(0,some (dice L (zav L a 8).2)),(16,some zG),(56,some ⟨3,[[.I (zhC L a),.nilS,.nilS]],0⟩)],136⟩) (λ _=>True) ?_ λ _ _=>?_
 .refine zaa ⟨53,[(0,.pt 0 0 0),(2,.pt 16 0 0),(3,.pt 56 0 0),(16,.B (decide (L.length=0)))],[(0,some (dice L (zav L a 8).2)),(16,some zG),(56,some ⟨3,[[.I (2+(zav L a 8).1),.nilS,.nilS]],0⟩)],120⟩ rfl ?_ ?_
  .simp
   exact Le.keep rfl (Nat.le_refl _) (by simp <;> rw [Bool.eq_iff_iff] <;> simp) (by simp)
  refine zac _ rfl (λ h=>?_) λ h=>zad ?_
  .simp only [decide_eq_true_eq] at h
   have hz : zhC L a=4:=by unfold zhC; rw [if_pos h]
   refine zay rfl ?_;simp;exact Le.keep rfl (Nat.le_refl _) (by simp) (by simp [hz])
  .simp only [decide_eq_false_iff_not] at h
   have hz : zhC L a=2+(zav L a 8).1:=by unfold zhC; rw [if_neg h]
   exact ⟨(),trivial,Le.keep rfl (nbz rfl) (by simp) (by simp [hz])⟩
 refine zaT (ι:=Unit) (λ _=>⟨53,[(0,.pt 0 0 0),(2,.pt 16 0 0),(3,.pt 56 0 0)],[(0,some (dice L (zek L a).2)),(16,some zG),(56,some (rowG (zek L a).1))],208⟩) (λ _=>True) ?_ λ _ _=>?_
 .refine zaa ⟨53,[(0,.pt 0 0 0),(2,.pt 16 0 0),(3,.pt 56 0 0),(19,.B (decide ((zav L (zav L a 8).2 8).1=7)))],[(0,some (dice L (zav L (zav L a 8).2 8).2)),(16,some zG),(56,some ⟨3,[[.I (zhC L a),.nilS,.nilS]],0⟩)],152⟩ rfl ?_ ?_
  .simp
   refine zcO (i:=0) rfl (e':=dice L (zav L a 8).2) (by simp [fcd]) (zx5 L _ 8 (by omega) a1 (by omega) (by omega)) (by simp) (by simp) ?_
   simp [fcd];exact Le.keep rfl (Nat.le_refl _) (by simp) (by simp)
  refine zac _ rfl (λ h=>?_) λ h=>zad ?_
  .simp only [decide_eq_true_eq] at h
   have hz : zek L a=(⟨zhC L a,[],[(zav L (zav L (zav L a 8).2 8).2 (zhC L a)).1]⟩,(zav L (zav L (zav L a 8).2 8).2 (zhC L a)).2):=by unfold zek; rw [if_pos h]
   rw [hz];refine zay rfl ?_;simp;refine zcO (i:=0) rfl (e':=dice L (zav L (zav L a 8).2 8).2) (by simp [fcd]) (ziW L (zav L (zav L a 8).2 8).2 (zhC L a) hl a2 (by omega)) (by simp) (by simp) ?_
   simp [fcd];refine Le.ents [(0,0),(16,16),(56,56)] [184] rfl (by simp) (by simp) (by simp) (by simp) (by simp) (by simp) λ p hp=>?_
   simp at hp;rcases hp with rfl | rfl | rfl
   .exact ⟨0,_,_,rfl,by simp,rfl,zaQ.eq (by simp) (by simp)⟩
   .exact ⟨16,_,_,rfl,by simp,rfl,zaQ.eq (by simp) (by simp)⟩
   .exact ⟨56,_,_,rfl,by simp,rfl,zaQ.row (by simp; rfl) (by simp) (zuF (by simp; exact ⟨.nil _ _,.refl _⟩))⟩
  .simp only [decide_eq_false_iff_not] at h
   have hz : zek L a=(⟨zhC L a,[],[]⟩,(zav L (zav L a 8).2 8).2):=by unfold zek; rw [if_neg h]
   rw [hz];refine ⟨(),trivial,Le.ents [(0,0),(16,16),(56,56)] [] rfl (by simp) (by simp) (by simp) (by simp) (by simp) (by simp) λ p hp=>?_⟩
   simp at hp;rcases hp with rfl | rfl | rfl
   .exact ⟨0,_,_,rfl,by simp,rfl,zaQ.eq (by simp) (by simp)⟩
   .exact ⟨16,_,_,rfl,by simp,rfl,zaQ.eq (by simp) (by simp)⟩
   .exact ⟨56,_,_,rfl,by simp,rfl,zaQ.row (by simp; rfl) (by simp) (zuF (by simp; exact ⟨.nil _ _,.nil _ _⟩))⟩
 have r4:=zgq (L:=L) (a:=(zek L a).2) (n:=23) (by omega)
 obtain ⟨n0,hn0⟩ : ∃ n0 : Nat,(zav L (zek L a).2 23).1=n0:=⟨(zav L (zek L a).2 23).1.toNat,by omega⟩
 refine zab ?_;refine zaa ⟨53,[(0,.pt 0 0 0),(2,.pt 16 0 0),(3,.pt 56 0 0),(4,.I n0)],[(0,some (dice L (zav L (zek L a).2 23).2)),(16,some zG),(56,some (rowG (zek L a).1))],232⟩ rfl ?_ ?_
 .simp
  refine zcO (i:=0) rfl (e':=dice L (zek L a).2) (by simp [fcd]) (ziW L (zek L a).2 23 hl hm.at_ (by omega)) (by simp) (by simp) ?_
  simp [fcd,hn0];exact Le.keep rfl (Nat.le_refl _) (by simp) (by simp)
 refine zae ?_
 refine zat (ι:=Nat × Gr × Nat) (λ q=>⟨53,[(0,.pt 0 0 0),(2,.pt 16 0 0),(3,.pt 56 0 0),(4,.I q.1)],[(0,some (dice L q.2.2)),(16,some zG),(56,some (rowG q.2.1))],232⟩)
  (λ q=>q.1<=23/\zsq L q.2/\zxA L q.1 q.2=zoc L a) (λ q=>q.1) (n0,(zek L a).1,(zav L (zek L a).2 23).2) ?_ (Le.refl _ _) ?_
 .refine ⟨by simp only; omega,⟨hm.ok,hm.lo,hm.hi,zcX hm.at_,hm.few⟩,?_⟩
  unfold zoc;rw [hn0];rfl
 rintro ⟨k,p⟩ ⟨hk,hp,hit⟩
 simp only at hk hp hit ⊢;refine zab ?_;refine zaa ⟨53,[(0,.pt 0 0 0),(2,.pt 16 0 0),(3,.pt 56 0 0),(4,.I k),(29,.B (decide (0<k)))],[(0,some (dice L p.2)),(16,some zG),(56,some (rowG p.1))],248⟩ rfl ?_ ?_
 .simp
  exact Le.keep rfl (Nat.le_refl _) (by simp) (by simp)
 refine zac _ rfl (λ h=>zad ?_) λ h=>zar (Go.Proofs.YtkngdgplbojdlaaGreat.hit ?_)
 .simp only [decide_eq_true_eq] at h
  refine zaT (ι:=Unit) (λ _=>⟨53,[(0,.pt 0 0 0),(2,.pt 16 0 0),(3,.pt 56 0 0),(4,.I k)],[(0,some (dice L (zqB L p).2)),(16,some zG),(56,some (rowG (zqB L p).1))],440⟩) (λ _=>True) ?_ λ _ _=>?_
  .refine zae ?_
   have q1:=zcX (n:=p.1.size) hp.at_;have q2:=zcX (n:=p.1.size) q1;have hlo:=hp.lo;have hhi:=hp.hi;have l3:=zgq (L:=L) (a:=(zav L (zav L p.2 p.1.size).2 p.1.size).2) (n:=3) (by omega)
   have hwv : IntKind.i64.wrap (1+(zav L (zav L (zav L p.2 p.1.size).2 p.1.size).2 3).1)=1+(zav L (zav L (zav L p.2 p.1.size).2 p.1.size).2 3).1:=w6;obtain ⟨w,hw⟩ : ∃ w,w=zgg p.1 ⟨(zav L p.2 p.1.size).1,(zav L (zav L p.2 p.1.size).2 p.1.size).1,1+(zav L (zav L (zav L p.2 p.1.size).2 p.1.size).2 3).1⟩:=⟨_,rfl⟩;have hst : zqB L p=(if w.2=0 then w.1 else p.1,(zav L (zav L (zav L p.2 p.1.size).2 p.1.size).2 3).2):=by rw [hw]; rfl
   have h500:=hp.ok.1.2.2.1;have hfew:=hp.few;have hwith:=zpo p.1 ⟨(zav L p.2 p.1.size).1,(zav L (zav L p.2 p.1.size).2 p.1.size).1,1+(zav L (zav L (zav L p.2 p.1.size).2 p.1.size).2 3).1⟩ (by omega) (by omega)
   rw [<- hw] at hwith;rw [hst];refine zaE ⟨53,[(0,.pt 0 0 0),(2,.pt 16 0 0),(3,.pt 56 0 0),(4,.I k),(5,.pv (gC w.1)),(6,.I w.2)],[(0,some (dice L (zav L (zav L (zav L p.2 p.1.size).2 p.1.size).2 3).2)),(16,some zG),(56,some (rowG p.1))],408⟩ rfl ?_ ?_
   .simp
    refine zcO (i:=0) rfl (e':=dice L p.2) (by simp [fcd]) (ziW L p.2 p.1.size hl hp.at_ (by omega)) (by simp) (by simp) ?_
    simp [fcd];refine zcO (i:=0) rfl (e':=dice L (zav L p.2 p.1.size).2) (by simp [fcd]) (ziW L (zav L p.2 p.1.size).2 p.1.size hl q1 (by omega)) (by simp) (by simp) ?_
    simp [fcd];refine zcO (i:=0) rfl (e':=dice L (zav L (zav L p.2 p.1.size).2 p.1.size).2) (by simp [fcd]) (ziW L (zav L (zav L p.2 p.1.size).2 p.1.size).2 3 hl q2 (by omega)) (by simp) (by simp) ?_
    simp [fcd,hwv];refine zaq hwith rfl ?_;simp;refine ⟨rfl,Le.ents [(0,0),(16,16),(56,56)] [384] rfl (by simp) (by simp) (by simp) (by simp) (by simp) (by simp) λ p hp=>?_⟩
    simp at hp;rcases hp with rfl | rfl | rfl
    .exact ⟨0,_,_,rfl,by simp,rfl,zaQ.eq (by simp [fcd]) (by simp)⟩
    .exact ⟨16,_,_,rfl,by simp,rfl,zaQ.eq (by simp) (by simp)⟩
    .exact ⟨56,_,_,rfl,by simp,rfl,zaQ.eq (by simp) (by simp)⟩
   refine zaa ⟨53,[(0,.pt 0 0 0),(2,.pt 16 0 0),(3,.pt 56 0 0),(4,.I k),(5,.pv (gC w.1)),(50,.B (decide (w.2=0)))],[(0,some (dice L (zav L (zav L (zav L p.2 p.1.size).2 p.1.size).2 3).2)),(16,some zG),(56,some (rowG p.1))],424⟩ rfl ?_ ?_
   .simp
    exact Le.keep rfl (Nat.le_refl _) (by simp <;> rw [Bool.eq_iff_iff] <;> simp) (by simp)
   refine zac _ rfl (λ h=>?_) λ h=>zad ?_
   .simp only [decide_eq_true_eq] at h
    refine zay rfl ?_;simp [h];exact Le.keep rfl (nbz rfl) (by simp) (by simp)
   .simp only [decide_eq_false_iff_not] at h
    rw [if_neg h];exact ⟨(),trivial,Le.keep rfl (nbz rfl) (by simp) (by simp)⟩
  have hwk : IntKind.i64.wrap ((k : Int) - 1)=((k - 1 : Nat) : Int):=by rw [w6]; omega
  refine zay rfl ?_;simp [hwk];refine ⟨k - 1,(zqB L p).1,(zqB L p).2,⟨by omega,zod hp,?_⟩,by omega,Le.ents [(0,0),(16,16),(56,56)] [] rfl (by simp) (by simp) (by simp) (by simp) (by simp) (by simp) λ p hp=>?_⟩
  .rw [<- hit]
   obtain ⟨k,rfl⟩ : ∃ j,k=j+1:=⟨k - 1,by omega⟩
   rfl
  .simp at hp
   rcases hp with rfl | rfl | rfl
   .exact ⟨0,_,_,rfl,by simp,rfl,zaQ.eq (by simp [fcd]) (by simp)⟩
   .exact ⟨16,_,_,rfl,by simp,rfl,zaQ.eq (by simp) (by simp)⟩
   .exact ⟨56,_,_,rfl,by simp,rfl,zaQ.eq (by simp) (by simp)⟩
 simp only [decide_eq_false_iff_not] at h;obtain rfl : k=0:=by omega
 have hpe : p=zoc L a:=hit;rw [<- hpe];refine zaa ⟨53,[(2,.pt 16 0 0)],[(0,some (dice L p.2)),(16,some (rowG p.1))],264⟩ rfl ?_ ?_
 .simp
  exact Le.keep rfl (Nat.le_refl _) (by simp) (by simp)
 refine zah ?_;exact ⟨.inr rfl,zao.k1 (vs:=[eG p.1]) rfl (by simp) (by simp [fcd])⟩
def zlU (capt : List AV) : Prop:=∀ ρ sn h n,capt.map (conv ρ sn h (n+1))=capt
def idxQ {α : Type} (l : List α) (q : α->Bool) : Int:=if l.findIdx q<l.length then (l.findIdx q : Int) else -1
theorem zrt {α : Type} {l : List α} {q : α->Bool} {k : Nat} (hk : k<l.length) (h1 : ∀ i,i<k -> ∀ h : i<l.length,q l[i]=false) (h2 : q l[k]=true) : idxQ l q=k:=by
 have : l.findIdx q=k:=by
  rw [List.findIdx_eq hk];exact ⟨h2,λ j hj=>by simpa using h1 j hj (by omega)⟩
 unfold idxQ;rw [this,if_pos hk]
theorem zrB {α : Type} {l : List α} {q : α->Bool} (h1 : ∀ i,i<l.length -> ∀ h : i<l.length,q l[i]=false) : idxQ l q = -1:=by
 have : l.findIdx q=l.length:=by
  rw [List.findIdx_eq_length];intro x hx;obtain ⟨i,hi,rfl⟩:=List.mem_iff_getElem.1 hx;exact h1 i hi hi
 unfold idxQ;rw [this,if_neg (by omega)]
theorem zj8 (f : FuncId) (capt : List AV) (q : Ed->Bool) (l : List Ed) (hl : l.length<=1099511627776) (hs : zlU capt) (hc : ∀ e∈l,zaj Tryz.prog f (eE e::capt) [] (.B (q e)) []) : zaj Tryz.prog zaB [eEs l,.fn (.func f) [] capt] [] (.I (idxQ l q)) []:=by
 have hs2 : ∀ ρ sn h,capt.map (conv ρ sn h 2)=capt:=λ _ _ _=>hs _ _ _ 1
 have hs3 : ∀ ρ sn h,capt.map (conv ρ sn h 3)=capt:=λ _ _ _=>hs _ _ _ 2
 have hs4 : ∀ ρ sn h,capt.map (conv ρ sn h 4)=capt:=λ _ _ _=>hs _ _ _ 3
 refine zbm.ac ?_;show awp _ 0 _ _ ⟨19,[(0,eEs l),(1,.fn (.func f) [] capt)],[],16⟩;refine zab ?_;refine zan ?_;refine zab ?_;refine zab ?_;refine zan ?_;refine zae ?_;refine zat (ι:=Nat) (λ k=>⟨19,[(0,eEs l),(1,.fn (.func f) [] capt),(7,.I l.length),(8,.I k)],[],16⟩) (λ k=>k<=l.length /\ ∀ i,i<k -> ∀ h : i<l.length,q l[i]=false) (λ k=>l.length - k) (0) ?_ (Le.snap [] rfl rfl (by simp [hs2,hs3,hs4])) ?_
 .simp
 rintro k ⟨hk,hp⟩
 refine zab ?_;refine zan ?_;refine zab ?_;refine zac _ rfl (λ h4=>?_) λ h4=>?_
 .try simp at h4
  have hw2 : IntKind.i64.wrap ((k : Int)+1)=(k : Int)+1:=w6;have hck:=hc l[k] (List.getElem_mem h4);refine zad ?_;refine zab ?_;refine zae ?_;refine zab ?_;refine zap (s:=?s5) rfl ?o5 ?q5
  case o5=>simp [h4,hw2]; rfl
  refine zab ?_;refine zap (s:=?s6) rfl ?o6 ?q6
  case o6 =>
   simp [h4,hw2];refine zaq hck ?_ ?_
   .simp [hs2,hs3,hs4]
   simp [h4,hw2]; rfl
  refine zac _ rfl (λ h7=>?_) λ h7=>?_
  .try simp at h7
   refine zab ?_;refine zap (s:=?s8) rfl ?o8 ?q8
   case o8=>simp [h4,hw2]; rfl
   refine zah ?_;exact ⟨.inr rfl,zao.one (by simp [zrt h4 hp h7])⟩
  try simp at h7
  refine zad ?_;refine zap (s:=?s9) rfl ?o9 ?q9
  case o9=>simp [h4,hw2]; rfl
  refine ⟨k+1,⟨h4,λ i hi=>?_⟩,by omega,Le.snap [] rfl rfl (by simp [h4,hw2,hs2,hs3,hs4])⟩
  rcases Nat.lt_succ_iff_lt_or_eq.1 hi with h | rfl
  .exact hp i h
  .exact λ _=>h7
 try simp at h4
 have hall : ∀ i,i<l.length -> ∀ h : i<l.length,q l[i]=false:=λ i hi=>hp i (by omega)
 refine zar ?_;refine hit ?_;refine zab ?_;refine zan ?_;refine zah ?_;exact ⟨.inr rfl,zao.one (by simp [zrB hall])⟩
abbrev zaG (l : List Ed) : List (List AV):=l.map λ e=>[AV.I e.f,AV.I e.t,AV.I e.v]
theorem zkv {l : List Ed} {q : Ed->Bool} (h : ∀ i,i<l.length -> ∀ h : i<l.length,q l[i]=false) : l.filter (λ e=>!q e)=l:=by
 rw [List.filter_eq_self];intro x hx;obtain ⟨i,hi,rfl⟩:=List.mem_iff_getElem.1 hx;simp [h i hi hi]
theorem zhM (l : List Ed) (q : Ed->Bool) (j : Nat) (h : j<l.length) : (l.take (j+1)).filter (λ e=>!q e)=(l.take j).filter (λ e=>!q e)++if q l[j]=true then [] else [l[j]]:=by
 rw [<- List.take_concat_get h,List.concat_eq_append,List.filter_append]
 congr 1
 cases hq : q l[j] <;> simp [hq]
set_option maxRecDepth 100000 in
theorem zjc (f : FuncId) (capt : List AV) (q : Ed->Bool) (l : List Ed) (n m : Nat) (hn : l.length=n) (hm : (l.filter λ e=>!q e).length=m) (hl : n<=1099511627776) (hs : zlU capt) (hc : ∀ e∈l,zaj Tryz.prog f (eE e::capt) [] (.B (q e)) []) :
  zaj Tryz.prog zaL [.rs 0 0 n,.fn (.func f) [] capt] [⟨3,zaG l,0⟩] (.rs 0 0 m) [some ⟨3,zaG (l.filter λ e=>!q e)++List.replicate (n - m) [.I 0,.I 0,.I 0],0⟩]:=by
 have hs2 : ∀ ρ sn h,capt.map (conv ρ sn h 2)=capt:=λ _ _ _=>hs _ _ _ 1
 have hs3 : ∀ ρ sn h,capt.map (conv ρ sn h 3)=capt:=λ _ _ _=>hs _ _ _ 2
 have hs4 : ∀ ρ sn h,capt.map (conv ρ sn h 4)=capt:=λ _ _ _=>hs _ _ _ 3
 refine zbi.acalls (nbz rfl) (nbz rfl) (nbz rfl) ?_;show awp _ 1 _ _ ⟨42,[(0,.rs 0 0 n),(1,.fn (.func f) [] capt)],[(0,some ⟨3,zaG l,0⟩)],16⟩;have hmn : m<=n:=by rw [<- hm,<- hn]; exact List.length_filter_le _ _
 refine zaa ⟨42,[(0,.rs 0 0 n),(1,.fn (.func f) [] capt)],[(0,some ⟨3,zaG l,0⟩)],24⟩ rfl ?_ ?_
 .simp
  exact Le.keep rfl (Nat.le_refl _) (by simp) (by simp)
 refine zaa ⟨42,[(0,.rs 0 0 n),(1,.fn (.func f) [] capt),(5,.I (idxQ l q))],[(0,some ⟨3,zaG l,0⟩)],56⟩ rfl ?_ ?_
 .simp
  refine zll [0] (zj8 f capt q l (by omega) hs hc) ?_ (.sc _) ?_
  .simp [hs2,hs3,hs4,<- hn,fcd,zak]
  simp;exact Le.keep rfl (Nat.le_refl _) (by simp) (by simp)
 refine zab ?_;refine zaa ⟨42,[(0,.rs 0 0 n),(1,.fn (.func f) [] capt),(5,.I (idxQ l q)),(12,.B (decide (idxQ l q = -1)))],[(0,some ⟨3,zaG l,0⟩)],72⟩ rfl ?_ ?_
 .simp
  exact Le.keep rfl (Nat.le_refl _) (by simp <;> rw [Bool.eq_iff_iff] <;> simp) (by simp)
 refine zac _ rfl (λ h=>?_) λ h=>zad ?_
 .simp only [decide_eq_true_eq] at h
  have hno : ∀ i,i<l.length -> ∀ h : i<l.length,q l[i]=false:=by
   intro i hi _;unfold idxQ at h;split at h
   .omega
   .rename_i hnl
    have : l.findIdx q=l.length:=by have:=List.findIdx_le_length (xs:=l) (p:=q); omega
    rw [List.findIdx_eq_length] at this;exact this _ (List.getElem_mem hi)
  have hf:=zkv hno;rw [hf] at hm ⊢;obtain rfl : n=m:=by omega
  refine zab ?_;refine zan ?_;refine zah ?_;refine ⟨.inr rfl,⟨[.rs 0 0 n],rfl,[],[],by simp [List.range,List.range.loop],by simp,by simp,?_,?_⟩⟩
  .simp [List.range,List.range.loop]
  .simp [List.range,List.range.loop,fcd]
 simp only [decide_eq_false_iff_not] at h
 obtain ⟨i0,hi0,hlt,hbef,hat⟩ : ∃ i0 : Nat,idxQ l q=i0/\i0<l.length/\(∀ i,i<i0 -> ∀ h : i<l.length,q l[i]=false) /\ ∀ h : i0<l.length,q l[i0]=true:=by
  unfold idxQ at h ⊢;split at h
  .rename_i hlt
   refine ⟨l.findIdx q,by rw [if_pos hlt],hlt,λ i hi _=>?_,λ h=>List.findIdx_getElem (w:=h)⟩
   simpa using List.not_of_lt_findIdx hi
  .omega
 rw [hi0]
 have hA0 : (l.take (i0+1)).filter (λ e=>!q e)=l.take i0:=by
  rw [zhM l q i0 hlt,if_pos (hat hlt),List.append_nil];refine zkv λ i hi h=>?_;rw [List.length_take] at hi;simp only [List.getElem_take];exact hbef i (by omega) (by omega)
 have hw0 : IntKind.i64.wrap ((i0 : Int)+1)=((i0+1 : Nat) : Int):=by rw [w6]; omega
 let C : Nat × List Ed->St:=λ p=>⟨42,[(0,.rs 0 0 n),(1,.fn (.func f) [] capt),(5,.I ((l.take p.1).filter λ e=>!q e).length),(6,.I p.1)],[(0,some ⟨3,zaG ((l.take p.1).filter (λ e=>!q e)++p.2++l.drop p.1),0⟩)],96⟩
 refine zab ?_;refine zaa (C (i0+1,[l[i0]])) rfl ?_ ?_
 .simp [hw0]
  refine Le.keep rfl (Nat.le_refl _) ?_ ?_
  .simp only [C,hA0]
   simp;omega
  .simp only [C,hA0]
   simp
 refine zae ?_;refine zat C (λ p : Nat × List Ed=>p.1<=n/\p.2≠[]/\((l.take p.1).filter λ e=>!q e).length+p.2.length=p.1) (λ p : Nat × List Ed=>n - p.1) (i0+1,[l[i0]]) ?_ (Le.refl _ _) ?_
 .simp only [hA0]
  simp;omega
 rintro ⟨j,M⟩ ⟨hj,hM,hlen⟩
 simp only at hj hM hlen ⊢;obtain ⟨A,hA⟩ : ∃ A,A=(l.take j).filter λ e=>!q e:=⟨_,rfl⟩;rw [<- hA] at hlen;have hC : C (j,M)=⟨42,[(0,.rs 0 0 n),(1,.fn (.func f) [] capt),(5,.I A.length),(6,.I j)],[(0,some ⟨3,zaG (A++M++l.drop j),0⟩)],96⟩:=by subst hA; rfl
 rw [hC];refine zab ?_;refine zaa ⟨42,[(0,.rs 0 0 n),(1,.fn (.func f) [] capt),(5,.I A.length),(6,.I j),(19,.B (decide (j<n)))],[(0,some ⟨3,zaG (A++M++l.drop j),0⟩)],128⟩ rfl ?_ ?_
 .simp
  exact Le.keep rfl (Nat.le_refl _) (by simp) (by simp)
 refine zac _ rfl (λ h=>zad ?_) λ h=>zar (hit ?_)
 .simp only [decide_eq_true_eq] at h
  have hjl : j<l.length:=by omega
  match M,hM,hlen with
  | m0::M1,_,hlen =>
  simp only [List.length_cons] at hlen;have hnext:=zhM l q j hjl;rw [<- hA] at hnext
  have hget : (zaG (A++m0::M1++l.drop j))[j]? = some [AV.I l[j].f,AV.I l[j].t,AV.I l[j].v]:=by
   rw [List.getElem?_map,List.getElem?_append_right (by simp; omega),List.getElem?_drop,show j+(j - (A++m0::M1).length)=j by simp; omega,List.getElem?_eq_getElem hjl]
   rfl
  have hget2 : (zaG (A++m0::M1++l.drop j))[A.length]? = some [AV.I m0.f,AV.I m0.t,AV.I m0.v]:=by
   rw [List.getElem?_map,List.append_assoc,List.getElem?_append_right (by omega)]
   simp
  have hset : (zaG (A++m0::M1++l.drop j)).set A.length [AV.I l[j].f,AV.I l[j].t,AV.I l[j].v]=zaG ((A++[l[j]])++(M1++[l[j]])++l.drop (j+1)):=by
   have e1 : l.drop j=l[j]::l.drop (j+1):=List.drop_eq_getElem_cons hjl;rw [e1];simp [zaG,List.set_append]
  have hmore : A++m0::M1++l.drop j=A++(m0::M1++[l[j]])++l.drop (j+1):=by
   have e1 : l.drop j=l[j]::l.drop (j+1):=List.drop_eq_getElem_cons hjl;rw [e1];simp
  generalize hrows : zaG (A++m0::M1++l.drop j)=R at *;have hRl : R.length=n:=by rw [<- hrows]; simp; omega
  have hck:=hc l[j] (List.getElem_mem hjl);generalize hv : l[j]=v at *
  refine zaT (ι:=List Ed × List Ed) (λ p=>⟨42,[(0,.rs 0 0 n),(1,.fn (.func f) [] capt),(5,.I p.1.length),(6,.I j)],[(0,some ⟨3,zaG (p.1++p.2++l.drop (j+1)),0⟩)],272⟩)
   (λ p=>p.1=(l.take (j+1)).filter (λ e=>!q e)/\p.2≠[]/\p.1.length+p.2.length=j+1) ?_ ?_
  .refine zae ?_
   refine zaa ⟨42,[(0,.rs 0 0 n),(1,.fn (.func f) [] capt),(5,.I A.length),(6,.I j),(7,.pt 160 0 0)],[(0,some ⟨3,R,0⟩),(160,some ⟨3,[[.I v.f,.I v.t,.I v.v]],0⟩)],176⟩ rfl ?_ ?_
   .simp [h,hget]
    exact Le.keep rfl (Nat.le_refl _) (by simp) (by simp)
   refine zaa ⟨42,[(0,.rs 0 0 n),(1,.fn (.func f) [] capt),(5,.I A.length),(6,.I j),(7,.pt 160 0 0),(29,.B (!q v))],[(0,some ⟨3,R,0⟩),(160,some ⟨3,[[.I v.f,.I v.t,.I v.v]],0⟩)],208⟩ rfl ?_ ?_
   .simp
    refine zaq hck ?_ ?_
    .simp [hs2,hs3,hs4]
    simp;exact Le.keep rfl (Nat.le_refl _) (by simp) (by simp)
   refine zac _ rfl (λ h5=>?_) λ h5=>zad ?_
   .simp only [Bool.not_eq_true'] at h5
    rw [h5] at hnext;refine zaa ⟨42,[(0,.rs 0 0 n),(1,.fn (.func f) [] capt),(5,.I A.length),(6,.I j)],[(0,some ⟨3,zaG ((A++[v])++(M1++[v])++l.drop (j+1)),0⟩)],248⟩ rfl ?_ ?_
    .simp [hget2,show A.length<n by omega,zaO,hset]
     exact Le.keep rfl (Nat.le_refl _) (by simp) (by simp)
    have hwA : IntKind.i64.wrap ((A.length : Int)+1)=((A.length+1 : Nat) : Int):=by rw [w6]; omega
    refine zay rfl ?_;simp [hwA];refine ⟨A++[v],M1++[v],⟨by rw [hnext]; simp,by simp,by simp; omega⟩,Le.keep rfl (Nat.le_refl _) (by simp) (by simp)⟩
   .simp only [Bool.not_eq_false'] at h5
    rw [h5] at hnext;refine ⟨(A,m0::M1++[v]),⟨by rw [hnext]; simp,by simp,by simp; omega⟩,Le.keep rfl (nbz rfl) (by simp) ?_⟩
    rw [<- hmore,hrows];simp
  rintro ⟨A',M'⟩ ⟨p1,p2,p3⟩
  simp only at p1 p2 p3 ⊢;have hwj : IntKind.i64.wrap ((j : Int)+1)=((j+1 : Nat) : Int):=by rw [w6]; omega
  refine zay rfl ?_;simp [hwj];refine ⟨j+1,M',⟨by omega,p2,by rw [<- p1]; omega⟩,by omega,?_⟩
  have hD : C (j+1,M')=⟨42,[(0,.rs 0 0 n),(1,.fn (.func f) [] capt),(5,.I A'.length),(6,.I ((j+1 : Nat) : Int))],[(0,some ⟨3,zaG (A'++M'++l.drop (j+1)),0⟩)],96⟩:=by rw [p1]
  rw [hD];refine Le.ents [(0,0)] [] rfl (by simp) (by simp) (by simp) (by simp) (by simp) (by simp [hs2,hs3,hs4]) λ p hp=>?_
  simp at hp;subst hp;exact ⟨0,_,_,rfl,by simp,rfl,zaQ.eq (by simp [fcd]) (by simp)⟩
 simp only [decide_eq_false_iff_not] at h;obtain rfl : j=n:=by omega
 have hd : l.drop j=[]:=List.drop_eq_nil_of_le (by omega)
 have ht : l.take j=l:=List.take_of_length_le (by omega)
 rw [ht] at hA;rw [hd,List.append_nil];rw [<- hA] at hm ⊢;subst hm;have hAM : (zaG (A++M)).take A.length=zaG A:=by simp [zaG]
 have hAd : (zaG (A++M)).drop (A.length+(j - A.length))=[]:=List.drop_eq_nil_of_le (by simp; omega)
 have hAl : (zaG (A++M)).length=j:=by simp; omega
 generalize zaG (A++M)=R at *;refine zaa ⟨42,[(0,.rs 0 0 j),(5,.I A.length)],[(0,some ⟨3,zaG A++List.replicate (j - A.length) [.I 0,.I 0,.I 0],0⟩)],160⟩ rfl ?_ ?_
 .simp
  refine ⟨by omega,by omega,?_⟩
  rw [hAM,hAd];exact Le.keep rfl (Nat.le_refl _) (by simp) (by simp)
 refine zab ?_;refine zap (s:=?s2) rfl ?o2 ?q2
 case o2 =>
  simp;refine ⟨by omega,?_⟩
  rfl
 refine zah ?_;refine ⟨.inr rfl,⟨[.rs 0 0 A.length],rfl,[],[],by simp [List.range,List.range.loop],by simp,by simp,?_,?_⟩⟩
 .simp [List.range,List.range.loop]
 .simp [List.range,List.range.loop,fcd]
def zai (g : Gr) (v : Int) : Gr:=⟨g.size,g.edges.filter λ e=>!decide (e.v<v),g.gone⟩
theorem zg5 (e : Ed) (v : Int) : zaj Tryz.prog zcm [eE e,.pv [.I v]] [] (.B (decide (e.v<v))) []:=by
 refine zge.ac ?_;show awp _ 0 _ _ ⟨8,[(0,eE e),(1,.pv [.I v])],[],16⟩;refine zaa ⟨8,[(1,.pv [.I v]),(2,.pv (eC e))],[],16⟩ rfl ?_ ?_
 .simp
  exact Le.snap [16] rfl rfl (by simp)
 refine zab ?_;refine zan ?_;refine zah ?_;exact ⟨.inr rfl,zao.one (by simp)⟩
set_option maxRecDepth 100000 in
theorem zgC (g : Gr) (v : Int) (hl : g.edges.length<=1099511627776) (hl2 : g.gone.length<=1099511627776) : zaj Tryz.prog zbR [eG g,.I v] [] (eG (zai g v)) []:=by
 refine zgt.ac ?_;show awp _ 0 _ _ ⟨14,[(0,eG g),(1,.I v)],[],16⟩;obtain ⟨E,hE⟩ : ∃ E,E=g.edges.filter λ e=>!decide (e.v<v):=⟨_,rfl⟩;have hEl : E.length<=g.edges.length:=by rw [hE]; exact List.length_filter_le _ _
 have hdel:=zjc zcm [.pv [.I v]] (λ e=>decide (e.v<v)) g.edges g.edges.length E.length rfl (by rw [hE]) hl (λ ρ sn h n=>by simp) (λ e _=>zg5 e v)
 rw [<- hE] at hdel;have hres : zai g v=⟨g.size,E,g.gone⟩:=by rw [hE]; rfl
 rw [hres];refine zaa ⟨14,[(2,.pv (gC g)),(3,.pt 24 0 0),(4,.pt 32 0 0)],[(24,some ⟨1,[[.I v]],0⟩),(32,some zG)],40⟩ rfl ?_ ?_
 .simp
  refine Le.ents [(24,24),(32,32)] [16] rfl (by simp) (by simp) (by simp) (by simp) (by simp) (by simp) λ p hp=>?_
  simp at hp;rcases hp with rfl | rfl
  .exact ⟨24,_,_,rfl,by simp,rfl,zaQ.eq (by simp) (by simp)⟩
  .exact ⟨32,_,_,rfl,by simp,rfl,zaQ.eq (by simp) (by simp)⟩
 refine zaa ⟨14,[(3,.pt 24 0 0),(4,.pt 32 0 0),(5,.pt 56 0 0)],[(24,some ⟨1,[[.I v]],0⟩),(32,some zG),(56,some ⟨3,[[.I g.size,.rs 48 0 g.edges.length,.rs 49 0 g.gone.length]],0⟩),(48,some ⟨3,zaG g.edges,0⟩),(49,some ⟨1,g.gone.map λ n=>[AV.I n],0⟩)],72⟩ rfl ?_ ?_
 .simp
  refine zsM (zh9 g (by omega) (by omega)) rfl ?_
  simp [fcd];exact Le.keep rfl (Nat.le_refl _) (by simp) (by simp)
 refine zaa ⟨14,[(4,.pt 32 0 0),(5,.pt 56 0 0)],[(32,some zG),(56,some ⟨3,[[.I g.size,.rs 48 0 E.length,.rs 49 0 g.gone.length]],0⟩),(48,some ⟨3,zaG E++List.replicate (g.edges.length - E.length) [.I 0,.I 0,.I 0],0⟩),(49,some ⟨1,g.gone.map λ n=>[AV.I n],0⟩)],120⟩ rfl ?_ ?_
 .simp
  refine zpJ (i:=48) (j:=24) (by decide) (Nat.zero_le _) rfl rfl ?_ hdel (by simp) ?_ ?_
  .simp [fcd]
  .simp
  simp [fcd];exact Le.keep rfl (Nat.le_refl _) (by simp) (by simp)
 refine zab ?_;refine zan ?_;refine zah ?_;refine ⟨.inr rfl,?_⟩;show zao [(4,some (true,3))] 0 _ _ _;refine zao.out (vs:=[.agg [.I g.size,.rs 48 0 E.length,.rs 49 0 g.gone.length]]) [] [48,49] (by simp) (by simp) (by simp) ?_ (by simp)
 simp [fcd,zak]
theorem zqA (l : List Ed) (v : Int) (k : Nat) (h : k<l.length) : (l.take (k+1)).filter (λ e=>!decide (e.v<v))=(l.take k).filter (λ e=>!decide (e.v<v))++if v<=l[k].v then [l[k]] else []:=by
 rw [<- List.take_concat_get h,List.concat_eq_append,List.filter_append]
 congr 1
 by_cases hq : v<=l[k].v
 .have : ¬ l[k].v<v:=by omega
  simp [hq,this]
 .have : l[k].v<v:=by omega
  simp [hq,this]
set_option maxRecDepth 100000 in
theorem ze5 (g : Gr) (v : Int) (hl : g.edges.length<=1099511627776) (hl2 : g.gone.length<=1099511627776) : zaj Tryz.prog zee [eG g,.I v] [] (eG (zai g v)) []:=by
 refine zqm.ac ?_;show awp _ 0 _ _ ⟨36,[(0,eG g),(1,.I v)],[],16⟩;refine zaa ⟨36,[(1,.I v),(2,.pv (gC g)),(4,.pt 24 0 0)],[(24,some zG)],32⟩ rfl ?_ ?_
 .simp
  refine Le.ents [(24,24)] [16] rfl (by simp) (by simp) (by simp) (by simp) (by simp) (by simp) λ p hp=>?_
  simp at hp;subst hp;exact ⟨24,_,_,rfl,by simp,rfl,zaQ.eq (by simp) (by simp)⟩
 refine zaa ⟨36,[(1,.I v),(2,.pv (gC g)),(4,.pt 24 0 0),(5,.pt 48 0 0)],[(24,some zG),(48,some ⟨3,[[.I g.size,.rs 40 0 g.edges.length,.rs 41 0 g.gone.length]],0⟩),(40,some ⟨3,zaG g.edges,0⟩),(41,some ⟨1,g.gone.map λ n=>[AV.I n],0⟩)],64⟩ rfl ?_ ?_
 .simp
  refine zsM (zj3 g (by omega) (by omega)) rfl ?_
  simp [fcd];exact Le.keep rfl (Nat.le_refl _) (by simp) (by simp)
 refine zaa ⟨36,[(1,.I v),(2,.pv (gC g)),(4,.pt 24 0 0),(5,.pt 48 0 0)],[(24,some zG),(48,some ⟨3,[[.I g.size,.nilS,ints g.gone]],0⟩)],80⟩ rfl ?_ ?_
 .simp
  refine Le.ents [(24,24),(48,48)] [41] rfl (by simp) (by simp) (by simp) (by simp) (by simp) (by simp) λ p hp=>?_
  simp at hp;rcases hp with rfl | rfl
  .exact ⟨24,_,_,rfl,by simp,rfl,zaQ.eq (by simp) (by simp)⟩
  .exact ⟨48,_,_,rfl,by simp,rfl,zaQ.eq (by simp [zaO,fcd,zak]) (by simp)⟩
 refine zab ?_;refine zaa ⟨36,[(1,.I v),(2,.pv (gC g)),(4,.pt 24 0 0),(5,.pt 48 0 0),(6,.I 0)],[(24,some zG),(48,some ⟨3,[[.I g.size,.nilS,ints g.gone]],0⟩)],88⟩ rfl ?_ ?_
 .simp
  exact Le.keep rfl (Nat.le_refl _) (by simp) (by simp)
 refine zae ?_
 let F : Nat->List Ed:=λ k=>(g.edges.take k).filter λ e=>!decide (e.v<v)
 let C : Nat->St:=λ k=>⟨36,[(1,.I v),(2,.pv (gC g)),(4,.pt 24 0 0),(5,.pt 48 0 0),(6,.I k)],[(24,some zG),(48,some ⟨3,[[.I g.size,.rs 16 0 (F k).length,ints g.gone]],0⟩),(16,some ⟨3,zaG (F k),0⟩)],88⟩
 refine zat C (λ k=>k<=g.edges.length) (λ k=>g.edges.length - k) 0 (Nat.zero_le _) ?_ ?_
 .refine Le.lst [(24,24),(48,48)] [] [(16,3)] rfl (by simp) (by simp) (by simp [C]) (by simp [C]) (by simp) (by simp) (by simp) (by simp [C,Up]) λ p hp e' he'=>?_
  simp [C] at hp;rcases hp with rfl | rfl | rfl
  .cases he'
   exact .inl ⟨(24,24),by simp,rfl,_,rfl,zaQ.eq (by simp) (by simp)⟩
  .cases he'
   refine .inl ⟨(48,48),by simp,rfl,_,rfl,zaQ.row (by simp; rfl) (by simp) ?_⟩
   exact ⟨.inl (.refl _),.inr ⟨rfl,16,3,by simp [F],by simp⟩,.inl (.refl _),trivial⟩
  .cases he'
   exact .inr ⟨by simp,by simp [F],rfl⟩
 intro k hk
 have hFl : (F k).length<=k:=by
  have h1 : (F k).length<=(g.edges.take k).length:=List.length_filter_le _ _;simp at h1;omega
 have hC : C k=⟨36,[(1,.I v),(2,.pv (gC g)),(4,.pt 24 0 0),(5,.pt 48 0 0),(6,.I k)],[(24,some zG),(48,some ⟨3,[[.I g.size,.rs 16 0 (F k).length,ints g.gone]],0⟩),(16,some ⟨3,zaG (F k),0⟩)],88⟩:=rfl;rw [hC];refine zab ?_;refine zaa ⟨36,[(1,.I v),(2,.pv (gC g)),(4,.pt 24 0 0),(5,.pt 48 0 0),(6,.I k),(14,.B (decide (k<g.edges.length)))],[(24,some zG),(48,some ⟨3,[[.I g.size,.rs 16 0 (F k).length,ints g.gone]],0⟩),(16,some ⟨3,zaG (F k),0⟩)],128⟩ rfl ?_ ?_
 .simp
  exact Le.keep rfl (Nat.le_refl _) (by simp) (by simp)
 refine zac _ rfl (λ h=>zad ?_) λ h=>zar (hit ?_)
 .simp only [decide_eq_true_eq] at h
  have hnext:=zqA g.edges v k h;have hFs : F (k+1)=F k++if v<=g.edges[k].v then [g.edges[k]] else []:=hnext
  refine zaT (ι:=Unit) (λ _=>⟨36,[(1,.I v),(2,.pv (gC g)),(4,.pt 24 0 0),(5,.pt 48 0 0),(6,.I k)],[(24,some zG),(48,some ⟨3,[[.I g.size,.rs 16 0 (F (k+1)).length,ints g.gone]],0⟩),(16,some ⟨3,zaG (F (k+1)),0⟩)],280⟩) (λ _=>True) ?_ λ _ _=>?_
  .rw [hFs]
   generalize F k=A at *;refine zae ?_;refine zaa ⟨36,[(1,.I v),(2,.pv (gC g)),(4,.pt 24 0 0),(5,.pt 48 0 0),(6,.I k),(24,.B (decide (v<=g.edges[k].v)))],[(24,some zG),(48,some ⟨3,[[.I g.size,.rs 16 0 A.length,ints g.gone]],0⟩),(16,some ⟨3,zaG A,0⟩)],192⟩ rfl ?_ ?_
   .simp [h]
    exact Le.keep rfl (Nat.le_refl _) (by simp) (by simp)
   refine zac _ rfl (λ h5=>?_) λ h5=>zad ?_
   .simp only [decide_eq_true_eq] at h5
    rw [if_pos h5];refine zcZ rfl ?_;have hrl : (zaG A).length=A.length:=by simp
    simp [h,zaO,List.replicate];refine ⟨by omega,by omega,rfl,?_⟩
    refine Le.ents [(24,24),(48,48),(256,16)] [] rfl (by simp) (by simp) (by simp) (by simp) (by simp) (by simp) λ p hp=>?_
    simp at hp;rcases hp with rfl | rfl | rfl
    .exact ⟨24,_,_,rfl,by simp,rfl,zaQ.eq (by simp) (by simp)⟩
    .exact ⟨48,_,_,rfl,by simp,rfl,zaQ.eq (by simp) (by simp)⟩
    .exact ⟨256,_,_,rfl,by simp,rfl,zaQ.eq (by simp [fcd,zak]) (by simp)⟩
   .simp only [decide_eq_false_iff_not] at h5
    rw [if_neg h5,List.append_nil];exact ⟨(),trivial,Le.keep rfl (nbz rfl) (by simp) (by simp)⟩
  have hwj : IntKind.i64.wrap ((k : Int)+1)=((k+1 : Nat) : Int):=by rw [w6]; omega
  refine zay rfl ?_;simp [hwj];refine ⟨k+1,by omega,by omega,?_⟩
  refine Le.ents [(24,24),(48,48),(16,16)] [] rfl (by simp) (by simp) (by simp [C]) (by simp) (by simp [C]) (by simp [C]) λ p hp=>?_
  simp [C] at hp;rcases hp with rfl | rfl | rfl
  .exact ⟨24,_,_,rfl,by simp,rfl,zaQ.eq (by simp) (by simp)⟩
  .exact ⟨48,_,_,rfl,by simp,rfl,zaQ.eq (by simp) (by simp)⟩
  .exact ⟨16,_,_,rfl,by simp,rfl,zaQ.eq (by simp [fcd]) (by simp)⟩
 simp only [decide_eq_false_iff_not] at h;obtain rfl : k=g.edges.length:=by omega
 have hF : F g.edges.length=(zai g v).edges:=by
  show (g.edges.take g.edges.length).filter _=_;rw [List.take_of_length_le (Nat.le_refl _)];rfl
 rw [hF];have hres : zai g v=⟨g.size,(zai g v).edges,g.gone⟩:=rfl;rw [hres];generalize (zai g v).edges=E at *;refine zab ?_;refine zan ?_;refine zah ?_;refine ⟨.inr rfl,?_⟩;show zao [(4,some (true,3))] 0 _ _ _;refine zao.out (vs:=[.agg [.I g.size,.rs 16 0 E.length,ints g.gone]]) [] [16] (by simp) (by simp) (by simp) ?_ (by simp)
 simp [fcd,zak]
def zto (g : Gr) (lv f t : Int) : Prop:=∃ e∈g.edges,e.f=f/\e.t=t/\lv<=e.v
theorem ze0 : ∀ {a b : List Int},a.Nodup->(∀ x∈a,x∈b)->b.length<=a.length->a.Perm b
 | [],b,_,_,hl=>by
   have : b=[]:=List.length_eq_zero_iff.1 (by simpa using hl)
   rw [this]
 | x::a,b,hn,hs,hl=>by
   have hx : x∈b:=hs x (List.mem_cons_self ..);rw [List.nodup_cons] at hn;have hb:=List.perm_cons_erase hx;have hlb : (b.erase x).length+1=b.length:=by have:=hb.length_eq; simp at this; omega
   refine (List.Perm.cons x (ze0 hn.2 (λ y hy=>?_) ?_)).trans hb.symm
   .have hy2:=hs y (List.mem_cons_of_mem _ hy)
    have hne : y≠x:=λ e=>hn.1 (e ▸ hy);exact (List.mem_erase_of_ne hne).2 hy2
   .rw [List.length_cons] at hl
    omega
def srt (l : List Int) : List Int:=l.mergeSort λ x y=>decide (x<=y)
theorem ziQ (l : List Int) : (srt l).Perm l:=List.mergeSort_perm ..
theorem zuT (l : List Int) : (srt l).Pairwise (· <= ·):=by
 have h:=List.pairwise_mergeSort (le:=λ x y : Int=>decide (x<=y)) (λ a b c h1 h2=>by simp at *; omega) (λ a b=>by simp; omega) l
 exact h.imp λ {a b} h=>by simpa using h
theorem ziS {a b : List Int} : srt a=srt b↔a.Perm b:=by
 constructor
 .intro h
  exact (ziQ a).symm.trans (h ▸ ziQ b)
 .intro h
  exact List.Perm.eq_of_pairwise (le:=(· <= ·)) (λ x y _ _ h1 h2=>by omega) (zuT a) (zuT b) (((ziQ a).trans h).trans (ziQ b).symm)
def zwK (g : Gr) (lv : Int) (seeds order w : List Int) : Prop :=
 (∃ k,w.head? = some k/\k∈seeds)/\(∀ k∈w,k∈order)/\w.Nodup /\ ∀ i (h : i+1<w.length),zto g lv w[i] w[i+1]
def begC (P : List (List Int)) (k : Int) : Nat:=P.countP λ w=>decide (w.head? = some k)
def useC (P : List (List Int)) (k : Int) : Nat:=(P.flatMap List.dropLast).count k
def zo1 (c : List Int) (P : List (List Int)) : Prop:=∀ k (h : k<c.length),(begC P k : Int)<=c[k]/\(useC P k : Int)<=max 0 (c[k] - 1)
def zkY (P : List (List Int)) : List Int:=P.filterMap List.getLast?
def zld (g : Gr) (lv : Int) (seeds order c : List Int) (P : List (List Int)) (ends : List Int) : Prop :=
 (∀ w∈P,zwK g lv seeds order w)/\zo1 c P/\srt (zkY P)=srt ends
def zmz (g : Gr) (lv : Int) (seeds order c : List Int) (P : List (List Int)) (ends : List Int) : Prop :=
 P.length=ends.length/\ends.Nodup/\(∀ w∈P,zwK g lv seeds order w)/\(∀ k∈zkY P,k∈ends)/\(zkY P).Nodup/\zo1 c P
theorem zwK.ne {g : Gr} {lv : Int} {seeds order w : List Int} (h : zwK g lv seeds order w) : w≠[]:=by
 rintro rfl
 obtain ⟨k,hk,_⟩:=h.1
 cases hk
theorem zqO {P : List (List Int)} (h : ∀ w∈P,w≠[]) : (zkY P).length=P.length:=by
 unfold zkY
 induction P with
 | nil=>rfl
 | cons w P ih =>
   have hw:=h w (List.mem_cons_self ..);rw [List.filterMap_cons,List.getLast?_eq_some_getLast hw];simp only [List.length_cons];rw [ih λ x hx=>h x (List.mem_cons_of_mem _ hx)]
theorem zn8 {g : Gr} {lv : Int} {seeds order c : List Int} {P : List (List Int)} {ends : List Int} (hn : ends.Nodup) : zld g lv seeds order c P ends↔zmz g lv seeds order c P ends:=by
 constructor
 .rintro ⟨h1,h2,h3⟩
  have hp:=ziS.1 h3;have hl:=zqO λ w hw=>(h1 w hw).ne;exact ⟨by rw [<- hl,hp.length_eq],hn,h1,λ k hk=>hp.mem_iff.1 hk,hp.nodup_iff.2 hn,h2⟩
 .rintro ⟨h0,_,h1,h2,h3,h4⟩
  have hl:=zqO λ w hw=>(h1 w hw).ne;exact ⟨h1,h4,ziS.2 (ze0 h3 h2 (by omega))⟩
def zjS (order : List Int) (key : Int) : List Int:=order.takeWhile λ x=>decide (x≠key)
theorem zr6 (x : Int) (o : List Int) (key : Int) : zjS (x::o) key=if x=key then [] else x::zjS o key:=by
 unfold zjS;rw [List.takeWhile_cons]
 by_cases h : x=key <;> simp [h]
def zix (order l : List Int) (key : Int) : Prop:=l.Sublist (zjS order key)
theorem znK (order : List Int) (key : Int) : key∉zjS order key:=by
 induction order with
 | nil=>simp [zjS]
 | cons x o ih =>
   rw [zr6];split
   .simp
   .rename_i h
    simp only [List.mem_cons,not_or];exact ⟨λ e=>h e.symm,ih⟩
theorem zix.nodup {order l : List Int} {key : Int} (h : zix order l key) (hn : order.Nodup) : (l++[key]).Nodup:=by
 rw [List.nodup_append];refine ⟨(hn.sublist (List.takeWhile_sublist _)).sublist h,by simp,λ x hx y hy=>?_⟩
 rw [List.mem_singleton] at hy;subst hy
 rintro rfl
 exact znK order x (h.subset hx)
structure zjQ (A : List Ed) (E : Int->Int->Prop) (seeds sinks : List Int) (c : Int->Int) : Prop where
 kind : ∀ i,i<A.length->(∃ x,x∈seeds/\0<=x/\arcD A i=⟨0,2+2*x,c x⟩)∨(∃ x,0<=x/\arcD A i=⟨2+2*x,3+2*x,c x - 1⟩)∨(∃ x,x∈sinks/\0<=x/\arcD A i=⟨2+2*x,1,1⟩)∨(∃ x y,0<=x/\0<=y/\E x y/\arcD A i=⟨3+2*x,2+2*y,64⟩)
 uniq : ∀ i j,i<A.length->j<A.length->(arcD A i).f=(arcD A j).f->(arcD A i).t=(arcD A j).t->i=j
inductive zjD (A : List Ed) (E : Int->Int->Prop) (sinks : List Int) (c : Int->Int) : Int->List Nat->List Int->Prop
 | last (k : Int) (i : Nat) : i<A.length->arcD A i=⟨2+2*k,1,1⟩->k∈sinks->zjD A E sinks c k [i] []
 | more (k y : Int) (i j : Nat) (l : List Nat) (ks : List Int) : i<A.length->arcD A i=⟨2+2*k,3+2*k,c k - 1⟩->arcD A j=⟨3+2*k,2+2*y,64⟩->E k y->0<=y->zjD A E sinks c y l ks->zjD A E sinks c k (i::j::l) (y::ks)
variable {A : List Ed} {E : Int->Int->Prop} {seeds sinks : List Int} {c : Int->Int}
theorem zjQ.sinkless (h : zjQ A E seeds sinks c) {i : Nat} (hi : i<A.length) : (arcD A i).f≠1:=by
 rcases h.kind i hi with ⟨x,_,hx,e⟩ | ⟨x,hx,e⟩ | ⟨x,_,hx,e⟩ | ⟨x,y,hx,hy,_,e⟩ <;> rw [e] <;> simp only <;> omega
theorem zjQ.path (h : zjQ A E seeds sinks c) : ∀ (n : Nat) (l : List Nat) (k : Int),l.length<=n->0<=k->WayA A (2+2*k) l 1 -> ∃ ks,zjD A E sinks c k l ks
 | _,[],k,_,hk,hw=>by
   have : 2+2*k=1:=hw;omega
 | n,[i],k,_,hk,hw=>by
   obtain ⟨h1,h2,h3⟩:=hw;have h3' : (arcD A i).t=1:=h3;rcases h.kind i h1 with ⟨x,_,hx,e⟩ | ⟨x,hx,e⟩ | ⟨x,hs,hx,e⟩ | ⟨x,y,hx,hy,_,e⟩ <;> rw [e] at h2 h3' <;> simp only at h2 h3'
   .omega
   .omega
   .have : x=k:=by omega
    subst this;exact ⟨[],.last _ i h1 e hs⟩
   .omega
 | 0,_::_::_,_,hn,_,_=>by simp at hn
 | n+1,i::j::l,k,hn,hk,hw=>by
   obtain ⟨h1,h2,h4,h5,h6⟩:=hw;rcases h.kind i h1 with ⟨x,_,hx,e⟩ | ⟨x,hx,e⟩ | ⟨x,hs,hx,e⟩ | ⟨x,y,hx,hy,_,e⟩
   .rw [e] at h2; simp only at h2; omega
   .rw [e] at h2 h5
    simp only at h2 h5;have : x=k:=by omega
    subst this;rcases h.kind j h4 with ⟨z,_,hz,e'⟩ | ⟨z,hz,e'⟩ | ⟨z,hs,hz,e'⟩ | ⟨z,y,hz,hy,hE,e'⟩
    .rw [e'] at h5; simp only at h5; omega
    .rw [e'] at h5; simp only at h5; omega
    .rw [e'] at h5; simp only at h5; omega
    .rw [e'] at h5 h6
     simp only at h5 h6;have : z=x:=by omega
     subst this;obtain ⟨ks,hp⟩:=h.path n l y (by simp at hn; omega) hy h6
     exact ⟨y::ks,.more _ y i j l ks h1 e e' hE hy hp⟩
   .rw [e] at h5
    simp only at h5;exact absurd h5 (h.sinkless h4)
   .rw [e] at h2; simp only at h2; omega
def keyT (t : Int) : Option Int:=if 2<=t/\t % 2=0 then some ((t - 2) / 2) else none
def zem (A : List Ed) (l : List Nat) : List Int:=(metA A l).filterMap keyT
theorem znR {k : Int} (h : 0<=k) : keyT (2+2*k)=some k:=by
 unfold keyT;rw [if_pos ⟨by omega,by omega⟩]
 congr 1
 omega
theorem zwn (k : Int) : keyT (3+2*k)=none:=if_neg (by omega)
theorem zv9 : keyT 1=none:=if_neg (by omega)
theorem zjD.keys {k : Int} {l : List Nat} {ks : List Int} (h : zjD A E sinks c k l ks) : zem A l=ks:=by
 induction h with
 | last k i h1 h2 h3 =>
   unfold zem metA;rw [List.map_cons,List.map_nil,List.filterMap_cons,h2];simp only;rw [zv9];rfl
 | more k y i j l ks h1 h2 h3 h4 h5 h6 ih =>
   unfold zem metA at ih ⊢;rw [List.map_cons,List.map_cons,List.filterMap_cons,h2];simp only;rw [zwn,List.filterMap_cons,h3];simp only;rw [znR h5,ih]
theorem zjD.edges {k : Int} {l : List Nat} {ks : List Int} (h : zjD A E sinks c k l ks) : ∀ i (hi : i+1<(k::ks).length),E (k::ks)[i] (k::ks)[i+1]:=by
 induction h with
 | last k i h1 h2 h3=>intro i hi; simp at hi
 | more k y i j l ks h1 h2 h3 h4 h5 h6 ih =>
   intro n hn
   cases n with
   | zero=>exact h4
   | succ n=>exact ih n (by simpa using hn)
theorem zjD.ends {k : Int} {l : List Nat} {ks : List Int} (h : zjD A E sinks c k l ks) : ∃ z,(k::ks).getLast? = some z/\z∈sinks /\ ∃ i∈l,i<A.length/\arcD A i=⟨2+2*z,1,1⟩:=by
 induction h with
 | last k i h1 h2 h3=>exact ⟨k,rfl,h3,i,List.mem_singleton.2 rfl,h1,h2⟩
 | more k y i j l ks h1 h2 h3 h4 h5 h6 ih =>
   obtain ⟨z,hz,hs,m,hm,hm2,hm3⟩:=ih;exact ⟨z,by rw [List.getLast?_cons_cons]; exact hz,hs,m,List.mem_cons_of_mem _ (List.mem_cons_of_mem _ hm),hm2,hm3⟩
theorem zjD.uses (hu : ∀ i j,i<A.length->j<A.length->(arcD A i).f=(arcD A j).f->(arcD A i).t=(arcD A j).t->i=j) {k : Int} {l : List Nat} {ks : List Int} (h : zjD A E sinks c k l ks) {m : Int} {n : Nat} (hn : n<A.length) (hm : arcD A n=⟨2+2*m,3+2*m,c m - 1⟩) : (k::ks).dropLast.count m<=l.count n:=by
 induction h with
 | last k i h1 h2 h3=>simp
 | more k y i j l ks h1 h2 h3 h4 h5 h6 ih =>
   rw [List.dropLast_cons_of_ne_nil (by simp),List.count_cons]
   have h7 : l.count n<=(j::l).count n:=by rw [List.count_cons]; omega
   rw [List.count_cons]
   by_cases hk : k=m
   .subst hk
    have : i=n:=hu i n h1 hn (by rw [h2,hm]) (by rw [h2,hm])
    subst this;simp only [beq_self_eq_true,if_true];omega
   .have hk' : (k == m)=false:=by simpa using hk
    rw [hk'];simp only [Bool.false_eq_true,if_false];omega
theorem zjD.mids {k : Int} {l : List Nat} {ks : List Int} (h : zjD A E sinks c k l ks) {m : Int} (hm : m∈(k::ks).dropLast) : ∃ n,n<A.length/\arcD A n=⟨2+2*m,3+2*m,c m - 1⟩:=by
 induction h with
 | last k i h1 h2 h3=>simp at hm
 | more k y i j l ks h1 h2 h3 h4 h5 h6 ih =>
   rw [List.dropLast_cons_of_ne_nil (by simp)] at hm
   rcases List.mem_cons.1 hm with rfl | hm
   .exact ⟨i,h1,h2⟩
   .exact ih hm
theorem zjQ.whole (h : zjQ A E seeds sinks c) {l : List Nat} (hw : WayA A 0 l 1) : ∃ x i l' ks,l=i::l'/\i<A.length/\x∈seeds/\0<=x/\arcD A i=⟨0,2+2*x,c x⟩/\zjD A E sinks c x l' ks/\zem A l=x::ks:=by
 cases l with
 | nil=>have : (0 : Int)=1:=hw; omega
 | cons i l =>
   obtain ⟨h1,h2,h3⟩:=hw;rcases h.kind i h1 with ⟨x,hs,hx,e⟩ | ⟨x,hx,e⟩ | ⟨x,hs,hx,e⟩ | ⟨x,y,hx,hy,_,e⟩
   .rw [e] at h3
    obtain ⟨ks,hp⟩:=h.path l.length l x (Nat.le_refl _) hx h3;refine ⟨x,i,l,ks,rfl,h1,hs,hx,e,hp,?_⟩;have hk:=hp.keys;unfold zem metA at hk ⊢;rw [List.map_cons,List.filterMap_cons,e];simp only;rw [znR hx,hk]
   .rw [e] at h2; simp only at h2; omega
   .rw [e] at h2; simp only at h2; omega
   .rw [e] at h2; simp only at h2; omega
theorem zr7 {l : List Nat} (h : (metA A l).Nodup) : (zem A l).Nodup:=by
 unfold zem;refine List.Pairwise.filterMap _ (λ a a' hne b hb b' hb'=>?_) h;unfold keyT at hb hb';split at hb <;> split at hb' <;> simp at hb hb' <;> omega
def sumN (g : List Nat->Nat) (W : List (List Nat)) : Nat:=(W.map g).sum
theorem zmj (g : List Nat->Nat) (w : List Nat) (W : List (List Nat)) : sumN g (w::W)=g w+sumN g W:=by simp [sumN]
theorem znz {l : List Int} (h : ∀ x,l.count x<=1) : l.Nodup:=by
 induction l with
 | nil=>exact List.nodup_nil
 | cons x l ih =>
   rw [List.nodup_cons];refine ⟨λ hm=>?_,ih λ y=>?_⟩
   .have h1:=h x
    rw [List.count_cons_self] at h1;have h2:=List.count_pos_iff.2 hm;omega
   .have h1:=h y
    rw [List.count_cons] at h1;omega
theorem zvv {A : List Ed} {n : Nat} {k : Int} : ∀ {W : List (List Nat)},(∀ w∈W,(zem A w).head? = some k->1<=w.count n)->begC (W.map (zem A)) k<=sumN (List.count n) W
 | [],_=>by simp [begC,sumN]
 | w::W,h=>by
   have ih:=zvv (n:=n) (k:=k) λ x hx=>h x (List.mem_cons_of_mem w hx);have h1:=h w (List.mem_cons_self ..);unfold begC at ih ⊢;rw [List.map_cons,List.countP_cons,zmj]
   by_cases hk : (zem A w).head? = some k
   .have:=h1 hk
    simp only [hk,decide_true,if_true];omega
   .simp only [hk,decide_false,Bool.false_eq_true,if_false]
    omega
theorem zqr {A : List Ed} {k : Int} : ∀ {W : List (List Nat)},begC (W.map (zem A)) k=0 ∨ ∃ w∈W,(zem A w).head? = some k
 | []=>.inl rfl
 | w::W=>by
   by_cases hk : (zem A w).head? = some k
   .exact .inr ⟨w,List.mem_cons_self ..,hk⟩
   .rcases zqr (A:=A) (k:=k) (W:=W) with h | ⟨x,hx,hx2⟩
    .left
     unfold begC at h ⊢;rw [List.map_cons,List.countP_cons,h];simp [hk]
    .exact .inr ⟨x,List.mem_cons_of_mem _ hx,hx2⟩
theorem zv7 {A : List Ed} {n : Nat} {k : Int} : ∀ {W : List (List Nat)},(∀ w∈W,(zem A w).dropLast.count k<=w.count n)->useC (W.map (zem A)) k<=sumN (List.count n) W
 | [],_=>by simp [useC,sumN]
 | w::W,h=>by
   have ih:=zv7 (n:=n) (k:=k) λ x hx=>h x (List.mem_cons_of_mem w hx);have h1:=h w (List.mem_cons_self ..);unfold useC at ih ⊢;rw [List.map_cons,List.flatMap_cons,List.count_append,zmj];omega
theorem zqi {A : List Ed} {k : Int} : ∀ {W : List (List Nat)},useC (W.map (zem A)) k=0 ∨ ∃ w∈W,k∈(zem A w).dropLast
 | []=>.inl rfl
 | w::W=>by
   by_cases hk : k∈(zem A w).dropLast
   .exact .inr ⟨w,List.mem_cons_self ..,hk⟩
   .rcases zqi (A:=A) (k:=k) (W:=W) with h | ⟨x,hx,hx2⟩
    .left
     unfold useC at h ⊢;rw [List.map_cons,List.flatMap_cons,List.count_append,h,List.count_eq_zero.2 hk]
    .exact .inr ⟨x,List.mem_cons_of_mem _ hx,hx2⟩
theorem zsA {A : List Ed} {n : Nat} {k : Int} : ∀ {W : List (List Nat)},(∀ w∈W,(zem A w).getLast? = some k->1<=w.count n)->(zkY (W.map (zem A))).count k<=sumN (List.count n) W
 | [],_=>by simp [zkY,sumN]
 | w::W,h=>by
   have ih:=zsA (n:=n) (k:=k) λ x hx=>h x (List.mem_cons_of_mem w hx);have h1:=h w (List.mem_cons_self ..);unfold zkY at ih ⊢;rw [List.map_cons,List.filterMap_cons,zmj]
   cases hl : (zem A w).getLast? with
   | none=>simp only; omega
   | some z =>
     simp only [List.count_cons]
     by_cases hz : z=k
     .subst hz
      have:=h1 hl;simp only [beq_self_eq_true,if_true];omega
     .have : (z == k)=false:=by simpa using hz
      rw [this];simp only [Bool.false_eq_true,if_false];omega
theorem ztR {A : List Ed} {E : Int->Int->Prop} {seeds sinks : List Int} {cl : List Int} {f : List Int} {W : List (List Nat)}
  (hk : zjQ A E seeds sinks λ x=>cl.getD x.toNat 0) (hf : Fit2 A f) (hw : ∀ w∈W,WayA A 0 w 1/\(metA A w).Nodup) (hs : ∀ i,i<A.length->(sumN (List.count i) W : Int)<=f.getD i 0) (hc : ∀ x∈cl,0<=x) :
  zo1 cl (W.map (zem A))/\(zkY (W.map (zem A))).Nodup/\(∀ k∈zkY (W.map (zem A)),k∈sinks) /\
  ∀ p∈W.map (zem A),(∃ k,p.head? = some k/\k∈seeds)/\p.Nodup /\ ∀ i (h : i+1<p.length),E p[i] p[i+1]:=by
 have hfit:=(zeo.1 hf).2
 have hlast : ∀ w∈W,∃ z,(zem A w).getLast? = some z/\z∈sinks /\ ∃ i∈w,i<A.length/\arcD A i=⟨2+2*z,1,1⟩:=λ w hwW=>by
  obtain ⟨x,i,l',ks,rfl,hi,hxs,hx0,he,hp,hkk⟩:=hk.whole (hw w hwW).1;obtain ⟨z,hz,hzs,m,hm,hm2,hm3⟩:=hp.ends;exact ⟨z,by rw [hkk]; exact hz,hzs,m,List.mem_cons_of_mem _ hm,hm2,hm3⟩
 refine ⟨λ k hkl=>⟨?_,?_⟩,znz λ z=>?_,λ z hz=>?_,λ p hp=>?_⟩
 .have hck:=hc _ (List.getElem_mem hkl)
  have hcg : cl.getD k 0=cl[k]:=by rw [List.getD_eq_getElem?_getD,List.getElem?_eq_getElem hkl,Option.getD_some]
  rcases zqr (A:=A) (k:=(k : Int)) (W:=W) with h | ⟨w,hwW,hh⟩
  .rw [h]; exact hck
  .obtain ⟨x,i,l',ks,rfl,hi,hxs,hx0,he,hp,hkk⟩:=hk.whole (hw w hwW).1
   rw [hkk] at hh;have hxk : x=k:=Option.some.inj hh;subst hxk
   have h1:=zvv (A:=A) (n:=i) (k:=(k : Int)) (W:=W) λ v hvW hvk=>by
    obtain ⟨y,j,l2,ks2,rfl,hj,_,_,he2,_,hkk2⟩:=hk.whole (hw v hvW).1;rw [hkk2] at hvk;have hyk : y=k:=Option.some.inj hvk;have : j=i:=hk.uniq j i hj hi (by rw [he2,he]) (by rw [he2,he,hyk])
    subst this;rw [List.count_cons_self];omega
   have h2:=hs i hi;have h3:=(hfit i hi).2;rw [he] at h3;simp only [Int.toNat_natCast] at h3;rw [hcg] at h3;omega
 .have hck:=hc _ (List.getElem_mem hkl)
  have hcg : cl.getD k 0=cl[k]:=by rw [List.getD_eq_getElem?_getD,List.getElem?_eq_getElem hkl,Option.getD_some]
  rcases zqi (A:=A) (k:=(k : Int)) (W:=W) with h | ⟨w,hwW,hh⟩
  .rw [h]; omega
  .obtain ⟨x,i,l',ks,rfl,hi,hxs,hx0,he,hp,hkk⟩:=hk.whole (hw w hwW).1
   rw [hkk] at hh;obtain ⟨n,hn,hnA⟩:=hp.mids hh
   have h1:=zv7 (A:=A) (n:=n) (k:=(k : Int)) (W:=W) λ v hvW=>by
    obtain ⟨y,j,l2,ks2,rfl,hj,_,_,he2,hp2,hkk2⟩:=hk.whole (hw v hvW).1;rw [hkk2,List.count_cons];have:=hp2.uses hk.uniq hn hnA;omega
   have h2:=hs n hn;have h3:=(hfit n hn).2;rw [hnA] at h3;simp only [Int.toNat_natCast] at h3;rw [hcg] at h3;omega
 .by_cases hz : z∈zkY (W.map (zem A))
  .obtain ⟨p,hp,hpz⟩:=List.mem_filterMap.1 hz
   obtain ⟨w,hwW,rfl⟩:=List.mem_map.1 hp;obtain ⟨y,hy,hys,i,hiw,hi,hiA⟩:=hlast w hwW;rw [hpz] at hy;have hzy : z=y:=Option.some.inj hy;subst hzy
   have h1:=zsA (A:=A) (n:=i) (k:=z) (W:=W) λ v hvW hvz=>by
    obtain ⟨y,hy,_,j,hjv,hj,hjA⟩:=hlast v hvW;rw [hvz] at hy;have hzy : z=y:=Option.some.inj hy;have : j=i:=hk.uniq j i hj hi (by rw [hjA,hiA,hzy]) (by rw [hjA,hiA])
    subst this;exact List.count_pos_iff.2 hjv
   have h2:=hs i hi;have h3:=(hfit i hi).2;rw [hiA] at h3;simp only at h3;omega
  .rw [List.count_eq_zero.2 hz]
   omega
 .obtain ⟨p,hp,hpz⟩:=List.mem_filterMap.1 hz
  obtain ⟨w,hwW,rfl⟩:=List.mem_map.1 hp;obtain ⟨y,hy,hys,_⟩:=hlast w hwW;rw [hpz] at hy;rw [Option.some.inj hy];exact hys
 .obtain ⟨w,hwW,rfl⟩:=List.mem_map.1 hp
  refine ⟨?_,zr7 (hw w hwW).2,?_⟩
  .obtain ⟨x,i,l',ks,rfl,hi,hxs,hx0,he,hp,hkk⟩:=hk.whole (hw w hwW).1
   exact ⟨x,by rw [hkk]; rfl,hxs⟩
  .obtain ⟨x,i,l',ks,rfl,hi,hxs,hx0,he,hp,hkk⟩:=hk.whole (hw w hwW).1
   have:=hp.edges;intro n hn;simp only [hkk] at hn ⊢;exact this n hn
theorem zur (l : List Ed) (key : Int) : (outs l key).length=l.countP λ e=>decide (e.f=key):=by
 induction l with
 | nil=>rfl
 | cons e l ih =>
   unfold outs at *
   by_cases h : e.f=key <;> simp [List.filterMap_cons,List.countP_cons,h,ih]
theorem GrOk.fits {g : Gr} (h : GrOk g) : ∀ e∈g.edges,Fits g e:=by
 intro e he;obtain ⟨i,hi,rfl⟩:=List.mem_iff_getElem.1 he;exact (h.2 i hi).1
theorem EqG.rfl' (a : Gr) : EqG a a:=⟨rfl,rfl,rfl⟩
abbrev ziG (l : List Int) : List Int:=l.mergeSort λ x y=>decide (x<=y)
theorem zkO (l : List Int) : (ziG l).length=l.length:=List.length_mergeSort ..
theorem ztY {l : List Int} {x : Int} : x∈ziG l↔x∈l:=List.mem_mergeSort
theorem GrOk.pair {g : Gr} (h : GrOk g) : g.edges.Pairwise Bef:=by
 rw [List.pairwise_iff_getElem];intro i j hi hj hij;exact h.lt j i hi hj hij
theorem zlb {st st' : St} {i j : Nat} {sn : List Nat} {e e' : Ent} (hsz : st'.sz=st.sz) (hh : st'.h=[(j,some e')]) (hj : j<st'.n) (hs : ∀ k∈sn,k≠i) (he : st.hp i=some e) (hee : zaw [(i,j)] sn st.hp 4 e=e') (hr : e'.ro<=e'.rows.length) (ht : ∀ p∈st'.t,Wk (conv [(i,j)] sn st.hp 4 (st.get p.1)) p.2) : Le 0 st st' :=
 Le.ents [(i,j)] sn hsz (by simp) (by simp) (by simpa using hj) (by simpa using hs) (Nat.zero_le _) ht (λ p hp=>by
  rw [hh] at hp;simp at hp;subst hp
  exact ⟨i,e,e',rfl,by simp,he,zaQ.eq hee hr⟩)
end Go.Proofs.YtkngdgplbojdlaaGreat
