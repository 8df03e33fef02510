/- Texts of this claim,merged. -/
import Derived.Test.YtkngdgplbojdlaaGreatRx9
import Derived.Test.YtkngdgplbojdlaaGreatRx7
import Derived.Test.YtkngdgplbojdlaaGreatProg
import Derived.KernelRfl
import Derived.Test.YtkngdgplbojdlaaGreatRx8
import Derived.Test.YtkngdgplbojdlaaGreatRx5
set_option linter.unusedSimpArgs false
set_option linter.unusedVariables false
set_option linter.unusedSectionVars false
namespace Go.Proofs.YtkngdgplbojdlaaGreat
open Go
theorem zjn : Src Tryz.prog zfZ zjq:=mkS Tryz.f4
theorem zqF : Src Tryz.prog zgm zqI:=mkS Tryz.f9
theorem zkY : Src Tryz.prog zeX zkO:=mkS Tryz.f12
theorem znN : Src Tryz.prog zdI zjc:=mkS Tryz.f14
theorem zpm : Src Tryz.prog zdu zoC:=mkS Tryz.f19
theorem zsm : Src Tryz.prog zg7 zrq:=mkS Tryz.f20
theorem zps : Src Tryz.prog zfG zpt:=mkS Tryz.f21
theorem zrp : Src Tryz.prog zjD zr8:=mkS Tryz.f22
theorem zt0 : Src Tryz.prog ziJ zud:=mkS Tryz.f25
theorem ztz : Src Tryz.prog zkC ztR:=mkS Tryz.f28
theorem zrZ : Src Tryz.prog zjp zsn:=mkS Tryz.f32
theorem zrx : Src Tryz.prog zd0 zsb:=mkS Tryz.f36
theorem zjs : Src Tryz.prog zbq zf8:=mkS Tryz.f40
theorem zk1 : Src Tryz.prog zeU zgY:=mkS Tryz.f42
theorem zis : Src Tryz.prog zbT zhT:=mkS Tryz.f43
theorem zm8 : Src Tryz.prog zbj zhR:=mkS Tryz.f45
theorem zrn : Src Tryz.prog zd5 zmp:=mkS Tryz.f46
theorem zqW : Src Tryz.prog zeh zq0:=mkS Tryz.f47
theorem zib : Src Tryz.prog zbU ziD:=mkS Tryz.f50
theorem zlM : Src Tryz.prog zdT zlt:=mkS Tryz.f52
theorem zpB : Src Tryz.prog zho zpN:=mkS Tryz.f53
theorem zlr : Src Tryz.prog za3 zlO:=mkS Tryz.f54
theorem zd7 : Src Tryz.prog zbr zd1:=mkS Tryz.f55
theorem zlD : Src Tryz.prog zdY zlF:=mkS Tryz.f60
theorem zlK : Src Tryz.prog zdW zlz:=mkS Tryz.f61
theorem zoX : Src Tryz.prog zfE zph:=mkS Tryz.f62
theorem znL : Src Tryz.prog zgN znt:=mkS Tryz.f63
theorem zt6 : Src Tryz.prog ziO zue:=mkS Tryz.f65
theorem zpZ : Src Tryz.prog ziC zpX:=mkS Tryz.f66
theorem zvc : Src Tryz.prog zmm zuW:=mkS Tryz.f67
theorem zo0 : Src Tryz.prog zhq zpz:=mkS Tryz.f70
theorem zpS : Src Tryz.prog zh8 zrd:=mkS Tryz.f71
theorem zmf : Src Tryz.prog zev zm6:=mkS Tryz.f72
theorem zpp : Src Tryz.prog zeE zpj:=mkS Tryz.f73
theorem zpw : Src Tryz.prog zhj zoH:=mkS Tryz.f74
theorem zk0 : Src Tryz.prog zeS zg3:=mkS Tryz.f84
theorem zhZ : Src Tryz.prog zcB zfi:=mkS Tryz.f85
theorem zhN : Src Tryz.prog zdb zeJ:=mkS Tryz.f86
theorem zke : Src Tryz.prog zet zgh:=mkS Tryz.f87
theorem znA : Src Tryz.prog zgI zi9:=mkS Tryz.f91
theorem zpE : Src Tryz.prog zhl zjR:=mkS Tryz.f92
theorem zj1 : Src Tryz.prog zes zgs:=mkS Tryz.f93
theorem zkp : Src Tryz.prog zel zgo:=mkS Tryz.f95
theorem zrb : Src Tryz.prog zhU zk9:=mkS Tryz.f96
theorem znD : Src Tryz.prog zgD zi3:=mkS Tryz.f97
theorem zqi : Src Tryz.prog zhQ zqw:=mkS Tryz.f98
theorem zl2 : Src Tryz.prog zfK zmS:=mkS Tryz.f99
theorem zpM : Src Tryz.prog zha zpx:=mkS Tryz.f100
theorem zdo : Src Tryz.prog zbc zdp:=mkS Tryz.f110
theorem zlu : Src Tryz.prog zdZ zlH:=mkS Tryz.f111
theorem znv : Src Tryz.prog zgG znE:=mkS Tryz.f115
theorem zm7 : Src Tryz.prog zep zmG:=mkS Tryz.f116
theorem zp2 : Src Tryz.prog zgl zqy:=mkS Tryz.f117
theorem zq2 : Src Tryz.prog zic zrg:=mkS Tryz.f118
theorem znJ : Src Tryz.prog zgF znB:=mkS Tryz.f121
theorem zpc : Src Tryz.prog zcZ zoF:=mkS Tryz.f122
theorem zn6 : Src Tryz.prog zgQ zn2:=mkS Tryz.f123
theorem zfc : Src Tryz.prog zbR zfg:=mkS Tryz.f124
theorem zlB : Src Tryz.prog zaV zls:=mkS Tryz.f125
theorem zgW : Src Tryz.prog za5 ze1:=mkS Tryz.f132
theorem zjB : Src Tryz.prog zbJ zf6:=mkS Tryz.f133
theorem ziX : Src Tryz.prog zdB zfw:=mkS Tryz.f135
theorem zki : Src Tryz.prog zdd zgj:=mkS Tryz.f136
theorem zqP : Src Tryz.prog zdk zlh:=mkS Tryz.f137
theorem znj : Src Tryz.prog zf1 zmK:=mkS Tryz.f138
theorem znT : Src Tryz.prog ziI zoo:=mkS Tryz.f139
theorem zmA : Src Tryz.prog zhC zmD:=mkS Tryz.f140
theorem zjK : Src Tryz.prog zen zkl:=mkS Tryz.f141
theorem zq7 : Src Tryz.prog zec zqZ:=mkS Tryz.f156
theorem zse : Src Tryz.prog zhE zrm:=mkS Tryz.f157
theorem zpV : Src Tryz.prog zcR zqh:=mkS Tryz.f158
theorem zkH : Src Tryz.prog zaP zk3:=mkS Tryz.f159
theorem zpn : Src Tryz.prog zg9 zpa:=mkS Tryz.f160
theorem zrj : Src Tryz.prog zhc zr2:=mkS Tryz.f161
theorem zjL : Src Tryz.prog zde zkf:=mkS Tryz.f162
theorem zhv : Src Tryz.prog zcS zhm:=mkS Tryz.f163
theorem zfV : Src Tryz.prog zci zfW:=mkS Tryz.f164
theorem zhK : Src Tryz.prog zdP zfp:=mkS Tryz.f168
theorem ziZ : Src Tryz.prog zdA zfy:=mkS Tryz.f171
theorem zhD : Src Tryz.prog zcT zeo:=mkS Tryz.f173
theorem zi4 : Src Tryz.prog zdK zi2:=mkS Tryz.f175
theorem zb9 : Src Tryz.prog za2 zb8:=mkS Tryz.f176
theorem zfS : Src Tryz.prog zcV zfP:=mkS Tryz.f177
theorem zja : Src Tryz.prog zdF zje:=mkS Tryz.f178
theorem zqB : Src Tryz.prog zh0 zpR:=mkS Tryz.f185
theorem zjo : Src Tryz.prog zd8 zjl:=mkS Tryz.f186
theorem zdM : Src Tryz.prog zbN zcH:=mkS Tryz.f197
theorem zpF : Src Tryz.prog zhp zj6:=mkS Tryz.f199
theorem zik : Src Tryz.prog zdr zfa:=mkS Tryz.f200
theorem zcs : Src Tryz.prog za8 zcr:=mkS Tryz.f201
theorem zru : Src Tryz.prog zb2 zmN:=mkS Tryz.f209
theorem zvo : Src Tryz.prog zii zqr:=mkS Tryz.f210
theorem ztD : Src Tryz.prog zk4 znU:=mkS Tryz.f211
theorem zcY : Src Tryz.prog za6 zbw:=mkS Tryz.f212
theorem zlo : Src Tryz.prog zfo zhI:=mkS Tryz.f213
theorem zjv : Src Tryz.prog zd4 zfX:=mkS Tryz.f214
theorem znG : Src Tryz.prog zgB zi0:=mkS Tryz.f219
theorem zjw : Src Tryz.prog zd3 zf0:=mkS Tryz.f220
theorem zvw : Src Tryz.prog znm zq4:=mkS Tryz.f221
theorem zgR : Src Tryz.prog zbZ zee:=mkS Tryz.f222
theorem zd6 : Src Tryz.prog zaR zcm:=mkS Tryz.f223
theorem zkB : Src Tryz.prog zdx zgU:=mkS Tryz.f224
theorem zhM : Src Tryz.prog zdc zeH:=mkS Tryz.f227
theorem zhu : Src Tryz.prog zcW zeu:=mkS Tryz.f228
theorem zda : Src Tryz.prog za9 zbF:=mkS Tryz.f229
def modI (n m : Int) : Int:=if m<1 then 0 else n % m
theorem zvq {n m : Int} (hm : 0<m) : n.tmod m % m=n % m:=by
 have h:=Int.mul_tdiv_add_tmod n m
 conv=>rhs; rw [<- h]
 rw [Int.add_comm,Int.add_mul_emod_self_left]
theorem zt3 {n m : Int} (hm : 0<m) : -m<n.tmod m/\n.tmod m<m:=⟨Int.lt_tmod_of_pos n hm,Int.tmod_lt_of_pos n hm⟩
def zax (L : List Int) (a : Nat) (n : Int) : Int × Nat:=if h : a<L.length then (modI L[a] n,a+1) else (0,a)
abbrev dice (L : List Int) (a : Nat) : Ent:=⟨2,[[ints L,.I a]],0⟩
theorem zao.k1 {rs : List (Nat × Option (Bool × Nat))} {st : St} {vs : List AV} {res : AV} {e : Ent} (h1 : zgy st rs=some vs) (hw : Wk (conv [(0,0)] [] st.hp 4 (resV vs)) res) (he : (st.hp 0).map (zay [(0,0)] [] st.hp 4)=some e) : zao rs 1 st res [some e] :=
 ⟨vs,h1,[],[],by decide,by simp,by simp,hw,by simpa using he⟩
theorem zwB (L : List Int) : zaj Tryz.prog zjk [ints L] [] (.B (decide (L.length<=400))) []:=by
 refine zsc.ac ?_;show awp _ 0 _ _ ⟨6,[(0,ints L)],[],16⟩;refine zab ?_;refine zan ?_;refine zaa ⟨6,[(2,.B (decide (L.length<=400)))],[],16⟩ rfl ?_ ?_
 .simp
  exact Le.snap [] rfl rfl (by simp <;> exact wkB (by simp; omega))
 refine zai ?_;exact ⟨.inr rfl,zao.one (by simp)⟩
theorem zuZ (n m : Int) (hm : m<=9223372036854775807) : zaj Tryz.prog zio [.I n,.I m] [] (.I (modI n m)) []:=by
 refine zvU.ac ?_;show awp _ 0 _ _ ⟨16,[(0,.I n),(1,.I m)],[],16⟩;refine zab ?_;refine zan ?_;refine zab ?_;refine zab ?_;refine zan ?_;refine zad _ rfl (λ h3=>?_) λ h3=>?_
 .try simp at h3
  refine zab ?_;refine zan ?_;refine zai ?_;exact ⟨.inr rfl,zao.one (by simp [modI,h3])⟩
 try simp at h3
 have hm0 : m≠0:=by omega
 have hlt : ¬ m<1:=by omega
 obtain ⟨t1,t2⟩:=zt3 (n:=n) (m:=m) (by omega)
 have te:=zvq (n:=n) (m:=m) (by omega)
 refine zae ?_;refine zab ?_;refine zar (s:=?s5) rfl ?o5 ?q5
 case o5=>simp [hm0]; rfl
 refine zab ?_;refine zab ?_;refine zan ?_;refine zad _ rfl (λ h7=>?_) λ h7=>?_
 .try simp at h7
  have hw : IntKind.i64.wrap (n.tmod m+m)=n.tmod m+m:=w6;have hr : n % m=n.tmod m+m:=by rw [<- te,<- Int.add_emod_right,Int.emod_eq_of_lt (by omega) (by omega)]
  refine zar (s:=?s8) rfl ?o8 ?q8
  case o8=>simp [hw]; rfl
  refine zab ?_;refine zan ?_;refine zai ?_;exact ⟨.inr rfl,zao.one (by simp [modI,hlt,hr])⟩
 try simp at h7
 have hr : n % m=n.tmod m:=by rw [<- te,Int.emod_eq_of_lt (by omega) (by omega)]
 refine zae ?_;refine zab ?_;refine zan ?_;refine zai ?_;exact ⟨.inr rfl,zao.one (by simp [modI,hlt,hr])⟩
theorem zx0 (L : List Int) : zaj Tryz.prog zkT [ints L] [] (.pt 0 0 0) [some (dice L 0)]:=by
 refine zt4.ac ?_;show awp _ 0 _ _ ⟨6,[(0,ints L)],[],16⟩;refine zab ?_;refine zan ?_;refine zab ?_;refine zan ?_;refine zai ?_;exact ⟨.inr rfl,zao.out [40] [] rfl (by simp) (by simp) (by simp) (by simp)⟩
theorem zpk (L : List Int) (a : Nat) (n : Int) (hl : L.length<=1099511627776) (ha : a<=L.length) (hn : n<=9223372036854775807) : zaj Tryz.prog zaz [.pt 0 0 0,.I n] [dice L a] (.I (zax L a n).1) [some (dice L (zax L a n).2)]:=by
 refine zne.ac ?_;show awp _ 1 _ _ ⟨35,[(0,.pt 0 0 0),(1,.I n)],[(0,some (dice L a))],16⟩;refine zab ?_;refine zan ?_;refine zab ?_;refine zab ?_;refine zgu (s:=?s2) (tr:=?t2) rfl ?o2 ?r2 ?q2
 case o2=>simp; constructor <;> rfl
 case r2=>rfl
 refine zad _ rfl (λ h3=>?_) λ h3=>?_
 .try simp at h3
  refine zab ?_;refine zan ?_;refine zai ?_;have hr : zax L a n=(0,a):=by unfold zax; rw [dif_neg (by omega)]
  rw [hr];exact ⟨.inr rfl,zao.k1 rfl (by simp) (by simp [fcd])⟩
 try simp at h3
 have hw : IntKind.i64.wrap ((a : Int)+1)=(a : Int)+1:=w6;have hw0 : IntKind.i64.wrap (a : Int)=(a : Int):=w6;refine zae ?_;refine zab ?_;refine zar (s:=?s5) rfl ?o5 ?q5
 case o5=>simp [hw]; rfl
 refine zab ?_;refine zgu (s:=?s6) (tr:=?t6) rfl ?o6 ?r6 ?q6
 case o6=>simp [hw0,h3]; refine zap (zuZ _ _ hn) rfl ?_; simp; constructor <;> rfl
 case r6=>rfl
 refine zai ?_;have hr : zax L a n=(modI L[a] n,a+1):=by unfold zax; rw [dif_pos h3]
 rw [hr];exact ⟨.inr rfl,zao.k1 rfl (by simp) (by simp [fcd])⟩
theorem zx4 {n m : Int} (hm : 0<m) : 0<=modI n m/\modI n m<m:=by
 unfold modI;rw [if_neg (by omega)]
 exact ⟨Int.emod_nonneg _ (by omega),Int.emod_lt_of_pos _ hm⟩
theorem zgk {L : List Int} {a : Nat} {n : Int} (hn : 0<n) : 0<=(zax L a n).1/\(zax L a n).1<n:=by
 unfold zax;split
 .exact zx4 hn
 .exact ⟨Int.le_refl _,hn⟩
theorem zc2 {L : List Int} {a : Nat} {n : Int} (ha : a<=L.length) : (zax L a n).2<=L.length:=by
 unfold zax;split
 .simp only; omega
 .exact ha
def ofD (L : List Int) (a : Nat) (l : List Int) : Int:=l.getD (zax L a l.length).1.toNat 0
theorem zxy (L : List Int) (a : Nat) (n : Int) (hl : L.length<=1099511627776) (ha : a<=L.length) (hn0 : 0<=n) (hn : n<=9223372036854775807) : zaj Tryz.prog zdG [.pt 0 0 0,.I n] [dice L a] (.B (decide ((zax L a n).1=n - 1))) [some (dice L (zax L a n).2)]:=by
 refine znq.ac ?_;show awp _ 1 _ _ ⟨11,[(0,.pt 0 0 0),(1,.I n)],[(0,some (dice L a))],16⟩;have hw : IntKind.i64.wrap (n - 1)=n - 1:=w6;refine zab ?_;refine zan ?_;refine zab ?_;refine zar (s:=?s2) rfl ?o2 ?q2
 case o2 =>
  simp;refine zcz (i:=0) rfl (e':=dice L a) (by simp [fcd]) (zpk L a n hl ha hn) (by simp) (by simp) ?_
  simp [hw,fcd];rfl
 refine zai ?_;exact ⟨.inr rfl,zao.k1 rfl (by simp <;> exact wkB rfl) (by simp [fcd])⟩
theorem zA6 (L : List Int) (a : Nat) (l : List Int) (hl : L.length<=1099511627776) (ha : a<=L.length) (h0 : 0<l.length) (hl2 : l.length<=1099511627776) : zaj Tryz.prog zer [.pt 0 0 0,ints l] [dice L a] (.I (ofD L a l)) [some (dice L (zax L a l.length).2)]:=by
 refine zoW.ac ?_;show awp _ 1 _ _ ⟨12,[(0,.pt 0 0 0),(1,ints l)],[(0,some (dice L a))],16⟩
 obtain ⟨q,hq,hql⟩ : ∃ q : Nat,(zax L a l.length).1=q/\q<l.length:=by
  have:=zgk (L:=L) (a:=a) (n:=l.length) (by omega)
  exact ⟨(zax L a l.length).1.toNat,by omega,by omega⟩
 have ho : ofD L a l=l[q]:=by unfold ofD; rw [hq]; simp [hql]
 refine zab ?_;refine zan ?_;refine zab ?_;refine zar (s:=?s2) rfl ?o2 ?q2
 case o2 =>
  simp;refine zcz (i:=0) rfl (e':=dice L a) (by simp [fcd]) (zpk L a l.length hl ha (by omega)) (by simp) (by simp) ?_
  simp [hq,hql,fcd];rfl
 refine zai ?_;rw [ho];exact ⟨.inr rfl,zao.k1 rfl (by simp) (by simp [fcd])⟩
section
variable {P : Program} {np id : Nat} {h : Nat->Option Ent} {K : AV->List Nat->List (Nat × Option Ent)->Prop} {s i off len c k l m : Nat}
@[simp] theorem zBI : aK P np id (.slc s true false false) [.rk i off len c,.sc (.int .i64 (k : Int))] h K=(k<=len/\len<=c/\(∃ e,h i=some e/\e.s=s)/\K (.rk i (off+k) (len - k) (c - k)) [i] []):=by
 rw [zmd];refine propext ⟨?_,?_⟩
 .rintro ⟨l,r,m,n,h1,h2,h4,h5,h6,h7,h3,h10,h11,h8,h9⟩
  obtain rfl:=h6 rfl;simp at h4 h1;subst h1;have : k=l:=by omega
  subst this;obtain rfl:=h11 rfl;exact ⟨h2,h3,h8,h9⟩
 .rintro ⟨h1,h2,h3,h4⟩
  exact ⟨k,len,c,len,rfl,h1,by simp,(λ h=>by cases h),λ _=>rfl,(λ h=>by cases h),h2,Nat.le_refl _,λ _=>rfl,h3,h4⟩
@[simp] theorem zBG : aK P np id (.slc s false true false) [.rk i off len c,.sc (.int .i64 (k : Int))] h K=(k<=c/\(∃ e,h i=some e/\e.s=s)/\K (.rk i off k c) [i] []):=by
 rw [zmd];refine propext ⟨?_,?_⟩
 .rintro ⟨l,r,m,n,h1,h2,h4,h5,h6,h7,h3,h10,h11,h8,h9⟩
  obtain rfl:=h5 rfl;simp at h4 h1;have : k=r:=by omega
  subst this;obtain rfl:=h11 rfl;exact ⟨h3,h8,by simpa using h9⟩
 .rintro ⟨h1,h3,h4⟩
  exact ⟨0,k,c,len,rfl,Nat.zero_le _,by simp,λ _=>rfl,(λ h=>by cases h),(λ h=>by cases h),h1,Nat.le_refl _,λ _=>rfl,h3,by simpa using h4⟩
@[simp] theorem zAX : aK P np id (.slc s true true false) [.rk i off len c,.sc (.int .i64 (l : Int)),.sc (.int .i64 (k : Int))] h K=(l<=k/\k<=c/\(∃ e,h i=some e/\e.s=s)/\K (.rk i (off+l) (k - l) (c - l)) [i] []):=by
 rw [zmd];refine propext ⟨?_,?_⟩
 .rintro ⟨l',r,m,n,h1,h2,h4,h5,h6,h7,h3,h10,h11,h8,h9⟩
  simp at h4 h1;have : k=r:=by omega
  subst this;have : l=l':=by omega
  subst this;obtain rfl:=h11 rfl;exact ⟨h2,h3,h8,h9⟩
 .rintro ⟨h1,h2,h3,h4⟩
  exact ⟨l,k,c,len,rfl,h1,by simp,(λ h=>by cases h),(λ h=>by cases h),(λ h=>by cases h),h2,Nat.le_refl _,λ _=>rfl,h3,h4⟩
@[simp] theorem zBP : aK P np id (.slc s true true true) [.rk i off len c,.sc (.int .i64 (l : Int)),.sc (.int .i64 (k : Int)),.sc (.int .i64 (m : Int))] h K=(l<=k/\k<=m/\m<=c/\(∃ e,h i=some e/\e.s=s)/\K (.rk i (off+l) (k - l) (m - l)) [i] []):=by
 rw [zmd];refine propext ⟨?_,?_⟩
 .rintro ⟨l',r,m',n,h1,h2,h4,h5,h6,h7,h3,h10,h11,h8,h9⟩
  simp at h4 h1;have : k=r:=by omega
  subst this;have : l=l':=by omega
  subst this;have : m=m':=by omega
  subst this;exact ⟨h2,h3,h10,h8,h9⟩
 .rintro ⟨h1,h2,h3,h4,h5⟩
  exact ⟨l,k,m,len,rfl,h1,by simp,(λ h=>by cases h),(λ h=>by cases h),(λ _=>rfl),h2,h3,(λ h=>by cases h),h4,h5⟩
@[simp] theorem zBt : aK P np id (.slc s true false false) [.rs i off len,.sc (.int .i64 (k : Int))] h K=(k<=len/\(∃ e,h i=some e/\e.s=s)/\K (.rs i (off+k) (len - k)) [i] []):=by
 rw [zmd];refine propext ⟨?_,?_⟩
 .rintro ⟨l,r,m,n,h1,h2,h4,h5,h6,h7,h3,h10,h8,h9⟩
  obtain rfl:=h6 rfl;simp at h4 h1;subst h1;have : k=l:=by omega
  subst this;exact ⟨h2,h8,h9⟩
 .rintro ⟨h1,h3,h4⟩
  exact ⟨k,len,0,len,rfl,h1,by simp,(λ h=>by cases h),λ _=>rfl,(λ h=>by cases h),Nat.le_refl _,rfl,h3,h4⟩
@[simp] theorem zBL : aK P np id (.slc s false true false) [.rs i off len,.sc (.int .i64 (k : Int))] h K=(k<=len/\(∃ e,h i=some e/\e.s=s)/\K (.rs i off k) [i] []):=by
 rw [zmd];refine propext ⟨?_,?_⟩
 .rintro ⟨l,r,m,n,h1,h2,h4,h5,h6,h7,h3,h10,h8,h9⟩
  obtain rfl:=h5 rfl;simp at h4 h1;have : k=r:=by omega
  subst this;exact ⟨by omega,h8,by simpa using h9⟩
 .rintro ⟨h1,h3,h4⟩
  exact ⟨0,k,0,len,rfl,Nat.zero_le _,by simp,λ _=>rfl,(λ h=>by cases h),(λ h=>by cases h),h1,rfl,h3,by simpa using h4⟩
end
theorem Le.keep {np : Nat} {st st' : St} (hsz : st'.sz=st.sz) (hn : st.n<=st'.n) (ht : ∀ p∈st'.t,st.get p.1=p.2) (hh : ∀ p∈st'.h,∀ e,p.2=some e->st.hp p.1=some e) : Le np st st':=by
 intro T0 M0 w0 T M a w ok hnp
 have hp : ∀ id e,st'.hp id=some e->st.hp id=some e:=by
  intro id e he;unfold St.hp at he
  cases hl : lkp st'.h id with
  | none=>rw [hl] at he; cases he
  | some v =>
    rw [hl] at he;exact hh _ (zb7 hl) e he
 refine ⟨T,M,⟨ok.sz.trans hsz.symm,ok.df,λ i=>?_,⟨λ id e he=>ok.hs.ent id e (hp id e he),λ id id' e e' g g' b h1 h2=>ok.hs.inj id id' e e' g g' b (hp _ _ h1) (hp _ _ h2)⟩,λ id g hg=>Nat.lt_of_lt_of_le (ok.dom id g hg) hn,ok.after⟩,Nat.le_trans hnp hn⟩;unfold St.get at *
 cases hl : lkp st'.t i with
 | none=>exact .dead _ _
 | some v =>
   have:=ht _ (zb7 hl);simp only at this;show Rep T w M v _;rw [<- this];exact ok.tm i
theorem zao.m1 {rs : List (Nat × Option (Bool × Nat))} {st : St} {vs : List AV} {res : AV} {e : Ent} (i : Nat) (hi : 1<=i) (h1 : zgy st rs=some vs) (hw : Wk (conv [(0,0),(i,1)] [] st.hp 4 (resV vs)) res) (h0 : st.hp 0=none) (he : (st.hp i).map (zay [(0,0),(i,1)] [] st.hp 4)=some e) : zao rs 1 st res [none,some e] :=
 ⟨vs,h1,[i],[],by simp [List.range,List.range.loop]; omega,by simpa using hi,by simp,by simpa [List.range,List.range.loop] using hw,by simpa [List.range,List.range.loop,h0] using he⟩
theorem GrOk.lt {g : Gr} (h : GrOk g) : ∀ (j i : Nat) (hi : i<g.edges.length) (hj : j<g.edges.length),i<j->Bef g.edges[i] g.edges[j]
 | 0,_,_,_,h0=>by omega
 | j+1,i,hi,hj,hij=>by
   have h1 : Bef g.edges[j] g.edges[j+1]:=zkx.1 ((h.2 (j+1) hj).2.2.2 (by omega))
   rcases Nat.lt_or_ge i j with h2 | h2
   .have h3:=GrOk.lt h j i hi (by omega) h2
    unfold Bef at *;omega
   .obtain rfl : i=j:=by omega
    exact h1
theorem GrOk.mono {g : Gr} (h : GrOk g) (e : Ed) : ∀ (i j : Nat) (hi : i<g.edges.length) (hj : j<g.edges.length),i<=j->Bef g.edges[j] e->Bef g.edges[i] e:=by
 intro i j hi hj hij hb;rcases Nat.lt_or_ge i j with h2 | h2
 .have h3:=h.lt j i hi hj h2
  unfold Bef at *;omega
 .obtain rfl : i=j:=by omega
  exact hb
section
variable {P : Program} {np id : Nat} {h : Nat->Option Ent} {K : AV->List Nat->List (Nat × Option Ent)->Prop} {f : FuncId} {first capt args args' : List AV} {res : AV}
theorem zox {i j : Nat} {e e' ej : Ent} {hs' : List (Option Ent)} (hij : j≠i) (hnp : np<=j) (hi : h i=some e) (hj : h j=some ej) (hee : zay [(i,0)] [j] h 4 e=e') (hc : zaj P f args' [e'] res hs') (h8 : hs'.length<=9) (he : (first++args++capt).map (conv [(i,0)] [j] h 4)=args')
  (hk : K (conv (swp [i] id) [] (λ _=>none) 4 res) [i,j] ((hs'.zipIdx.map λ (e,k)=>((i::(List.range 8).map (id + ·)).getD k 0,e.map (zay (swp [i] id) [] (λ _=>none) 4)))++[(j,some { ej with ro:=ej.rows.length })])) : aK P np id .call (.fn (.func f) first capt::args) h K :=
 ⟨[i],[j],true,args',[e'],res,hs',by simp,by simpa using hij,by simpa using hnp,by rw [show [i].zipIdx=[(i,0)] from rfl,he]; exact zdy _,by rw [show [i].zipIdx=[(i,0)] from rfl]; simpa [hi] using hee,hc,by simpa using h8,.inl rfl,by simpa [swp,hj] using hk⟩
end
theorem zwR {l : List Ed} {e : Ed} {i : Nat} (h : i<idxE l e) (hi : i<l.length) : Bef l[i] e:=by
 have:=List.not_of_lt_findIdx h
 simpa using this
theorem zxl {l : List Ed} {e : Ed} (h : idxE l e<l.length) : ¬ Bef l[idxE l e] e:=by
 have h1 : l.findIdx (λ x=>!decide (Bef x e))<l.length:=h;have:=List.findIdx_getElem (w:=h1);intro hb;have h2 : decide (Bef l[l.findIdx (λ x=>!decide (Bef x e))] e)=true:=decide_eq_true hb;simp only [h2] at this
 cases this
theorem zwt {g : Gr} {e : Ed} (hg : GrOk g) (hf : Fits g e) (h1 : 1<=e.v) (h3 : e.v<=3) (ha : ¬ AtE g.edges (idxE g.edges ⟨e.f,e.t,0⟩) e.f e.t) (hl : g.edges.length<500) : GrOk (zmu g e):=by
 have hle:=zuP g.edges ⟨e.f,e.t,0⟩
 have hb : ∀ i (hi : i<g.edges.length),i<idxE g.edges ⟨e.f,e.t,0⟩->Bef g.edges[i] e:=λ i hi h=>by
  have:=zwR h hi;exact this
 have hn : ∀ (h : idxE g.edges ⟨e.f,e.t,0⟩<g.edges.length),Bef e g.edges[idxE g.edges ⟨e.f,e.t,0⟩]:=λ h=>by
  have h2:=zxl h;have h4 : ¬ (g.edges[idxE g.edges ⟨e.f,e.t,0⟩].f=e.f/\g.edges[idxE g.edges ⟨e.f,e.t,0⟩].t=e.t):=λ q=>ha ⟨h,q⟩;simp only [Bef] at h2 ⊢;omega
 unfold zmu;generalize idxE g.edges ⟨e.f,e.t,0⟩=k at *;have hlen : (g.edges.take k++e::g.edges.drop k).length=g.edges.length+1:=by simp; omega
 have hget : ∀ i (hi : i<(g.edges.take k++e::g.edges.drop k).length),(g.edges.take k++e::g.edges.drop k)[i]=if h : i<k then g.edges[i]'(by omega) else if h2 : i=k then e else g.edges[i - 1]'(by omega):=by
  intro i hi;have htl : (g.edges.take k).length=k:=by simp; omega
  by_cases h : i<k
  .rw [dif_pos h,List.getElem_append_left (by omega),List.getElem_take]
  .rw [dif_neg h,List.getElem_append_right (by omega)]
   by_cases h2 : i=k
   .subst h2
    simp [htl]
   .rw [dif_neg h2]
    rw [List.getElem_cons];rw [dif_neg (by omega),List.getElem_drop]
    congr 1
    omega
 refine ⟨⟨hg.1.1,hg.1.2.1,by simp only [hlen]; omega,hg.1.2.2.2⟩,λ i hi=>?_⟩
 simp only at hi;have hfit : ∀ x : Ed,Fits ⟨g.size,g.edges.take k++e::g.edges.drop k,g.gone⟩ x↔Fits g x:=λ x=>Iff.rfl;simp only [hfit,zkx,hget];have hE:=λ j (hj : j<g.edges.length)=>hg.2 j hj
 by_cases h : i<k
 .simp only [dif_pos h]
  refine ⟨(hE i (by omega)).1,(hE i (by omega)).2.1,(hE i (by omega)).2.2.1,λ h0=>?_⟩
  rw [dif_pos (by omega)]
  exact zkx.1 ((hE i (by omega)).2.2.2 h0)
 .simp only [dif_neg h]
  by_cases h2 : i=k
  .subst h2
   simp only [dif_pos];refine ⟨hf,h1,h3,λ h0=>?_⟩;rw [dif_pos (by omega)]
   exact hb _ _ (by omega)
  .simp only [dif_neg h2]
   refine ⟨(hE (i - 1) (by omega)).1,(hE (i - 1) (by omega)).2.1,(hE (i - 1) (by omega)).2.2.1,λ h0=>?_⟩
   rw [dif_neg (by omega)]
   by_cases h4 : i - 1=k
   .rw [dif_pos h4]
    subst h4;exact hn _
   .rw [dif_neg h4]
    exact hg.lt _ _ _ _ (by omega)
theorem zpv {g : Gr} {e : Ed} (h : (zdC g e).2=0) : GrOk g/\Fits g e/\(1<=e.v/\e.v<=3)/\¬ AtE g.edges (idxE g.edges ⟨e.f,e.t,0⟩) e.f e.t/\g.edges.length<500/\(zdC g e).1=zmu g e/\GrOk (zmu g e):=by
 have key : GrOk g/\Fits g e/\(1<=e.v/\e.v<=3)/\¬ AtE g.edges (idxE g.edges ⟨e.f,e.t,0⟩) e.f e.t/\g.edges.length≠500/\(zdC g e).1=zmu g e:=by
  unfold zdC at *;split at h
  .simp at h
  split at h
  .simp at h
  split at h
  .simp at h
  split at h
  .simp at h
  split at h
  .simp at h
  simp_all
 obtain ⟨h1,h2,h3,h4,h5,h6⟩:=key;have h7 : g.edges.length<500:=by have:=h1.1.2.2.1; omega
 exact ⟨h1,h2,h3,h4,h7,h6,zwt h1 h2 h3.1 h3.2 h4 h7⟩
noncomputable def zqY (L : List Int) (p : Gr × Nat) : Gr × Nat :=
 (if (zdC p.1 ⟨(zax L p.2 p.1.size).1,(zax L (zax L p.2 p.1.size).2 p.1.size).1,1+(zax L (zax L (zax L p.2 p.1.size).2 p.1.size).2 3).1⟩).2=0
  then (zdC p.1 ⟨(zax L p.2 p.1.size).1,(zax L (zax L p.2 p.1.size).2 p.1.size).1,1+(zax L (zax L (zax L p.2 p.1.size).2 p.1.size).2 3).1⟩).1 else p.1,
  (zax L (zax L (zax L p.2 p.1.size).2 p.1.size).2 3).2)
noncomputable def zwF (L : List Int) : Nat->Gr × Nat->Gr × Nat
 | 0,p=>p
 | n+1,p=>zwF L n (zqY L p)
def zhn (L : List Int) (a : Nat) : Int:=if L.length=0 then 4 else 2+(zax L a 8).1
def zea (L : List Int) (a : Nat) : Gr × Nat :=
 if (zax L (zax L a 8).2 8).1=7 then (⟨zhn L a,[],[(zax L (zax L (zax L a 8).2 8).2 (zhn L a)).1]⟩,(zax L (zax L (zax L a 8).2 8).2 (zhn L a)).2)
 else (⟨zhn L a,[],[]⟩,(zax L (zax L a 8).2 8).2)
noncomputable def zob (L : List Int) (a : Nat) : Gr × Nat:=zwF L (zax L (zea L a).2 23).1.toNat ((zea L a).1,(zax L (zea L a).2 23).2)
structure zr7 (L : List Int) (p : Gr × Nat) : Prop where
 ok : GrOk p.1
 lo : 2<=p.1.size
 hi : p.1.size<=9
 at_ : p.2<=L.length
 few : p.1.gone.length<=1
theorem zmO (L : List Int) (a : Nat) : 2<=zhn L a/\zhn L a<=9:=by
 have:=zgk (L:=L) (a:=a) (n:=8) (by omega)
 unfold zhn;split <;> omega
theorem zl3 (L : List Int) (a : Nat) (ha : a<=L.length) : zr7 L (zea L a):=by
 have hs:=zmO L a;have h1:=zc2 (L:=L) (a:=a) (n:=8) ha;have h2:=zc2 (L:=L) (a:=(zax L a 8).2) (n:=8) h1;have hq:=zgk (L:=L) (a:=(zax L (zax L a 8).2 8).2) (n:=zhn L a) (by omega)
 unfold zea;split
 .refine ⟨⟨⟨by simp only; omega,by simp only; omega,by simp,λ i hi=>?_⟩,λ i hi=>absurd hi (by simp)⟩,hs.1,hs.2,zc2 h2,by simp⟩
  obtain rfl : i=0:=by simpa using hi
  refine ⟨hq.1,?_,λ h=>by omega⟩
  have:=hq.2;simp only [List.getElem_cons_zero];omega
 .exact ⟨⟨⟨by simp only; omega,by simp only; omega,by simp,λ i hi=>absurd hi (by simp)⟩,λ i hi=>absurd hi (by simp)⟩,hs.1,hs.2,h2,by simp⟩
theorem znO {L : List Int} {p : Gr × Nat} (h : zr7 L p) : zr7 L (zqY L p):=by
 have h3:=zc2 (n:=3) (zc2 (n:=p.1.size) (zc2 (n:=p.1.size) h.at_));unfold zqY
 by_cases hw : (zdC p.1 ⟨(zax L p.2 p.1.size).1,(zax L (zax L p.2 p.1.size).2 p.1.size).1,1+(zax L (zax L (zax L p.2 p.1.size).2 p.1.size).2 3).1⟩).2=0
 .rw [if_pos hw]
  obtain ⟨_,_,_,_,_,q6,q7⟩:=zpv hw;rw [q6];exact ⟨q7,h.lo,h.hi,h3,h.few⟩
 .rw [if_neg hw]
  exact ⟨h.ok,h.lo,h.hi,h3,h.few⟩
theorem zn7 {L : List Int} : ∀ (n : Nat) {p : Gr × Nat},zr7 L p->zr7 L (zwF L n p)
 | 0,_,h=>h
 | n+1,_,h=>zn7 n (znO h)
theorem zsl (L : List Int) (a : Nat) (ha : a<=L.length) : zr7 L (zob L a):=by
 have h:=zl3 L a ha;exact zn7 _ ⟨h.ok,h.lo,h.hi,zc2 h.at_,h.few⟩
theorem zaN.eq {nl : List (Nat × Nat)} {e e' : Ent} (h : e=e') (hr : e'.ro<=e'.rows.length) : zaN nl e e':=by
 subst h;exact zaN.rfl' hr
theorem zaN.row {nl : List (Nat × Nat)} {s ro : Nat} {e : Ent} {r r' : List AV} (h : e=⟨s,[r],ro⟩) (hr : ro<=1) (hu : UpL nl r r') (hs : s≠0:=by decide) : zaN nl e ⟨s,[r'],ro⟩:=by
 subst h;refine ⟨rfl,Nat.le_refl _,hr,.inr ⟨hs,rfl,λ i=>?_⟩⟩
 match i with
 | 0=>exact hu
 | _+1=>exact trivial
theorem zuh {nl : List (Nat × Nat)} : ∀ {xs ys : List AV},WkL xs ys->UpL nl xs ys
 | [],[],_=>trivial
 | _::_,_::_,h=>⟨.inl h.1,zuh h.2⟩
 | [],_::_,h=>False.elim h
 | _::_,[],h=>False.elim h
theorem Le.ents {np : Nat} {st st' : St} (ρ : List (Nat × Nat)) (sn : List Nat) (hsz : st'.sz=st.sz)
  (h0 : (ρ.map (·.1)).Nodup) (h1 : (ρ.map (·.2)).Nodup) (h2 : ∀ p∈ρ,p.2<st'.n/\(p.2<np->p.1=p.2)) (h4 : ∀ i∈sn,np<=i/\i∉ρ.map (·.1)) (h5 : np<=st'.n)
  (ht : ∀ p∈st'.t,Wk (conv ρ sn st.hp 4 (st.get p.1)) p.2)
  (hh : ∀ p∈st'.h,∃ q e e',p.2=some e'/\(q,p.1)∈ρ/\st.hp q=some e/\zaN [] (zay ρ sn st.hp 4 e) e') : Le np st st' :=
 Le.lst ρ sn [] hsz h0 h1 h2 (by simp) h4 h5 (by simp) (λ p hp=>.inl (ht p hp)) λ p hp e' he'=>by
  obtain ⟨q,e,e2,h1,h2,h3,h4⟩:=hh p hp;rw [he'] at h1
  cases h1;exact .inl ⟨(q,p.1),h2,rfl,e,h3,h4⟩
theorem ziK (L : List Int) (a : Nat) (n : Int) (hl : L.length<=400) (ha : a<=L.length) (hn : n<=9223372036854775807) : zaj Tryz.prog zaz [.pt 0 0 0,.I n] [dice L a] (.I (zax L a n).1) [some (dice L (zax L a n).2)]:=zpk L a n (by omega) ha hn
abbrev zG : Ent:=⟨3,[[.I 0,.nilS,.nilS]],0⟩
abbrev rowG (g : Gr) : Ent:=⟨3,[gC g],0⟩
set_option maxRecDepth 100000 in
theorem zxc (L : List Int) (a : Nat) (hl : L.length<=400) (ha : a<=L.length) : zaj Tryz.prog zdQ [.pt 0 0 0] [dice L a] (eG (zob L a).1) [some (dice L (zob L a).2)]:=by
 refine zlq.ac ?_;show awp _ 1 _ _ ⟨53,[(0,.pt 0 0 0)],[(0,some (dice L a))],16⟩;have a1:=zc2 (L:=L) (a:=a) (n:=8) ha;have r1:=zgk (L:=L) (a:=a) (n:=8) (by omega)
 have hs:=zmO L a;have a2:=zc2 (L:=L) (a:=(zax L a 8).2) (n:=8) a1;have hw1 : IntKind.i64.wrap (2+(zax L a 8).1)=2+(zax L a 8).1:=w6;have hm:=zl3 L a ha;refine zaa ⟨53,[(0,.pt 0 0 0),(2,.pt 16 0 0)],[(0,some (dice L a)),(16,some zG)],24⟩ rfl ?_ ?_
 .simp
  exact Le.keep rfl (Nat.le_refl _) (by simp) (by simp)
 refine zaa ⟨53,[(0,.pt 0 0 0),(2,.pt 16 0 0),(3,.pt 56 0 0)],[(0,some (dice L (zax L a 8).2)),(16,some zG),(56,some ⟨3,[[.I (2+(zax L a 8).1),.nilS,.nilS]],0⟩)],72⟩ rfl ?_ ?_
 .simp
  refine zcz (i:=0) rfl (e':=dice L a) (by simp [fcd]) (ziK L a 8 hl ha (by omega)) (by simp) (by simp) ?_
  simp [hw1,fcd];exact Le.keep rfl (Nat.le_refl _) (by simp) (by simp)
 refine zaO (ι:=Unit) (λ _=>⟨53,[(0,.pt 0 0 0),(2,.pt 16 0 0),(3,.pt 56 0 0)],[(0,some (dice L (zax L a 8).2)),(16,some zG),(56,some ⟨3,[[.I (zhn L a),.nilS,.nilS]],0⟩)],136⟩) (λ _=>True) ?_ λ _ _=>?_
 .refine zaa ⟨53,[(0,.pt 0 0 0),(2,.pt 16 0 0),(3,.pt 56 0 0),(16,.B (decide (L.length=0)))],[(0,some (dice L (zax L a 8).2)),(16,some zG),(56,some ⟨3,[[.I (2+(zax L a 8).1),.nilS,.nilS]],0⟩)],120⟩ rfl ?_ ?_
  .simp
   exact Le.keep rfl (Nat.le_refl _) (by simp <;> rw [Bool.eq_iff_iff] <;> simp) (by simp)
  refine zad _ rfl (λ h=>?_) λ h=>zae ?_
  .simp only [decide_eq_true_eq] at h
   have hz : zhn L a=4:=by unfold zhn; rw [if_pos h]
   refine zav rfl ?_;simp;exact Le.keep rfl (Nat.le_refl _) (by simp) (by simp [hz])
  .simp only [decide_eq_false_iff_not] at h
   have hz : zhn L a=2+(zax L a 8).1:=by unfold zhn; rw [if_neg h]
   exact ⟨(),trivial,Le.keep rfl (nbz rfl) (by simp) (by simp [hz])⟩
 refine zaO (ι:=Unit) (λ _=>⟨53,[(0,.pt 0 0 0),(2,.pt 16 0 0),(3,.pt 56 0 0)],[(0,some (dice L (zea L a).2)),(16,some zG),(56,some (rowG (zea L a).1))],208⟩) (λ _=>True) ?_ λ _ _=>?_
 .refine zaa ⟨53,[(0,.pt 0 0 0),(2,.pt 16 0 0),(3,.pt 56 0 0),(19,.B (decide ((zax L (zax L a 8).2 8).1=7)))],[(0,some (dice L (zax L (zax L a 8).2 8).2)),(16,some zG),(56,some ⟨3,[[.I (zhn L a),.nilS,.nilS]],0⟩)],152⟩ rfl ?_ ?_
  .simp
   refine zcz (i:=0) rfl (e':=dice L (zax L a 8).2) (by simp [fcd]) (zxy L _ 8 (by omega) a1 (by omega) (by omega)) (by simp) (by simp) ?_
   simp [fcd];exact Le.keep rfl (Nat.le_refl _) (by simp) (by simp)
  refine zad _ rfl (λ h=>?_) λ h=>zae ?_
  .simp only [decide_eq_true_eq] at h
   have hz : zea L a=(⟨zhn L a,[],[(zax L (zax L (zax L a 8).2 8).2 (zhn L a)).1]⟩,(zax L (zax L (zax L a 8).2 8).2 (zhn L a)).2):=by unfold zea; rw [if_pos h]
   rw [hz];refine zav rfl ?_;simp;refine zcz (i:=0) rfl (e':=dice L (zax L (zax L a 8).2 8).2) (by simp [fcd]) (ziK L (zax L (zax L a 8).2 8).2 (zhn L a) hl a2 (by omega)) (by simp) (by simp) ?_
   simp [fcd];refine Le.ents [(0,0),(16,16),(56,56)] [184] rfl (by simp) (by simp) (by simp) (by simp) (by simp) (by simp) λ p hp=>?_
   simp at hp;rcases hp with rfl | rfl | rfl
   .exact ⟨0,_,_,rfl,by simp,rfl,zaN.eq (by simp) (by simp)⟩
   .exact ⟨16,_,_,rfl,by simp,rfl,zaN.eq (by simp) (by simp)⟩
   .exact ⟨56,_,_,rfl,by simp,rfl,zaN.row (by simp; rfl) (by simp) (zuh (by simp; exact ⟨.nil _ _,.refl _⟩))⟩
  .simp only [decide_eq_false_iff_not] at h
   have hz : zea L a=(⟨zhn L a,[],[]⟩,(zax L (zax L a 8).2 8).2):=by unfold zea; rw [if_neg h]
   rw [hz];refine ⟨(),trivial,Le.ents [(0,0),(16,16),(56,56)] [] rfl (by simp) (by simp) (by simp) (by simp) (by simp) (by simp) λ p hp=>?_⟩
   simp at hp;rcases hp with rfl | rfl | rfl
   .exact ⟨0,_,_,rfl,by simp,rfl,zaN.eq (by simp) (by simp)⟩
   .exact ⟨16,_,_,rfl,by simp,rfl,zaN.eq (by simp) (by simp)⟩
   .exact ⟨56,_,_,rfl,by simp,rfl,zaN.row (by simp; rfl) (by simp) (zuh (by simp; exact ⟨.nil _ _,.nil _ _⟩))⟩
 have r4:=zgk (L:=L) (a:=(zea L a).2) (n:=23) (by omega)
 obtain ⟨n0,hn0⟩ : ∃ n0 : Nat,(zax L (zea L a).2 23).1=n0:=⟨(zax L (zea L a).2 23).1.toNat,by omega⟩
 refine zab ?_;refine zaa ⟨53,[(0,.pt 0 0 0),(2,.pt 16 0 0),(3,.pt 56 0 0),(4,.I n0)],[(0,some (dice L (zax L (zea L a).2 23).2)),(16,some zG),(56,some (rowG (zea L a).1))],232⟩ rfl ?_ ?_
 .simp
  refine zcz (i:=0) rfl (e':=dice L (zea L a).2) (by simp [fcd]) (ziK L (zea L a).2 23 hl hm.at_ (by omega)) (by simp) (by simp) ?_
  simp [fcd,hn0];exact Le.keep rfl (Nat.le_refl _) (by simp) (by simp)
 refine zaf ?_
 refine zas (ι:=Nat × Gr × Nat) (λ q=>⟨53,[(0,.pt 0 0 0),(2,.pt 16 0 0),(3,.pt 56 0 0),(4,.I q.1)],[(0,some (dice L q.2.2)),(16,some zG),(56,some (rowG q.2.1))],232⟩)
  (λ q=>q.1<=23/\zr7 L q.2/\zwF L q.1 q.2=zob L a) (λ q=>q.1) (n0,(zea L a).1,(zax L (zea L a).2 23).2) ?_ (Le.refl _ _) ?_
 .refine ⟨by simp only; omega,⟨hm.ok,hm.lo,hm.hi,zc2 hm.at_,hm.few⟩,?_⟩
  unfold zob;rw [hn0];rfl
 rintro ⟨k,p⟩ ⟨hk,hp,hit⟩
 simp only at hk hp hit ⊢;refine zab ?_;refine zaa ⟨53,[(0,.pt 0 0 0),(2,.pt 16 0 0),(3,.pt 56 0 0),(4,.I k),(29,.B (decide (0<k)))],[(0,some (dice L p.2)),(16,some zG),(56,some (rowG p.1))],248⟩ rfl ?_ ?_
 .simp
  exact Le.keep rfl (Nat.le_refl _) (by simp) (by simp)
 refine zad _ rfl (λ h=>zae ?_) λ h=>zaq (Go.Proofs.YtkngdgplbojdlaaGreat.hit ?_)
 .simp only [decide_eq_true_eq] at h
  refine zaO (ι:=Unit) (λ _=>⟨53,[(0,.pt 0 0 0),(2,.pt 16 0 0),(3,.pt 56 0 0),(4,.I k)],[(0,some (dice L (zqY L p).2)),(16,some zG),(56,some (rowG (zqY L p).1))],440⟩) (λ _=>True) ?_ λ _ _=>?_
  .refine zaf ?_
   have q1:=zc2 (n:=p.1.size) hp.at_;have q2:=zc2 (n:=p.1.size) q1;have hlo:=hp.lo;have hhi:=hp.hi;have l3:=zgk (L:=L) (a:=(zax L (zax L p.2 p.1.size).2 p.1.size).2) (n:=3) (by omega)
   have hwv : IntKind.i64.wrap (1+(zax L (zax L (zax L p.2 p.1.size).2 p.1.size).2 3).1)=1+(zax L (zax L (zax L p.2 p.1.size).2 p.1.size).2 3).1:=w6;obtain ⟨w,hw⟩ : ∃ w,w=zdC p.1 ⟨(zax L p.2 p.1.size).1,(zax L (zax L p.2 p.1.size).2 p.1.size).1,1+(zax L (zax L (zax L p.2 p.1.size).2 p.1.size).2 3).1⟩:=⟨_,rfl⟩;have hst : zqY L p=(if w.2=0 then w.1 else p.1,(zax L (zax L (zax L p.2 p.1.size).2 p.1.size).2 3).2):=by rw [hw]; rfl
   have h500:=hp.ok.1.2.2.1;have hfew:=hp.few;have hwith:=zjH p.1 ⟨(zax L p.2 p.1.size).1,(zax L (zax L p.2 p.1.size).2 p.1.size).1,1+(zax L (zax L (zax L p.2 p.1.size).2 p.1.size).2 3).1⟩ (by omega) (by omega)
   rw [<- hw] at hwith;rw [hst];refine zaC ⟨53,[(0,.pt 0 0 0),(2,.pt 16 0 0),(3,.pt 56 0 0),(4,.I k),(5,.pv (gC w.1)),(6,.I w.2)],[(0,some (dice L (zax L (zax L (zax L p.2 p.1.size).2 p.1.size).2 3).2)),(16,some zG),(56,some (rowG p.1))],408⟩ rfl ?_ ?_
   .simp
    refine zcz (i:=0) rfl (e':=dice L p.2) (by simp [fcd]) (ziK L p.2 p.1.size hl hp.at_ (by omega)) (by simp) (by simp) ?_
    simp [fcd];refine zcz (i:=0) rfl (e':=dice L (zax L p.2 p.1.size).2) (by simp [fcd]) (ziK L (zax L p.2 p.1.size).2 p.1.size hl q1 (by omega)) (by simp) (by simp) ?_
    simp [fcd];refine zcz (i:=0) rfl (e':=dice L (zax L (zax L p.2 p.1.size).2 p.1.size).2) (by simp [fcd]) (ziK L (zax L (zax L p.2 p.1.size).2 p.1.size).2 3 hl q2 (by omega)) (by simp) (by simp) ?_
    simp [fcd,hwv];refine zap hwith rfl ?_;simp;refine ⟨rfl,Le.ents [(0,0),(16,16),(56,56)] [384] rfl (by simp) (by simp) (by simp) (by simp) (by simp) (by simp) λ p hp=>?_⟩
    simp at hp;rcases hp with rfl | rfl | rfl
    .exact ⟨0,_,_,rfl,by simp,rfl,zaN.eq (by simp [fcd]) (by simp)⟩
    .exact ⟨16,_,_,rfl,by simp,rfl,zaN.eq (by simp) (by simp)⟩
    .exact ⟨56,_,_,rfl,by simp,rfl,zaN.eq (by simp) (by simp)⟩
   refine zaa ⟨53,[(0,.pt 0 0 0),(2,.pt 16 0 0),(3,.pt 56 0 0),(4,.I k),(5,.pv (gC w.1)),(50,.B (decide (w.2=0)))],[(0,some (dice L (zax L (zax L (zax L p.2 p.1.size).2 p.1.size).2 3).2)),(16,some zG),(56,some (rowG p.1))],424⟩ rfl ?_ ?_
   .simp
    exact Le.keep rfl (Nat.le_refl _) (by simp <;> rw [Bool.eq_iff_iff] <;> simp) (by simp)
   refine zad _ rfl (λ h=>?_) λ h=>zae ?_
   .simp only [decide_eq_true_eq] at h
    refine zav rfl ?_;simp [h];exact Le.keep rfl (nbz rfl) (by simp) (by simp)
   .simp only [decide_eq_false_iff_not] at h
    rw [if_neg h];exact ⟨(),trivial,Le.keep rfl (nbz rfl) (by simp) (by simp)⟩
  have hwk : IntKind.i64.wrap ((k : Int) - 1)=((k - 1 : Nat) : Int):=by rw [w6]; omega
  refine zav rfl ?_;simp [hwk];refine ⟨k - 1,(zqY L p).1,(zqY L p).2,⟨by omega,znO hp,?_⟩,by omega,Le.ents [(0,0),(16,16),(56,56)] [] rfl (by simp) (by simp) (by simp) (by simp) (by simp) (by simp) λ p hp=>?_⟩
  .rw [<- hit]
   obtain ⟨k,rfl⟩ : ∃ j,k=j+1:=⟨k - 1,by omega⟩
   rfl
  .simp at hp
   rcases hp with rfl | rfl | rfl
   .exact ⟨0,_,_,rfl,by simp,rfl,zaN.eq (by simp [fcd]) (by simp)⟩
   .exact ⟨16,_,_,rfl,by simp,rfl,zaN.eq (by simp) (by simp)⟩
   .exact ⟨56,_,_,rfl,by simp,rfl,zaN.eq (by simp) (by simp)⟩
 simp only [decide_eq_false_iff_not] at h;obtain rfl : k=0:=by omega
 have hpe : p=zob L a:=hit;rw [<- hpe];refine zaa ⟨53,[(2,.pt 16 0 0)],[(0,some (dice L p.2)),(16,some (rowG p.1))],264⟩ rfl ?_ ?_
 .simp
  exact Le.keep rfl (Nat.le_refl _) (by simp) (by simp)
 refine zai ?_;exact ⟨.inr rfl,zao.k1 (vs:=[eG p.1]) rfl (by simp) (by simp [fcd])⟩
def zlI (capt : List AV) : Prop:=∀ ρ sn h n,capt.map (conv ρ sn h (n+1))=capt
def idxQ {α : Type} (l : List α) (q : α->Bool) : Int:=if l.findIdx q<l.length then (l.findIdx q : Int) else -1
theorem zrC {α : Type} {l : List α} {q : α->Bool} {k : Nat} (hk : k<l.length) (h1 : ∀ i,i<k -> ∀ h : i<l.length,q l[i]=false) (h2 : q l[k]=true) : idxQ l q=k:=by
 have : l.findIdx q=k:=by
  rw [List.findIdx_eq hk];exact ⟨h2,λ j hj=>by simpa using h1 j hj (by omega)⟩
 unfold idxQ;rw [this,if_pos hk]
theorem zrF {α : Type} {l : List α} {q : α->Bool} (h1 : ∀ i,i<l.length -> ∀ h : i<l.length,q l[i]=false) : idxQ l q = -1:=by
 have : l.findIdx q=l.length:=by
  rw [List.findIdx_eq_length];intro x hx;obtain ⟨i,hi,rfl⟩:=List.mem_iff_getElem.1 hx;exact h1 i hi hi
 unfold idxQ;rw [this,if_neg (by omega)]
theorem zkh (f : FuncId) (capt : List AV) (q : Ed->Bool) (l : List Ed) (hl : l.length<=1099511627776) (hs : zlI capt) (hc : ∀ e∈l,zaj Tryz.prog f (eE e::capt) [] (.B (q e)) []) : zaj Tryz.prog zaD [eEs l,.fn (.func f) [] capt] [] (.I (idxQ l q)) []:=by
 have hs2 : ∀ ρ sn h,capt.map (conv ρ sn h 2)=capt:=λ _ _ _=>hs _ _ _ 1
 have hs3 : ∀ ρ sn h,capt.map (conv ρ sn h 3)=capt:=λ _ _ _=>hs _ _ _ 2
 have hs4 : ∀ ρ sn h,capt.map (conv ρ sn h 4)=capt:=λ _ _ _=>hs _ _ _ 3
 refine zbi.ac ?_;show awp _ 0 _ _ ⟨19,[(0,eEs l),(1,.fn (.func f) [] capt)],[],16⟩;refine zab ?_;refine zan ?_;refine zab ?_;refine zab ?_;refine zan ?_;refine zaf ?_;refine zas (ι:=Nat) (λ k=>⟨19,[(0,eEs l),(1,.fn (.func f) [] capt),(7,.I l.length),(8,.I k)],[],16⟩) (λ k=>k<=l.length /\ ∀ i,i<k -> ∀ h : i<l.length,q l[i]=false) (λ k=>l.length - k) (0) ?_ (Le.snap [] rfl rfl (by simp [hs2,hs3,hs4])) ?_
 .simp
 rintro k ⟨hk,hp⟩
 refine zab ?_;refine zan ?_;refine zab ?_;refine zad _ rfl (λ h4=>?_) λ h4=>?_
 .try simp at h4
  have hw2 : IntKind.i64.wrap ((k : Int)+1)=(k : Int)+1:=w6;have hck:=hc l[k] (List.getElem_mem h4);refine zae ?_;refine zab ?_;refine zaf ?_;refine zab ?_;refine zar (s:=?s5) rfl ?o5 ?q5
  case o5=>simp [h4,hw2]; rfl
  refine zab ?_;refine zar (s:=?s6) rfl ?o6 ?q6
  case o6 =>
   simp [h4,hw2];refine zap hck ?_ ?_
   .simp [hs2,hs3,hs4]
   simp [h4,hw2]; rfl
  refine zad _ rfl (λ h7=>?_) λ h7=>?_
  .try simp at h7
   refine zab ?_;refine zar (s:=?s8) rfl ?o8 ?q8
   case o8=>simp [h4,hw2]; rfl
   refine zai ?_;exact ⟨.inr rfl,zao.one (by simp [zrC h4 hp h7])⟩
  try simp at h7
  refine zae ?_;refine zar (s:=?s9) rfl ?o9 ?q9
  case o9=>simp [h4,hw2]; rfl
  refine ⟨k+1,⟨h4,λ i hi=>?_⟩,by omega,Le.snap [] rfl rfl (by simp [h4,hw2,hs2,hs3,hs4])⟩
  rcases Nat.lt_succ_iff_lt_or_eq.1 hi with h | rfl
  .exact hp i h
  .exact λ _=>h7
 try simp at h4
 have hall : ∀ i,i<l.length -> ∀ h : i<l.length,q l[i]=false:=λ i hi=>hp i (by omega)
 refine zaq ?_;refine hit ?_;refine zab ?_;refine zan ?_;refine zai ?_;exact ⟨.inr rfl,zao.one (by simp [zrF hall])⟩
abbrev zaT (l : List Ed) : List (List AV):=l.map λ e=>[AV.I e.f,AV.I e.t,AV.I e.v]
theorem zj8 {l : List Ed} {q : Ed->Bool} (h : ∀ i,i<l.length -> ∀ h : i<l.length,q l[i]=false) : l.filter (λ e=>!q e)=l:=by
 rw [List.filter_eq_self];intro x hx;obtain ⟨i,hi,rfl⟩:=List.mem_iff_getElem.1 hx;simp [h i hi hi]
theorem zhH (l : List Ed) (q : Ed->Bool) (j : Nat) (h : j<l.length) : (l.take (j+1)).filter (λ e=>!q e)=(l.take j).filter (λ e=>!q e)++if q l[j]=true then [] else [l[j]]:=by
 rw [<- List.take_concat_get h,List.concat_eq_append,List.filter_append]
 congr 1
 cases hq : q l[j] <;> simp [hq]
set_option maxRecDepth 100000 in
theorem zi8 (f : FuncId) (capt : List AV) (q : Ed->Bool) (l : List Ed) (n m : Nat) (hn : l.length=n) (hm : (l.filter λ e=>!q e).length=m) (hl : n<=1099511627776) (hs : zlI capt) (hc : ∀ e∈l,zaj Tryz.prog f (eE e::capt) [] (.B (q e)) []) :
  zaj Tryz.prog zaI [.rs 0 0 n,.fn (.func f) [] capt] [⟨3,zaT l,0⟩] (.rs 0 0 m) [some ⟨3,zaT (l.filter λ e=>!q e)++List.replicate (n - m) [.I 0,.I 0,.I 0],0⟩]:=by
 have hs2 : ∀ ρ sn h,capt.map (conv ρ sn h 2)=capt:=λ _ _ _=>hs _ _ _ 1
 have hs3 : ∀ ρ sn h,capt.map (conv ρ sn h 3)=capt:=λ _ _ _=>hs _ _ _ 2
 have hs4 : ∀ ρ sn h,capt.map (conv ρ sn h 4)=capt:=λ _ _ _=>hs _ _ _ 3
 refine zbg.acalls (nbz rfl) (nbz rfl) (nbz rfl) ?_;show awp _ 1 _ _ ⟨42,[(0,.rs 0 0 n),(1,.fn (.func f) [] capt)],[(0,some ⟨3,zaT l,0⟩)],16⟩;have hmn : m<=n:=by rw [<- hm,<- hn]; exact List.length_filter_le _ _
 refine zaa ⟨42,[(0,.rs 0 0 n),(1,.fn (.func f) [] capt)],[(0,some ⟨3,zaT l,0⟩)],24⟩ rfl ?_ ?_
 .simp
  exact Le.keep rfl (Nat.le_refl _) (by simp) (by simp)
 refine zaa ⟨42,[(0,.rs 0 0 n),(1,.fn (.func f) [] capt),(5,.I (idxQ l q))],[(0,some ⟨3,zaT l,0⟩)],56⟩ rfl ?_ ?_
 .simp
  refine zi1 [0] (zkh f capt q l (by omega) hs hc) ?_ (.sc _) ?_
  .simp [hs2,hs3,hs4,<- hn,fcd,zac]
  simp;exact Le.keep rfl (Nat.le_refl _) (by simp) (by simp)
 refine zab ?_;refine zaa ⟨42,[(0,.rs 0 0 n),(1,.fn (.func f) [] capt),(5,.I (idxQ l q)),(12,.B (decide (idxQ l q = -1)))],[(0,some ⟨3,zaT l,0⟩)],72⟩ rfl ?_ ?_
 .simp
  exact Le.keep rfl (Nat.le_refl _) (by simp <;> rw [Bool.eq_iff_iff] <;> simp) (by simp)
 refine zad _ rfl (λ h=>?_) λ h=>zae ?_
 .simp only [decide_eq_true_eq] at h
  have hno : ∀ i,i<l.length -> ∀ h : i<l.length,q l[i]=false:=by
   intro i hi _;unfold idxQ at h;split at h
   .omega
   .rename_i hnl
    have : l.findIdx q=l.length:=by have:=List.findIdx_le_length (xs:=l) (p:=q); omega
    rw [List.findIdx_eq_length] at this;exact this _ (List.getElem_mem hi)
  have hf:=zj8 hno;rw [hf] at hm ⊢;obtain rfl : n=m:=by omega
  refine zab ?_;refine zan ?_;refine zai ?_;refine ⟨.inr rfl,⟨[.rs 0 0 n],rfl,[],[],by simp [List.range,List.range.loop],by simp,by simp,?_,?_⟩⟩
  .simp [List.range,List.range.loop]
  .simp [List.range,List.range.loop,fcd]
 simp only [decide_eq_false_iff_not] at h
 obtain ⟨i0,hi0,hlt,hbef,hat⟩ : ∃ i0 : Nat,idxQ l q=i0/\i0<l.length/\(∀ i,i<i0 -> ∀ h : i<l.length,q l[i]=false) /\ ∀ h : i0<l.length,q l[i0]=true:=by
  unfold idxQ at h ⊢;split at h
  .rename_i hlt
   refine ⟨l.findIdx q,by rw [if_pos hlt],hlt,λ i hi _=>?_,λ h=>List.findIdx_getElem (w:=h)⟩
   simpa using List.not_of_lt_findIdx hi
  .omega
 rw [hi0]
 have hA0 : (l.take (i0+1)).filter (λ e=>!q e)=l.take i0:=by
  rw [zhH l q i0 hlt,if_pos (hat hlt),List.append_nil];refine zj8 λ i hi h=>?_;rw [List.length_take] at hi;simp only [List.getElem_take];exact hbef i (by omega) (by omega)
 have hw0 : IntKind.i64.wrap ((i0 : Int)+1)=((i0+1 : Nat) : Int):=by rw [w6]; omega
 let C : Nat × List Ed->St:=λ p=>⟨42,[(0,.rs 0 0 n),(1,.fn (.func f) [] capt),(5,.I ((l.take p.1).filter λ e=>!q e).length),(6,.I p.1)],[(0,some ⟨3,zaT ((l.take p.1).filter (λ e=>!q e)++p.2++l.drop p.1),0⟩)],96⟩
 refine zab ?_;refine zaa (C (i0+1,[l[i0]])) rfl ?_ ?_
 .simp [hw0]
  refine Le.keep rfl (Nat.le_refl _) ?_ ?_
  .simp only [C,hA0]
   simp;omega
  .simp only [C,hA0]
   simp
 refine zaf ?_;refine zas C (λ p : Nat × List Ed=>p.1<=n/\p.2≠[]/\((l.take p.1).filter λ e=>!q e).length+p.2.length=p.1) (λ p : Nat × List Ed=>n - p.1) (i0+1,[l[i0]]) ?_ (Le.refl _ _) ?_
 .simp only [hA0]
  simp;omega
 rintro ⟨j,M⟩ ⟨hj,hM,hlen⟩
 simp only at hj hM hlen ⊢;obtain ⟨A,hA⟩ : ∃ A,A=(l.take j).filter λ e=>!q e:=⟨_,rfl⟩;rw [<- hA] at hlen;have hC : C (j,M)=⟨42,[(0,.rs 0 0 n),(1,.fn (.func f) [] capt),(5,.I A.length),(6,.I j)],[(0,some ⟨3,zaT (A++M++l.drop j),0⟩)],96⟩:=by subst hA; rfl
 rw [hC];refine zab ?_;refine zaa ⟨42,[(0,.rs 0 0 n),(1,.fn (.func f) [] capt),(5,.I A.length),(6,.I j),(19,.B (decide (j<n)))],[(0,some ⟨3,zaT (A++M++l.drop j),0⟩)],128⟩ rfl ?_ ?_
 .simp
  exact Le.keep rfl (Nat.le_refl _) (by simp) (by simp)
 refine zad _ rfl (λ h=>zae ?_) λ h=>zaq (hit ?_)
 .simp only [decide_eq_true_eq] at h
  have hjl : j<l.length:=by omega
  match M,hM,hlen with
  | m0::M1,_,hlen =>
  simp only [List.length_cons] at hlen;have hnext:=zhH l q j hjl;rw [<- hA] at hnext
  have hget : (zaT (A++m0::M1++l.drop j))[j]? = some [AV.I l[j].f,AV.I l[j].t,AV.I l[j].v]:=by
   rw [List.getElem?_map,List.getElem?_append_right (by simp; omega),List.getElem?_drop,show j+(j - (A++m0::M1).length)=j by simp; omega,List.getElem?_eq_getElem hjl]
   rfl
  have hget2 : (zaT (A++m0::M1++l.drop j))[A.length]? = some [AV.I m0.f,AV.I m0.t,AV.I m0.v]:=by
   rw [List.getElem?_map,List.append_assoc,List.getElem?_append_right (by omega)]
   simp
  have hset : (zaT (A++m0::M1++l.drop j)).set A.length [AV.I l[j].f,AV.I l[j].t,AV.I l[j].v]=zaT ((A++[l[j]])++(M1++[l[j]])++l.drop (j+1)):=by
   have e1 : l.drop j=l[j]::l.drop (j+1):=List.drop_eq_getElem_cons hjl;rw [e1];simp [zaT,List.set_append]
  have hmore : A++m0::M1++l.drop j=A++(m0::M1++[l[j]])++l.drop (j+1):=by
   have e1 : l.drop j=l[j]::l.drop (j+1):=List.drop_eq_getElem_cons hjl;rw [e1];simp
  generalize hrows : zaT (A++m0::M1++l.drop j)=R at *;have hRl : R.length=n:=by rw [<- hrows]; simp; omega
  have hck:=hc l[j] (List.getElem_mem hjl);generalize hv : l[j]=v at *
  refine zaO (ι:=List Ed × List Ed) (λ p=>⟨42,[(0,.rs 0 0 n),(1,.fn (.func f) [] capt),(5,.I p.1.length),(6,.I j)],[(0,some ⟨3,zaT (p.1++p.2++l.drop (j+1)),0⟩)],272⟩)
   (λ p=>p.1=(l.take (j+1)).filter (λ e=>!q e)/\p.2≠[]/\p.1.length+p.2.length=j+1) ?_ ?_
  .refine zaf ?_
   refine zaa ⟨42,[(0,.rs 0 0 n),(1,.fn (.func f) [] capt),(5,.I A.length),(6,.I j),(7,.pt 160 0 0)],[(0,some ⟨3,R,0⟩),(160,some ⟨3,[[.I v.f,.I v.t,.I v.v]],0⟩)],176⟩ rfl ?_ ?_
   .simp [h,hget]
    exact Le.keep rfl (Nat.le_refl _) (by simp) (by simp)
   refine zaa ⟨42,[(0,.rs 0 0 n),(1,.fn (.func f) [] capt),(5,.I A.length),(6,.I j),(7,.pt 160 0 0),(29,.B (!q v))],[(0,some ⟨3,R,0⟩),(160,some ⟨3,[[.I v.f,.I v.t,.I v.v]],0⟩)],208⟩ rfl ?_ ?_
   .simp
    refine zap hck ?_ ?_
    .simp [hs2,hs3,hs4]
    simp;exact Le.keep rfl (Nat.le_refl _) (by simp) (by simp)
   refine zad _ rfl (λ h5=>?_) λ h5=>zae ?_
   .simp only [Bool.not_eq_true'] at h5
    rw [h5] at hnext;refine zaa ⟨42,[(0,.rs 0 0 n),(1,.fn (.func f) [] capt),(5,.I A.length),(6,.I j)],[(0,some ⟨3,zaT ((A++[v])++(M1++[v])++l.drop (j+1)),0⟩)],248⟩ rfl ?_ ?_
    .simp [hget2,show A.length<n by omega,zat,hset]
     exact Le.keep rfl (Nat.le_refl _) (by simp) (by simp)
    have hwA : IntKind.i64.wrap ((A.length : Int)+1)=((A.length+1 : Nat) : Int):=by rw [w6]; omega
    refine zav rfl ?_;simp [hwA];refine ⟨A++[v],M1++[v],⟨by rw [hnext]; simp,by simp,by simp; omega⟩,Le.keep rfl (Nat.le_refl _) (by simp) (by simp)⟩
   .simp only [Bool.not_eq_false'] at h5
    rw [h5] at hnext;refine ⟨(A,m0::M1++[v]),⟨by rw [hnext]; simp,by simp,by simp; omega⟩,Le.keep rfl (nbz rfl) (by simp) ?_⟩
    rw [<- hmore,hrows];simp
  rintro ⟨A',M'⟩ ⟨p1,p2,p3⟩
  simp only at p1 p2 p3 ⊢;have hwj : IntKind.i64.wrap ((j : Int)+1)=((j+1 : Nat) : Int):=by rw [w6]; omega
  refine zav rfl ?_;simp [hwj];refine ⟨j+1,M',⟨by omega,p2,by rw [<- p1]; omega⟩,by omega,?_⟩
  have hD : C (j+1,M')=⟨42,[(0,.rs 0 0 n),(1,.fn (.func f) [] capt),(5,.I A'.length),(6,.I ((j+1 : Nat) : Int))],[(0,some ⟨3,zaT (A'++M'++l.drop (j+1)),0⟩)],96⟩:=by rw [p1]
  rw [hD];refine Le.ents [(0,0)] [] rfl (by simp) (by simp) (by simp) (by simp) (by simp) (by simp [hs2,hs3,hs4]) λ p hp=>?_
  simp at hp;subst hp;exact ⟨0,_,_,rfl,by simp,rfl,zaN.eq (by simp [fcd]) (by simp)⟩
 simp only [decide_eq_false_iff_not] at h;obtain rfl : j=n:=by omega
 have hd : l.drop j=[]:=List.drop_eq_nil_of_le (by omega)
 have ht : l.take j=l:=List.take_of_length_le (by omega)
 rw [ht] at hA;rw [hd,List.append_nil];rw [<- hA] at hm ⊢;subst hm;have hAM : (zaT (A++M)).take A.length=zaT A:=by simp [zaT]
 have hAd : (zaT (A++M)).drop (A.length+(j - A.length))=[]:=List.drop_eq_nil_of_le (by simp; omega)
 have hAl : (zaT (A++M)).length=j:=by simp; omega
 generalize zaT (A++M)=R at *;refine zaa ⟨42,[(0,.rs 0 0 j),(5,.I A.length)],[(0,some ⟨3,zaT A++List.replicate (j - A.length) [.I 0,.I 0,.I 0],0⟩)],160⟩ rfl ?_ ?_
 .simp
  refine ⟨by omega,by omega,?_⟩
  rw [hAM,hAd];exact Le.keep rfl (Nat.le_refl _) (by simp) (by simp)
 refine zab ?_;refine zar (s:=?s2) rfl ?o2 ?q2
 case o2 =>
  simp;refine ⟨by omega,?_⟩
  rfl
 refine zai ?_;refine ⟨.inr rfl,⟨[.rs 0 0 A.length],rfl,[],[],by simp [List.range,List.range.loop],by simp,by simp,?_,?_⟩⟩
 .simp [List.range,List.range.loop]
 .simp [List.range,List.range.loop,fcd]
def zal (g : Gr) (v : Int) : Gr:=⟨g.size,g.edges.filter λ e=>!decide (e.v<v),g.gone⟩
theorem zg1 (e : Ed) (v : Int) : zaj Tryz.prog zcf [eE e,.pv [.I v]] [] (.B (decide (e.v<v))) []:=by
 refine zfM.ac ?_;show awp _ 0 _ _ ⟨8,[(0,eE e),(1,.pv [.I v])],[],16⟩;refine zaa ⟨8,[(1,.pv [.I v]),(2,.pv (eC e))],[],16⟩ rfl ?_ ?_
 .simp
  exact Le.snap [16] rfl rfl (by simp)
 refine zab ?_;refine zan ?_;refine zai ?_;exact ⟨.inr rfl,zao.one (by simp)⟩
set_option maxRecDepth 100000 in
theorem zgO (g : Gr) (v : Int) (hl : g.edges.length<=1099511627776) (hl2 : g.gone.length<=1099511627776) : zaj Tryz.prog zbV [eG g,.I v] [] (eG (zal g v)) []:=by
 refine zgn.ac ?_;show awp _ 0 _ _ ⟨14,[(0,eG g),(1,.I v)],[],16⟩;obtain ⟨E,hE⟩ : ∃ E,E=g.edges.filter λ e=>!decide (e.v<v):=⟨_,rfl⟩;have hEl : E.length<=g.edges.length:=by rw [hE]; exact List.length_filter_le _ _
 have hdel:=zi8 zcf [.pv [.I v]] (λ e=>decide (e.v<v)) g.edges g.edges.length E.length rfl (by rw [hE]) hl (λ ρ sn h n=>by simp) (λ e _=>zg1 e v)
 rw [<- hE] at hdel;have hres : zal g v=⟨g.size,E,g.gone⟩:=by rw [hE]; rfl
 rw [hres];refine zaa ⟨14,[(2,.pv (gC g)),(3,.pt 24 0 0),(4,.pt 32 0 0)],[(24,some ⟨1,[[.I v]],0⟩),(32,some zG)],40⟩ rfl ?_ ?_
 .simp
  refine Le.ents [(24,24),(32,32)] [16] rfl (by simp) (by simp) (by simp) (by simp) (by simp) (by simp) λ p hp=>?_
  simp at hp;rcases hp with rfl | rfl
  .exact ⟨24,_,_,rfl,by simp,rfl,zaN.eq (by simp) (by simp)⟩
  .exact ⟨32,_,_,rfl,by simp,rfl,zaN.eq (by simp) (by simp)⟩
 refine zaa ⟨14,[(3,.pt 24 0 0),(4,.pt 32 0 0),(5,.pt 56 0 0)],[(24,some ⟨1,[[.I v]],0⟩),(32,some zG),(56,some ⟨3,[[.I g.size,.rs 48 0 g.edges.length,.rs 49 0 g.gone.length]],0⟩),(48,some ⟨3,zaT g.edges,0⟩),(49,some ⟨1,g.gone.map λ n=>[AV.I n],0⟩)],72⟩ rfl ?_ ?_
 .simp
  refine zql (zh5 g (by omega) (by omega)) rfl ?_
  simp [fcd];exact Le.keep rfl (Nat.le_refl _) (by simp) (by simp)
 refine zaa ⟨14,[(4,.pt 32 0 0),(5,.pt 56 0 0)],[(32,some zG),(56,some ⟨3,[[.I g.size,.rs 48 0 E.length,.rs 49 0 g.gone.length]],0⟩),(48,some ⟨3,zaT E++List.replicate (g.edges.length - E.length) [.I 0,.I 0,.I 0],0⟩),(49,some ⟨1,g.gone.map λ n=>[AV.I n],0⟩)],120⟩ rfl ?_ ?_
 .simp
  refine zox (i:=48) (j:=24) (by decide) (Nat.zero_le _) rfl rfl ?_ hdel (by simp) ?_ ?_
  .simp [fcd]
  .simp
  simp [fcd];exact Le.keep rfl (Nat.le_refl _) (by simp) (by simp)
 refine zab ?_;refine zan ?_;refine zai ?_;refine ⟨.inr rfl,?_⟩;show zao [(4,some (true,3))] 0 _ _ _;refine zao.out (vs:=[.agg [.I g.size,.rs 48 0 E.length,.rs 49 0 g.gone.length]]) [] [48,49] (by simp) (by simp) (by simp) ?_ (by simp)
 simp [fcd,zac]
theorem zp7 (l : List Ed) (v : Int) (k : Nat) (h : k<l.length) : (l.take (k+1)).filter (λ e=>!decide (e.v<v))=(l.take k).filter (λ e=>!decide (e.v<v))++if v<=l[k].v then [l[k]] else []:=by
 rw [<- List.take_concat_get h,List.concat_eq_append,List.filter_append]
 congr 1
 by_cases hq : v<=l[k].v
 .have : ¬ l[k].v<v:=by omega
  simp [hq,this]
 .have : l[k].v<v:=by omega
  simp [hq,this]
set_option maxRecDepth 100000 in
theorem zgC (g : Gr) (v : Int) (hl : g.edges.length<=1099511627776) (hl2 : g.gone.length<=1099511627776) : zaj Tryz.prog ze9 [eG g,.I v] [] (eG (zal g v)) []:=by
 refine zqL.ac ?_;show awp _ 0 _ _ ⟨36,[(0,eG g),(1,.I v)],[],16⟩;refine zaa ⟨36,[(1,.I v),(2,.pv (gC g)),(4,.pt 24 0 0)],[(24,some zG)],32⟩ rfl ?_ ?_
 .simp
  refine Le.ents [(24,24)] [16] rfl (by simp) (by simp) (by simp) (by simp) (by simp) (by simp) λ p hp=>?_
  simp at hp;subst hp;exact ⟨24,_,_,rfl,by simp,rfl,zaN.eq (by simp) (by simp)⟩
 refine zaa ⟨36,[(1,.I v),(2,.pv (gC g)),(4,.pt 24 0 0),(5,.pt 48 0 0)],[(24,some zG),(48,some ⟨3,[[.I g.size,.rs 40 0 g.edges.length,.rs 41 0 g.gone.length]],0⟩),(40,some ⟨3,zaT g.edges,0⟩),(41,some ⟨1,g.gone.map λ n=>[AV.I n],0⟩)],64⟩ rfl ?_ ?_
 .simp
  refine zql (zhh g (by omega) (by omega)) rfl ?_
  simp [fcd];exact Le.keep rfl (Nat.le_refl _) (by simp) (by simp)
 refine zaa ⟨36,[(1,.I v),(2,.pv (gC g)),(4,.pt 24 0 0),(5,.pt 48 0 0)],[(24,some zG),(48,some ⟨3,[[.I g.size,.nilS,ints g.gone]],0⟩)],80⟩ rfl ?_ ?_
 .simp
  refine Le.ents [(24,24),(48,48)] [41] rfl (by simp) (by simp) (by simp) (by simp) (by simp) (by simp) λ p hp=>?_
  simp at hp;rcases hp with rfl | rfl
  .exact ⟨24,_,_,rfl,by simp,rfl,zaN.eq (by simp) (by simp)⟩
  .exact ⟨48,_,_,rfl,by simp,rfl,zaN.eq (by simp [zat,fcd,zac]) (by simp)⟩
 refine zab ?_;refine zaa ⟨36,[(1,.I v),(2,.pv (gC g)),(4,.pt 24 0 0),(5,.pt 48 0 0),(6,.I 0)],[(24,some zG),(48,some ⟨3,[[.I g.size,.nilS,ints g.gone]],0⟩)],88⟩ rfl ?_ ?_
 .simp
  exact Le.keep rfl (Nat.le_refl _) (by simp) (by simp)
 refine zaf ?_
 let F : Nat->List Ed:=λ k=>(g.edges.take k).filter λ e=>!decide (e.v<v)
 let C : Nat->St:=λ k=>⟨36,[(1,.I v),(2,.pv (gC g)),(4,.pt 24 0 0),(5,.pt 48 0 0),(6,.I k)],[(24,some zG),(48,some ⟨3,[[.I g.size,.rs 16 0 (F k).length,ints g.gone]],0⟩),(16,some ⟨3,zaT (F k),0⟩)],88⟩
 refine zas C (λ k=>k<=g.edges.length) (λ k=>g.edges.length - k) 0 (Nat.zero_le _) ?_ ?_
 .refine Le.lst [(24,24),(48,48)] [] [(16,3)] rfl (by simp) (by simp) (by simp [C]) (by simp [C]) (by simp) (by simp) (by simp) (by simp [C,Up]) λ p hp e' he'=>?_
  simp [C] at hp;rcases hp with rfl | rfl | rfl
  .cases he'
   exact .inl ⟨(24,24),by simp,rfl,_,rfl,zaN.eq (by simp) (by simp)⟩
  .cases he'
   refine .inl ⟨(48,48),by simp,rfl,_,rfl,zaN.row (by simp; rfl) (by simp) ?_⟩
   exact ⟨.inl (.refl _),.inr ⟨rfl,16,3,by simp [F],by simp⟩,.inl (.refl _),trivial⟩
  .cases he'
   exact .inr ⟨by simp,by simp [F],rfl⟩
 intro k hk
 have hFl : (F k).length<=k:=by
  have h1 : (F k).length<=(g.edges.take k).length:=List.length_filter_le _ _;simp at h1;omega
 have hC : C k=⟨36,[(1,.I v),(2,.pv (gC g)),(4,.pt 24 0 0),(5,.pt 48 0 0),(6,.I k)],[(24,some zG),(48,some ⟨3,[[.I g.size,.rs 16 0 (F k).length,ints g.gone]],0⟩),(16,some ⟨3,zaT (F k),0⟩)],88⟩:=rfl;rw [hC];refine zab ?_;refine zaa ⟨36,[(1,.I v),(2,.pv (gC g)),(4,.pt 24 0 0),(5,.pt 48 0 0),(6,.I k),(14,.B (decide (k<g.edges.length)))],[(24,some zG),(48,some ⟨3,[[.I g.size,.rs 16 0 (F k).length,ints g.gone]],0⟩),(16,some ⟨3,zaT (F k),0⟩)],128⟩ rfl ?_ ?_
 .simp
  exact Le.keep rfl (Nat.le_refl _) (by simp) (by simp)
 refine zad _ rfl (λ h=>zae ?_) λ h=>zaq (hit ?_)
 .simp only [decide_eq_true_eq] at h
  have hnext:=zp7 g.edges v k h;have hFs : F (k+1)=F k++if v<=g.edges[k].v then [g.edges[k]] else []:=hnext
  refine zaO (ι:=Unit) (λ _=>⟨36,[(1,.I v),(2,.pv (gC g)),(4,.pt 24 0 0),(5,.pt 48 0 0),(6,.I k)],[(24,some zG),(48,some ⟨3,[[.I g.size,.rs 16 0 (F (k+1)).length,ints g.gone]],0⟩),(16,some ⟨3,zaT (F (k+1)),0⟩)],280⟩) (λ _=>True) ?_ λ _ _=>?_
  .rw [hFs]
   generalize F k=A at *;refine zaf ?_;refine zaa ⟨36,[(1,.I v),(2,.pv (gC g)),(4,.pt 24 0 0),(5,.pt 48 0 0),(6,.I k),(24,.B (decide (v<=g.edges[k].v)))],[(24,some zG),(48,some ⟨3,[[.I g.size,.rs 16 0 A.length,ints g.gone]],0⟩),(16,some ⟨3,zaT A,0⟩)],192⟩ rfl ?_ ?_
   .simp [h]
    exact Le.keep rfl (Nat.le_refl _) (by simp) (by simp)
   refine zad _ rfl (λ h5=>?_) λ h5=>zae ?_
   .simp only [decide_eq_true_eq] at h5
    rw [if_pos h5];refine zcP rfl ?_;have hrl : (zaT A).length=A.length:=by simp
    simp [h,zat,List.replicate];refine ⟨by omega,by omega,rfl,?_⟩
    refine Le.ents [(24,24),(48,48),(256,16)] [] rfl (by simp) (by simp) (by simp) (by simp) (by simp) (by simp) λ p hp=>?_
    simp at hp;rcases hp with rfl | rfl | rfl
    .exact ⟨24,_,_,rfl,by simp,rfl,zaN.eq (by simp) (by simp)⟩
    .exact ⟨48,_,_,rfl,by simp,rfl,zaN.eq (by simp) (by simp)⟩
    .exact ⟨256,_,_,rfl,by simp,rfl,zaN.eq (by simp [fcd,zac]) (by simp)⟩
   .simp only [decide_eq_false_iff_not] at h5
    rw [if_neg h5,List.append_nil];exact ⟨(),trivial,Le.keep rfl (nbz rfl) (by simp) (by simp)⟩
  have hwj : IntKind.i64.wrap ((k : Int)+1)=((k+1 : Nat) : Int):=by rw [w6]; omega
  refine zav rfl ?_;simp [hwj];refine ⟨k+1,by omega,by omega,?_⟩
  refine Le.ents [(24,24),(48,48),(16,16)] [] rfl (by simp) (by simp) (by simp [C]) (by simp) (by simp [C]) (by simp [C]) λ p hp=>?_
  simp [C] at hp;rcases hp with rfl | rfl | rfl
  .exact ⟨24,_,_,rfl,by simp,rfl,zaN.eq (by simp) (by simp)⟩
  .exact ⟨48,_,_,rfl,by simp,rfl,zaN.eq (by simp) (by simp)⟩
  .exact ⟨16,_,_,rfl,by simp,rfl,zaN.eq (by simp [fcd]) (by simp)⟩
 simp only [decide_eq_false_iff_not] at h;obtain rfl : k=g.edges.length:=by omega
 have hF : F g.edges.length=(zal g v).edges:=by
  show (g.edges.take g.edges.length).filter _=_;rw [List.take_of_length_le (Nat.le_refl _)];rfl
 rw [hF];have hres : zal g v=⟨g.size,(zal g v).edges,g.gone⟩:=rfl;rw [hres];generalize (zal g v).edges=E at *;refine zab ?_;refine zan ?_;refine zai ?_;refine ⟨.inr rfl,?_⟩;show zao [(4,some (true,3))] 0 _ _ _;refine zao.out (vs:=[.agg [.I g.size,.rs 16 0 E.length,ints g.gone]]) [] [16] (by simp) (by simp) (by simp) ?_ (by simp)
 simp [fcd,zac]
def zsZ (g : Gr) (lv f t : Int) : Prop:=∃ e∈g.edges,e.f=f/\e.t=t/\lv<=e.v
theorem zeM : ∀ {a b : List Int},a.Nodup->(∀ x∈a,x∈b)->b.length<=a.length->a.Perm b
 | [],b,_,_,hl=>by
   have : b=[]:=List.length_eq_zero_iff.1 (by simpa using hl)
   rw [this]
 | x::a,b,hn,hs,hl=>by
   have hx : x∈b:=hs x (List.mem_cons_self ..);rw [List.nodup_cons] at hn;have hb:=List.perm_cons_erase hx;have hlb : (b.erase x).length+1=b.length:=by have:=hb.length_eq; simp at this; omega
   refine (List.Perm.cons x (zeM hn.2 (λ y hy=>?_) ?_)).trans hb.symm
   .have hy2:=hs y (List.mem_cons_of_mem _ hy)
    have hne : y≠x:=λ e=>hn.1 (e ▸ hy);exact (List.mem_erase_of_ne hne).2 hy2
   .rw [List.length_cons] at hl
    omega
def srt (l : List Int) : List Int:=l.mergeSort λ x y=>decide (x<=y)
theorem ziH (l : List Int) : (srt l).Perm l:=List.mergeSort_perm ..
theorem zv0 (l : List Int) : (srt l).Pairwise (· <= ·):=by
 have h:=List.pairwise_mergeSort (le:=λ x y : Int=>decide (x<=y)) (λ a b c h1 h2=>by simp at *; omega) (λ a b=>by simp; omega) l
 exact h.imp λ {a b} h=>by simpa using h
theorem ziS {a b : List Int} : srt a=srt b↔a.Perm b:=by
 constructor
 .intro h
  exact (ziH a).symm.trans (h ▸ ziH b)
 .intro h
  exact List.Perm.eq_of_pairwise (le:=(· <= ·)) (λ x y _ _ h1 h2=>by omega) (zv0 a) (zv0 b) (((ziH a).trans h).trans (ziH b).symm)
def zw1 (g : Gr) (lv : Int) (seeds order w : List Int) : Prop :=
 (∃ k,w.head? = some k/\k∈seeds)/\(∀ k∈w,k∈order)/\w.Nodup /\ ∀ i (h : i+1<w.length),zsZ g lv w[i] w[i+1]
def begC (P : List (List Int)) (k : Int) : Nat:=P.countP λ w=>decide (w.head? = some k)
def useC (P : List (List Int)) (k : Int) : Nat:=(P.flatMap List.dropLast).count k
def zo6 (c : List Int) (P : List (List Int)) : Prop:=∀ k (h : k<c.length),(begC P k : Int)<=c[k]/\(useC P k : Int)<=max 0 (c[k] - 1)
def zkU (P : List (List Int)) : List Int:=P.filterMap List.getLast?
def zkP (g : Gr) (lv : Int) (seeds order c : List Int) (P : List (List Int)) (ends : List Int) : Prop :=
 (∀ w∈P,zw1 g lv seeds order w)/\zo6 c P/\srt (zkU P)=srt ends
def zmC (g : Gr) (lv : Int) (seeds order c : List Int) (P : List (List Int)) (ends : List Int) : Prop :=
 P.length=ends.length/\ends.Nodup/\(∀ w∈P,zw1 g lv seeds order w)/\(∀ k∈zkU P,k∈ends)/\(zkU P).Nodup/\zo6 c P
theorem zw1.ne {g : Gr} {lv : Int} {seeds order w : List Int} (h : zw1 g lv seeds order w) : w≠[]:=by
 rintro rfl
 obtain ⟨k,hk,_⟩:=h.1
 cases hk
theorem zqU {P : List (List Int)} (h : ∀ w∈P,w≠[]) : (zkU P).length=P.length:=by
 unfold zkU
 induction P with
 | nil=>rfl
 | cons w P ih =>
   have hw:=h w (List.mem_cons_self ..);rw [List.filterMap_cons,List.getLast?_eq_some_getLast hw];simp only [List.length_cons];rw [ih λ x hx=>h x (List.mem_cons_of_mem _ hx)]
theorem znW {g : Gr} {lv : Int} {seeds order c : List Int} {P : List (List Int)} {ends : List Int} (hn : ends.Nodup) : zkP g lv seeds order c P ends↔zmC g lv seeds order c P ends:=by
 constructor
 .rintro ⟨h1,h2,h3⟩
  have hp:=ziS.1 h3;have hl:=zqU λ w hw=>(h1 w hw).ne;exact ⟨by rw [<- hl,hp.length_eq],hn,h1,λ k hk=>hp.mem_iff.1 hk,hp.nodup_iff.2 hn,h2⟩
 .rintro ⟨h0,_,h1,h2,h3,h4⟩
  have hl:=zqU λ w hw=>(h1 w hw).ne;exact ⟨h1,h4,ziS.2 (zeM h3 h2 (by omega))⟩
def zkj (order : List Int) (key : Int) : List Int:=order.takeWhile λ x=>decide (x≠key)
theorem zrR (x : Int) (o : List Int) (key : Int) : zkj (x::o) key=if x=key then [] else x::zkj o key:=by
 unfold zkj;rw [List.takeWhile_cons]
 by_cases h : x=key <;> simp [h]
def zhO (order l : List Int) (key : Int) : Prop:=l.Sublist (zkj order key)
theorem znx (order : List Int) (key : Int) : key∉zkj order key:=by
 induction order with
 | nil=>simp [zkj]
 | cons x o ih =>
   rw [zrR];split
   .simp
   .rename_i h
    simp only [List.mem_cons,not_or];exact ⟨λ e=>h e.symm,ih⟩
theorem zhO.nodup {order l : List Int} {key : Int} (h : zhO order l key) (hn : order.Nodup) : (l++[key]).Nodup:=by
 rw [List.nodup_append];refine ⟨(hn.sublist (List.takeWhile_sublist _)).sublist h,by simp,λ x hx y hy=>?_⟩
 rw [List.mem_singleton] at hy;subst hy
 rintro rfl
 exact znx order x (h.subset hx)
structure zj0 (A : List Ed) (E : Int->Int->Prop) (seeds sinks : List Int) (c : Int->Int) : Prop where
 kind : ∀ i,i<A.length->(∃ x,x∈seeds/\0<=x/\arcD A i=⟨0,2+2*x,c x⟩)∨(∃ x,0<=x/\arcD A i=⟨2+2*x,3+2*x,c x - 1⟩)∨(∃ x,x∈sinks/\0<=x/\arcD A i=⟨2+2*x,1,1⟩)∨(∃ x y,0<=x/\0<=y/\E x y/\arcD A i=⟨3+2*x,2+2*y,64⟩)
 uniq : ∀ i j,i<A.length->j<A.length->(arcD A i).f=(arcD A j).f->(arcD A i).t=(arcD A j).t->i=j
inductive zjz (A : List Ed) (E : Int->Int->Prop) (sinks : List Int) (c : Int->Int) : Int->List Nat->List Int->Prop
 | last (k : Int) (i : Nat) : i<A.length->arcD A i=⟨2+2*k,1,1⟩->k∈sinks->zjz A E sinks c k [i] []
 | more (k y : Int) (i j : Nat) (l : List Nat) (ks : List Int) : i<A.length->arcD A i=⟨2+2*k,3+2*k,c k - 1⟩->arcD A j=⟨3+2*k,2+2*y,64⟩->E k y->0<=y->zjz A E sinks c y l ks->zjz A E sinks c k (i::j::l) (y::ks)
variable {A : List Ed} {E : Int->Int->Prop} {seeds sinks : List Int} {c : Int->Int}
theorem zj0.sinkless (h : zj0 A E seeds sinks c) {i : Nat} (hi : i<A.length) : (arcD A i).f≠1:=by
 rcases h.kind i hi with ⟨x,_,hx,e⟩ | ⟨x,hx,e⟩ | ⟨x,_,hx,e⟩ | ⟨x,y,hx,hy,_,e⟩ <;> rw [e] <;> simp only <;> omega
theorem zj0.path (h : zj0 A E seeds sinks c) : ∀ (n : Nat) (l : List Nat) (k : Int),l.length<=n->0<=k->WayA A (2+2*k) l 1 -> ∃ ks,zjz A E sinks c k l ks
 | _,[],k,_,hk,hw=>by
   have : 2+2*k=1:=hw;omega
 | n,[i],k,_,hk,hw=>by
   obtain ⟨h1,h2,h3⟩:=hw;have h3' : (arcD A i).t=1:=h3;rcases h.kind i h1 with ⟨x,_,hx,e⟩ | ⟨x,hx,e⟩ | ⟨x,hs,hx,e⟩ | ⟨x,y,hx,hy,_,e⟩ <;> rw [e] at h2 h3' <;> simp only at h2 h3'
   .omega
   .omega
   .have : x=k:=by omega
    subst this;exact ⟨[],.last _ i h1 e hs⟩
   .omega
 | 0,_::_::_,_,hn,_,_=>by simp at hn
 | n+1,i::j::l,k,hn,hk,hw=>by
   obtain ⟨h1,h2,h4,h5,h6⟩:=hw;rcases h.kind i h1 with ⟨x,_,hx,e⟩ | ⟨x,hx,e⟩ | ⟨x,hs,hx,e⟩ | ⟨x,y,hx,hy,_,e⟩
   .rw [e] at h2; simp only at h2; omega
   .rw [e] at h2 h5
    simp only at h2 h5;have : x=k:=by omega
    subst this;rcases h.kind j h4 with ⟨z,_,hz,e'⟩ | ⟨z,hz,e'⟩ | ⟨z,hs,hz,e'⟩ | ⟨z,y,hz,hy,hE,e'⟩
    .rw [e'] at h5; simp only at h5; omega
    .rw [e'] at h5; simp only at h5; omega
    .rw [e'] at h5; simp only at h5; omega
    .rw [e'] at h5 h6
     simp only at h5 h6;have : z=x:=by omega
     subst this;obtain ⟨ks,hp⟩:=h.path n l y (by simp at hn; omega) hy h6
     exact ⟨y::ks,.more _ y i j l ks h1 e e' hE hy hp⟩
   .rw [e] at h5
    simp only at h5;exact absurd h5 (h.sinkless h4)
   .rw [e] at h2; simp only at h2; omega
def keyT (t : Int) : Option Int:=if 2<=t/\t % 2=0 then some ((t - 2) / 2) else none
def zek (A : List Ed) (l : List Nat) : List Int:=(metA A l).filterMap keyT
theorem zn9 {k : Int} (h : 0<=k) : keyT (2+2*k)=some k:=by
 unfold keyT;rw [if_pos ⟨by omega,by omega⟩]
 congr 1
 omega
theorem zvy (k : Int) : keyT (3+2*k)=none:=if_neg (by omega)
theorem zwc : keyT 1=none:=if_neg (by omega)
theorem zjz.keys {k : Int} {l : List Nat} {ks : List Int} (h : zjz A E sinks c k l ks) : zek A l=ks:=by
 induction h with
 | last k i h1 h2 h3 =>
   unfold zek metA;rw [List.map_cons,List.map_nil,List.filterMap_cons,h2];simp only;rw [zwc];rfl
 | more k y i j l ks h1 h2 h3 h4 h5 h6 ih =>
   unfold zek metA at ih ⊢;rw [List.map_cons,List.map_cons,List.filterMap_cons,h2];simp only;rw [zvy,List.filterMap_cons,h3];simp only;rw [zn9 h5,ih]
theorem zjz.edges {k : Int} {l : List Nat} {ks : List Int} (h : zjz A E sinks c k l ks) : ∀ i (hi : i+1<(k::ks).length),E (k::ks)[i] (k::ks)[i+1]:=by
 induction h with
 | last k i h1 h2 h3=>intro i hi; simp at hi
 | more k y i j l ks h1 h2 h3 h4 h5 h6 ih =>
   intro n hn
   cases n with
   | zero=>exact h4
   | succ n=>exact ih n (by simpa using hn)
theorem zjz.ends {k : Int} {l : List Nat} {ks : List Int} (h : zjz A E sinks c k l ks) : ∃ z,(k::ks).getLast? = some z/\z∈sinks /\ ∃ i∈l,i<A.length/\arcD A i=⟨2+2*z,1,1⟩:=by
 induction h with
 | last k i h1 h2 h3=>exact ⟨k,rfl,h3,i,List.mem_singleton.2 rfl,h1,h2⟩
 | more k y i j l ks h1 h2 h3 h4 h5 h6 ih =>
   obtain ⟨z,hz,hs,m,hm,hm2,hm3⟩:=ih;exact ⟨z,by rw [List.getLast?_cons_cons]; exact hz,hs,m,List.mem_cons_of_mem _ (List.mem_cons_of_mem _ hm),hm2,hm3⟩
theorem zjz.uses (hu : ∀ i j,i<A.length->j<A.length->(arcD A i).f=(arcD A j).f->(arcD A i).t=(arcD A j).t->i=j) {k : Int} {l : List Nat} {ks : List Int} (h : zjz A E sinks c k l ks) {m : Int} {n : Nat} (hn : n<A.length) (hm : arcD A n=⟨2+2*m,3+2*m,c m - 1⟩) : (k::ks).dropLast.count m<=l.count n:=by
 induction h with
 | last k i h1 h2 h3=>simp
 | more k y i j l ks h1 h2 h3 h4 h5 h6 ih =>
   rw [List.dropLast_cons_of_ne_nil (by simp),List.count_cons]
   have h7 : l.count n<=(j::l).count n:=by rw [List.count_cons]; omega
   rw [List.count_cons]
   by_cases hk : k=m
   .subst hk
    have : i=n:=hu i n h1 hn (by rw [h2,hm]) (by rw [h2,hm])
    subst this;simp only [beq_self_eq_true,if_true];omega
   .have hk' : (k == m)=false:=by simpa using hk
    rw [hk'];simp only [Bool.false_eq_true,if_false];omega
theorem zjz.mids {k : Int} {l : List Nat} {ks : List Int} (h : zjz A E sinks c k l ks) {m : Int} (hm : m∈(k::ks).dropLast) : ∃ n,n<A.length/\arcD A n=⟨2+2*m,3+2*m,c m - 1⟩:=by
 induction h with
 | last k i h1 h2 h3=>simp at hm
 | more k y i j l ks h1 h2 h3 h4 h5 h6 ih =>
   rw [List.dropLast_cons_of_ne_nil (by simp)] at hm
   rcases List.mem_cons.1 hm with rfl | hm
   .exact ⟨i,h1,h2⟩
   .exact ih hm
theorem zj0.whole (h : zj0 A E seeds sinks c) {l : List Nat} (hw : WayA A 0 l 1) : ∃ x i l' ks,l=i::l'/\i<A.length/\x∈seeds/\0<=x/\arcD A i=⟨0,2+2*x,c x⟩/\zjz A E sinks c x l' ks/\zek A l=x::ks:=by
 cases l with
 | nil=>have : (0 : Int)=1:=hw; omega
 | cons i l =>
   obtain ⟨h1,h2,h3⟩:=hw;rcases h.kind i h1 with ⟨x,hs,hx,e⟩ | ⟨x,hx,e⟩ | ⟨x,hs,hx,e⟩ | ⟨x,y,hx,hy,_,e⟩
   .rw [e] at h3
    obtain ⟨ks,hp⟩:=h.path l.length l x (Nat.le_refl _) hx h3;refine ⟨x,i,l,ks,rfl,h1,hs,hx,e,hp,?_⟩;have hk:=hp.keys;unfold zek metA at hk ⊢;rw [List.map_cons,List.filterMap_cons,e];simp only;rw [zn9 hx,hk]
   .rw [e] at h2; simp only at h2; omega
   .rw [e] at h2; simp only at h2; omega
   .rw [e] at h2; simp only at h2; omega
theorem zrr {l : List Nat} (h : (metA A l).Nodup) : (zek A l).Nodup:=by
 unfold zek;refine List.Pairwise.filterMap _ (λ a a' hne b hb b' hb'=>?_) h;unfold keyT at hb hb';split at hb <;> split at hb' <;> simp at hb hb' <;> omega
def sumN (g : List Nat->Nat) (W : List (List Nat)) : Nat:=(W.map g).sum
theorem zl9 (g : List Nat->Nat) (w : List Nat) (W : List (List Nat)) : sumN g (w::W)=g w+sumN g W:=by simp [sumN]
theorem zny {l : List Int} (h : ∀ x,l.count x<=1) : l.Nodup:=by
 induction l with
 | nil=>exact List.nodup_nil
 | cons x l ih =>
   rw [List.nodup_cons];refine ⟨λ hm=>?_,ih λ y=>?_⟩
   .have h1:=h x
    rw [List.count_cons_self] at h1;have h2:=List.count_pos_iff.2 hm;omega
   .have h1:=h y
    rw [List.count_cons] at h1;omega
theorem zu0 {A : List Ed} {n : Nat} {k : Int} : ∀ {W : List (List Nat)},(∀ w∈W,(zek A w).head? = some k->1<=w.count n)->begC (W.map (zek A)) k<=sumN (List.count n) W
 | [],_=>by simp [begC,sumN]
 | w::W,h=>by
   have ih:=zu0 (n:=n) (k:=k) λ x hx=>h x (List.mem_cons_of_mem w hx);have h1:=h w (List.mem_cons_self ..);unfold begC at ih ⊢;rw [List.map_cons,List.countP_cons,zl9]
   by_cases hk : (zek A w).head? = some k
   .have:=h1 hk
    simp only [hk,decide_true,if_true];omega
   .simp only [hk,decide_false,Bool.false_eq_true,if_false]
    omega
theorem zq5 {A : List Ed} {k : Int} : ∀ {W : List (List Nat)},begC (W.map (zek A)) k=0 ∨ ∃ w∈W,(zek A w).head? = some k
 | []=>.inl rfl
 | w::W=>by
   by_cases hk : (zek A w).head? = some k
   .exact .inr ⟨w,List.mem_cons_self ..,hk⟩
   .rcases zq5 (A:=A) (k:=k) (W:=W) with h | ⟨x,hx,hx2⟩
    .left
     unfold begC at h ⊢;rw [List.map_cons,List.countP_cons,h];simp [hk]
    .exact .inr ⟨x,List.mem_cons_of_mem _ hx,hx2⟩
theorem zvL {A : List Ed} {n : Nat} {k : Int} : ∀ {W : List (List Nat)},(∀ w∈W,(zek A w).dropLast.count k<=w.count n)->useC (W.map (zek A)) k<=sumN (List.count n) W
 | [],_=>by simp [useC,sumN]
 | w::W,h=>by
   have ih:=zvL (n:=n) (k:=k) λ x hx=>h x (List.mem_cons_of_mem w hx);have h1:=h w (List.mem_cons_self ..);unfold useC at ih ⊢;rw [List.map_cons,List.flatMap_cons,List.count_append,zl9];omega
theorem zpT {A : List Ed} {k : Int} : ∀ {W : List (List Nat)},useC (W.map (zek A)) k=0 ∨ ∃ w∈W,k∈(zek A w).dropLast
 | []=>.inl rfl
 | w::W=>by
   by_cases hk : k∈(zek A w).dropLast
   .exact .inr ⟨w,List.mem_cons_self ..,hk⟩
   .rcases zpT (A:=A) (k:=k) (W:=W) with h | ⟨x,hx,hx2⟩
    .left
     unfold useC at h ⊢;rw [List.map_cons,List.flatMap_cons,List.count_append,h,List.count_eq_zero.2 hk]
    .exact .inr ⟨x,List.mem_cons_of_mem _ hx,hx2⟩
theorem zsI {A : List Ed} {n : Nat} {k : Int} : ∀ {W : List (List Nat)},(∀ w∈W,(zek A w).getLast? = some k->1<=w.count n)->(zkU (W.map (zek A))).count k<=sumN (List.count n) W
 | [],_=>by simp [zkU,sumN]
 | w::W,h=>by
   have ih:=zsI (n:=n) (k:=k) λ x hx=>h x (List.mem_cons_of_mem w hx);have h1:=h w (List.mem_cons_self ..);unfold zkU at ih ⊢;rw [List.map_cons,List.filterMap_cons,zl9]
   cases hl : (zek A w).getLast? with
   | none=>simp only; omega
   | some z =>
     simp only [List.count_cons]
     by_cases hz : z=k
     .subst hz
      have:=h1 hl;simp only [beq_self_eq_true,if_true];omega
     .have : (z == k)=false:=by simpa using hz
      rw [this];simp only [Bool.false_eq_true,if_false];omega
theorem zub {A : List Ed} {E : Int->Int->Prop} {seeds sinks : List Int} {cl : List Int} {f : List Int} {W : List (List Nat)}
  (hk : zj0 A E seeds sinks λ x=>cl.getD x.toNat 0) (hf : Fit2 A f) (hw : ∀ w∈W,WayA A 0 w 1/\(metA A w).Nodup) (hs : ∀ i,i<A.length->(sumN (List.count i) W : Int)<=f.getD i 0) (hc : ∀ x∈cl,0<=x) :
  zo6 cl (W.map (zek A))/\(zkU (W.map (zek A))).Nodup/\(∀ k∈zkU (W.map (zek A)),k∈sinks) /\
  ∀ p∈W.map (zek A),(∃ k,p.head? = some k/\k∈seeds)/\p.Nodup /\ ∀ i (h : i+1<p.length),E p[i] p[i+1]:=by
 have hfit:=(zeB.1 hf).2
 have hlast : ∀ w∈W,∃ z,(zek A w).getLast? = some z/\z∈sinks /\ ∃ i∈w,i<A.length/\arcD A i=⟨2+2*z,1,1⟩:=λ w hwW=>by
  obtain ⟨x,i,l',ks,rfl,hi,hxs,hx0,he,hp,hkk⟩:=hk.whole (hw w hwW).1;obtain ⟨z,hz,hzs,m,hm,hm2,hm3⟩:=hp.ends;exact ⟨z,by rw [hkk]; exact hz,hzs,m,List.mem_cons_of_mem _ hm,hm2,hm3⟩
 refine ⟨λ k hkl=>⟨?_,?_⟩,zny λ z=>?_,λ z hz=>?_,λ p hp=>?_⟩
 .have hck:=hc _ (List.getElem_mem hkl)
  have hcg : cl.getD k 0=cl[k]:=by rw [List.getD_eq_getElem?_getD,List.getElem?_eq_getElem hkl,Option.getD_some]
  rcases zq5 (A:=A) (k:=(k : Int)) (W:=W) with h | ⟨w,hwW,hh⟩
  .rw [h]; exact hck
  .obtain ⟨x,i,l',ks,rfl,hi,hxs,hx0,he,hp,hkk⟩:=hk.whole (hw w hwW).1
   rw [hkk] at hh;have hxk : x=k:=Option.some.inj hh;subst hxk
   have h1:=zu0 (A:=A) (n:=i) (k:=(k : Int)) (W:=W) λ v hvW hvk=>by
    obtain ⟨y,j,l2,ks2,rfl,hj,_,_,he2,_,hkk2⟩:=hk.whole (hw v hvW).1;rw [hkk2] at hvk;have hyk : y=k:=Option.some.inj hvk;have : j=i:=hk.uniq j i hj hi (by rw [he2,he]) (by rw [he2,he,hyk])
    subst this;rw [List.count_cons_self];omega
   have h2:=hs i hi;have h3:=(hfit i hi).2;rw [he] at h3;simp only [Int.toNat_natCast] at h3;rw [hcg] at h3;omega
 .have hck:=hc _ (List.getElem_mem hkl)
  have hcg : cl.getD k 0=cl[k]:=by rw [List.getD_eq_getElem?_getD,List.getElem?_eq_getElem hkl,Option.getD_some]
  rcases zpT (A:=A) (k:=(k : Int)) (W:=W) with h | ⟨w,hwW,hh⟩
  .rw [h]; omega
  .obtain ⟨x,i,l',ks,rfl,hi,hxs,hx0,he,hp,hkk⟩:=hk.whole (hw w hwW).1
   rw [hkk] at hh;obtain ⟨n,hn,hnA⟩:=hp.mids hh
   have h1:=zvL (A:=A) (n:=n) (k:=(k : Int)) (W:=W) λ v hvW=>by
    obtain ⟨y,j,l2,ks2,rfl,hj,_,_,he2,hp2,hkk2⟩:=hk.whole (hw v hvW).1;rw [hkk2,List.count_cons];have:=hp2.uses hk.uniq hn hnA;omega
   have h2:=hs n hn;have h3:=(hfit n hn).2;rw [hnA] at h3;simp only [Int.toNat_natCast] at h3;rw [hcg] at h3;omega
 .by_cases hz : z∈zkU (W.map (zek A))
  .obtain ⟨p,hp,hpz⟩:=List.mem_filterMap.1 hz
   obtain ⟨w,hwW,rfl⟩:=List.mem_map.1 hp;obtain ⟨y,hy,hys,i,hiw,hi,hiA⟩:=hlast w hwW;rw [hpz] at hy;have hzy : z=y:=Option.some.inj hy;subst hzy
   have h1:=zsI (A:=A) (n:=i) (k:=z) (W:=W) λ v hvW hvz=>by
    obtain ⟨y,hy,_,j,hjv,hj,hjA⟩:=hlast v hvW;rw [hvz] at hy;have hzy : z=y:=Option.some.inj hy;have : j=i:=hk.uniq j i hj hi (by rw [hjA,hiA,hzy]) (by rw [hjA,hiA])
    subst this;exact List.count_pos_iff.2 hjv
   have h2:=hs i hi;have h3:=(hfit i hi).2;rw [hiA] at h3;simp only at h3;omega
  .rw [List.count_eq_zero.2 hz]
   omega
 .obtain ⟨p,hp,hpz⟩:=List.mem_filterMap.1 hz
  obtain ⟨w,hwW,rfl⟩:=List.mem_map.1 hp;obtain ⟨y,hy,hys,_⟩:=hlast w hwW;rw [hpz] at hy;rw [Option.some.inj hy];exact hys
 .obtain ⟨w,hwW,rfl⟩:=List.mem_map.1 hp
  refine ⟨?_,zrr (hw w hwW).2,?_⟩
  .obtain ⟨x,i,l',ks,rfl,hi,hxs,hx0,he,hp,hkk⟩:=hk.whole (hw w hwW).1
   exact ⟨x,by rw [hkk]; rfl,hxs⟩
  .obtain ⟨x,i,l',ks,rfl,hi,hxs,hx0,he,hp,hkk⟩:=hk.whole (hw w hwW).1
   have:=hp.edges;intro n hn;simp only [hkk] at hn ⊢;exact this n hn
theorem zt8 (l : List Ed) (key : Int) : (outs l key).length=l.countP λ e=>decide (e.f=key):=by
 induction l with
 | nil=>rfl
 | cons e l ih =>
   unfold outs at *
   by_cases h : e.f=key <;> simp [List.filterMap_cons,List.countP_cons,h,ih]
theorem GrOk.fits {g : Gr} (h : GrOk g) : ∀ e∈g.edges,Fits g e:=by
 intro e he;obtain ⟨i,hi,rfl⟩:=List.mem_iff_getElem.1 he;exact (h.2 i hi).1
theorem EqG.rfl' (a : Gr) : EqG a a:=⟨rfl,rfl,rfl⟩
abbrev ziE (l : List Int) : List Int:=l.mergeSort λ x y=>decide (x<=y)
theorem zkM (l : List Int) : (ziE l).length=l.length:=List.length_mergeSort ..
theorem zt5 {l : List Int} {x : Int} : x∈ziE l↔x∈l:=List.mem_mergeSort
theorem GrOk.pair {g : Gr} (h : GrOk g) : g.edges.Pairwise Bef:=by
 rw [List.pairwise_iff_getElem];intro i j hi hj hij;exact h.lt j i hi hj hij
theorem zky {st st' : St} {i j : Nat} {sn : List Nat} {e e' : Ent} (hsz : st'.sz=st.sz) (hh : st'.h=[(j,some e')]) (hj : j<st'.n) (hs : ∀ k∈sn,k≠i) (he : st.hp i=some e) (hee : zay [(i,j)] sn st.hp 4 e=e') (hr : e'.ro<=e'.rows.length) (ht : ∀ p∈st'.t,Wk (conv [(i,j)] sn st.hp 4 (st.get p.1)) p.2) : Le 0 st st' :=
 Le.ents [(i,j)] sn hsz (by simp) (by simp) (by simpa using hj) (by simpa using hs) (Nat.zero_le _) ht (λ p hp=>by
  rw [hh] at hp;simp at hp;subst hp
  exact ⟨i,e,e',rfl,by simp,he,zaN.eq hee hr⟩)
end Go.Proofs.YtkngdgplbojdlaaGreat
